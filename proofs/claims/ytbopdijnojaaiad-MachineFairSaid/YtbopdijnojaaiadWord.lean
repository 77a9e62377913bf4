/- Orders and faults as words: the walks of ReadOrder and ReadFault. No statement of the seat is proved here. -/
import Derived.Test.YtbopdijnojaaiadProg
import Derived.Test.YtbopdijnojaaiadBits
import Derived.Test.YtbopdijnojaaiadSlices
import Derived.Test.YtbopdijnojaaiadBase
namespace Go.Proofs.Ytbopdijnojaaiad
open Go.RowKit
set_option linter.unusedSimpArgs false
set_option linter.unusedVariables false

section
section
def OrdR (k d p : Int) : Prop := 0 ≤ k ∧ k ≤ 3 ∧ 0 ≤ d ∧ d < 8 ∧ 0 ≤ p ∧ p < 64
def OrdF (k d p : Int) : Prop := (k < 2 → d = 0) ∧ (k < 3 → p = 0)
instance (k d p : Int) : Decidable (OrdR k d p) := by unfold OrdR; infer_instance
instance (k d p : Int) : Decidable (OrdF k d p) := by unfold OrdF; infer_instance
def ordE (k d p : Int) : Int := if OrdR k d p then (if OrdF k d p then 0 else 3) else 2
def ordW (k d p : Int) : Int := if ordE k d p = 0 then k + 4 * d + 32 * p else 0
theorem ordE_r {k d p : Int} (h : ¬ OrdR k d p) : ordE k d p = 2 := by simp [ordE, h]
theorem ordE_f {k d p : Int} (h : OrdR k d p) (h' : ¬ OrdF k d p) : ordE k d p = 3 := by simp [ordE, h, h']
theorem ordE_0 {k d p : Int} (h : OrdR k d p) (h' : OrdF k d p) : ordE k d p = 0 := by simp [ordE, h, h']
theorem ordW_0 {k d p : Int} (h : ordE k d p = 0) : ordW k d p = k + 4 * d + 32 * p := by simp [ordW, h]
theorem ordW_n {k d p n : Int} (h : ordE k d p = n) (hn : n ≠ 0) : ordW k d p = 0 := by simp [ordW, h, hn]
theorem ordE_inv {k d p : Int} (h : ordE k d p = 0) : OrdR k d p ∧ OrdF k d p := by
  unfold ordE at h
  split at h
  · rename_i hr; split at h
    · rename_i hf; exact ⟨hr, hf⟩
    · cases h
  · cases h
theorem ord_bits {k d p : Int} (h : OrdR k d p) (hf : OrdF k d p) : bits .or .i64 (bits .or .i64 k (d * 4)) (p * 32) = ordW k d p := by
  rw [ordW_0 (ordE_0 h hf)]
  obtain ⟨h1, h2, h3, h4, h5, h6⟩ := h
  rw [or_comm_i64 k, or4 (d * 4) k (by omega) (by omega) (by omega) (by omega) (by omega), or_comm_i64, or_add 5 p.toNat (p * 32) (d * 4 + k) (by omega) (by omega) (by omega) (by omega) (by omega)]
  omega

def FltR (c d p : Int) : Prop := 1 ≤ c ∧ c ≤ 5 ∧ 0 ≤ d ∧ d < 8 ∧ 0 ≤ p ∧ p < 64
instance (c d p : Int) : Decidable (FltR c d p) := by unfold FltR; infer_instance
def fltE (c d p : Int) : Int := if FltR c d p then 0 else 2
def fltW (c d p : Int) (r : Bool) : Int := if fltE c d p = 0 then c + 8 * d + 64 * p + (if r then 4096 else 0) else 0
theorem fltE_r {c d p : Int} (h : ¬ FltR c d p) : fltE c d p = 2 := by simp [fltE, h]
theorem fltE_0 {c d p : Int} (h : FltR c d p) : fltE c d p = 0 := by simp [fltE, h]
theorem fltE_inv {c d p : Int} (h : fltE c d p = 0) : FltR c d p := by
  unfold fltE at h; split at h
  · assumption
  · cases h
theorem fltW_0 {c d p : Int} {r : Bool} (h : fltE c d p = 0) : fltW c d p r = c + 8 * d + 64 * p + (if r then 4096 else 0) := by simp [fltW, h]
theorem fltW_n {c d p n : Int} {r : Bool} (h : fltE c d p = n) (hn : n ≠ 0) : fltW c d p r = 0 := by simp [fltW, h, hn]
theorem flt_bits0 {c d p : Int} (h : FltR c d p) : bits .or .i64 (bits .or .i64 c (d * 8)) (p * 64) = c + 8 * d + 64 * p := by
  obtain ⟨h1, h2, h3, h4, h5, h6⟩ := h
  rw [or_comm_i64 c, or8 (d * 8) c (by omega) (by omega) (by omega) (by omega) (by omega), or_comm_i64, or_add 6 p.toNat (p * 64) (d * 8 + c) (by omega) (by omega) (by omega) (by omega) (by omega)]
  omega
theorem flt_bits1 {c d p : Int} (h : FltR c d p) : bits .or .i64 (c + 8 * d + 64 * p) 4096 = fltW c d p true := by
  rw [fltW_0 (fltE_0 h)]
  obtain ⟨h1, h2, h3, h4, h5, h6⟩ := h
  rw [or_comm_i64, or_add 12 1 4096 (c + 8 * d + 64 * p) (by omega) (by omega) (by omega) (by omega) (by omega)]
  simp; omega
theorem fltW_f {c d p : Int} (h : FltR c d p) : c + 8 * d + 64 * p = fltW c d p false := by rw [fltW_0 (fltE_0 h)]; simp

-- what a word is read as
def rdoE (v : Int) : Int := if 0 ≤ v ∧ v ≤ 65535 then (if ordE (v % 4) (v / 4 % 8) (v / 32) = 0 then 0 else 3) else 2
def rdoF (v x : Int) : Int := if rdoE v = 0 then x else 0
def rdoV (v : Int) : Value := .tuple #[.agg #[.int .i64 (rdoF v (v % 4)), .int .i64 (rdoF v (v / 4 % 8)), .int .i64 (rdoF v (v / 32))], .int .i64 (rdoE v)]
theorem rdoE_r {v : Int} (h : ¬ (0 ≤ v ∧ v ≤ 65535)) : rdoE v = 2 := by simp only [rdoE, if_neg h]
theorem rdoE_f {v : Int} (h : 0 ≤ v ∧ v ≤ 65535) (h' : ordE (v % 4) (v / 4 % 8) (v / 32) ≠ 0) : rdoE v = 3 := by simp only [rdoE, if_pos h, if_neg h']
theorem rdoE_0 {v : Int} (h : 0 ≤ v ∧ v ≤ 65535) (h' : ordE (v % 4) (v / 4 % 8) (v / 32) = 0) : rdoE v = 0 := by simp only [rdoE, if_pos h, if_pos h']
theorem rdoE_inv {v : Int} (h : rdoE v = 0) : (0 ≤ v ∧ v ≤ 65535) ∧ ordE (v % 4) (v / 4 % 8) (v / 32) = 0 := by
  unfold rdoE at h
  split at h
  · rename_i hr; split at h
    · rename_i hf; exact ⟨hr, hf⟩
    · cases h
  · cases h
theorem rdoV_n {v n : Int} (h : rdoE v = n) (hn : n ≠ 0) : Ending.returned (.tuple #[.agg #[.int .i64 0, .int .i64 0, .int .i64 0], .int .i64 n]) = .returned (rdoV v) := by simp [rdoV, rdoF, h, hn]
theorem rdoV_0 {v : Int} (h : rdoE v = 0) : Ending.returned (.tuple #[.agg #[.int .i64 (v % 4), .int .i64 (v / 4 % 8), .int .i64 (v / 32)], .int .i64 0]) = .returned (rdoV v) := by simp [rdoV, rdoF, h]
/-- the program's own test: the fields put again give the word. -/
theorem rdo_prog {v : Int} (h : 0 ≤ v ∧ v ≤ 65535) : (ordE (v % 4) (v / 4 % 8) (v / 32) = 0) ↔ (ordE (v % 4) (v / 4 % 8) (v / 32 % 64) = 0 ∧ ordW (v % 4) (v / 4 % 8) (v / 32 % 64) = v) := by
  constructor
  · intro h0
    obtain ⟨⟨a1, a2, a3, a4, a5, a6⟩, hf⟩ := ordE_inv h0
    have e : v / 32 % 64 = v / 32 := by omega
    rw [e]
    refine ⟨h0, ?_⟩
    rw [ordW_0 h0]; omega
  · rintro ⟨h0, h1⟩
    rw [ordW_0 h0] at h1
    have e : v / 32 % 64 = v / 32 := by omega
    rwa [e] at h0

def rdfE (v : Int) : Int := if 0 ≤ v ∧ v ≤ 65535 then (if fltE (v % 8) (v / 8 % 8) (v / 64 % 64) = 0 ∧ v < 8192 then 0 else 3) else 2
def rdfF (v x : Int) : Int := if rdfE v = 0 then x else 0
def rdfB (v : Int) : Bool := if rdfE v = 0 then v / 4096 == 1 else false
def rdfV (v : Int) : Value := .tuple #[.agg #[.int .i64 (rdfF v (v % 8)), .int .i64 (rdfF v (v / 8 % 8)), .int .i64 (rdfF v (v / 64 % 64)), .bool (rdfB v)], .int .i64 (rdfE v)]
theorem rdfE_r {v : Int} (h : ¬ (0 ≤ v ∧ v ≤ 65535)) : rdfE v = 2 := by simp only [rdfE, if_neg h]
theorem rdfE_f {v : Int} (h : 0 ≤ v ∧ v ≤ 65535) (h' : ¬ (fltE (v % 8) (v / 8 % 8) (v / 64 % 64) = 0 ∧ v < 8192)) : rdfE v = 3 := by simp only [rdfE, if_pos h, if_neg h']
theorem rdfE_0 {v : Int} (h : 0 ≤ v ∧ v ≤ 65535) (h' : fltE (v % 8) (v / 8 % 8) (v / 64 % 64) = 0 ∧ v < 8192) : rdfE v = 0 := by simp only [rdfE, if_pos h, if_pos h']
theorem rdfF_0 {v x : Int} (h : rdfE v = 0) : rdfF v x = x := by simp [rdfF, h]
theorem rdfB_0 {v : Int} (h : rdfE v = 0) : rdfB v = (v / 4096 == 1) := by simp [rdfB, h]
theorem rdfV_n {v n : Int} (h : rdfE v = n) (hn : n ≠ 0) : Ending.returned (.tuple #[.agg #[.int .i64 0, .int .i64 0, .int .i64 0, .bool false], .int .i64 n]) = .returned (rdfV v) := by simp [rdfV, rdfF, rdfB, h, hn]
theorem rdfV_0 {v : Int} (h : rdfE v = 0) : Ending.returned (.tuple #[.agg #[.int .i64 (v % 8), .int .i64 (v / 8 % 8), .int .i64 (v / 64 % 64), .bool (v / 4096 == 1)], .int .i64 0]) = .returned (rdfV v) := by simp [rdfV, rdfF, rdfB, h]
theorem rdf_prog {v : Int} (h : 0 ≤ v ∧ v ≤ 65535) : (fltE (v % 8) (v / 8 % 8) (v / 64 % 64) = 0 ∧ v < 8192) ↔ (fltE (v % 8) (v / 8 % 8) (v / 64 % 64) = 0 ∧ fltW (v % 8) (v / 8 % 8) (v / 64 % 64) (v / 4096 % 2 == 1) = v) := by
  constructor
  · rintro ⟨h0, hv⟩
    refine ⟨h0, ?_⟩
    rw [fltW_0 h0]
    by_cases hb : v / 4096 % 2 = 1
    · simp [hb]; omega
    · simp [hb]; omega
  · rintro ⟨h0, h1⟩
    refine ⟨h0, ?_⟩
    rw [fltW_0 h0] at h1
    by_cases hb : v / 4096 % 2 = 1
    · simp [hb] at h1; omega
    · simp [hb] at h1; omega
theorem rdf_bit {v : Int} (h : 0 ≤ v ∧ v < 8192) : (v / 4096 % 2 == 1) = (v / 4096 == 1) := by
  rw [Bool.eq_iff_iff, beq_iff_eq, beq_iff_eq]; omega
end

section
structure Flt where
  cause : Int
  dev : Int
  page : Int
  wr : Bool
def Flt.val (f : Flt) : Value := .agg #[.int .i64 f.cause, .int .i64 f.dev, .int .i64 f.page, .bool f.wr]
theorem Flt.ext' {x y : Flt} (h1 : x.cause = y.cause) (h2 : x.dev = y.dev) (h3 : x.page = y.page) (h4 : x.wr = y.wr) : x = y := by
  cases x; cases y; simp only [] at *; subst h1; subst h2; subst h3; subst h4; rfl
instance : DecidableEq Flt := fun x y =>
  if h : x.cause = y.cause ∧ x.dev = y.dev ∧ x.page = y.page ∧ x.wr = y.wr then isTrue (Flt.ext' h.1 h.2.1 h.2.2.1 h.2.2.2) else isFalse (fun e => h (by subst e; exact ⟨rfl, rfl, rfl, rfl⟩))
def Flt.e (f : Flt) : Int := fltE f.cause f.dev f.page
def Flt.w (f : Flt) : Int := fltW f.cause f.dev f.page f.wr
theorem flt_rng {f : Flt} (h : f.e = 0) : 0 ≤ f.w ∧ f.w < 8192 := by
  have := fltE_inv h
  unfold FltR at this
  unfold Flt.w
  rw [fltW_0 h]
  split <;> omega
/-- what is put is read. -/
theorem flt_back {f : Flt} (h : f.e = 0) : rdfE f.w = 0 ∧ rdfF f.w (f.w % 8) = f.cause ∧ rdfF f.w (f.w / 8 % 8) = f.dev ∧ rdfF f.w (f.w / 64 % 64) = f.page ∧ rdfB f.w = f.wr := by
  have hr := fltE_inv h
  have hw : f.w = f.cause + 8 * f.dev + 64 * f.page + (if f.wr then 4096 else 0) := fltW_0 h
  have hb := flt_rng h
  have hq := hr
  unfold FltR at hq
  have m1 : f.w % 8 = f.cause := by rw [hw]; split <;> omega
  have m2 : f.w / 8 % 8 = f.dev := by rw [hw]; split <;> omega
  have m3 : f.w / 64 % 64 = f.page := by rw [hw]; split <;> omega
  have m4 : (f.w / 4096 == 1) = f.wr := by
    rw [hw]
    cases f.wr
    · rw [beq_eq_false_iff_ne]; simp only [Bool.false_eq_true, if_false]; omega
    · rw [beq_iff_eq]; simp only [if_true]; omega
  have he : rdfE f.w = 0 := rdfE_0 (by omega) ⟨by rw [m1, m2, m3]; exact h, hb.2⟩
  exact ⟨he, by rw [rdfF_0 he, m1], by rw [rdfF_0 he, m2], by rw [rdfF_0 he, m3], by rw [rdfB_0 he, m4]⟩

/-- tell a word, of right ones. -/
def tellM (xs : List Int) (b : Brg) (v : Int) : List Int × Brg :=
  if b.lost = true then (xs, b) else if lenR b.faults = 7 then (xs, { b with lost := true }) else (pushX xs b.faults v, { b with faults := pushR b.faults })
theorem allE_0 {xs : List Int} {b : Brg} (h : cm xs = 0) (h' : ckB b = 0) : allE xs b = 0 := by unfold allE; rw [if_pos h, h']
theorem tell_ck {xs : List Int} {b : Brg} {v : Int} (h : cm xs = 0) (h' : ckB b = 0) (hv : 0 ≤ v ∧ v ≤ 65535) : cm (tellM xs b v).1 = 0 ∧ ckB (tellM xs b v).2 = 0 := by
  unfold tellM
  split
  · exact ⟨h, h'⟩
  · rw [ckB_iff] at h'
    split
    · exact ⟨h, by rw [ckB_iff]; exact h'⟩
    · exact ⟨push_cm h hv, by rw [ckB_iff]; exact ⟨h'.1, h'.2.1, h'.2.2.1, push_ring h'.2.2.2⟩⟩

def obeyE (xs : List Int) (b : Brg) : Int := if allE xs b = 0 then (if b.stopped = true then 6 else popE xs b.orders) else allE xs b
/-- obey the next order, of right ones. -/
def obeyM (xs : List Int) (b : Brg) : Brg :=
  if rdoE (popV xs b.orders) = 0 then { b with cache := dropL b.cache (popV xs b.orders % 4) (popV xs b.orders / 4 % 8) (popV xs b.orders / 32), orders := popR b.orders, fences := if popV xs b.orders % 4 = 0 then (b.fences + 1) % 1000 else b.fences }
  else { b with stopped := true }
def obeyA (xs : List Int) (b : Brg) : Brg := if obeyE xs b = 0 then obeyM xs b else .no
theorem obeyE_inv {xs : List Int} {b : Brg} (h : obeyE xs b = 0) : cm xs = 0 ∧ ckB b = 0 ∧ b.stopped = false ∧ lenR b.orders ≠ 0 ∧ popE xs b.orders = 0 := by
  unfold obeyE at h; split at h
  · rename_i h0
    split at h
    · cases h
    · rename_i hs; exact ⟨(allE_inv h0).1, (allE_inv h0).2, by simpa using hs, (popE_inv h).2, h⟩
  · rename_i h0; exact absurd h h0
theorem ord_rng {v : Int} (h : rdoE v = 0) : (0 ≤ v ∧ v ≤ 65535) ∧ OrdR (v % 4) (v / 4 % 8) (v / 32) := ⟨(rdoE_inv h).1, (ordE_inv (rdoE_inv h).2).1⟩
theorem obey_ck {xs : List Int} {b : Brg} (h : obeyE xs b = 0) : ckB (obeyM xs b) = 0 := by
  obtain ⟨h1, h2, h3, h4, h5⟩ := obeyE_inv h
  rw [ckB_iff] at h2
  unfold obeyM
  split
  · rename_i hr
    have hk := (ord_rng hr).2
    unfold OrdR at hk
    rw [ckB_iff]
    refine ⟨⟨h2.1.1, h2.1.2.1, ?_⟩, drop_ck _ _ _ _ (dropE_0 h2.2.1 (by omega)), pop_ring h2.2.2.1, h2.2.2.2⟩
    have hf := h2.1.2.2
    simp only []
    split <;> omega
  · rw [ckB_iff]; exact h2
theorem obey_sub {xs : List Int} {b : Brg} (h : obeyE xs b = 0) (hr : rdoE (popV xs b.orders) = 0) {x : Line} (hx : x ∈ (obeyM xs b).cache) : popV xs b.orders % 4 ≠ 1 ∧ x ∈ b.cache := by
  obtain ⟨h1, h2, h3, h4, h5⟩ := obeyE_inv h
  rw [ckB_iff] at h2
  have hk := (ord_rng hr).2
  unfold OrdR at hk
  unfold obeyM at hx
  rw [if_pos hr] at hx
  simp only [] at hx
  rw [dropL_0 (dropE_0 h2.2.1 (by omega)), List.mem_filter] at hx
  refine ⟨fun e => ?_, hx.1⟩
  have := hx.2
  simp [goes, e] at this
end
end

section
section
set_option maxRecDepth 100000 in
set_option maxHeartbeats 1000000 in
theorem word_PutOrder (k d p : Int) (w : World) : Calls Try.prog 45 #[.agg #[.int .i64 k, .int .i64 d, .int .i64 p]] w fun e w' => e = .returned (.tuple #[.int .i64 (ordW k d p), .int .i64 (ordE k d p)]) ∧ Below w.heap.size w w' := by
  have HB := Lib.hid (below_alloc w)
  by_cases hR : OrdR k d p
  · have HR := Lib.hid hR
    unfold OrdR at hR
    obtain ⟨h1, h2, h3, h4, h5, h6⟩ := hR
    by_cases hF : OrdF k d p
    · have HF := Lib.hid hF
      have E := ord_bits HR.out hF
      unfold OrdF at hF
      obtain ⟨f1, f2⟩ := hF
      rcases (by omega : k < 2 ∨ k = 2 ∨ k = 3) with hk | rfl | rfl
      · obtain rfl := f1 hk
        obtain rfl := f2 (by omega)
        clear f1 f2
        rw [Int.zero_mul, Int.zero_mul] at E
        have E' := Lib.hid E; clear E
        go_enter Try.func45, Try.ntmps45
        go_wp2
        go_ret2
        exact ⟨ret_int2 E'.out (ordE_0 HR.out HF.out).symm, HB.out _⟩
      · obtain rfl := f2 (by omega)
        clear f1 f2
        rw [Int.zero_mul] at E
        have E' := Lib.hid E; clear E
        go_enter Try.func45, Try.ntmps45
        go_wp2
        go_ret2
        exact ⟨ret_int2 E'.out (ordE_0 HR.out HF.out).symm, HB.out _⟩
      · have E' := Lib.hid E
        clear f1 f2 E
        go_enter Try.func45, Try.ntmps45
        go_wp2
        go_ret2
        exact ⟨ret_int2 E'.out (ordE_0 HR.out HF.out).symm, HB.out _⟩
    · have HF := Lib.hid hF; clear hF
      go_enter Try.func45, Try.ntmps45
      go_wp2
      all_goals go_ret2
      all_goals go_tidy
      all_goals (try simp only [bne_iff_ne, ne_eq, bne_eq_false_iff_eq, beq_iff_eq, beq_eq_false_iff_ne, Bool.and_eq_true, Bool.or_eq_true, Bool.not_eq_true', Bool.not_eq_false', decide_eq_true_eq, decide_eq_false_iff_not] at *)
      all_goals simp only [Array.getD_eq_getD_getElem?, List.getElem?_toArray, List.getElem?_cons_zero, List.getElem?_cons_succ, Option.getD_some]
      all_goals first
        | (with_reducible exact ⟨ret_int2 (ordW_n (ordE_f HR.out HF.out) (by decide)).symm (ordE_f HR.out HF.out).symm, HB.out _⟩)
        | (exfalso; refine HF.out ⟨fun _ => ?_, fun _ => ?_⟩ <;> omega)
  · have HR := Lib.hid hR
    unfold OrdR at hR
    go_enter Try.func45, Try.ntmps45
    go_wp2
    all_goals go_ret2
    all_goals exact ⟨ret_int2 (ordW_n (ordE_r HR.out) (by decide)).symm (ordE_r HR.out).symm, HB.out _⟩

set_option maxRecDepth 100000 in
set_option maxHeartbeats 1000000 in
theorem word_PutFault (c d p : Int) (r : Bool) (w : World) : Calls Try.prog 27 #[.agg #[.int .i64 c, .int .i64 d, .int .i64 p, .bool r]] w fun e w' => e = .returned (.tuple #[.int .i64 (fltW c d p r), .int .i64 (fltE c d p)]) ∧ Below w.heap.size w w' := by
  have HB := Lib.hid (below_alloc w)
  by_cases hR : FltR c d p
  · have HR := Lib.hid hR
    have hb0 := flt_bits0 hR
    have hb1 := flt_bits1 hR
    unfold FltR at hR
    obtain ⟨h1, h2, h3, h4, h5, h6⟩ := hR
    cases r
    · go_enter Try.func27, Try.ntmps27
      go_wp2
      go_ret2
      exact ⟨ret_int2 (fltW_f HR.out) (fltE_0 HR.out).symm, HB.out _⟩
    · go_enter Try.func27, Try.ntmps27
      go_wp2
      go_ret2
      exact ⟨ret_int2 rfl (fltE_0 HR.out).symm, HB.out _⟩
  · have HR := Lib.hid hR
    unfold FltR at hR
    go_enter Try.func27, Try.ntmps27
    go_wp2
    all_goals go_ret2
    all_goals exact ⟨ret_int2 (fltW_n (fltE_r HR.out) (by decide)).symm (fltE_r HR.out).symm, HB.out _⟩
end

section
set_option maxRecDepth 100000 in
set_option maxHeartbeats 1000000 in
theorem word_ReadOrder (v : Int) (w : World) : Calls Try.prog 29 #[.int .i64 v] w fun e w' => e = .returned (rdoV v) ∧ Below w.heap.size w w' := by
  have HB := Lib.hid (below_alloc w)
  by_cases hR : 0 ≤ v ∧ v ≤ 65535
  · have HR := Lib.hid hR
    obtain ⟨h1, h2⟩ := hR
    have e1 := and3 v (by omega) (by omega)
    have e2 := and7 (v / 4) (by omega) (by omega)
    have e3 := and63 (v / 32) (by omega) (by omega)
    go_enter Try.func29, Try.ntmps29
    go_wp2_with fail
    refine (word_PutOrder _ _ _ _).mono ?_
    rintro e w1 ⟨rfl, hb1⟩
    have hz1 := hb1.size
    (try simp only [World.size_alloc, World.size_setCell, World.size_drew] at hz1)
    have k1_0 := fun o => (bcell hb1).1 (w.heap.size) o (by first | (simp; done) | (simp; omega) | omega)
    have l1_0 : (w.heap.size) < w1.heap.size := (by omega)
    have q1_0 := fun o => (bcell hb1).2 (w.heap.size) o (by first | (simp; done) | (simp; omega) | omega)
    have k1_1 := fun o => (bcell hb1).1 (w.heap.size + 1) o (by first | (simp; done) | (simp; omega) | omega)
    have l1_1 : (w.heap.size + 1) < w1.heap.size := (by omega)
    have q1_1 := fun o => (bcell hb1).2 (w.heap.size + 1) o (by first | (simp; done) | (simp; omega) | omega)
    simp (maxDischargeDepth := 6) [go_sem, *] at k1_0 q1_0 k1_1 q1_1
    have HB1 := Lib.hid hb1
    clear hb1
    by_cases hE : ordE (v % 4) (v / 4 % 8) (v / 32) = 0
    · have HE := Lib.hid hE
      obtain ⟨g1, g2⟩ := (rdo_prog HR.out).1 hE
      have g3 := Lib.hid (show v / 32 % 64 = v / 32 from by have := (ordE_inv hE).1; unfold OrdR at this; omega)
      clear hE
      go_wp2
      refine bodyPost_ret (v := .tuple #[.agg #[.int .i64 (v % 4), .int .i64 (v / 4 % 8), .int .i64 (v / 32 % 64)], .int .i64 0]) ?_ rfl ⟨?_, ?_⟩
      · simp (maxDischargeDepth := 8) [results, Try.results29, go_sem, *]
      · rw [g3.out]; exact rdoV_0 (rdoE_0 HR.out HE.out)
      · (repeat (first | (with_reducible exact Below.refl _ _) | (with_reducible refine Below.drew ?_) | (with_reducible refine bdrewN ?_ _) | ((with_reducible refine Below.setCell ?_ ?_ _); rotate_left; exact (by first | (simp; done) | (simp; omega) | omega)) | ((with_reducible refine Below.alloc ?_ ?_ _); rotate_left; exact (by first | (simp; done) | (simp; omega) | omega)) | ((with_reducible refine Below.trans ?_ (HB1.out.mono ?_)); rotate_left; exact (by first | (simp; done) | (simp; omega) | omega))))
    · have HE := Lib.hid hE
      have g := Lib.hid (fun h => hE ((rdo_prog HR.out).2 h))
      clear hE
      by_cases g1 : ordE (v % 4) (v / 4 % 8) (v / 32 % 64) = 0
      · have g2 : (ordW (v % 4) (v / 4 % 8) (v / 32 % 64) != v) = true := by rw [bne_iff_ne]; exact fun h => g.out ⟨g1, h⟩
        clear g
        go_wp2
        refine bodyPost_ret (v := .tuple #[.agg #[.int .i64 0, .int .i64 0, .int .i64 0], .int .i64 3]) ?_ rfl ⟨rdoV_n (rdoE_f HR.out HE.out) (by decide), ?_⟩
        · simp (maxDischargeDepth := 8) [results, Try.results29, go_sem, *]
        · (repeat (first | (with_reducible exact Below.refl _ _) | (with_reducible refine Below.drew ?_) | (with_reducible refine bdrewN ?_ _) | ((with_reducible refine Below.setCell ?_ ?_ _); rotate_left; exact (by first | (simp; done) | (simp; omega) | omega)) | ((with_reducible refine Below.alloc ?_ ?_ _); rotate_left; exact (by first | (simp; done) | (simp; omega) | omega)) | ((with_reducible refine Below.trans ?_ (HB1.out.mono ?_)); rotate_left; exact (by first | (simp; done) | (simp; omega) | omega))))
      · have g2 : (ordE (v % 4) (v / 4 % 8) (v / 32 % 64) != 0) = true := by simp [g1]
        clear g g1
        go_wp2
        refine bodyPost_ret (v := .tuple #[.agg #[.int .i64 0, .int .i64 0, .int .i64 0], .int .i64 3]) ?_ rfl ⟨rdoV_n (rdoE_f HR.out HE.out) (by decide), ?_⟩
        · simp (maxDischargeDepth := 8) [results, Try.results29, go_sem, *]
        · (repeat (first | (with_reducible exact Below.refl _ _) | (with_reducible refine Below.drew ?_) | (with_reducible refine bdrewN ?_ _) | ((with_reducible refine Below.setCell ?_ ?_ _); rotate_left; exact (by first | (simp; done) | (simp; omega) | omega)) | ((with_reducible refine Below.alloc ?_ ?_ _); rotate_left; exact (by first | (simp; done) | (simp; omega) | omega)) | ((with_reducible refine Below.trans ?_ (HB1.out.mono ?_)); rotate_left; exact (by first | (simp; done) | (simp; omega) | omega))))
  · have HR := Lib.hid hR
    go_enter Try.func29, Try.ntmps29
    go_wp2
    all_goals refine bodyPost_ret (v := .tuple #[.agg #[.int .i64 0, .int .i64 0, .int .i64 0], .int .i64 2]) ?_ rfl ⟨rdoV_n (rdoE_r HR.out) (by decide), HB.out _⟩
    all_goals simp [results, Try.results29, go_sem]

set_option maxRecDepth 100000 in
set_option maxHeartbeats 1000000 in
theorem word_ReadFault (v : Int) (w : World) : Calls Try.prog 12 #[.int .i64 v] w fun e w' => e = .returned (rdfV v) ∧ Below w.heap.size w w' := by
  have HB := Lib.hid (below_alloc w)
  by_cases hR : 0 ≤ v ∧ v ≤ 65535
  · have HR := Lib.hid hR
    obtain ⟨h1, h2⟩ := hR
    have e1 := and7 v (by omega) (by omega)
    have e2 := and7 (v / 8) (by omega) (by omega)
    have e3 := and63 (v / 64) (by omega) (by omega)
    have e4 := and1 (v / 4096) (by omega) (by omega)
    go_enter Try.func12, Try.ntmps12
    go_wp2_with fail
    refine (word_PutFault _ _ _ _ _).mono ?_
    rintro e w1 ⟨rfl, hb1⟩
    have hz1 := hb1.size
    (try simp only [World.size_alloc, World.size_setCell, World.size_drew] at hz1)
    have k1_0 := fun o => (bcell hb1).1 (w.heap.size) o (by first | (simp; done) | (simp; omega) | omega)
    have l1_0 : (w.heap.size) < w1.heap.size := (by omega)
    have q1_0 := fun o => (bcell hb1).2 (w.heap.size) o (by first | (simp; done) | (simp; omega) | omega)
    have k1_1 := fun o => (bcell hb1).1 (w.heap.size + 1) o (by first | (simp; done) | (simp; omega) | omega)
    have l1_1 : (w.heap.size + 1) < w1.heap.size := (by omega)
    have q1_1 := fun o => (bcell hb1).2 (w.heap.size + 1) o (by first | (simp; done) | (simp; omega) | omega)
    simp (maxDischargeDepth := 6) [go_sem, *] at k1_0 q1_0 k1_1 q1_1
    have HB1 := Lib.hid hb1
    clear hb1
    by_cases hE : fltE (v % 8) (v / 8 % 8) (v / 64 % 64) = 0 ∧ v < 8192
    · have HE := Lib.hid hE
      obtain ⟨g1, g2⟩ := (rdf_prog HR.out).1 hE
      have g3 := Lib.hid (rdf_bit ⟨h1, hE.2⟩)
      clear hE
      go_wp2
      refine bodyPost_ret (v := .tuple #[.agg #[.int .i64 (v % 8), .int .i64 (v / 8 % 8), .int .i64 (v / 64 % 64), .bool (v / 4096 % 2 == 1)], .int .i64 0]) ?_ rfl ⟨?_, ?_⟩
      · simp (maxDischargeDepth := 8) [results, Try.results12, go_sem, *]
      · rw [g3.out]; exact rdfV_0 (rdfE_0 HR.out HE.out)
      · (repeat (first | (with_reducible exact Below.refl _ _) | (with_reducible refine Below.drew ?_) | (with_reducible refine bdrewN ?_ _) | ((with_reducible refine Below.setCell ?_ ?_ _); rotate_left; exact (by first | (simp; done) | (simp; omega) | omega)) | ((with_reducible refine Below.alloc ?_ ?_ _); rotate_left; exact (by first | (simp; done) | (simp; omega) | omega)) | ((with_reducible refine Below.trans ?_ (HB1.out.mono ?_)); rotate_left; exact (by first | (simp; done) | (simp; omega) | omega))))
    · have HE := Lib.hid hE
      have g := Lib.hid (fun h => hE ((rdf_prog HR.out).2 h))
      clear hE
      by_cases g1 : fltE (v % 8) (v / 8 % 8) (v / 64 % 64) = 0
      · have g2 : (fltW (v % 8) (v / 8 % 8) (v / 64 % 64) (v / 4096 % 2 == 1) != v) = true := by rw [bne_iff_ne]; exact fun h => g.out ⟨g1, h⟩
        clear g
        go_wp2
        refine bodyPost_ret (v := .tuple #[.agg #[.int .i64 0, .int .i64 0, .int .i64 0, .bool false], .int .i64 3]) ?_ rfl ⟨rdfV_n (rdfE_f HR.out HE.out) (by decide), ?_⟩
        · simp (maxDischargeDepth := 8) [results, Try.results12, go_sem, *]
        · (repeat (first | (with_reducible exact Below.refl _ _) | (with_reducible refine Below.drew ?_) | (with_reducible refine bdrewN ?_ _) | ((with_reducible refine Below.setCell ?_ ?_ _); rotate_left; exact (by first | (simp; done) | (simp; omega) | omega)) | ((with_reducible refine Below.alloc ?_ ?_ _); rotate_left; exact (by first | (simp; done) | (simp; omega) | omega)) | ((with_reducible refine Below.trans ?_ (HB1.out.mono ?_)); rotate_left; exact (by first | (simp; done) | (simp; omega) | omega))))
      · have g2 : (fltE (v % 8) (v / 8 % 8) (v / 64 % 64) != 0) = true := by simp [g1]
        clear g g1
        go_wp2
        refine bodyPost_ret (v := .tuple #[.agg #[.int .i64 0, .int .i64 0, .int .i64 0, .bool false], .int .i64 3]) ?_ rfl ⟨rdfV_n (rdfE_f HR.out HE.out) (by decide), ?_⟩
        · simp (maxDischargeDepth := 8) [results, Try.results12, go_sem, *]
        · (repeat (first | (with_reducible exact Below.refl _ _) | (with_reducible refine Below.drew ?_) | (with_reducible refine bdrewN ?_ _) | ((with_reducible refine Below.setCell ?_ ?_ _); rotate_left; exact (by first | (simp; done) | (simp; omega) | omega)) | ((with_reducible refine Below.alloc ?_ ?_ _); rotate_left; exact (by first | (simp; done) | (simp; omega) | omega)) | ((with_reducible refine Below.trans ?_ (HB1.out.mono ?_)); rotate_left; exact (by first | (simp; done) | (simp; omega) | omega))))
  · have HR := Lib.hid hR
    go_enter Try.func12, Try.ntmps12
    go_wp2
    all_goals refine bodyPost_ret (v := .tuple #[.agg #[.int .i64 0, .int .i64 0, .int .i64 0, .bool false], .int .i64 2]) ?_ rfl ⟨rdfV_n (rdfE_r HR.out) (by decide), HB.out _⟩
    all_goals simp [results, Try.results12, go_sem]
end
end
end Go.Proofs.Ytbopdijnojaaiad
