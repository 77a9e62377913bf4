/- The machine: the plain laws of MachineShut, MachineHeld, MachinePlain, AuditOwn, MachineTold. No program in sight, no statement of the seat is proved here. -/
import Derived.Test.YtbopdijnojaaiadDmaP
namespace Go.Proofs.Ytbopdijnojaaiad
open Go.RowKit
set_option linter.unusedSimpArgs false
set_option linter.unusedVariables false

section
/-- memory behind the first k touches. -/
def wantK (a : Ask) (xs : List Int) (ts : List Tch) : Nat → List Int
  | 0 => xs
  | k + 1 => match ts[k]? with
    | some x => if x.wr = true then (wantK a xs ts k).set x.at_.toNat (rd a.data k) else wantK a xs ts k
    | none => wantK a xs ts k
theorem wantK_app {a : Ask} {xs : List Int} {ts us : List Tch} : ∀ {k : Nat}, k ≤ ts.length → wantK a xs (ts ++ us) k = wantK a xs ts k
  | 0, _ => rfl
  | k + 1, h => by
    unfold wantK
    rw [List.getElem?_append_left (by omega), wantK_app (k := k) (by omega)]
/-- each touch is as the law says. -/
structure Held (a : Ask) (xs : List Int) (ts : List Tch) (data : List Int) : Prop where
  tch : ∀ (k : Nat) (x : Tch), ts[k]? = some x → x.dev = a.dev ∧ x.seen = a.at_ + k ∧ x.wr = a.wr ∧ (0 ≤ x.at_ ∧ x.at_ < 512) ∧ x.value = rd (wantK a xs ts (k + 1)) x.at_ ∧ x.at_ % 8 = (a.at_ + k) % 8
  dat : a.wr = false → data.length = ts.length ∧ ∀ (k : Nat) (x : Tch), ts[k]? = some x → data[k]? = some x.value
  non : a.wr = true → data = []
theorem Held.start {a : Ask} {xs : List Int} : Held a xs [] [] := ⟨fun k x h => by simp at h, fun _ => ⟨rfl, fun k x h => by simp at h⟩, fun _ => rfl⟩
structure HeldS (a : Ask) (xs : List Int) (b : Brg) (i : Nat) (s : Dst) : Prop where
  ok : DOk a i s
  len : s.touched.length = i
  mem : s.xs = wantK a xs s.touched i
  flt : s.b.faults = b.faults
  held : Held a xs s.touched s.data
theorem wantK_one {a : Ask} {xs : List Int} {ts : List Tch} {x : Tch} : wantK a xs (ts ++ [x]) (ts.length + 1) = if x.wr = true then (wantK a xs ts ts.length).set x.at_.toNat (rd a.data ts.length) else wantK a xs ts ts.length := by
  show (match (ts ++ [x])[ts.length]? with | some x => _ | none => _) = _
  rw [List.getElem?_append_right (Nat.le_refl _), Nat.sub_self, wantK_app (Nat.le_refl _)]
  rfl
theorem HeldS.word {a : Ask} {xs : List Int} {b : Brg} {i : Nat} {s : Dst} (ha : reqE a = 0) (hi : (i : Int) < a.count) (hp : s.page ≠ -1) (h : HeldS a xs b i s) : HeldS a xs b (i + 1) (dWord a i s) := by
  have hlen := h.len
  have hw1 : wantK a xs (s.touched ++ [dTch a i s]) (i + 1) = dPut a i s := by
    rw [← hlen, wantK_one, hlen, ← h.mem]
    unfold dPut dTch
    simp only []
  refine ⟨h.ok.word ha hi, ?_, ?_, h.flt, ?_, ?_, ?_⟩
  · show (s.touched ++ [_]).length = _; rw [List.length_append, hlen]; rfl
  · exact hw1.symm
  · intro k x hx
    have hx' : (s.touched ++ [dTch a i s])[k]? = some x := hx
    show _ ∧ _ ∧ _ ∧ _ ∧ x.value = rd (wantK a xs (s.touched ++ [dTch a i s]) (k + 1)) x.at_ ∧ _
    by_cases hk : k < i
    · rw [List.getElem?_append_left (by omega)] at hx'
      rw [wantK_app (by omega)]
      exact h.held.tch k x hx'
    · rw [List.getElem?_append_right (by omega)] at hx'
      have hki : k = i := by
        by_cases hk2 : k - s.touched.length = 0
        · omega
        · rw [List.getElem?_eq_none (by simp; omega)] at hx'; cases hx'
      subst hki
      rw [hlen, Nat.sub_self] at hx'
      injection hx' with hx'
      subst hx'
      rw [hw1]
      refine ⟨rfl, rfl, rfl, d_at ha hi (h.ok.kp hp), rfl, ?_⟩
      show dAt a k s % 8 = _
      unfold dAt; omega
  · intro hr
    obtain ⟨h1, h2⟩ := h.held.dat hr
    have e : (dWord a i s).data = s.data ++ [rd (dPut a i s) (dAt a i s)] := by unfold dWord; simp [hr]
    rw [e]
    refine ⟨?_, ?_⟩
    · show _ = (s.touched ++ [_]).length; rw [List.length_append, List.length_append, h1]; rfl
    · intro k x hx
      have hx' : (s.touched ++ [dTch a i s])[k]? = some x := hx
      by_cases hk : k < i
      · rw [List.getElem?_append_left (by omega)] at hx'
        rw [List.getElem?_append_left (by omega)]
        exact h2 k x hx'
      · rw [List.getElem?_append_right (by omega)] at hx'
        rw [List.getElem?_append_right (by omega), h1]
        cases e2 : k - s.touched.length with
        | zero => rw [e2] at hx'; injection hx' with hx'; subst hx'; rfl
        | succ j => rw [e2] at hx'; cases hx'
  · intro hr
    have e : (dWord a i s).data = s.data := by unfold dWord; simp [hr]
    rw [e]; exact h.held.non hr
theorem thru_flt {xs : List Int} {b : Brg} {d p : Int} {w : Bool} : (thruM xs b d p w).1.faults = b.faults := by
  unfold thruM
  split
  · rfl
  · split
    · rfl
    · split
      · split <;> rfl
      · simp only []
        unfold freshM
        dsimp only
        split
        · split
          · rfl
          · split <;> rfl
        · rfl
theorem HeldS.next {a : Ask} {xs : List Int} {b : Brg} {i : Nat} {s : Dst} (ha : reqE a = 0) (hi : (i : Int) < a.count) (h : HeldS a xs b i s) : HeldS a xs b i (dNext a i s) :=
  ⟨h.ok.next ha hi, h.len, h.mem, by show (dThru a i s).1.faults = _; unfold dThru; rw [thru_flt]; exact h.flt, h.held⟩
theorem tell_held {xs : List Int} {c : Brg} {v : Int} (hr : ringR c.faults) : (tellM xs c v).1 = xs ∨ ((tellM xs c v).2.faults ≠ c.faults ∧ (tellM xs c v).1 = xs.set (c.faults.page * 8 + c.faults.tail).toNat v) := by
  unfold tellM
  split
  · exact Or.inl rfl
  · split
    · exact Or.inl rfl
    · refine Or.inr ⟨?_, rfl⟩
      show pushR c.faults ≠ _
      intro e
      have := congrArg Ring.tail e
      unfold pushR at this
      unfold ringR at hr
      simp only [] at this
      omega
/-- what DmaHeld says of what is handed back. -/
structure HeldE (a : Ask) (xs : List Int) (b : Brg) (r : List Int × Brg × Tld) : Prop where
  held : Held a xs r.2.2.touched r.2.2.data
  mem : r.1 = wantK a xs r.2.2.touched r.2.2.touched.length ∨ (r.2.2.fault ≠ 0 ∧ r.2.1.faults ≠ b.faults ∧ ∃ v, r.1 = (wantK a xs r.2.2.touched r.2.2.touched.length).set (b.faults.page * 8 + b.faults.tail).toNat v)
  don : r.2.2.done = true ↔ r.2.2.fault = 0
  all : r.2.2.done = true ↔ (r.2.2.touched.length : Int) = a.count
  flt : r.2.2.fault = 0 → r.2.1.faults = b.faults
  ck : cm r.1 = 0 ∧ ckB r.2.1 = 0
theorem dGo_held {a : Ask} {xs : List Int} {b : Brg} (ha : reqE a = 0) : ∀ (n i : Nat) (s : Dst), (i : Int) + n = a.count → HeldS a xs b i s → (s.page ≠ -1 ∨ i = 0) → HeldE a xs b (dGo a n i s) := by
  intro n
  induction n with
  | zero =>
    intro i s hi h _
    refine ⟨h.held, Or.inl ?_, ?_, ?_, fun _ => h.flt, h.ok.km, h.ok.kb⟩
    · show s.xs = wantK a xs s.touched s.touched.length
      rw [h.len]; exact h.mem
    · show true = true ↔ (0 : Int) = 0
      simp
    · show true = true ↔ (s.touched.length : Int) = a.count
      rw [h.len]; simp; omega
  | succ n ih =>
    intro i s hi h hp
    have hd := (d_in (a := a) (i := i) ha (by omega)).2
    unfold dGo
    split
    · rename_i he
      refine ih _ _ (by omega) (h.word ha (by omega) (by omega)) (Or.inl ?_)
      show s.page ≠ -1; omega
    · split
      · rename_i h0
        refine ih _ _ (by omega) ((h.next ha (by omega)).word ha (by omega) ?_) (Or.inl ?_)
        · show dPage a i ≠ -1; omega
        · show dPage a i ≠ -1; omega
      · rename_i h0
        have hck := d_stop ha (by omega) h.ok h0
        refine ⟨h.held, ?_, ?_, ?_, fun e => absurd e h0, hck⟩
        · show (tellM s.xs (dThru a i s).1 (dFlt a i s).w).1 = wantK a xs s.touched s.touched.length ∨ ((dThru a i s).2.2 ≠ 0 ∧ (tellM s.xs (dThru a i s).1 (dFlt a i s).w).2.faults ≠ b.faults ∧ ∃ v, (tellM s.xs (dThru a i s).1 (dFlt a i s).w).1 = (wantK a xs s.touched s.touched.length).set (b.faults.page * 8 + b.faults.tail).toNat v)
          rw [h.len, ← h.mem]
          have hf : (dThru a i s).1.faults = b.faults := by unfold dThru; rw [thru_flt]; exact h.flt
          have hr := ((ckB_iff _).1 (h.next ha (by omega)).ok.kb).2.2.2
          change ringR (dThru a i s).1.faults at hr
          rw [hf] at hr
          rcases tell_held (xs := s.xs) (c := (dThru a i s).1) (v := (dFlt a i s).w) (by rw [hf]; exact hr) with e | ⟨e1, e2⟩
          · exact Or.inl e
          · rw [hf] at e1 e2
            exact Or.inr ⟨h0, e1, _, e2⟩
        · show false = true ↔ (dThru a i s).2.2 = 0
          simp [h0]
        · show false = true ↔ (s.touched.length : Int) = a.count
          rw [h.len]; simp; omega
theorem dma_held {xs : List Int} {b : Brg} {a : Ask} (h : dmaE xs b a = 0) : HeldE a xs b (dmaM xs b a) := by
  obtain ⟨h1, h2, h3⟩ := dmaE_inv h
  have hc := (reqE_inv h3).1
  exact dGo_held h3 _ _ _ (by omega) ⟨dma_start h1 h2, rfl, rfl, rfl, Held.start⟩ (Or.inr rfl)
end

section
def tchR (x : Tch) : Prop := (0 ≤ x.dev ∧ x.dev < 8) ∧ (0 ≤ x.seen ∧ x.seen < 512) ∧ (0 ≤ x.at_ ∧ x.at_ < 512)
instance (x : Tch) : Decidable (tchR x) := by unfold tchR; exact inferInstance
/-- chapter 12's Check. -/
def tchE (x : Tch) : Int := if tchR x then (if inWord x.value then (if x.seen % 8 = x.at_ % 8 then 0 else 3) else 2) else 4
theorem tchE_who {x : Tch} (h : ¬ tchR x) : tchE x = 4 := by unfold tchE; rw [if_neg h]
theorem tchE_val {x : Tch} (h : tchR x) (h2 : inWord x.value = false) : tchE x = 2 := by unfold tchE; rw [if_pos h, h2]; rfl
theorem tchE_form {x : Tch} (h : tchR x) (h2 : inWord x.value = true) (h3 : x.seen % 8 ≠ x.at_ % 8) : tchE x = 3 := by unfold tchE; rw [if_pos h, h2, if_pos rfl, if_neg h3]
theorem tchE_0 {x : Tch} (h : tchR x) (h2 : inWord x.value = true) (h3 : x.seen % 8 = x.at_ % 8) : tchE x = 0 := by unfold tchE; rw [if_pos h, h2, if_pos rfl, if_pos h3]
theorem tchE_inv {x : Tch} (h : tchE x = 0) : tchR x := by
  by_cases h1 : tchR x
  · exact h1
  · rw [tchE_who h1] at h; cases h
theorem tmod_diff {a b : Int} (ha : 0 ≤ a) (hb : 0 ≤ b) : (a - b).tmod 8 = 0 ↔ a % 8 = b % 8 := by
  rw [show ((a - b).tmod 8 = 0) ↔ (a - b) % 8 = 0 from by rw [← Int.dvd_iff_tmod_eq_zero, ← Int.dvd_iff_emod_eq_zero]]
  omega
/-- is a touch let be by a machine, with nothing remembered? -/
def hitM (x : Mch) (t : Tch) : Bool := (thruM x.m { x.b with cache := [] } t.dev (t.seen / 8) t.wr).2.2 == 0 && (thruM x.m { x.b with cache := [] } t.dev (t.seen / 8) t.wr).2.1 == t.at_ / 8
/-- the last one of the first k that lets it be. -/
def fairK (ms : List Mch) (t : Tch) : Nat → Int
  | 0 => -1
  | k + 1 => match ms[k]? with
    | some x => if hitM x t = true then (k : Int) else fairK ms t k
    | none => fairK ms t k
theorem fairK_hit {ms : List Mch} {t : Tch} {k : Nat} {x : Mch} (hx : ms[k]? = some x) (h : hitM x t = true) : fairK ms t (k + 1) = (k : Int) := by
  unfold fairK; rw [hx]; simp only []; rw [if_pos h]
theorem fairK_not {ms : List Mch} {t : Tch} {k : Nat} {x : Mch} (hx : ms[k]? = some x) (h : hitM x t = false) : fairK ms t (k + 1) = fairK ms t k := by
  show (match ms[k]? with | some x => _ | none => _) = _
  rw [hx]; simp only []; rw [if_neg (by rw [h]; decide)]
/-- the first thing that is wrong with the first k machines. -/
def ckK (ms : List Mch) : Nat → Int
  | 0 => 0
  | k + 1 => if ckK ms k = 0 then (match ms[k]? with | some x => ckM x | none => 0) else ckK ms k
theorem ckK_ok {ms : List Mch} {k : Nat} {x : Mch} (h : ckK ms k = 0) (hx : ms[k]? = some x) : ckK ms (k + 1) = ckM x := by
  unfold ckK; rw [if_pos h, hx]
theorem ckK_bad {ms : List Mch} {k : Nat} (h : ckK ms k ≠ 0) : ckK ms (k + 1) = ckK ms k := by
  show (if ckK ms k = 0 then _ else _) = _
  rw [if_neg h]
theorem ckK_stay {ms : List Mch} {k : Nat} (h : ckK ms k ≠ 0) : ∀ j, k ≤ j → ckK ms j = ckK ms k
  | 0, hj => by have : k = 0 := by omega
                subst this; rfl
  | j + 1, hj => by
    by_cases e : k = j + 1
    · subst e; rfl
    · have := ckK_stay h j (by omega)
      rw [ckK_bad (by rw [this]; exact h), this]
theorem ckK_all {ms : List Mch} {n : Nat} (h : ckK ms n = 0) : ∀ (k : Nat) (x : Mch), k < n → ms[k]? = some x → ckM x = 0 := by
  intro k x hk hx
  by_cases h0 : ckK ms k = 0
  · by_cases h1 : ckK ms (k + 1) = 0
    · rw [ckK_ok h0 hx] at h1; exact h1
    · exact absurd ((ckK_stay h1 n (by omega)).symm.trans h) h1
  · exact absurd ((ckK_stay h0 n (by omega)).symm.trans h) h0
def fairE (ms : List Mch) (t : Tch) : Int := if ms.length ≤ 121 then (if ckK ms ms.length = 0 then tchE t else ckK ms ms.length) else 1
def fairV (ms : List Mch) (t : Tch) : Int := if fairE ms t = 0 then fairK ms t ms.length else 0
theorem hit_in {t : Tch} (h : tchE t = 0) : inD t.dev (t.seen / 8) := by
  have := tchE_inv h
  unfold tchR at this
  unfold inD
  omega
end

section
/-- an ask within one page. -/
def shortA (a : Ask) : Ask := if a.at_ < 0 ∨ a.count < 1 then a else
  ⟨a.dev, a.at_, min a.count (8 - a.at_ % 8), a.wr, if a.wr then a.data.take (min a.data.length (min a.count (8 - a.at_ % 8)).toNat) else a.data⟩
theorem short_same (a : Ask) : (shortA a).dev = a.dev ∧ (shortA a).at_ = a.at_ ∧ (shortA a).wr = a.wr := by
  unfold shortA; split <;> exact ⟨rfl, rfl, rfl⟩
def OneP (a : Ask) : Prop := ∀ j : Nat, (j : Int) < a.count → dPage a j = dPage a 0
theorem short_page {a : Ask} (h : reqE (shortA a) = 0) : OneP (shortA a) := by
  have hr := (reqE_inv h).1
  have hq := (reqE_inv h).2.1
  unfold reqR at hq
  intro j hj
  unfold dPage
  unfold shortA at *
  split at hj
  · rename_i hc
    rw [if_pos hc] at hr hq ⊢
    omega
  · rename_i hc
    rw [if_neg hc] at hr hq ⊢
    simp only [] at *
    omega
theorem run_one {a : Ask} {Q : Int} : ∀ (n i : Nat) (s : Dst), (∀ j : Nat, j < n → dPage a (i + j) = s.page) → s.at_ = Q → (∀ u ∈ s.touched, u.at_ / 8 = Q) →
    (dGo a n i s).2.2.fault = 0 ∧ (dGo a n i s).2.1 = s.b ∧ ∀ u ∈ (dGo a n i s).2.2.touched, u.at_ / 8 = Q := by
  intro n
  induction n with
  | zero => intro i s _ _ h; exact ⟨rfl, rfl, h⟩
  | succ n ih =>
    intro i s hp hq h
    rw [dGo, if_pos (show dPage a i = s.page from hp 0 (by omega))]
    refine ih (i + 1) (dWord a i s) (fun j hj => ?_) hq (fun u hu => ?_)
    · rw [show i + 1 + j = i + (j + 1) by omega]; exact hp (j + 1) (by omega)
    · have hu' : u ∈ s.touched ++ [dTch a i s] := hu
      rw [List.mem_append] at hu'
      rcases hu' with hu' | hu'
      · exact h u hu'
      · simp at hu'; subst hu'
        show dAt a i s / 8 = Q
        unfold dAt; omega
/-- what an ask within one page does. -/
theorem one_page {xs : List Int} {b : Brg} {a : Ask} (ha : reqE a = 0) (hp : OneP a) :
    ((dThru a 0 ⟨xs, b, [], [], 0, -1⟩).2.2 ≠ 0 → dmaM xs b a = dStop a 0 ⟨xs, b, [], [], 0, -1⟩) ∧
    ((dThru a 0 ⟨xs, b, [], [], 0, -1⟩).2.2 = 0 → (dmaM xs b a).2.2.fault = 0 ∧ (dmaM xs b a).2.1 = (dThru a 0 ⟨xs, b, [], [], 0, -1⟩).1 ∧ ∀ u ∈ (dmaM xs b a).2.2.touched, u.at_ / 8 = (dThru a 0 ⟨xs, b, [], [], 0, -1⟩).2.1) := by
  have hc := (reqE_inv ha).1
  have h0 := (d_in (a := a) (i := 0) ha (by omega)).2
  obtain ⟨n, hn⟩ : ∃ n, a.count.toNat = n + 1 := ⟨a.count.toNat - 1, by omega⟩
  have e : dmaM xs b a = dGo a (n + 1) 0 ⟨xs, b, [], [], 0, -1⟩ := by unfold dmaM; rw [hn]
  rw [e, dGo, if_neg (show ¬ dPage a 0 = -1 by omega)]
  refine ⟨fun hf => by rw [if_neg hf], fun hf => ?_⟩
  rw [if_pos hf]
  refine run_one n 1 _ (fun j hj => ?_) rfl (fun u hu => ?_)
  · rw [hp (1 + j) (by omega)]; rfl
  · have hu' : u ∈ [dTch a 0 (dNext a 0 ⟨xs, b, [], [], 0, -1⟩)] := hu
    simp at hu'; subst hu'
    show dAt a 0 (dNext a 0 _) / 8 = _
    unfold dAt
    show ((dThru a 0 ⟨xs, b, [], [], 0, -1⟩).2.1 * 8 + _) / 8 = _
    omega
theorem dthru0 {a : Ask} {xs : List Int} {b : Brg} : dThru a 0 ⟨xs, b, [], [], 0, -1⟩ = thruM xs b a.dev (a.at_ / 8) a.wr := by
  unfold dThru dPage; simp
theorem do_3 {x : Mch} {y : Hap} (h : doE x y = 0) (hk : y.kind = 3) : reqE y.a = 0 ∧ dmaE x.m x.b y.a = 0 ∧ ckM x = 0 ∧ (doA x y) = (⟨(dmaM x.m x.b y.a).1, x.h, (dmaM x.m x.b y.a).2.1⟩, (dmaM x.m x.b y.a).2.2) := by
  obtain ⟨h0, h1⟩ := doE_inv h
  rw [hapE_3 hk] at h1
  exact ⟨h1, by rw [dmaE_m h0]; exact h1, h0, by unfold doA; rw [if_pos h, hapM_3 hk]⟩
/-- MachineShut. -/
theorem shut_law {x : Mch} {y : Hap} (h : doE x y = 0) (hk : y.kind = 3) (hm : x.b.mode = 0) : (doA x y).2.touched = [] ∧ (doA x y).2.done = false ∧ (doA x y).2.fault = 1 := by
  obtain ⟨ha, hd, h0, e⟩ := do_3 h hk
  rw [e]
  have hc := (reqE_inv ha).1
  have hp := (d_in (a := y.a) (i := 0) ha (by omega)).2
  obtain ⟨n, hn⟩ : ∃ n, y.a.count.toNat = n + 1 := ⟨y.a.count.toNat - 1, by omega⟩
  have ht : (dThru y.a 0 ⟨x.m, x.b, [], [], 0, -1⟩).2.2 = 1 := by
    rw [dthru0]; unfold thruM; rw [if_pos hm]
  have e2 : dmaM x.m x.b y.a = dStop y.a 0 ⟨x.m, x.b, [], [], 0, -1⟩ := by
    unfold dmaM; rw [hn, dGo, if_neg (show ¬ dPage y.a 0 = -1 by omega), if_neg (by rw [ht]; decide)]
  rw [e2]
  exact ⟨rfl, rfl, ht⟩
theorem ckM_mode {x : Mch} (h : ckM x = 0) : ckM ⟨x.m, x.h, { x.b with mode := 0 }⟩ = 0 := by
  rw [ckM_iff] at h ⊢
  refine ⟨h.1, h.2.1, ?_⟩
  rw [ckB_iff] at h ⊢
  obtain ⟨_, _, h1, h2⟩ := h
  refine ⟨?_, h2⟩
  unfold brgR at *
  exact ⟨⟨by simp only []; omega, by simp only []; omega⟩, h1.2⟩
theorem ckM_bare {x : Mch} (h : ckM x = 0) : ckM ⟨x.m, x.h, { x.b with cache := [] }⟩ = 0 := by
  rw [ckM_iff] at h ⊢
  refine ⟨h.1, h.2.1, ?_⟩
  rw [ckB_iff] at h ⊢
  obtain ⟨_, _, h1, h2⟩ := h
  exact ⟨h1, ckC_nil, h2.2⟩
theorem do_ck {x : Mch} {y : Hap} (h : doE x y = 0) : ckM (doA x y).1 = 0 := by
  unfold doA; rw [if_pos h]; exact hap_ck h
/-- MachinePlain: what a device touches within a page, with nothing remembered. -/
theorem plain_law {x : Mch} {y : Hap} (h : doE x y = 0) (hk : y.kind = 3) (hp : OneP y.a) :
    thruE x.m x.b y.a.dev (y.a.at_ / 8) = 0 ∧ (doA x y).2.fault = (thruM x.m x.b y.a.dev (y.a.at_ / 8) y.a.wr).2.2 ∧
    ∀ u ∈ (doA x y).2.touched, u.at_ / 8 = (thruM x.m x.b y.a.dev (y.a.at_ / 8) y.a.wr).2.1 ∧ (thruM x.m x.b y.a.dev (y.a.at_ / 8) y.a.wr).2.2 = 0 ∧ u.dev = y.a.dev ∧ u.seen / 8 = y.a.at_ / 8 ∧ u.wr = y.a.wr ∧ tchE u = 0 := by
  obtain ⟨ha, hd, h0, e⟩ := do_3 h hk
  have hc := (reqE_inv ha).1
  have hin := (d_in (a := y.a) (i := 0) ha (by omega)).1
  have hpg : dPage y.a 0 = y.a.at_ / 8 := by unfold dPage; simp
  rw [hpg] at hin
  obtain ⟨o1, o2⟩ := one_page (xs := x.m) (b := x.b) ha hp
  rw [dthru0] at o1 o2
  have hx := (ckM_iff x).1 h0
  refine ⟨by unfold thruE; rw [if_pos (allE_0 hx.1 hx.2.2), if_pos hin], ?_, ?_⟩
  · rw [e]
    by_cases hf : (thruM x.m x.b y.a.dev (y.a.at_ / 8) y.a.wr).2.2 = 0
    · rw [(o2 hf).1, hf]
    · rw [o1 hf]; show (dThru y.a 0 _).2.2 = _; rw [dthru0]
  · rw [e]
    intro u hu
    by_cases hf : (thruM x.m x.b y.a.dev (y.a.at_ / 8) y.a.wr).2.2 = 0
    · have hh := dma_held hd
      obtain ⟨k, hk⟩ := List.getElem?_of_mem hu
      obtain ⟨t1, t2, t3, t4, t5, t6⟩ := hh.held.tch k u hk
      have hlen : ((dmaM x.m x.b y.a).2.2.touched.length : Int) = y.a.count := hh.all.1 (hh.don.2 (o2 hf).1)
      have hkl : k < (dmaM x.m x.b y.a).2.2.touched.length := (List.getElem?_eq_some_iff.1 hk).1
      have hpk := hp k (by omega)
      have hq := (reqE_inv ha).2.1
      unfold reqR at hq
      refine ⟨(o2 hf).2.2 u hu, hf, t1, ?_, t3, ?_⟩
      · rw [t2]; unfold dPage at hpk; simpa using hpk
      · refine tchE_0 ?_ ?_ ?_
        · unfold tchR; rw [t1, t2]; omega
        · have hw : ∀ j, cm (wantK y.a x.m (dmaM x.m x.b y.a).2.2.touched j) = 0 := by
            intro j
            induction j with
            | zero => exact hx.1
            | succ j ih =>
              unfold wantK
              split
              · split
                · refine cm_set ih ?_
                  unfold Go.Proofs.Ytbopdijnojaaiad.rd
                  cases e : y.a.data[(j : Int).toNat]?
                  · simp
                  · exact (reqE_inv ha).2.2.2 _ _ e
                · exact ih
              · exact ih
          have := rd_bd (hw (k + 1)) (i := u.at_) t4
          rw [← t5] at this
          simpa [inWord] using this
        · rw [t2, t6]
    · rw [o1 hf] at hu
      exact absurd hu (by intro hh; cases hh)
/-- AuditOwn. -/
theorem own_law {x : Mch} {y : Hap} (h : doE x y = 0) (hk : y.kind = 3) (hp : OneP y.a) (hc : x.b.cache = []) : ∀ u ∈ (doA x y).2.touched, fairE [x] u = 0 ∧ fairV [x] u = 0 := by
  intro u hu
  obtain ⟨h1, h2, h3⟩ := plain_law h hk hp
  obtain ⟨t1, t2, t3, t4, t5, t6⟩ := h3 u hu
  obtain ⟨h0, _⟩ := doE_inv h
  have e : fairE [x] u = 0 := by
    unfold fairE
    rw [if_pos (by simp)]
    have : ckK [x] [x].length = 0 := by show ckK [x] (0 + 1) = 0; rw [ckK_ok rfl (x := x) rfl]; exact h0
    rw [if_pos this]; exact t6
  refine ⟨e, ?_⟩
  unfold fairV
  rw [if_pos e]
  show fairK [x] u (0 + 1) = 0
  rw [fairK_hit (x := x) rfl]
  · rfl
  · unfold hitM
    have eb : ({ x.b with cache := [] } : Brg) = x.b := by rw [← hc]
    rw [eb, t3, t4, t5]
    simp only [Bool.and_eq_true, beq_iff_eq]
    exact ⟨t2, t1.symm⟩
/-- what is told of a fault in the ring. -/
structure ToldI (a : Ask) (b : Brg) (r : List Int × Brg × Tld) : Prop where
  flt : r.2.2.fault ≠ 0 → r.2.1.faults ≠ b.faults → ∃ f : Flt, f.e = 0 ∧ f = ⟨r.2.2.fault, a.dev, (a.at_ + r.2.2.touched.length) / 8, a.wr⟩ ∧ rd r.1 (b.faults.page * 8 + b.faults.tail) = f.w
theorem dGo_told {a : Ask} {xs : List Int} {b : Brg} (ha : reqE a = 0) : ∀ (n i : Nat) (s : Dst), (i : Int) + n = a.count → HeldS a xs b i s → (s.page ≠ -1 ∨ i = 0) → ToldI a b (dGo a n i s) := by
  intro n
  induction n with
  | zero => intro i s hi h _; exact ⟨fun hf => absurd (show (dGo a 0 i s).2.2.fault = 0 from rfl) hf⟩
  | succ n ih =>
    intro i s hi h hp
    have hd := (d_in (a := a) (i := i) ha (by omega)).2
    unfold dGo
    split
    · rename_i he
      refine ih _ _ (by omega) (h.word ha (by omega) (by omega)) (Or.inl ?_)
      show s.page ≠ -1; omega
    · split
      · rename_i h0
        refine ih _ _ (by omega) ((h.next ha (by omega)).word ha (by omega) ?_) (Or.inl ?_)
        · show dPage a i ≠ -1; omega
        · show dPage a i ≠ -1; omega
      · rename_i h0
        refine ⟨fun _ hne => ⟨dFlt a i s, d_flt ha (by omega) h.ok h0, ?_, ?_⟩⟩
        · unfold dFlt dStop dPage
          simp only []
          rw [h.len]
        · have hf : (dThru a i s).1.faults = b.faults := by unfold dThru; rw [thru_flt]; exact h.flt
          have hr := ((ckB_iff _).1 (h.next ha (by omega)).ok.kb).2.2.2
          change ringR (dThru a i s).1.faults at hr
          change (tellM s.xs (dThru a i s).1 (dFlt a i s).w).2.faults ≠ b.faults at hne
          show rd (tellM s.xs (dThru a i s).1 (dFlt a i s).w).1 _ = _
          have hl := (cm_inv h.ok.km).1
          generalize (dThru a i s).1 = c at *
          unfold tellM at hne ⊢
          split
          · rename_i hh; rw [if_pos hh] at hne; exact absurd hf hne
          · rename_i hh; rw [if_neg hh] at hne
            split
            · rename_i h7; rw [if_pos h7] at hne; exact absurd hf hne
            · have := (ring_at hr).1
              rw [hf] at this
              show rd (pushX s.xs c.faults _) _ = _
              unfold pushX
              rw [hf, rd_self hl this]
/-- MachineTold. -/
theorem told_law {x : Mch} {y : Hap} (h : doE x y = 0) (hk : y.kind = 3) :
    ((doA x y).2.done = true ↔ (doA x y).2.fault = 0) ∧ ((doA x y).2.done = true → ((doA x y).2.touched.length : Int) = y.a.count) ∧ (y.a.wr = false → (doA x y).2.data.length = (doA x y).2.touched.length) ∧ (y.a.wr = true → (doA x y).2.data = []) ∧
    ((doA x y).2.fault ≠ 0 → (doA x y).1.b.faults ≠ x.b.faults → ∃ f : Flt, f.e = 0 ∧ f = ⟨(doA x y).2.fault, y.a.dev, (y.a.at_ + (doA x y).2.touched.length) / 8, y.a.wr⟩ ∧ rd (doA x y).1.m (x.b.faults.page * 8 + x.b.faults.tail) = f.w) := by
  obtain ⟨ha, hd, h0, e⟩ := do_3 h hk
  have hh := dma_held hd
  obtain ⟨h1, h2, h3⟩ := dmaE_inv hd
  have hc := (reqE_inv h3).1
  have ht := dGo_told (b := x.b) (xs := x.m) ha y.a.count.toNat 0 ⟨x.m, x.b, [], [], 0, -1⟩ (by omega) ⟨dma_start h1 h2, rfl, rfl, rfl, Held.start⟩ (Or.inr rfl)
  rw [e]
  exact ⟨hh.don, hh.all.1, fun hw => (hh.held.dat hw).1, hh.held.non, ht.flt⟩
theorem dGo_but {a : Ask} {b : Brg} : ∀ (n i : Nat) (s : Dst), { s.b with cache := b.cache, faults := b.faults, lost := b.lost } = b → { (dGo a n i s).2.1 with cache := b.cache, faults := b.faults, lost := b.lost } = b := by
  intro n
  induction n with
  | zero => intro i s h; exact h
  | succ n ih =>
    intro i s h
    have hb : { (dThru a i s).1 with cache := b.cache, faults := b.faults, lost := b.lost } = b := by
      unfold dThru; rw [thru_but]; exact h
    unfold dGo
    split
    · exact ih _ _ h
    · split
      · exact ih _ _ hb
      · show { (tellM s.xs (dThru a i s).1 (dFlt a i s).w).2 with cache := b.cache, faults := b.faults, lost := b.lost } = b
        unfold tellM
        split
        · exact hb
        · split <;> exact hb
/-- MachineHeld. -/
theorem held1_law {x : Mch} {y : Hap} (h : doE x y = 0) (hk : y.kind = 1) : (doA x y).2 = .no ∧ (doA x y).1.b.cache = x.b.cache := by
  obtain ⟨h0, h1⟩ := doE_inv h
  rw [hapE_1 hk] at h1
  have := step_keeps (xs := x.m) (h := x.h) (b := x.b) (by rw [stepE_m h0]; exact h1)
  unfold doA; rw [if_pos h, hapM_1 hk]
  exact ⟨rfl, this.kc.1⟩
theorem held2_law {x : Mch} {y : Hap} (h : doE x y = 0) (hk : y.kind = 2) :
    (doA x y).2 = .no ∧ (doA x y).1.h = x.h ∧ (doA x y).1.m = x.m ∧ { (doA x y).1.b with orders := x.b.orders, cache := x.b.cache, stopped := x.b.stopped, fences := x.b.fences } = x.b ∧ (doA x y).1.b.cache.length ≤ x.b.cache.length := by
  obtain ⟨h0, h1⟩ := doE_inv h
  rw [hapE_2 hk] at h1
  unfold doA; rw [if_pos h, hapM_2 hk]
  refine ⟨rfl, rfl, rfl, ?_, ?_⟩
  · show { obeyM x.m x.b with orders := x.b.orders, cache := x.b.cache, stopped := x.b.stopped, fences := x.b.fences } = x.b
    unfold obeyM; split <;> rfl
  · show (obeyM x.m x.b).cache.length ≤ _
    unfold obeyM
    split
    · show (dropL _ _ _ _).length ≤ _
      unfold dropL
      split
      · exact List.length_filter_le _ _
      · exact Nat.zero_le _
    · exact Nat.le_refl _
theorem held3_law {x : Mch} {y : Hap} (h : doE x y = 0) (hk : y.kind = 3) : (doA x y).1.h = x.h ∧ { (doA x y).1.b with cache := x.b.cache, faults := x.b.faults, lost := x.b.lost } = x.b := by
  obtain ⟨ha, hd, h0, e⟩ := do_3 h hk
  rw [e]
  exact ⟨rfl, dGo_but _ _ _ rfl⟩
theorem held4_law {x : Mch} {y : Hap} (h : doE x y = 0) (h1 : y.kind ≠ 1) (h2 : y.kind ≠ 2) (h3 : y.kind ≠ 3) :
    y.kind = 4 ∧ (doA x y).2 = .no ∧ (doA x y).1.h = x.h ∧ (doA x y).1.m = x.m ∧ { (doA x y).1.b with cache := x.b.cache } = x.b ∧ ((doA x y).1.b.cache.length : Int) = (x.b.cache.length : Int) - 1 := by
  obtain ⟨h0, he⟩ := doE_inv h
  have h4 : y.kind = 4 := by
    apply Classical.byContradiction
    intro h4
    rw [hapE_n h1 h2 h3 h4] at he; cases he
  rw [hapE_4 h4] at he
  have hn : 0 ≤ y.n ∧ y.n < x.b.cache.length := by
    apply Classical.byContradiction
    intro hh
    rw [if_neg hh] at he; cases he
  unfold doA; rw [if_pos h, hapM_4 h4]
  refine ⟨h4, rfl, rfl, rfl, rfl, ?_⟩
  show ((x.b.cache.eraseIdx y.n.toNat).length : Int) = _
  rw [List.length_eraseIdx, if_pos (by omega)]
  omega
end
end Go.Proofs.Ytbopdijnojaaiad
