/- MachineFair: WHAT A DEVICE TOUCHES IT MAY HAVE, by memory and bridge alone, at some moment since its page was last dropped, whoever is picked, whatever the program does. No condition. -/
import Derived.Test.YtbopdijnojaaiadMachQ
import Derived.Test.YtbopdijnojaaiadWh2
import Derived.Test.YtbopdijnojaaiadOpenP
import Derived.Deep.RegionHeld3
import Derived.Deep.MidRow
import Derived.Test.YtbopdijnojaaiadOpenM
import Derived.Test.YtbopdijnojaaiadDrop
import Derived.Laws.AppendOwn
import Derived.Maps.OwnSet
import Derived.WideKeyPair
import Derived.Test.YtbopdijnojaaiadRingR
import Derived.Test.YtbopdijnojaaiadWord
import Derived.Test.YtbopdijnojaaiadDriven
import Derived.Test.YtbopdijnojaaiadAudited
import Derived.Deep.AppendLies
import Derived.Deep.DeepCutAuto
namespace Go.Proofs.Ytbopdijnojaaiad
/-! The machine: the plain law of MachineFair: what a device touches some machine lets be since its page was last dropped. No program in sight, no statement of the seat is proved here. -/
section
open Go.RowKit
set_option linter.unusedSimpArgs false
set_option linter.unusedVariables false

/-- is a page of a device dropped by the next order? -/
def drpM (x : Mch) (d p : Int) : Bool :=
  decide (popE x.m x.b.orders = 0) && !x.b.stopped && decide (rdoE (popV x.m x.b.orders) = 0) && (decide (dropE [⟨d, p, 0, true, false⟩] (popV x.m x.b.orders % 4) = 0) && decide (dropL [⟨d, p, 0, true, false⟩] (popV x.m x.b.orders % 4) (popV x.m x.b.orders / 4 % 8) (popV x.m x.b.orders / 32) = []))
/-- a machine lets a line be, with nothing remembered. -/
def letL (y : Mch) (x : Line) : Prop := ∀ wr : Bool, (wr = true → x.wr = true) → (thruM y.m { y.b with cache := [] } x.dev x.page wr).2 = (x.at_, 0)
structure FairI (past : List Mch) (m : Mch) (since : Int → Int → Nat) : Prop where
  last : past[past.length - 1]? = some m
  pos : 0 < past.length
  ck : ∀ (k : Nat) (x : Mch), past[k]? = some x → ckM x = 0
  rem : ∀ x ∈ m.b.cache, ∃ (k : Nat) (y : Mch), since x.dev x.page ≤ k ∧ past[k]? = some y ∧ letL y x
  low : ∀ d p, since d p < past.length
theorem FairI.start {m : Mch} (h : ckM m = 0) (hc : m.b.cache = []) : FairI [m] m (fun _ _ => 0) :=
  ⟨rfl, by simp, (fun k x hx => by
    cases k with
    | zero => simp at hx; subst hx; exact h
    | succ k => simp at hx), (fun x hx => by rw [hc] at hx; cases hx), fun _ _ => by simp⟩
theorem FairI.here {past : List Mch} {m : Mch} {since : Int → Int → Nat} (h : FairI past m since) : ckM m = 0 := h.ck _ _ h.last
/-- some machine since then lets a touch be. -/
theorem fair_some {ms : List Mch} {t : Tch} (h : ∃ (k : Nat) (y : Mch), ms[k]? = some y ∧ hitM y t = true) : 0 ≤ fairK ms t ms.length := by
  have gen : ∀ n, (∃ (k : Nat) (y : Mch), k < n ∧ ms[k]? = some y ∧ hitM y t = true) → 0 ≤ fairK ms t n := by
    intro n
    induction n with
    | zero => rintro ⟨k, y, hk, _⟩; omega
    | succ n ih =>
      rintro ⟨k, y, hk, hy, hh⟩
      by_cases e : k = n
      · subst e; rw [fairK_hit hy hh]; omega
      · have := ih ⟨k, y, by omega, hy, hh⟩
        unfold fairK
        split
        · split
          · omega
          · exact this
        · exact this
  obtain ⟨k, y, hy, hh⟩ := h
  exact gen _ ⟨k, y, (List.getElem?_eq_some_iff.1 hy).1, hy, hh⟩
theorem thru_empty {xs : List Int} {b : Brg} {d p : Int} {wr : Bool} (h : b.mode = 0 ∨ b.mode = 1 ∨ b.cache.find? (hitL d p) = none) : (thruM xs b d p wr).2 = (thruM xs { b with cache := [] } d p wr).2 := by
  unfold thruM
  dsimp only
  split
  · rfl
  · split
    · rfl
    · rcases h with h | h | h
      · omega
      · omega
      · rw [h, List.find?_nil]; rfl
/-- what is touched somebody may touch. -/
theorem FairI.touch {past : List Mch} {m : Mch} {since : Int → Int → Nat} (h : FairI past m since) (hl : past.length ≤ 121) {y : Hap} (hd : doE m y = 0) (hk : y.kind = 3) (hp : OneP y.a) :
    ∀ u ∈ (doA m y).2.touched, fairE (past.drop (since u.dev (u.seen / 8))) u = 0 ∧ 0 ≤ fairV (past.drop (since u.dev (u.seen / 8))) u := by
  intro u hu
  obtain ⟨t1, t2, t3, t4, t5, t6⟩ := (plain_law hd hk hp).2.2 u hu
  have e : fairE (past.drop (since u.dev (u.seen / 8))) u = 0 := by
    unfold fairE
    rw [if_pos (by rw [List.length_drop]; omega)]
    have hall : ∀ n, ckK (past.drop (since u.dev (u.seen / 8))) n = 0 := by
      intro n
      induction n with
      | zero => rfl
      | succ n ih =>
        unfold ckK
        rw [if_pos ih]
        split
        · rename_i x hx; rw [List.getElem?_drop] at hx; exact h.ck _ _ hx
        · rfl
    rw [if_pos (hall _)]; exact t6
  refine ⟨e, ?_⟩
  unfold fairV
  rw [if_pos e]
  refine fair_some ?_
  have hhit : ∀ (k : Nat) (z : Mch), since u.dev (u.seen / 8) ≤ k → past[k]? = some z → (thruM z.m { z.b with cache := [] } u.dev (u.seen / 8) u.wr).2 = (u.at_ / 8, 0) → ∃ (k : Nat) (y : Mch), (past.drop (since u.dev (u.seen / 8)))[k]? = some y ∧ hitM y u = true := by
    intro k z hk1 hz ht
    refine ⟨k - since u.dev (u.seen / 8), z, ?_, ?_⟩
    · rw [List.getElem?_drop, Nat.add_sub_cancel' hk1]; exact hz
    · unfold hitM; rw [ht]; simp
  have hnow : (thruM m.m m.b u.dev (u.seen / 8) u.wr).2 = (u.at_ / 8, 0) := by
    rw [t3, t4, t5]; exact Prod.ext t1.symm t2
  by_cases hc : m.b.mode = 0 ∨ m.b.mode = 1 ∨ m.b.cache.find? (hitL u.dev (u.seen / 8)) = none
  · exact hhit _ m (by have := h.low u.dev (u.seen / 8); omega) h.last (by rw [← thru_empty hc]; exact hnow)
  · simp only [not_or] at hc
    obtain ⟨c1, c2, c3⟩ := hc
    obtain ⟨x, hx⟩ := Option.ne_none_iff_exists'.1 c3
    have hm := List.mem_of_find?_eq_some hx
    have hh := hitL_iff.1 (List.find?_some hx)
    obtain ⟨k, z, hk1, hz, hlet⟩ := h.rem x hm
    rw [hh.1, hh.2] at hk1
    have hth := hnow
    unfold thruM at hth
    rw [if_neg c1, if_neg c2, hx] at hth
    dsimp only at hth
    have hw : u.wr = true → x.wr = true := by
      intro hw
      cases hxw : x.wr with
      | true => rfl
      | false => rw [hw, hxw] at hth; simp at hth
    have hat : x.at_ = u.at_ / 8 := by
      split at hth
      · exact absurd (show (5 : Int) = 0 from congrArg Prod.snd hth) (by decide)
      · exact congrArg Prod.fst hth
    have := hlet u.wr hw
    rw [hh.1, hh.2, hat] at this
    exact hhit k z hk1 hz this
/-- a line that is filled in is let be by the machine that it is filled in by. -/
theorem fresh_let {x : Mch} {d p : Int} {wr : Bool} (hd : inD d p) (h0 : x.b.mode ≠ 0) (h1 : x.b.mode ≠ 1) (h : (freshM x.m x.b d p wr).2.1 = true) : letL x (freshM x.m x.b d p wr).1 := by
  obtain ⟨q1, q2, q3, q4⟩ := fresh_line hd h
  intro w2 hw2
  rw [q2, q3]
  unfold thruM
  dsimp only
  rw [if_neg h0, if_neg h1, List.find?_nil]
  dsimp only
  rw [fresh_but]
  unfold freshM at h hw2 ⊢
  dsimp only at h hw2 ⊢
  split at h
  · rename_i g1
    rw [if_pos g1] at hw2 ⊢
    rw [if_pos g1]
    split at h
    · cases h
    · rename_i g2
      rw [if_neg g2] at hw2 ⊢
      rw [if_neg g2]
      split at h
      · rename_i g3
        rw [if_pos g3] at hw2 ⊢
        obtain ⟨e, e2, e3, e4⟩ := walkM_yes g3
        have : walkM x.m (cxR (rd x.m (x.b.base * 8 + d))) p w2 = leafM x.m (cxR (rd x.m (x.b.base * 8 + d))) p := by
          unfold walkM
          dsimp only
          rw [if_pos e2, if_pos]
          rw [e3]
          cases w2 with
          | false => rfl
          | true =>
            have := hw2 rfl
            simp only [] at this
            rw [e] at this
            simp [this]
        rw [this, e]
        rw [if_pos e2]
      · cases h
  · cases h
/-- what is remembered behind an ask within one page. -/
theorem ask_mem {x : Mch} {y : Hap} (h : doE x y = 0) (hk : y.kind = 3) (hp : OneP y.a) : ∀ l ∈ (doA x y).1.b.cache, l ∈ x.b.cache ∨ letL x l := by
  obtain ⟨ha, hd, h0, e⟩ := do_3 h hk
  have hc := (reqE_inv ha).1
  have hin := (d_in (a := y.a) (i := 0) ha (by omega)).1
  have hpg : dPage y.a 0 = y.a.at_ / 8 := by unfold dPage; simp
  rw [hpg] at hin
  obtain ⟨o1, o2⟩ := one_page (xs := x.m) (b := x.b) ha hp
  rw [dthru0] at o1 o2
  have hcc : (doA x y).1.b.cache = (thruM x.m x.b y.a.dev (y.a.at_ / 8) y.a.wr).1.cache := by
    rw [e]
    by_cases hf : (thruM x.m x.b y.a.dev (y.a.at_ / 8) y.a.wr).2.2 = 0
    · rw [(o2 hf).2.1]
    · rw [o1 hf]
      show (tellM x.m (dThru y.a 0 ⟨x.m, x.b, [], [], 0, -1⟩).1 _).2.cache = _
      rw [dthru0]
      unfold tellM
      split
      · rfl
      · split <;> rfl
  rw [hcc]
  intro l hl
  unfold thruM at hl
  split at hl
  · exact Or.inl hl
  · rename_i c0
    split at hl
    · exact Or.inl hl
    · rename_i c1
      split at hl
      · split at hl <;> exact Or.inl hl
      · rename_i cn
        dsimp only at hl
        split at hl
        · rename_i hfr
          dsimp only at hl
          by_cases hfe : fillE x.b.cache (freshM x.m x.b y.a.dev (y.a.at_ / 8) y.a.wr).1 = 0
          · rw [fillL_0 hfe, List.mem_append] at hl
            rcases hl with hl | hl
            · exact Or.inl (List.mem_of_mem_drop hl)
            · simp at hl; subst hl; exact Or.inr (fresh_let hin c0 c1 hfr)
          · rw [fillL_n rfl hfe] at hl; cases hl
        · exact Or.inl hl
theorem drp_goes {x : Mch} {l : Line} (h : obeyE x.m x.b = 0) (hr : rdoE (popV x.m x.b.orders) = 0) (hl : l ∈ (obeyM x.m x.b).cache) (hg : ckM x = 0) : l ∈ x.b.cache ∧ drpM x l.dev l.page = false := by
  have hs := obey_sub h hr hl
  refine ⟨hs.2, ?_⟩
  obtain ⟨h1, h2, h3, h4, h5⟩ := obeyE_inv h
  rw [ckB_iff] at h2
  have hk := (ord_rng hr).2
  unfold OrdR at hk
  unfold obeyM at hl
  rw [if_pos hr] at hl
  simp only [] at hl
  rw [dropL_0 (dropE_0 h2.2.1 (by omega)), List.mem_filter] at hl
  have hg2 := hl.2
  have hline := (((ckC_iff _).1 h2.2.1).2.2 l hl.1)
  have hlr : lineE ⟨l.dev, l.page, 0, true, false⟩ = 0 := by
    have := (lineE_inv hline).1
    unfold lineR at this
    unfold lineE lineR
    simp only []
    rw [if_pos (by omega)]
    rfl
  have hck : ckC [⟨l.dev, l.page, 0, true, false⟩] = 0 := by rw [ckC_one]; exact hlr
  unfold drpM
  rw [h5, h3, hr, dropE_0 hck (by omega), dropL_0 (dropE_0 hck (by omega))]
  have : goes (popV x.m x.b.orders % 4) (popV x.m x.b.orders / 4 % 8) (popV x.m x.b.orders / 32) ⟨l.dev, l.page, 0, true, false⟩ = false := by
    have : goes (popV x.m x.b.orders % 4) (popV x.m x.b.orders / 4 % 8) (popV x.m x.b.orders / 32) l = false := by simpa using hg2
    unfold goes at *
    exact this
  simp [this]
theorem drp_bad {x : Mch} {d p : Int} (hr : rdoE (popV x.m x.b.orders) ≠ 0) : drpM x d p = false := by
  unfold drpM; simp [hr]
/-- behind a happening. -/
def sinceN (past : List Mch) (x : Mch) (y : Hap) (since : Int → Int → Nat) (d p : Int) : Nat := if y.kind = 2 ∧ (0 ≤ d ∧ d < 8) ∧ (0 ≤ p ∧ p < 64) ∧ drpM x d p = true then past.length else since d p
theorem FairI.next {past : List Mch} {m : Mch} {since : Int → Int → Nat} (h : FairI past m since) {y : Hap} (hd : doE m y = 0) (hp : y.kind = 3 → OneP y.a) : FairI (past ++ [(doA m y).1]) (doA m y).1 (sinceN past m y since) := by
  have hck := do_ck hd
  have hlow : ∀ d p, sinceN past m y since d p < (past ++ [(doA m y).1]).length := by
    intro d p
    have := h.low d p
    unfold sinceN
    rw [List.length_append]
    split <;> simp <;> omega
  have hkeep : ∀ l ∈ m.b.cache, sinceN past m y since l.dev l.page = since l.dev l.page → ∃ (k : Nat) (z : Mch), sinceN past m y since l.dev l.page ≤ k ∧ (past ++ [(doA m y).1])[k]? = some z ∧ letL z l := by
    intro l hl e
    obtain ⟨k, z, hk1, hz, hlet⟩ := h.rem l hl
    refine ⟨k, z, by rw [e]; exact hk1, ?_, hlet⟩
    rw [List.getElem?_append_left (List.getElem?_eq_some_iff.1 hz).1]; exact hz
  have hother : y.kind ≠ 2 → ∀ d p, sinceN past m y since d p = since d p := fun hk d p => by unfold sinceN; rw [if_neg (fun hh => hk hh.1)]
  refine ⟨by rw [List.length_append]; simp, by simp, fun k x hx => ?_, fun l hl => ?_, hlow⟩
  · by_cases hk : k < past.length
    · rw [List.getElem?_append_left hk] at hx; exact h.ck k x hx
    · rw [List.getElem?_append_right (by omega)] at hx
      cases e : k - past.length with
      | zero => rw [e] at hx; injection hx with hx; subst hx; exact hck
      | succ j => rw [e] at hx; cases hx
  · by_cases k1 : y.kind = 1
    · rw [(held1_law hd k1).2] at hl
      exact hkeep l hl (hother (by omega) _ _)
    · by_cases k2 : y.kind = 2
      · obtain ⟨h0, he⟩ := doE_inv hd
        rw [hapE_2 k2] at he
        have e : (doA m y).1.b = obeyM m.m m.b := by unfold doA; rw [if_pos hd, hapM_2 k2]
        rw [e] at hl
        by_cases hr : rdoE (popV m.m m.b.orders) = 0
        · obtain ⟨hm, hdr⟩ := drp_goes he hr hl h0
          exact hkeep l hm (by unfold sinceN; rw [if_neg (fun hh => by rw [hdr] at hh; exact absurd hh.2.2.2 (by decide))])
        · have hcc : (obeyM m.m m.b).cache = m.b.cache := by unfold obeyM; rw [if_neg hr]
          rw [hcc] at hl
          exact hkeep l hl (by unfold sinceN; rw [if_neg (fun hh => by rw [drp_bad hr] at hh; exact absurd hh.2.2.2 (by decide))])
      · by_cases k3 : y.kind = 3
        · rcases ask_mem hd k3 (hp k3) l hl with hm | hlet
          · exact hkeep l hm (hother k2 _ _)
          · refine ⟨past.length - 1, m, ?_, ?_, hlet⟩
            · rw [hother k2]; have := h.low l.dev l.page; omega
            · have := h.pos
              rw [List.getElem?_append_left (by omega)]; exact h.last
        · obtain ⟨k4, _, _, _, _, _⟩ := held4_law hd k1 k2 k3
          have e : (doA m y).1.b.cache = m.b.cache.eraseIdx y.n.toNat := by unfold doA; rw [if_pos hd, hapM_4 k4]
          rw [e] at hl
          exact hkeep l (erase_mem hl) (hother k2 _ _)
end
/-! The laws' own 'short': an ask within one page. No statement of the seat is proved here. -/
section
open Go.RowKit
set_option linter.unusedSimpArgs false
set_option linter.unusedVariables false
attribute [local go_sem ↓] Go.wp_at_zero Go.wp_at_succ
theorem results_1s {P : Program} {fn : Func} {p : Tmp} {ty : TypeId} {tmps : Array Value} {w : World} {a : Addr} {v1 : Value} (h : fn.results = #[.cell p ty]) (hp : tmps.getD p undef = .pointer (some a)) (e1 : (loadVar ty a).run P w = .ok v1 w) : (results fn tmps).run P w = .ok v1 w := by
  have hp' : tmps[p]?.getD undef = .pointer (some a) := by simpa using hp
  simp [results, h, hp', asAddr, e1]
theorem slice_hiS (A : Option Addr) (n c k : Nat) (hk : k ≤ c) (hc : n ≤ c) :
    ∀ w, (Instr.slice 22 (.slice A n c) none (some (.int .i64 (k : Int))) none).run Try.prog w = .ok (.slice A k c) w := by
  intro w
  have h1 : (0 : Int) ≤ (k : Int) := by omega
  have h2 : (k : Int) ≤ (c : Int) := by omega
  simp [go_sem, h1, h2]
theorem ints_takeS {w : World} {B n k : Nat} {A : Option Addr} {xs : List Int} (h : Ints w B A n xs) (hk : k ≤ n) : Ints w B A k (xs.take k) := by
  refine ⟨by rw [List.length_take, h.1]; omega, Nat.le_trans hk h.2.1, fun h0 => ?_⟩
  have hk0 : 0 < k := by rw [List.length_map, List.length_take] at h0; omega
  obtain ⟨b, off, e, hb, hc⟩ := h.2.2 (by rw [List.length_map, h.1]; omega)
  refine ⟨b, off, e, hb, fun j v hv => hc j v ?_⟩
  rw [List.getElem?_map, List.getElem?_take] at hv
  rw [List.getElem?_map]
  split at hv
  · exact hv
  · simp at hv
theorem short_low {a : Ask} (h : a.at_ < 0 ∨ a.count < 1) : shortA a = a := by unfold shortA; rw [if_pos h]
theorem short_high {a : Ask} {m : Nat} {k : Nat} (h1 : ¬ a.at_ < 0) (h2 : ¬ a.count < 1) (hm : min a.count (8 - a.at_ % 8) = (m : Int)) (hk : k = min a.data.length m) : shortA a = ⟨a.dev, a.at_, m, a.wr, if a.wr then a.data.take k else a.data⟩ := by
  unfold shortA
  rw [if_neg (fun h => h.elim h1 h2), hm, hk]
  simp
set_option maxRecDepth 100000 in
set_option maxHeartbeats 4000000 in
theorem law_short (a : Ask) (A : Option Addr) (n c : Nat) (w : World) (hd : Ints w w.heap.size A n a.data) (hcap : n ≤ c ∧ c ≤ 9223372036854775807) :
    Calls Try.prog 9 #[.agg #[.int .i64 a.dev, .int .i64 a.at_, .int .i64 a.count, .bool a.wr, .slice A n c]] w fun e w' => ∃ k d, e = .returned (.agg #[.int .i64 (shortA a).dev, .int .i64 (shortA a).at_, .int .i64 (shortA a).count, .bool (shortA a).wr, .slice A k d]) ∧ Ints w' w'.heap.size A k (shortA a).data ∧ (k ≤ d ∧ d ≤ 9223372036854775807) ∧ Below w.heap.size w w' := by
  have HD := Lib.hid hd
  have hln : a.data.length = n := hd.1
  obtain ⟨hc1, hc2⟩ := hcap
  clear hd
  go_enter Try.func9, Try.ntmps9
  go_upto_region 1 with (fail)
  generalize hw0 : (w.alloc (.cells #[.int .i64 a.dev, .int .i64 a.at_, .int .i64 a.count, .bool a.wr, .slice A n c] 35)).alloc (.cells #[.int .i64 0, .int .i64 0, .int .i64 0, .bool false, .slice none 0 0] 35) = w0
  have H0 := Lib.hid (show Whl w0 w.heap.size 35 #[.int .i64 a.dev, .int .i64 a.at_, .int .i64 a.count, .bool a.wr, .slice A n c] by rw [← hw0]; exact whl_alloc (whl_new _ _ _ rfl) _)
  have HZ := Lib.hid (show Whl w0 (w.heap.size + 1) 35 #[.int .i64 0, .int .i64 0, .int .i64 0, .bool false, .slice none 0 0] by rw [← hw0]; exact whl_new _ _ _ (by simp))
  have HB := Lib.hid (show Below w.heap.size w w0 by rw [← hw0]; (repeat (first | (with_reducible exact Below.refl _ _) | (with_reducible refine Below.drew ?_) | (with_reducible refine bdrewN ?_ _) | ((with_reducible refine Below.setCell ?_ ?_ _); rotate_left; exact (by first | (simp; done) | (simp; omega) | omega)) | ((with_reducible refine Below.alloc ?_ ?_ _); rotate_left; exact (by first | (simp; done) | (simp; omega) | omega)))))
  have hz0a : w0.heap.size ≤ w.heap.size + 2 := by rw [← hw0]; simp
  have hz0b : w.heap.size + 2 ≤ w0.heap.size := by rw [← hw0]; simp
  clear hw0
  by_cases h1 : a.at_ < 0
  · have e := short_low (a := a) (Or.inl h1)
    have HS := Lib.hid e
    have f0 := fun o => whl_cell H0.out o
    clear e hln
    go_upto_region 2 with (fail)
    clear f0
    go_wp2_with (first | (refine wpList_load_whl rfl 35 (.tmp 1) rfl (w.heap.size) _ _ rfl H0.out _ Try.underlying35 rfl Try.sizeAsk ?_) | (refine wpList_store_all rfl 35 (.tmp 2) (.tmp 11) rfl (w.heap.size + 1) _ _ #[.int .i64 a.dev, .int .i64 a.at_, .int .i64 a.count, .bool a.wr, .slice A n c] rfl rfl HZ.out Try.sizeAsk rfl rfl ?_; intro w9 h9 t9))
    have HE := Lib.hid (below_trn HB.out HB.out.size t9 (by omega))
    have H9 := Lib.hid h9
    clear h9 t9
    go_wp2
    refine bodyPost_ret (v := .agg #[.int .i64 a.dev, .int .i64 a.at_, .int .i64 a.count, .bool a.wr, .slice A n c]) ?_ rfl ⟨n, c, by rw [HS.out], by rw [HS.out]; exact ints_now HD.out HE.out, ⟨hc1, hc2⟩, HE.out⟩
    exact results_1s Try.results9 rfl (run_whl H9.out _ Try.underlying35 rfl Try.sizeAsk)
  by_cases h2 : a.count < 1
  · have e := short_low (a := a) (Or.inr h2)
    have HS := Lib.hid e
    have h3 : 0 ≤ a.at_ := by omega
    have f0 := fun o => whl_cell H0.out o
    clear e hln h1
    go_upto_region 2 with (fail)
    clear f0
    go_wp2_with (first | (refine wpList_load_whl rfl 35 (.tmp 1) rfl (w.heap.size) _ _ rfl H0.out _ Try.underlying35 rfl Try.sizeAsk ?_) | (refine wpList_store_all rfl 35 (.tmp 2) (.tmp 11) rfl (w.heap.size + 1) _ _ #[.int .i64 a.dev, .int .i64 a.at_, .int .i64 a.count, .bool a.wr, .slice A n c] rfl rfl HZ.out Try.sizeAsk rfl rfl ?_; intro w9 h9 t9))
    have HE := Lib.hid (below_trn HB.out HB.out.size t9 (by omega))
    have H9 := Lib.hid h9
    clear h9 t9
    go_wp2
    refine bodyPost_ret (v := .agg #[.int .i64 a.dev, .int .i64 a.at_, .int .i64 a.count, .bool a.wr, .slice A n c]) ?_ rfl ⟨n, c, by rw [HS.out], by rw [HS.out]; exact ints_now HD.out HE.out, ⟨hc1, hc2⟩, HE.out⟩
    exact results_1s Try.results9 rfl (run_whl H9.out _ Try.underlying35 rfl Try.sizeAsk)
  have h3 : 0 ≤ a.at_ := by omega
  have h4 : 1 ≤ a.count := by omega
  obtain ⟨mn, hm⟩ : ∃ mn : Nat, min a.count (8 - a.at_ % 8) = (mn : Int) := ⟨(min a.count (8 - a.at_ % 8)).toNat, by omega⟩
  obtain ⟨k, hk⟩ : ∃ k : Nat, k = min n mn := ⟨_, rfl⟩
  have hs := short_high (a := a) h1 h2 hm (k := k) (by rw [hln]; exact hk)
  have HS := Lib.hid hs
  have HM := Lib.hid hm
  have HK := Lib.hid hk
  have hm1 : 1 ≤ mn ∧ mn ≤ 8 := by omega
  clear hs hk hln
  have f0 := fun o => whl_cell H0.out o
  go_upto_region 3 with (fail)
  go_cut [2] (fun s2 wd => s2 = .pointer (some ⟨w.heap.size + 1, 0, none⟩) ∧ Whl wd w.heap.size 35 #[.int .i64 a.dev, .int .i64 a.at_, .int .i64 (mn : Int), .bool a.wr, .slice A n c] ∧ Trn w.heap.size w0 wd)
  case first =>
    by_cases hle : a.count ≤ 8 - a.at_ % 8
    · have HV := Lib.hid (show a.count = (mn : Int) by omega)
      clear hm hm1
      go_wp2_with (refine wpList_store_cell rfl 3 (.tmp 19) (.tmp 18) rfl w.heap.size 2 _ _ #[.int .i64 a.dev, .int .i64 a.at_, .int .i64 a.count, .bool a.wr, .slice A n c] (.int .i64 a.count) rfl rfl H0.out Try.sizeInt (of_decide_eq_true rfl) rfl rfl ?_; intro w1 k1 t1)
      go_meet
      exact ⟨rfl, by rw [← HV.out]; exact k1, t1⟩
    · have hV : 8 - a.at_ % 8 = (mn : Int) := by omega
      have hle' : ¬ a.count ≤ (mn : Int) := by omega
      clear hm hm1 hle
      go_wp2_with (refine wpList_store_cell rfl 3 (.tmp 19) (.tmp 18) rfl w.heap.size 2 _ _ #[.int .i64 a.dev, .int .i64 a.at_, .int .i64 (mn : Int), .bool a.wr, .slice A n c] (.int .i64 (mn : Int)) rfl rfl H0.out Try.sizeInt (of_decide_eq_true rfl) rfl rfl ?_; intro w1 k1 t1)
      go_meet
      exact ⟨rfl, k1, t1⟩
  case rest =>
  obtain ⟨rfl, g1, t1⟩ := hcut
  have hz1 := t1.2
  have hz1a : wc.heap.size ≤ w0.heap.size := Nat.le_of_eq hz1
  have hz1b : w0.heap.size ≤ wc.heap.size := Nat.le_of_eq hz1.symm
  replace H0 := Lib.hid g1
  replace HZ := Lib.hid (whl_trn HZ.out t1 (by omega))
  replace HB := Lib.hid (below_trn HB.out HB.out.size t1 (Nat.le_refl _))
  clear g1 t1 hz1 f0 hm
  by_cases hw : a.wr = true
  rotate_left
  · have hw' : a.wr = false := by simpa using hw
    have HW := Lib.hid hw'
    replace H0 := Lib.hid (show Whl wc w.heap.size 35 #[.int .i64 a.dev, .int .i64 a.at_, .int .i64 (mn : Int), .bool false, .slice A n c] by rw [← HW.out]; exact H0.out)
    clear hw hw'
    have f0 := fun o => whl_cell H0.out o
    go_upto_region 6 with (fail)
    clear f0
    go_wp2_with (first | (refine wpList_load_whl rfl 35 (.tmp 1) rfl (w.heap.size) _ _ rfl H0.out _ Try.underlying35 rfl Try.sizeAsk ?_) | (refine wpList_store_all rfl 35 (.tmp 2) (.tmp 32) rfl (w.heap.size + 1) _ _ #[.int .i64 a.dev, .int .i64 a.at_, .int .i64 (mn : Int), .bool false, .slice A n c] rfl rfl HZ.out Try.sizeAsk rfl rfl ?_; intro w9 h9 t9))
    have HE := Lib.hid (below_trn HB.out HB.out.size t9 (by omega))
    have H9 := Lib.hid h9
    clear h9 t9
    go_wp2
    refine bodyPost_ret (v := .agg #[.int .i64 a.dev, .int .i64 a.at_, .int .i64 (mn : Int), .bool false, .slice A n c]) ?_ rfl ⟨n, c, by rw [HS.out, HW.out], by rw [HS.out, HW.out]; exact ints_now HD.out HE.out, ⟨hc1, hc2⟩, HE.out⟩
    exact results_1s Try.results9 rfl (run_whl H9.out _ Try.underlying35 rfl Try.sizeAsk)
  have HW := Lib.hid hw
  replace H0 := Lib.hid (show Whl wc w.heap.size 35 #[.int .i64 a.dev, .int .i64 a.at_, .int .i64 (mn : Int), .bool true, .slice A n c] by rw [← HW.out]; exact H0.out)
  clear hw
  have f0 := fun o => whl_cell H0.out o
  by_cases hnm : (n : Int) ≤ (mn : Int)
  · have hkn : k = n := by have := HK.out; omega
    subst hkn
    have hsl := slice_hiS A k c k hc1 hc1
    go_upto_region 6 with (refine wpList_store_cell rfl 22 (.tmp 31) (.tmp 30) rfl w.heap.size 4 _ _ #[.int .i64 a.dev, .int .i64 a.at_, .int .i64 (mn : Int), .bool true, .slice A k c] (.slice A k c) rfl rfl H0.out Try.sizeInts (of_decide_eq_true rfl) rfl rfl ?_; intro w2 h2 t2)
    have hz2 := t2.2
    have hz2a : w2.heap.size ≤ wc.heap.size := Nat.le_of_eq hz2
    have hz2b : wc.heap.size ≤ w2.heap.size := Nat.le_of_eq hz2.symm
    replace H0 := Lib.hid h2
    replace HZ := Lib.hid (whl_trn HZ.out t2 (by omega))
    replace HB := Lib.hid (below_trn HB.out HB.out.size t2 (Nat.le_refl _))
    clear h2 t2 hz2 f0 hsl
    go_wp2_with (first | (refine wpList_load_whl rfl 35 (.tmp 1) rfl (w.heap.size) _ _ rfl H0.out _ Try.underlying35 rfl Try.sizeAsk ?_) | (refine wpList_store_all rfl 35 (.tmp 2) (.tmp 32) rfl (w.heap.size + 1) _ _ #[.int .i64 a.dev, .int .i64 a.at_, .int .i64 (mn : Int), .bool true, .slice A k c] rfl rfl HZ.out Try.sizeAsk rfl rfl ?_; intro w9 h9 t9))
    have HE := Lib.hid (below_trn HB.out HB.out.size t9 (by omega))
    have H9 := Lib.hid h9
    clear h9 t9
    go_wp2
    refine bodyPost_ret (v := .agg #[.int .i64 a.dev, .int .i64 a.at_, .int .i64 (mn : Int), .bool true, .slice A k c]) ?_ rfl ⟨k, c, by rw [HS.out, HW.out], by rw [HS.out, HW.out]; exact ints_takeS (ints_now HD.out HE.out) (Nat.le_refl _), ⟨hc1, hc2⟩, HE.out⟩
    exact results_1s Try.results9 rfl (run_whl H9.out _ Try.underlying35 rfl Try.sizeAsk)
  · have hkn : k = mn := by have := HK.out; omega
    subst hkn
    have hkl : k ≤ n := by omega
    have hsl := slice_hiS A n c k (by omega) hc1
    go_upto_region 6 with (refine wpList_store_cell rfl 22 (.tmp 31) (.tmp 30) rfl w.heap.size 4 _ _ #[.int .i64 a.dev, .int .i64 a.at_, .int .i64 (k : Int), .bool true, .slice A k c] (.slice A k c) rfl rfl H0.out Try.sizeInts (of_decide_eq_true rfl) rfl rfl ?_; intro w2 h2 t2)
    have hz2 := t2.2
    have hz2a : w2.heap.size ≤ wc.heap.size := Nat.le_of_eq hz2
    have hz2b : wc.heap.size ≤ w2.heap.size := Nat.le_of_eq hz2.symm
    replace H0 := Lib.hid h2
    replace HZ := Lib.hid (whl_trn HZ.out t2 (by omega))
    replace HB := Lib.hid (below_trn HB.out HB.out.size t2 (Nat.le_refl _))
    clear h2 t2 hz2 f0 hsl
    go_wp2_with (first | (refine wpList_load_whl rfl 35 (.tmp 1) rfl (w.heap.size) _ _ rfl H0.out _ Try.underlying35 rfl Try.sizeAsk ?_) | (refine wpList_store_all rfl 35 (.tmp 2) (.tmp 32) rfl (w.heap.size + 1) _ _ #[.int .i64 a.dev, .int .i64 a.at_, .int .i64 (k : Int), .bool true, .slice A k c] rfl rfl HZ.out Try.sizeAsk rfl rfl ?_; intro w9 h9 t9))
    have HE := Lib.hid (below_trn HB.out HB.out.size t9 (by omega))
    have H9 := Lib.hid h9
    clear h9 t9
    go_wp2
    refine bodyPost_ret (v := .agg #[.int .i64 a.dev, .int .i64 a.at_, .int .i64 (k : Int), .bool true, .slice A k c]) ?_ rfl ⟨k, c, by rw [HS.out, HW.out], by rw [HS.out, HW.out]; exact ints_takeS (ints_now HD.out HE.out) hkl, ⟨by omega, hc2⟩, HE.out⟩
    exact results_1s Try.results9 rfl (run_whl H9.out _ Try.underlying35 rfl Try.sizeAsk)
end
/-! What is known of the data of asks that are handed in: not longer than there is room. No statement of the seat is proved here. -/
section
open Go.RowKit
set_option linter.unusedSimpArgs false
set_option linter.unusedVariables false
open Go.ChangeShapes Go.WideShapes Go.ChangeAt
section
variable {H : Type} {enc : TypeId × Value → H} {w : World} {base : Nat} {spare : Nat → Bool} {held : Bool} {fuel : Nat} {cs : List Value} {x : DataW H × List MemPlace}
theorem trod_ints_cap (h : DataW.trod enc Try.prog w base (fun _ => true) held fuel 22 cs = some x) : ∀ D n c, cs = [.slice D n c] → n ≤ c ∧ c ≤ 9223372036854775807 := by
  rcases open_ints Try.underlying22 Try.underlying3 Try.c3 h with ⟨hcs, _⟩ | ⟨a, len, cap, zs, hcs, _, hl, hm, hz, _, hc, _⟩
  · intro D n c e
    rw [hcs] at e
    simp at e
    omega
  · intro D n c e
    rw [hcs] at e
    simp at e
    unfold maxLen at hm
    omega
set_option maxRecDepth 100000 in
theorem trod_ask_cap (h : DataW.trod enc Try.prog w base (fun _ => true) held fuel 35 cs = some x) : ∀ D n c, cs[4]? = some (.slice D n c) → n ≤ c ∧ c ≤ 9223372036854775807 := by
  obtain ⟨hl, n, hf⟩ := trod_field Try.underlying35 h
  rw [Try.cAsk] at hl
  match cs, hl with
  | [c0, c1, c2, c3, c4], _ =>
    obtain ⟨y4, h4⟩ := hf 4 _ rfl
    intro D n c e
    exact trod_ints_cap (by simpa [Try.cInts] using h4) D n c (by simpa using e)
set_option maxRecDepth 100000 in
theorem trod_hap_cap (h : DataW.trod enc Try.prog w base (fun _ => true) held fuel 46 cs = some x) : ∀ D n c, cs[6]? = some (.slice D n c) → n ≤ c ∧ c ≤ 9223372036854775807 := by
  obtain ⟨hl, n, hf⟩ := trod_field Try.underlying46 h
  rw [Try.cHap] at hl
  match cs, hl with
  | [c0, c1, c2, c3, c4, c5, c6], _ =>
    obtain ⟨y2, h2⟩ := hf 2 _ rfl
    intro D n c e
    exact trod_ask_cap (by simpa [Try.cAsk] using h2) D n c (by simpa using e)
end
/-- a slice of happenings, the data of each not longer than there is room. -/
def HapsC (w : World) (A : Option Addr) (n : Nat) : Prop := ∀ b off, A = some ⟨b, off, none⟩ → ∀ k, k < n → ∀ D nd cd, w.cell? ⟨b, off + k * 7 + 6, none⟩ = some (.slice D nd cd) → nd ≤ cd ∧ cd ≤ 9223372036854775807
set_option maxRecDepth 100000 in
theorem open_hapsC {H : Type} {enc : TypeId × Value → H} {W : World} {b0 : Nat} {v : Value} {d : DataW H} {p : List MemPlace} (hv : Value.okWide Try.prog W .any b0 53 v) (h : DataW.Trod enc Try.prog W 0 (fun _ => true) true 53 v d p) :
    ∃ A n c hs, v = .slice A n c ∧ Haps W W.heap.size A n c hs ∧ HapsC W A n := by
  obtain ⟨A, n, c, hs, rfl, hH⟩ := open_haps hv h
  refine ⟨A, n, c, hs, rfl, hH, ?_⟩
  obtain ⟨m, h⟩ := h
  intro b off e k hk D nd cd hc
  rcases DataW.trod_slice Try.underlying53 h with ⟨hcs, _⟩ | ⟨a, len, cap, elems, rest, n', _, hcs, _, hb, hl, hm, he, hel, _⟩
  · simp only [Value.cells, List.cons.injEq, and_true] at hcs
    injection hcs with h1 h2 h3
    omega
  · simp only [Value.cells, List.cons.injEq, and_true] at hcs
    injection hcs with h1 h2 h3
    subst h2 h3
    have hae : a = ⟨b, off, none⟩ := by rw [e] at h1; injection h1 with h1; exact h1.symm
    subst hae
    have h1 := hel k hk
    rw [Try.cHap, List.getElem?_eq_getElem (by omega), Option.bind_eq_some_iff] at h1
    obtain ⟨cs', g2, g3⟩ := h1
    obtain ⟨hl7, _, hcc⟩ := World.cells?_some g2
    have h6 := hcc 6 (by decide)
    rw [Go.WideShapes.add_plain, Go.WideShapes.add_plain, hc] at h6
    exact trod_hap_cap g3 D nd cd h6.symm
set_option maxRecDepth 100000 in
theorem open_askC {H : Type} {enc : TypeId × Value → H} {W : World} {b0 : Nat} {v : Value} {d : DataW H} {p : List MemPlace} (hv : Value.okWide Try.prog W .any b0 35 v) (h : DataW.Trod enc Try.prog W 0 (fun _ => true) true 35 v d p) :
    ∃ (a : Ask) (D : Option Addr) (n c : Nat), v = .agg #[.int .i64 a.dev, .int .i64 a.at_, .int .i64 a.count, .bool a.wr, .slice D n c] ∧ Ints W W.heap.size D n a.data ∧ n ≤ c ∧ c ≤ 9223372036854775807 := by
  obtain ⟨cs, n, rfl, g⟩ := open_cells Try.underlying35 hv h
  obtain ⟨a, D, m, c, e, hD⟩ := trod_ask g
  have hcap := trod_ask_cap g D m c (by rw [e]; rfl)
  obtain ⟨cs⟩ := cs
  simp only [] at e
  subst e
  exact ⟨a, D, m, c, rfl, hD, hcap⟩
end
/-! Steps of regions that draw their order: whole blocks loaded, made, stored; calls. No statement of the seat is proved here. -/
section
open Go.RowKit
set_option linter.unusedSimpArgs false
set_option linter.unusedVariables false
theorem take_atR {P : Program} {ops : Array Oper} {Q : Exit → Act → World → Prop} {md : Region.Mode} {S : World → Prop} {i : Nat} {d : Tmp} {oi : Oper} {v : Value} {fuel : Nat} {listed : Array Bool} {a : Act} {w : World} (hi : ops[i]? = some oi) (hd : oi.dst = some d)
    (hs : Region.noSelect ops = true) (hf : Region.free md ops listed i = true) (hr : (Region.ready md ops listed).contains i = true)
    (hQ : ∀ c a w, Q (.panic c) (a.put oi.dst v) w → Q (.panic c) a w) (hy : YieldsIf P ops S oi v a) (hS : S w)
    (h : wpAnyH P md ops Q S fuel (listed.setIfInBounds i true) (a.put (some d) v) w) : wpAnyH P md ops Q S (fuel + 1) listed a w := by
  rw [← hd] at h
  exact wpAnyH_take hi hs hf hr hQ hy hS h
theorem yld_whl {P : Program} {S : World → Prop} {op : Oper} {a : Act} (ty : TypeId) (x : Operand) (g : Nat) (t : TypeId) (cs : Array Value) (ho : op.op = .load ty x) (hx : a.eval x = .pointer (some ⟨g, 0, none⟩)) (hS : ∀ W, S W → Whl W g t cs) (d : TypeDesc) (hu : P.underlying ty = some d) (hd : d.isRow = true) (hi : (P.info? ty).map (·.size) = some cs.size) :
    ∀ W, S W → (execOp a.eval op).run P W = .ok (.value (.agg cs)) W := fun W hW => by
  have h1 : W.rangeAt g 0 cs.toList := fun j v hv => by
    rw [whl_cell (hS W hW), Nat.zero_add]; simpa using hv
  have h2 := run_loadVar_mid (P := P) W g 0 ty cs.toList d h1 hu hd (by rw [hi, Array.length_toList])
  rw [Array.toArray_toList] at h2
  unfold execOp
  simp only [ho, hx, Instr.loadAt, Instr.sureAddr, Sem.run_bind, Sem.run_pure, Result.andThen_ok, h2]
theorem yld_run {P : Program} {op : Oper} {a : Act} {i : Sem Value} {v : Value} {w w' : World} (ho : execOp a.eval op = (do let x ← i; pure (.value x))) (h : i.run P w = .ok v w') : (execOp a.eval op).run P w = .ok (.value v) w' := by
  rw [ho]
  simp only [Sem.run_bind, Sem.run_pure, h, Result.andThen_ok]
theorem wp_callR {P : Program} {o : Oper} {a : Act} {w : World} {K : Act → World → Prop} {Q : Exit → Act → World → Prop} (f : FuncId) (args : Array Value) (hr : (execOp a.eval o).run P w = .ok (.enter f args) w) (d : Tmp) (hd : o.dst = some d) (h : Calls P f args w fun e w' => ∃ v, e = .returned v ∧ K (a.put (some d) v) w') : Oper.wp P o a w K Q := by
  rw [← hd] at h
  unfold Oper.wp
  rw [hr, Oper.upon_enter]
  refine h.mono ?_
  rintro e w' ⟨v, rfl, hK⟩
  exact hK
theorem wp_allocR {P : Program} {o : Oper} {a : Act} {w : World} {K : Act → World → Prop} {Q : Exit → Act → World → Prop} (ty : TypeId) (ho : o.op = .alloc ty) (p : Value) (w' : World) (hr : (Instr.alloc ty true (.tuple #[])).run P w = .ok p w') (d : Tmp) (hd : o.dst = some d) (h : K (a.put (some d) p) w') : Oper.wp P o a w K Q := by
  rw [← hd] at h
  unfold Oper.wp execOp
  simp only [ho, Sem.run_bind, Sem.run_pure, hr, Result.andThen_ok]
  exact h
theorem wp_storeR {P : Program} {o : Oper} {a : Act} {w : World} {K : Act → World → Prop} {Q : Exit → Act → World → Prop} (ty : TypeId) (x y : Operand) (ho : o.op = .store ty x y) (g : Nat) (t : TypeId) (old cells : Array Value) (hx : a.eval x = .pointer (some ⟨g, 0, none⟩)) (hy : a.eval y = .agg cells) (hg : Whl w g t old)
    (hi : (P.info? ty).map (·.size) = some cells.size) (hold : old.size = cells.size) (h1 : cells.toList.all (·.oneCell') = true) (hn : setL old 0 cells.toList = cells) (hd : o.dst = none) (h : ∀ w', Whl w' g t cells → Trn g w w' → K a w') : Oper.wp P o a w K Q :=
  wp_store_mid ty x y ho g 0 cells hx hy (whl_there hg (by omega)) hi (by rw [← Array.all_toList]; exact h1) (by rw [hd]; exact h _ (by have h2 := whl_cells cells.toList 0 w old hg; rw [hn] at h2; exact h2) (trn_cells cells.toList 0 w (whl_lt hg)))
end
/-! The law MachineFair: how memory stands: the machines that were, since when a page may be remembered. No statement of the seat is proved here. -/
section
open Go.RowKit
set_option linter.unusedSimpArgs false
set_option linter.unusedVariables false
open Go.Maps
/-- one of the machines that were, with its rows. -/
structure Mle where
  x : Mch
  M : Option Addr
  nm : Nat
  mc : Nat
  R : Option Addr
  nr : Nat
  rc : Nat
  L : Option Addr
  n : Nat
  c : Nat
def Mle.vals (e : Mle) : List Value := [.slice e.M e.nm e.mc, .int .i64 e.x.h.at_, .slice e.R e.nr e.rc, .bool e.x.h.done, .int .i64 e.x.b.mode, .int .i64 e.x.b.base, .slice e.L e.n e.c, .int .i64 e.x.b.orders.page, .int .i64 e.x.b.orders.head, .int .i64 e.x.b.orders.tail, .bool e.x.b.stopped, .int .i64 e.x.b.fences, .int .i64 e.x.b.faults.page, .int .i64 e.x.b.faults.head, .int .i64 e.x.b.faults.tail, .bool e.x.b.lost]
def mcells (es : List Mle) : List Value := es.flatMap Mle.vals
theorem mcells_len : ∀ es : List Mle, (mcells es).length = es.length * 16
  | [] => rfl
  | x :: r => by unfold mcells; rw [List.flatMap_cons, List.length_append]; have := mcells_len r; unfold mcells at this; rw [this]; simp [Mle.vals]; omega
theorem mcells_snoc (es : List Mle) (e : Mle) : mcells (es ++ [e]) = mcells es ++ e.vals := by unfold mcells; rw [List.flatMap_append]; simp
theorem mcells_at : ∀ (ls : List Mle) (k : Nat) (x : Mle) (j : Nat), ls[k]? = some x → j < 16 → (mcells ls)[k * 16 + j]? = x.vals[j]?
  | [], k, x, j, h, _ => by simp at h
  | y :: r, 0, x, j, h, hj => by
    simp at h; subst h
    unfold mcells
    rw [List.flatMap_cons, List.getElem?_append_left (by simp [Mle.vals]; omega)]
    simp
  | y :: r, k + 1, x, j, h, hj => by
    simp at h
    unfold mcells
    rw [List.flatMap_cons, List.getElem?_append_right (by simp [Mle.vals]; omega)]
    have := mcells_at r k x j h hj
    unfold mcells at this
    rw [← this]; congr 1; simp [Mle.vals]; omega
theorem mle_one (e : Mle) : ∀ u ∈ e.vals, u.oneCell' = true := by
  intro u hu
  simp only [Mle.vals, List.mem_cons, List.not_mem_nil, or_false] at hu
  rcases hu with rfl | rfl | rfl | rfl | rfl | rfl | rfl | rfl | rfl | rfl | rfl | rfl | rfl | rfl | rfl | rfl <;> rfl
def OwnM (B : Nat) (w : World) (A : Option Addr) (n c : Nat) (es : List Mle) : Prop := es.length = n ∧ n ≤ c ∧ c ≤ maxLen ∧ w.ownsRow B 33 16 (.slice A n c) n (mcells es)
section
variable {w w' : World} {B n c : Nat} {A : Option Addr} {es : List Mle}
theorem OwnM.chg {P : Nat → Prop} (h : OwnM B w A n c es) (hC : Chg P w w') (hn : ∀ ad, A = some ad → ¬ P ad.block) : OwnM B w' A n c es := ⟨h.1, h.2.1, h.2.2.1, chg_owns h.2.2.2 hC hn⟩
theorem own_capM {e : TypeId} {s n c : Nat} {xs : List Value} (h : w.ownsRow B e s (.slice A n c) n xs) : n ≤ c ∧ c ≤ maxLen := by
  rcases own_form h with ⟨hv, h0⟩ | ⟨g, cap, hv, h1, h2, _⟩
  · injection hv with _ _ h3; subst h3; omega
  · injection hv with _ _ h3; subst h3; exact ⟨h1, h2⟩
theorem ownM_one {g : Nat} {e : Mle} (hw : Whl w g 33 e.vals.toArray) (hB : B ≤ g) : OwnM B w (some ⟨g, 0, none⟩) 1 1 [e] :=
  ⟨rfl, Nat.le_refl _, by unfold maxLen; omega, rfl, Or.inr ⟨g, 1, e.vals.toArray, rfl, hB, hw, Nat.le_refl _, by unfold maxLen; omega, rfl, rfl⟩⟩
theorem machs_of {Av : Nat → Prop} (h : OwnM B w A n c es) (ht : ∀ e ∈ es, MachV w Av e.x e.M e.nm e.R e.nr e.L e.n e.c) : Machs w w.heap.size A n c (es.map (·.x)) :=
  ⟨by rw [List.length_map, h.1], h.2.1, h.2.2.1, fun hn => by
    obtain ⟨b, off, e, hb, hc⟩ := Row.of_own h.2.2.2 (by rw [mcells_len, h.1]; omega)
    refine ⟨b, off, e, hb, fun k x hx => ?_⟩
    rw [List.getElem?_map, Option.map_eq_some_iff] at hx
    obtain ⟨y, hy, rfl⟩ := hx
    have hv := ht y (List.mem_of_getElem? hy)
    have q : ∀ (j : Nat) (v : Value), j < 16 → y.vals[j]? = some v → w.cell? ⟨b, off + k * 16 + j, none⟩ = some v := fun j v hj e => by
      rw [Nat.add_assoc]; exact hc _ _ ((mcells_at es k y j hy hj).trans e)
    exact ⟨y.M, y.nm, y.mc, y.R, y.nr, y.rc, y.L, y.n, y.c, ⟨q 0 _ (by decide) rfl, q 1 _ (by decide) rfl, q 2 _ (by decide) rfl, q 3 _ (by decide) rfl, q 4 _ (by decide) rfl, q 5 _ (by decide) rfl, q 6 _ (by decide) rfl, q 7 _ (by decide) rfl, q 8 _ (by decide) rfl, q 9 _ (by decide) rfl, q 10 _ (by decide) rfl, q 11 _ (by decide) rfl, q 12 _ (by decide) rfl, q 13 _ (by decide) rfl, q 14 _ (by decide) rfl, q 15 _ (by decide) rfl⟩, hv.hm, hv.hr, hv.hl⟩⟩
end
theorem Try.arrP : Go.WideMaps.ArrKey Try.prog 60 3 2 := ⟨Try.underlying60, by kernel_rfl, by kernel_rfl, by kernel_rfl⟩
theorem Try.keyP : Keyed Try.prog 60 := Keyed.of_law Try.arrP.law
/-- the key of a page of a device. -/
def kyP (d p : Int) : Lit := .string (keyBytes [.int .i64 d, .int .i64 p])
theorem Try.kyP_of {d p : Int} (hd : 0 ≤ d ∧ d < 64) (hp : 0 ≤ p ∧ p < 64) : keyOf Try.prog 60 (.agg #[.int .i64 d, .int .i64 p]) = some (kyP d p) :=
  Go.WideMaps.keyOf_pair Try.arrP Try.underlying3 ⟨Try.prog.types.size - 1, by kernel_rfl⟩ (WalkArith.wf_i64 (by omega)) (WalkArith.wf_i64 (by omega))
theorem Try.kyP_inj {d p d' p' : Int} (hd : 0 ≤ d ∧ d < 64) (hp : 0 ≤ p ∧ p < 64) (hd' : 0 ≤ d' ∧ d' < 64) (hp' : 0 ≤ p' ∧ p' < 64) (h : kyP d p = kyP d' p') : d = d' ∧ p = p' := by
  have h1 := Try.kyP_of hd hp
  have h2 := Try.kyP_of hd' hp'
  rw [← h] at h2
  have h3 := Try.keyP.inj h1 h2
  injection h3 with h3
  have h4 := congrArg Array.toList h3
  simp only [List.cons.injEq, Value.int.injEq, true_and, and_true] at h4
  exact h4
/-- the map holds since when a page of a device may be remembered. -/
def SincM (D : DataW Value) (since : Int → Int → Nat) : Prop := IsMap D ∧ ∀ d p, (0 ≤ d ∧ d < 8) → (0 ≤ p ∧ p < 64) → D.atKey (kyP d p) (.held (.int .i64 0)) = .held (.int .i64 (since d p))
theorem SincM.start : SincM (.map []) (fun _ _ => 0) := ⟨isMap_empty, fun d p _ _ => rfl⟩
theorem SincM.put {D : DataW Value} {since since' : Int → Int → Nat} {d p : Int} {v : Nat} (h : SincM D since) (hd : 0 ≤ d ∧ d < 8) (hp : 0 ≤ p ∧ p < 64) (hs : since' d p = v) (ho : ∀ d' p', ¬ (d' = d ∧ p' = p) → since' d' p' = since d' p') : SincM (D.put (kyP d p) (.held (.int .i64 v))) since' :=
  ⟨h.1.put _ _, fun d' p' hd' hp' => by
    by_cases e : d' = d ∧ p' = p
    · obtain ⟨rfl, rfl⟩ := e
      rw [hs]
      exact atKey_put_same h.1 (by simp [kyP, WideAt.IsKeyLit]) _ _
    · rw [ho d' p' e]
      have hne : kyP d' p' ≠ kyP d p := fun hh => e (Try.kyP_inj (by omega) (by omega) (by omega) (by omega) hh)
      rw [atKey_put_other hne]
      exact h.2 d' p' hd' hp'⟩
theorem SincM.same {D : DataW Value} {since since' : Int → Int → Nat} (h : SincM D since) (hs : ∀ d p, (0 ≤ d ∧ d < 8) → (0 ≤ p ∧ p < 64) → since' d p = since d p) : SincM D since' := ⟨h.1, fun d p hd hp => by rw [hs d p hd hp]; exact h.2 d p hd hp⟩
theorem map_chg {P : Nat → Prop} {w w' : World} {b n : Nat} {D : DataW Value} (h : w.ownsMap Try.prog 60 heldR b n D) (hC : Chg P w w') (hn : ¬ P b) : w'.ownsMap Try.prog 60 heldR b n D := by
  have hlt := h.lt
  obtain ⟨es, clock, h1, h2⟩ := h
  exact ⟨es, clock, (hC.2 b hlt hn).trans h1, h2⟩
/-- the loops over devices and pages: what is done so far. -/
def sincP (past : List Mch) (x : Mch) (since : Int → Int → Nat) (dd pp : Int) (d p : Int) : Nat := if ((0 ≤ d ∧ d < 8) ∧ (0 ≤ p ∧ p < 64)) ∧ (d < dd ∨ (d = dd ∧ p < pp)) ∧ drpM x d p = true then past.length else since d p
theorem sincP_0 {past : List Mch} {x : Mch} {since : Int → Int → Nat} (d p : Int) : sincP past x since 0 0 d p = since d p := by unfold sincP; rw [if_neg (by omega)]
theorem sincP_row {past : List Mch} {x : Mch} {since : Int → Int → Nat} {dd : Int} (d p : Int) : sincP past x since (dd + 1) 0 d p = sincP past x since dd 64 d p := by
  unfold sincP
  by_cases h : ((0 ≤ d ∧ d < 8) ∧ (0 ≤ p ∧ p < 64)) ∧ (d < dd ∨ (d = dd ∧ p < 64)) ∧ drpM x d p = true
  · rw [if_pos h, if_pos ⟨h.1, by omega, h.2.2⟩]
  · rw [if_neg h, if_neg (fun h2 => h ⟨h2.1, by omega, h2.2.2⟩)]
theorem sincP_all {past : List Mch} {x : Mch} {y : Hap} {since : Int → Int → Nat} (hk : y.kind = 2) (d p : Int) : sincP past x since 8 0 d p = sinceN past x y since d p := by
  unfold sincP sinceN
  by_cases h : y.kind = 2 ∧ (0 ≤ d ∧ d < 8) ∧ (0 ≤ p ∧ p < 64) ∧ drpM x d p = true
  · rw [if_pos h, if_pos ⟨⟨h.2.1, h.2.2.1⟩, by omega, h.2.2.2⟩]
  · rw [if_neg h, if_neg (fun h2 => h ⟨hk, h2.1.1, h2.1.2, h2.2.2⟩)]
theorem sincP_step {past : List Mch} {x : Mch} {since : Int → Int → Nat} {dd pp : Int} (hd : 0 ≤ dd ∧ dd < 8) (hp : 0 ≤ pp ∧ pp < 64) : (drpM x dd pp = true → sincP past x since dd (pp + 1) dd pp = past.length) ∧ (drpM x dd pp = false → sincP past x since dd (pp + 1) dd pp = sincP past x since dd pp dd pp) ∧ ∀ d p, ¬ (d = dd ∧ p = pp) → sincP past x since dd (pp + 1) d p = sincP past x since dd pp d p := by
  refine ⟨fun h => ?_, fun h => ?_, fun d p hn => ?_⟩
  · unfold sincP; rw [if_pos ⟨⟨hd, hp⟩, Or.inr ⟨rfl, by omega⟩, h⟩]
  · unfold sincP; rw [h, if_neg (by simp), if_neg (by simp)]
  · unfold sincP
    by_cases h : ((0 ≤ d ∧ d < 8) ∧ (0 ≤ p ∧ p < 64)) ∧ (d < dd ∨ (d = dd ∧ p < pp)) ∧ drpM x d p = true
    · rw [if_pos h, if_pos ⟨h.1, by omega, h.2.2⟩]
    · rw [if_neg h, if_neg (fun h2 => h ⟨h2.1, by omega, h2.2.2⟩)]
/-- blocks that are neither the machine's box, nor the map, nor the row of the machines that were. -/
def avF (g mb : Nat) (A : Option Addr) (q : Nat) : Prop := q ≠ g ∧ q ≠ mb ∧ ∀ ad, A = some ad → q ≠ ad.block
structure FJ (w0 : World) (g mb B : Nat) (past : List Mch) (z : Mch) (es : List Mle) (D : DataW Value) (k : Nat) (A : Option Addr) (n c : Nat) (M : Option Addr) (nm mc : Nat) (R : Option Addr) (nr rc : Nat) (L : Option Addr) (ln lc : Nat) (W : World) : Prop where
  m : Whl W g 33 #[.slice M nm mc, .int .i64 z.h.at_, .slice R nr rc, .bool z.h.done, .int .i64 z.b.mode, .int .i64 z.b.base, .slice L ln lc, .int .i64 z.b.orders.page, .int .i64 z.b.orders.head, .int .i64 z.b.orders.tail, .bool z.b.stopped, .int .i64 z.b.fences, .int .i64 z.b.faults.page, .int .i64 z.b.faults.head, .int .i64 z.b.faults.tail, .bool z.b.lost]
  mv : MachV W (avF g mb A) z M nm R nr L ln lc
  ow : OwnM B W A n c es
  el : ∀ e ∈ es, MachV W (avF g mb A) e.x e.M e.nm e.R e.nr e.L e.n e.c
  ps : es.map (·.x) = past
  mp : W.ownsMap Try.prog 60 heldR mb k D
  om : ∀ ad, A = some ad → ad.block ≠ mb
  sb : Below w0.heap.size w0 W
  ge : w0.heap.size ≤ g ∧ g < B ∧ w0.heap.size ≤ mb ∧ g ≠ mb
section
variable {w0 W W' : World} {g mb B k n c nm mc nr rc ln lc : Nat} {past : List Mch} {z : Mch} {es : List Mle} {D : DataW Value} {A M R L : Option Addr}
theorem FJ.since_ (h : FJ w0 g mb B past z es D k A n c M nm mc R nr rc L ln lc W) (hb : Below W.heap.size W W') : FJ w0 g mb B past z es D k A n c M nm mc R nr rc L ln lc W' :=
  ⟨whl_since h.m hb, h.mv.since hb, ⟨h.ow.1, h.ow.2.1, h.ow.2.2.1, own_below h.ow.2.2.2 hb⟩, fun e he => (h.el e he).since hb, h.ps, map_chg h.mp (chg_bel (chg_refl (P := fun _ => False) W) hb) (fun e => e), h.om, h.sb.trans (hb.mono h.sb.size), h.ge⟩
theorem machV_chgF {P Av : Nat → Prop} {x : Mch} {M R L : Option Addr} {nm nr n c : Nat} (h : MachV W Av x M nm R nr L n c) (hC : Chg P W W') (hn : ∀ q, P q → ¬ Av q) : MachV W' Av x M nm R nr L n c := ⟨chg_ints0 h.hm hC h.am hn, chg_ints0 h.hr hC h.ar hn, chg_lines0 h.hl hC h.al hn, h.am, h.ar, h.al⟩
/-- the map is turned. -/
theorem FJ.turn {D' : DataW Value} {k' : Nat} (h : FJ w0 g mb B past z es D k A n c M nm mc R nr rc L ln lc W) (hC : Chg (fun q => q = mb) W W') (hm : W'.ownsMap Try.prog 60 heldR mb k' D') : FJ w0 g mb B past z es D' k' A n c M nm mc R nr rc L ln lc W' :=
  ⟨whl_chg h.m hC (fun e => h.ge.2.2.2 e), machV_chgF h.mv hC (fun q e hq => hq.2.1 e), h.ow.chg hC (fun ad e hp => h.om ad e hp), fun e he => machV_chgF (h.el e he) hC (fun q e hq => hq.2.1 e), h.ps, hm, h.om, below_chg h.sb h.sb.size hC (fun q hq e => by have := h.ge; omega), h.ge⟩
/-- the machine's box is stored anew. -/
theorem FJ.store {z5 : Mch} {M5 R5 L5 : Option Addr} {nm5 mc5 nr5 rc5 n5 c5 : Nat} (h : FJ w0 g mb B past z es D k A n c M nm mc R nr rc L ln lc W) (hw : Whl W' g 33 #[.slice M5 nm5 mc5, .int .i64 z5.h.at_, .slice R5 nr5 rc5, .bool z5.h.done, .int .i64 z5.b.mode, .int .i64 z5.b.base, .slice L5 n5 c5, .int .i64 z5.b.orders.page, .int .i64 z5.b.orders.head, .int .i64 z5.b.orders.tail, .bool z5.b.stopped, .int .i64 z5.b.fences, .int .i64 z5.b.faults.page, .int .i64 z5.b.faults.head, .int .i64 z5.b.faults.tail, .bool z5.b.lost]) (ht : Trn g W W') (hv : MachV W (avF g mb A) z5 M5 nm5 R5 nr5 L5 n5 c5) : FJ w0 g mb B past z5 es D k A n c M5 nm5 mc5 R5 nr5 rc5 L5 n5 c5 W' :=
  ⟨hw, machV_chgF hv ht.1 (fun q e hq => hq.1 e), h.ow.chg ht.1 (fun ad e hp => by have := (own_blk h.ow.2.2.2 ad e).1; have := h.ge; omega), fun e he => machV_chgF (h.el e he) ht.1 (fun q e hq => hq.1 e), h.ps, map_chg h.mp ht.1 (fun e => h.ge.2.2.2 e.symm), h.om, below_trn h.sb h.sb.size ht h.ge.1, h.ge⟩
theorem machV_ltF {Av : Nat → Prop} {x : Mch} {M R L : Option Addr} {nm nr n c : Nat} (h : MachV W Av x M nm R nr L n c) : MachV W (fun q => Av q ∧ q < W.heap.size) x M nm R nr L n c := ⟨h.hm, h.hr, h.hl, fun h0 ad e => ⟨h.am h0 ad e, rowIn_ints h.hm h0 ad e⟩, fun h0 ad e => ⟨h.ar h0 ad e, rowIn_ints h.hr h0 ad e⟩, fun h0 ad e => ⟨h.al h0 ad e, rowIn_lines h.hl h0 ad e⟩⟩
/-- one more machine that was. -/
theorem FJ.app (h : FJ w0 g mb B past z es D k A n c M nm mc R nr rc L ln lc W) {gg cap : Nat} {e : Mle} (hg : W.grownBy W' (Value.slice A n c).ownBlock) (hown : W'.ownsRow B 33 16 (.slice (some ⟨gg, 0, none⟩) (n + 1) cap) (n + 1) (mcells es ++ e.vals)) (hat : (Value.slice A n c).ownBlock = some gg ∨ gg = W.heap.size) (he : MachV W (avF g mb A) e.x e.M e.nm e.R e.nr e.L e.n e.c) :
    FJ w0 g mb B (past ++ [e.x]) z (es ++ [e]) D k (some ⟨gg, 0, none⟩) (n + 1) cap M nm mc R nr rc L ln lc W' := by
  have hC : Chg (fun q => (Value.slice A n c).ownBlock = some q) W W' := chg_grown (chg_refl W) hg (fun k e => Or.inl e)
  have hP : ∀ q, (Value.slice A n c).ownBlock = some q → ∃ ad, A = some ad ∧ ad.block = q := fun q e => by
    cases A with
    | none => simp [Value.ownBlock] at e
    | some ad => exact ⟨ad, rfl, by simpa [Value.ownBlock] using e⟩
  have hb := own_blk h.ow.2.2.2
  have hge := h.ge
  have hml := h.mp.lt
  have hn : ∀ q, (Value.slice A n c).ownBlock = some q → ¬ (avF g mb A q ∧ q < W.heap.size) := fun q e hq => by
    obtain ⟨ad, h1, h2⟩ := hP q e
    exact hq.1.2.2 ad h1 h2.symm
  have hv : ∀ q, (avF g mb A q ∧ q < W.heap.size) → avF g mb (some ⟨gg, 0, none⟩) q := fun q hq => ⟨hq.1.1, hq.1.2.1, fun ad e => by
    injection e with e; subst e
    rcases hat with h1 | h1
    · obtain ⟨ad, h2, h3⟩ := hP gg h1
      exact fun hh => hq.1.2.2 ad h2 (hh.trans h3.symm)
    · intro hh
      have := hq.2
      simp only [] at hh
      omega⟩
  have hq : ∀ q, (Value.slice A n c).ownBlock = some q → B ≤ q ∧ q ≠ mb := fun q e => by
    obtain ⟨ad, h1, h2⟩ := hP q e
    exact ⟨by have := (hb ad h1).1; omega, fun e2 => h.om ad h1 (h2.trans e2)⟩
  have hcap := own_capM hown
  refine ⟨whl_chg h.m hC (fun e => by have := hq _ e; omega), (machV_chgF (machV_ltF h.mv) hC hn).av hv, ⟨by rw [List.length_append, h.ow.1]; rfl, hcap.1, hcap.2, by rw [mcells_snoc]; exact hown⟩, fun e' he' => ?_, by rw [List.map_append, h.ps]; rfl, map_chg h.mp hC (fun e => (hq _ e).2 rfl), fun ad e' => ?_, below_chg h.sb h.sb.size hC (fun q hq2 e => by have := hq _ e; omega), h.ge⟩
  · rw [List.mem_append] at he'
    rcases he' with he' | he'
    · exact (machV_chgF (machV_ltF (h.el e' he')) hC hn).av hv
    · simp at he'; subst he'; exact (machV_chgF (machV_ltF he) hC hn).av hv
  · injection e' with e'; subst e'
    rcases hat with h1 | h1
    · exact (hq _ h1).2
    · intro hh
      simp only [] at hh
      omega
end
end
/-! The laws' own 'dropped': is a page of a device dropped by the next order. No statement of the seat is proved here. -/
section
open Go.RowKit
set_option linter.unusedSimpArgs false
set_option linter.unusedVariables false
attribute [local go_sem ↓] Go.wp_at_zero Go.wp_at_succ
theorem Try.sizeRingD : (Try.prog.info? 29).map (·.size) = some 3 := by kernel_rfl
theorem Try.sizeOrdD : (Try.prog.info? 90).map (·.size) = some 3 := by kernel_rfl
theorem pop_kD (A : Option Addr) (n c : Nat) (xs : List Int) (r r2 : Ring) (v E : Int) (w : World) (hx : Ints w w.heap.size A n xs) (h1 : popW xs r = v) (h2 : popT xs r = r2) (h3 : popE xs r = E) :
    Calls Try.prog 28 #[.agg #[.slice A n c], .agg #[.int .i64 r.page, .int .i64 r.head, .int .i64 r.tail]] w fun e w' => e = .returned (.tuple #[.int .i64 v, .agg #[.int .i64 r2.page, .int .i64 r2.head, .int .i64 r2.tail], .int .i64 E]) ∧ Below w.heap.size w w' := by
  subst h1 h2 h3; exact any_Pop A n c xs r.page r.head r.tail w hx
theorem rdo_kD (v k d p E : Int) (w : World) (h : rdoV v = .tuple #[.agg #[.int .i64 k, .int .i64 d, .int .i64 p], .int .i64 E]) : Calls Try.prog 29 #[.int .i64 v] w fun e w' => e = .returned (.tuple #[.agg #[.int .i64 k, .int .i64 d, .int .i64 p], .int .i64 E]) ∧ Below w.heap.size w w' := by
  rw [← h]; exact word_ReadOrder v w
theorem drpM_0 {x : Mch} {d p : Int} (h1 : popE x.m x.b.orders = 0) (h2 : x.b.stopped = false) (h3 : rdoE (popV x.m x.b.orders) = 0) {k a b : Int} (hk : popV x.m x.b.orders % 4 = k) (ha : popV x.m x.b.orders / 4 % 8 = a) (hb : popV x.m x.b.orders / 32 = b) :
    drpM x d p = (decide (dropE [⟨d, p, 0, true, false⟩] k = 0) && decide (dropL [⟨d, p, 0, true, false⟩] k a b = [])) := by
  unfold drpM; rw [h1, h2, h3, hk, ha, hb]; simp
theorem lines_oneD {w : World} {g : Nat} {d p : Int} {t : TypeId} (h : Whl w g t #[.int .i64 d, .int .i64 p, .int .i64 0, .bool true, .bool false]) : Lines w w.heap.size (some ⟨g, 0, none⟩) 1 1 [⟨d, p, 0, true, false⟩] :=
  ⟨rfl, Nat.le_refl _, by unfold maxLen; omega, (fun e => nomatch e), fun _ => ⟨g, 0, rfl, whl_lt h, fun j v hv => by
    rw [whl_cell h, Nat.zero_add]
    have e : lcells [⟨d, p, 0, true, false⟩] = [.int .i64 d, .int .i64 p, .int .i64 0, .bool true, .bool false] := rfl
    rw [e] at hv
    simpa using hv⟩⟩
section
variable (x : Mch) (d p : Int) (M R L : Option Addr) (w : World)
set_option maxRecDepth 100000 in
set_option maxHeartbeats 3000000 in
theorem law_dropped (nm mc nr rc n c : Nat) (hm : Ints w w.heap.size M nm x.m) :
    Calls Try.prog 13 #[.agg #[.slice M nm mc, .int .i64 x.h.at_, .slice R nr rc, .bool x.h.done, .int .i64 x.b.mode, .int .i64 x.b.base, .slice L n c, .int .i64 x.b.orders.page, .int .i64 x.b.orders.head, .int .i64 x.b.orders.tail, .bool x.b.stopped, .int .i64 x.b.fences, .int .i64 x.b.faults.page, .int .i64 x.b.faults.head, .int .i64 x.b.faults.tail, .bool x.b.lost], .int .i64 d, .int .i64 p] w fun e w' => e = .returned (.bool (drpM x d p)) ∧ Below w.heap.size w w' := by
  obtain ⟨v, hv⟩ : ∃ v, popW x.m x.b.orders = v := ⟨_, rfl⟩
  obtain ⟨r2, hr2⟩ : ∃ r2, popT x.m x.b.orders = r2 := ⟨_, rfl⟩
  obtain ⟨E1, hE1⟩ : ∃ E1, popE x.m x.b.orders = E1 := ⟨_, rfl⟩
  have HV := Lib.hid hv
  have HR2 := Lib.hid hr2
  have HE1 := Lib.hid hE1
  have HM := Lib.hid hm
  clear hv hr2 hE1 hm
  go_enter Try.func13, Try.ntmps13
  go_upto_region 1 with (fail)
  generalize hw0 : w.alloc (.cells #[.slice M nm mc, .int .i64 x.h.at_, .slice R nr rc, .bool x.h.done, .int .i64 x.b.mode, .int .i64 x.b.base, .slice L n c, .int .i64 x.b.orders.page, .int .i64 x.b.orders.head, .int .i64 x.b.orders.tail, .bool x.b.stopped, .int .i64 x.b.fences, .int .i64 x.b.faults.page, .int .i64 x.b.faults.head, .int .i64 x.b.faults.tail, .bool x.b.lost] 33) = w0
  have H3 := Lib.hid (show Whl w0 w.heap.size 33 #[.slice M nm mc, .int .i64 x.h.at_, .slice R nr rc, .bool x.h.done, .int .i64 x.b.mode, .int .i64 x.b.base, .slice L n c, .int .i64 x.b.orders.page, .int .i64 x.b.orders.head, .int .i64 x.b.orders.tail, .bool x.b.stopped, .int .i64 x.b.fences, .int .i64 x.b.faults.page, .int .i64 x.b.faults.head, .int .i64 x.b.faults.tail, .bool x.b.lost] by rw [← hw0]; exact whl_new _ _ _ rfl)
  have HB := Lib.hid (show Below w.heap.size w w0 by rw [← hw0]; exact below_alloc _ _)
  have hz0 : w.heap.size + 1 ≤ w0.heap.size := by rw [← hw0]; simp
  clear hw0
  go_wp2_with (first | (refine wpList_load_part rfl 24 (.tmp 13) rfl (w.heap.size) 0 _ _ [.slice M nm mc] rfl H3.out rfl _ Try.underlying24 rfl Try.sizeMem ?_) | (refine wpList_load_part rfl 29 (.tmp 16) rfl (w.heap.size) 7 _ _ [.int .i64 x.b.orders.page, .int .i64 x.b.orders.head, .int .i64 x.b.orders.tail] rfl H3.out rfl _ Try.underlying29 rfl Try.sizeRingD ?_))
  refine (pop_kD M nm mc x.m x.b.orders r2 v E1 _ (ints_now HM.out HB.out) HV.out HR2.out HE1.out).mono ?_
  rintro e w1 ⟨rfl, hb⟩
  replace H3 := Lib.hid (whl_since H3.out hb)
  replace HB := Lib.hid (HB.out.trans (hb.mono HB.out.size))
  have hz1 := hb.size
  clear hb
  go_upto_region 2 with (first | (refine wpList_store_all rfl 29 (.tmp 8) (.tmp 20) rfl (w1.heap.size) _ _ #[.int .i64 r2.page, .int .i64 r2.head, .int .i64 r2.tail] rfl rfl (whl_new w1 _ _ rfl) Try.sizeRingD rfl rfl ?_; intro w2 h8 t8))
  have hb : Below w1.heap.size w1 w2 := below_chg ((Below.refl w1.heap.size w1).alloc (Nat.le_refl _) _) (by simp) t8.1 (fun q hq e => by omega)
  replace H3 := Lib.hid (whl_since H3.out hb)
  replace HB := Lib.hid (HB.out.trans (hb.mono HB.out.size))
  have hz2 := hb.size
  clear hb h8 t8
  by_cases h1 : E1 = 0
  rotate_left
  · have t1 : (E1 != 0) = true := by rw [bne_iff_ne]; exact h1
    have HF := Lib.hid (show drpM x d p = false by unfold drpM; rw [HE1.out]; simp [h1])
    clear h1
    go_wp2
    go_ret
    exact ⟨by rw [HF.out]; rfl, HB.out⟩
  have t1 : (E1 != 0) = false := by rw [bne_eq_false_iff_eq]; exact h1
  by_cases hs : x.b.stopped = true
  · have HF := Lib.hid (show drpM x d p = false by unfold drpM; rw [hs]; simp)
    have f10 : w2.cell? ⟨w.heap.size, 10, none⟩ = some (.bool true) := (whl_cell H3.out 10).trans (by show some (Value.bool x.b.stopped) = _; rw [hs])
    have l0 : w.heap.size < w2.heap.size := by omega
    clear h1 hs
    go_wp2
    go_ret
    exact ⟨by rw [HF.out]; rfl, HB.out⟩
  have hs' : x.b.stopped = false := by simpa using hs
  have f10 : w2.cell? ⟨w.heap.size, 10, none⟩ = some (.bool false) := (whl_cell H3.out 10).trans (by show some (Value.bool x.b.stopped) = _; rw [hs'])
  have l0 : w.heap.size < w2.heap.size := by omega
  have HS := Lib.hid hs'
  have hpv : popV x.m x.b.orders = v := by have h := HV.out; unfold popW at h; rw [HE1.out, if_pos h1] at h; exact h
  obtain ⟨ok, hok⟩ : ∃ k, rdoF v (v % 4) = k := ⟨_, rfl⟩
  obtain ⟨od, hod⟩ : ∃ k, rdoF v (v / 4 % 8) = k := ⟨_, rfl⟩
  obtain ⟨op, hop⟩ : ∃ k, rdoF v (v / 32) = k := ⟨_, rfl⟩
  obtain ⟨E2, hE2⟩ : ∃ E2, rdoE v = E2 := ⟨_, rfl⟩
  have HRV := Lib.hid (show rdoV v = .tuple #[.agg #[.int .i64 ok, .int .i64 od, .int .i64 op], .int .i64 E2] by unfold rdoV; rw [hok, hod, hop, hE2])
  have HOK := Lib.hid hok
  have HOD := Lib.hid hod
  have HOP := Lib.hid hop
  have HE2 := Lib.hid hE2
  have HPV := Lib.hid hpv
  have H10 := Lib.hid h1
  clear hok hod hop hE2 hpv hs hs' h1
  go_upto_region 4 with (fail)
  clear f10 l0 t1
  go_wp2_with fail
  refine (rdo_kD v ok od op E2 _ HRV.out).mono ?_
  rintro e w3 ⟨rfl, hb⟩
  replace H3 := Lib.hid (whl_since H3.out hb)
  replace HB := Lib.hid (HB.out.trans (hb.mono HB.out.size))
  have hz3 := hb.size
  clear hb
  go_upto_region 5 with (first | (refine wpList_store_all rfl 90 (.tmp 10) (.tmp 32) rfl (w3.heap.size) _ _ #[.int .i64 ok, .int .i64 od, .int .i64 op] rfl rfl (whl_new w3 _ _ rfl) Try.sizeOrdD rfl rfl ?_; intro w4 h10 t10))
  have hb : Below w3.heap.size w3 w4 := below_chg ((Below.refl w3.heap.size w3).alloc (Nat.le_refl _) _) (by simp) t10.1 (fun q hq e => by omega)
  have HO := Lib.hid h10
  replace H3 := Lib.hid (whl_since H3.out hb)
  replace HB := Lib.hid (HB.out.trans (hb.mono HB.out.size))
  have hz4 := hb.size
  clear hb h10 t10
  by_cases h2 : E2 = 0
  rotate_left
  · have t1 : (E2 != 0) = true := by rw [bne_iff_ne]; exact h2
    have HF := Lib.hid (show drpM x d p = false by unfold drpM; rw [HPV.out, HE2.out]; simp [h2])
    clear h2
    go_wp2
    go_ret
    exact ⟨by rw [HF.out]; rfl, HB.out⟩
  have t1 : (E2 != 0) = false := by rw [bne_eq_false_iff_eq]; exact h2
  have HD := Lib.hid (drpM_0 (x := x) (d := d) (p := p) (HE1.out.trans H10.out) HS.out (by rw [HPV.out, HE2.out]; exact h2) (k := ok) (a := od) (b := op) (by rw [HPV.out, ← HOK.out]; unfold rdoF; rw [HE2.out, if_pos h2]) (by rw [HPV.out, ← HOD.out]; unfold rdoF; rw [HE2.out, if_pos h2]) (by rw [HPV.out, ← HOP.out]; unfold rdoF; rw [HE2.out, if_pos h2]))
  have HKW := Lib.hid (show (Lit.int .i64 ok).wf = true by
    refine WalkArith.wf_i64 ?_
    have h3 := (rdoE_inv (v := v) (HE2.out.trans h2)).1
    have h4 := HOK.out
    unfold rdoF at h4; rw [HE2.out, if_pos h2] at h4
    omega)
  clear h2
  go_upto_region 7 with (fail)
  clear t1
  have BW := Lib.hid (fun o => show Below w4.heap.size w4 (w4.alloc o) from below_alloc w4 o)
  go_wp2_with (refine wpList_load_whl rfl 90 (.tmp 10) rfl (w3.heap.size) _ _ rfl (whl_alloc HO.out _) _ Try.underlying90 rfl Try.sizeOrdD ?_)
  refine (cache_Drop (some ⟨w4.heap.size, 0, none⟩) 1 1 [⟨d, p, 0, true, false⟩] ok od op _ (lines_oneD (whl_new w4 _ _ rfl)) HKW.out).mono ?_
  rintro e w5 ⟨A5, c5, rfl, hl5, hb, _⟩
  have HBE := Lib.hid (HB.out.trans ((BW.out _).trans (hb.mono (BW.out _).size) |>.mono HB.out.size))
  obtain ⟨l5, hl5⟩ : ∃ q, (dropL [⟨d, p, 0, true, false⟩] ok od op).length = q := ⟨_, rfl⟩
  obtain ⟨E5, hE5⟩ : ∃ q, dropE [⟨d, p, 0, true, false⟩] ok = q := ⟨_, rfl⟩
  have HL5 := Lib.hid (show decide (dropL [⟨d, p, 0, true, false⟩] ok od op = []) = ((l5 : Int) == 0) by
    rw [← hl5]
    cases dropL [⟨d, p, 0, true, false⟩] ok od op with
    | nil => rfl
    | cons a r => simp; omega)
  rw [hl5, hE5]
  rw [hE5] at HD
  clear hb hl5 hE5 BW
  by_cases h5 : E5 = 0
  · have t5 : (E5 == 0) = true := by rw [beq_iff_eq]; exact h5
    have HR := Lib.hid (show (decide (E5 = 0) && decide (dropL [⟨d, p, 0, true, false⟩] ok od op = [])) = ((l5 : Int) == 0) by rw [HL5.out]; simp [h5])
    clear h5
    go_wp2
    go_ret
    exact ⟨by rw [HD.out, HR.out]; rfl, HBE.out⟩
  · have t5 : (E5 == 0) = false := beq_eq_false_iff_ne.2 h5
    have HR := Lib.hid (show (decide (E5 = 0) && decide (dropL [⟨d, p, 0, true, false⟩] ok od op = [])) = false by simp [h5])
    clear h5
    go_wp2
    go_ret
    exact ⟨by rw [HD.out, HR.out]; rfl, HBE.out⟩
end
end
/-! The walk of the law MachineFair: what a device touches it may have, at some moment since its page was last dropped. The row is in another text. -/
section
open Go.RowKit
set_option linter.unusedSimpArgs false
set_option linter.unusedVariables false
open Go.Maps
attribute [local go_sem ↓] Go.wp_at_zero Go.wp_at_succ
theorem slice_hiP (A : Option Addr) (n c k : Nat) (hk : k ≤ c) (hc : n ≤ c) :
    ∀ w, (Instr.slice 53 (.slice A n c) none (some (.int .i64 (k : Int))) none).run Try.prog w = .ok (.slice A k c) w := by
  intro w
  have h1 : (0 : Int) ≤ (k : Int) := by omega
  have h2 : (k : Int) ≤ (c : Int) := by omega
  simp [go_sem, h1, h2]
def bareM (x : Mch) : Mch := ⟨x.m, x.h, { x.b with cache := [] }⟩
theorem machV_bare {w : World} {Av : Nat → Prop} {x : Mch} {M R L : Option Addr} {nm nr n c : Nat} (h : MachV w Av x M nm R nr L n c) : MachV w Av (bareM x) M nm R nr none 0 0 := ⟨h.hm, h.hr, lines_none _ _, h.am, h.ar, fun h => absurd h (by decide)⟩
theorem short_len (a : Ask) : (shortA a).data.length ≤ a.data.length := by
  unfold shortA
  split
  · exact Nat.le_refl _
  · simp only []
    split
    · rw [List.length_take]; omega
    · exact Nat.le_refl _
theorem tchE_invP {x : Tch} (h : tchE x = 0) : tchR x := by
  by_cases h1 : tchR x
  · exact h1
  · unfold tchE at h; rw [if_neg h1] at h; cases h
theorem hapsC_now {w W : World} {A : Option Addr} {n c : Nat} {hs : List Hap} (hc : HapsC w A n) (h : Haps w w.heap.size A n c hs) (hb : Below w.heap.size w W) : HapsC W A n := by
  intro b off e k hk D nd cd hcell
  obtain ⟨b', off', e', hlt, _⟩ := h.at_ (by omega)
  rw [e] at e'
  injection e' with e'
  injection e' with e1 e2 _
  subst e1 e2
  exact hc b off e k hk D nd cd ((hb.cell (p := ⟨b, off + k * 7 + 6, none⟩) hlt).symm.trans hcell)
set_option maxRecDepth 100000 in
theorem slice_loM (A : Option Addr) (n c j : Nat) (hj : j ≤ n) (hc : n ≤ c) :
    ∃ A' : Option Addr, (∀ w, (Instr.slice 51 (.slice A n c) (some (.int .i64 (j : Int))) none none).run Try.prog w = .ok (.slice A' (n - j) (c - j)) w) ∧ ∀ w B ms, Machs w B A n c ms → Machs w B A' (n - j) (c - j) (ms.drop j) := by
  refine ⟨if c = j then A else A.map (·.add (j * 16)), fun w => ?_, fun w B ls h => h.dropN hj⟩
  have h1 : (0 : Int) ≤ (j : Int) := by omega
  have h2 : (j : Int) ≤ (n : Int) := by omega
  simp [go_sem, h1, h2]
theorem Try.sizeTchF : (Try.prog.info? 48).map (·.size) = some 5 := by kernel_rfl
theorem Try.infoMachF : (Try.prog.info? 33).map (fun i => (i.zero, i.size, i.bytes)) = some (some (.agg #[.slice none 0 0, .int .i64 0, .slice none 0 0, .bool false, .int .i64 0, .int .i64 0, .slice none 0 0, .int .i64 0, .int .i64 0, .int .i64 0, .bool false, .int .i64 0, .int .i64 0, .int .i64 0, .int .i64 0, .bool false]), 16, 176) := by kernel_rfl
theorem Try.zeroSincF (w : World) : (zeroValue 3).run Try.prog w = .ok (.int .i64 0) w := by kernel_rfl
theorem yld_lookF {P : Program} {op : Oper} {a : Act} {w : World} (m x : Operand) (t : TypeId) (hop : op.op = Op.lookup t m x false) (k e : TypeId) (K : Keyed P k) (ht : P.underlying t = some (.map k e)) {z : Value} (hz : (zeroValue e).run P w = .ok z w) (b n : Nat) (D : DataW Value)
    (hm : a.eval m = .map (some b)) (hown : w.ownsMap P k heldR b n D) (key : Value) (kl : Lit) (hx : a.eval x = key) (hkey : keyOf P k key = some kl) (f : Value) (hD : D.atKey kl (.held z) = .held f) : (execOp a.eval op).run P w = .ok (.value f) w := by
  obtain ⟨v, ps, hrun, hv⟩ := hown.lookup K ht hz (zd := .held z) (zp := []) rfl hkey
  unfold heldR at hv
  rw [hD] at hv
  simp only [Option.some.injEq, Prod.mk.injEq, DataW.held.injEq] at hv
  rw [hv.1] at hrun
  simp [execOp, hop, hm, hx, hrun, Result.andThen]
theorem MachV.ltX {w : World} {Av : Nat → Prop} {x : Mch} {M R L : Option Addr} {nm nr n c : Nat} (h : MachV w Av x M nm R nr L n c) : MachV w (fun q => Av q ∧ q < w.heap.size) x M nm R nr L n c := machV_ltF h
theorem machV_ltX2 {w : World} {Av : Nat → Prop} {x : Mch} {M R L : Option Addr} {nm nr n c : Nat} (h : MachV w Av x M nm R nr L n c) : MachV w Av x M nm R nr L n c := h
theorem Try.ldIntF (p : Addr) (v : Value) (w : World) (h : w.cell? p = some v) : (loadVar 3 p).run Try.prog w = .ok v w := by
  have hu : Try.prog.underlying 3 = _ := Try.underlying3
  simp [go_sem, loadVar, hu, h]
theorem yld_cellF {P : Program} {S : World → Prop} {op : Oper} {a : Act} (ty : TypeId) (x : Operand) (p : Addr) (v : Value) (ho : op.op = .load ty x) (hx : a.eval x = .pointer (some p)) (hS : ∀ W, S W → W.cell? p = some v) (hr : ∀ W : World, W.cell? p = some v → (loadVar ty p).run P W = .ok v W) : ∀ W, S W → (execOp a.eval op).run P W = .ok (.value v) W := fun W hW => by
  unfold execOp
  simp only [ho, hx, Instr.loadAt, Instr.sureAddr, Sem.run_bind, Sem.run_pure, Result.andThen_ok, hr W (hS W hW)]
theorem not3_no {x : Mch} {y : Hap} (h : doE x y = 0) (hk : y.kind ≠ 3) : (doA x y).2.touched = [] := by
  unfold doA
  rw [if_pos h]
  unfold hapM
  repeat' split
  all_goals first | rfl | (exact absurd (by assumption) hk) | (simp_all)
section
variable (x : Mch) (hs : List Hap) (M R L HA : Option Addr) (hn hc : Nat) (w : World)
set_option maxRecDepth 100000 in
set_option maxHeartbeats 16000000 in
theorem law_MachineFair (nm mc nr rc n c : Nat) (hm : Ints w w.heap.size M nm x.m) (hr : Ints w w.heap.size R nr x.h.regs) (hl : Lines w w.heap.size L n c x.b.cache) (hh : Haps w w.heap.size HA hn hc hs) (hhc : HapsC w HA hn) :
    Calls Try.prog 5 #[.agg #[.slice M nm mc, .int .i64 x.h.at_, .slice R nr rc, .bool x.h.done, .int .i64 x.b.mode, .int .i64 x.b.base, .slice L n c, .int .i64 x.b.orders.page, .int .i64 x.b.orders.head, .int .i64 x.b.orders.tail, .bool x.b.stopped, .int .i64 x.b.fences, .int .i64 x.b.faults.page, .int .i64 x.b.faults.head, .int .i64 x.b.faults.tail, .bool x.b.lost], .slice HA hn hc] w fun e w' => e = .returned (.bool true) ∧ Below w.heap.size w w' := by
  obtain ⟨i0, hi, hi0, hi1, hi2⟩ := info_parts Try.infoMachF
  have HI := Lib.hid hi
  have HI0 := Lib.hid hi0
  have HI1 := Lib.hid hi1
  have HI2 := Lib.hid hi2
  clear hi hi0 hi1 hi2
  have HMV := Lib.hid (machV_arg hm hr hl)
  have HH := Lib.hid hh
  have HHC := Lib.hid hhc
  have hcap := hh.cap
  have HHL := Lib.hid hh.len
  clear hm hr hl hh hhc
  go_enter Try.func5, Try.ntmps5
  go_upto_region 1 with (fail)
  generalize hw0 : w.alloc (.cells #[.slice M nm mc, .int .i64 x.h.at_, .slice R nr rc, .bool x.h.done, .int .i64 x.b.mode, .int .i64 x.b.base, .slice L n c, .int .i64 x.b.orders.page, .int .i64 x.b.orders.head, .int .i64 x.b.orders.tail, .bool x.b.stopped, .int .i64 x.b.fences, .int .i64 x.b.faults.page, .int .i64 x.b.faults.head, .int .i64 x.b.faults.tail, .bool x.b.lost] 33) = w0
  have H0 := Lib.hid (show Whl w0 w.heap.size 33 #[.slice M nm mc, .int .i64 x.h.at_, .slice R nr rc, .bool x.h.done, .int .i64 x.b.mode, .int .i64 x.b.base, .slice L n c, .int .i64 x.b.orders.page, .int .i64 x.b.orders.head, .int .i64 x.b.orders.tail, .bool x.b.stopped, .int .i64 x.b.fences, .int .i64 x.b.faults.page, .int .i64 x.b.faults.head, .int .i64 x.b.faults.tail, .bool x.b.lost] by rw [← hw0]; exact whl_new _ _ _ rfl)
  have HW0 := Lib.hid (show Below w.heap.size w w0 by rw [← hw0]; (repeat (first | (with_reducible exact Below.refl _ _) | (with_reducible refine Below.drew ?_) | (with_reducible refine bdrewN ?_ _) | ((with_reducible refine Below.setCell ?_ ?_ _); rotate_left; exact (by first | (simp; done) | (simp; omega) | omega)) | ((with_reducible refine Below.alloc ?_ ?_ _); rotate_left; exact (by first | (simp; done) | (simp; omega) | omega)))))
  have hz0a : w0.heap.size ≤ w.heap.size + 1 := by rw [← hw0]; simp
  have hz0b : w.heap.size + 1 ≤ w0.heap.size := by rw [← hw0]; simp
  clear hw0
  go_upto_region 2 with (refine wpList_store_cell rfl 27 (.tmp 20) (.const (.slice none 0 0)) rfl w.heap.size 6 _ _ #[.slice M nm mc, .int .i64 x.h.at_, .slice R nr rc, .bool x.h.done, .int .i64 x.b.mode, .int .i64 x.b.base, .slice none 0 0, .int .i64 x.b.orders.page, .int .i64 x.b.orders.head, .int .i64 x.b.orders.tail, .bool x.b.stopped, .int .i64 x.b.fences, .int .i64 x.b.faults.page, .int .i64 x.b.faults.head, .int .i64 x.b.faults.tail, .bool x.b.lost] (.slice none 0 0) rfl rfl H0.out Try.sizeLines (of_decide_eq_true rfl) rfl rfl ?_; intro w1 h1 t1)
  have HB1 := Lib.hid (below_trn HW0.out (by omega) t1 (Nat.le_refl _))
  have hz1a : w.heap.size < w1.heap.size := by have := t1.2; omega
  have HS1 := Lib.hid h1
  have HV1 := Lib.hid (show MachV w1 (fun q => q ≠ w.heap.size) (bareM x) M nm R nr none 0 0 from (MachV.trn (x := bareM x) ((machV_bare (MachV.av HMV.out (Av' := fun q => q ≠ w.heap.size) (fun q hq => by omega))).since HW0.out) t1 (fun hq => hq rfl)))
  clear h1 t1 H0 HW0 hz0a hz0b HMV
  go_wp2_with fail
  refine (law_driven _).mono ?_
  rintro e w2 ⟨rfl, hb2⟩
  have HB2 := Lib.hid (HB1.out.trans (hb2.mono (by omega)))
  have HS2 := Lib.hid (whl_since HS1.out hb2)
  have HV2 := Lib.hid (HV1.out.since hb2)
  have hz2a : w.heap.size < w2.heap.size := by have := hb2.size; omega
  clear hb2 HB1 HS1 HV1
  have k2 := fun o => whl_cell HS2.out o
  go_wp2_with fail
  clear k2
  refine (machine_Check (bareM x) M R none nm mc nr rc 0 0 _ HV2.out.hm HV2.out.hr HV2.out.hl).mono ?_
  rintro e w3 ⟨rfl, hb3⟩
  have HB3 := Lib.hid (HB2.out.trans (hb3.mono (by omega)))
  have HS3 := Lib.hid (whl_since HS2.out hb3)
  have HV3 := Lib.hid (HV2.out.since hb3)
  have hz3a : w.heap.size < w3.heap.size := by have := hb3.size; omega
  clear hb3 HB2 HS2 HV2 hz2a hz1a
  by_cases h0 : ckM (bareM x) = 0
  rotate_left
  · have t0 : (ckM (bareM x) != 0) = true := by rw [bne_iff_ne]; exact h0
    clear h0
    go_wp2_with fail
    refine (law_driven _).mono ?_
    rintro e w4 ⟨rfl, hb4⟩
    have HB4 := Lib.hid (HB3.out.trans (hb4.mono (by omega)))
    clear hb4
    go_wp2
    go_ret
    exact ⟨rfl, HB4.out⟩
  · have t0 : (ckM (bareM x) != 0) = false := by rw [bne_eq_false_iff_eq]; exact h0
    have H0 := Lib.hid h0
    have k2 := fun o => whl_cell HS3.out o
    go_upto_region 5 with (first
      | (refine wpList_load_whl rfl 33 (.tmp 2) rfl (w.heap.size) _ _ rfl HS3.out _ Try.underlying33 rfl Try.sizeMach ?_)
      | (refine wpList_buildS1 rfl (.tmp 29) 51 rfl _ (by rfl) _ (Try.bs1 _) ?_))
    clear k2 t0
    generalize hwb : w3.alloc (.cells #[.slice M nm mc, .int .i64 x.h.at_, .slice R nr rc, .bool x.h.done, .int .i64 x.b.mode, .int .i64 x.b.base, .slice none 0 0, .int .i64 x.b.orders.page, .int .i64 x.b.orders.head, .int .i64 x.b.orders.tail, .bool x.b.stopped, .int .i64 x.b.fences, .int .i64 x.b.faults.page, .int .i64 x.b.faults.head, .int .i64 x.b.faults.tail, .bool x.b.lost] 33) = w4
    have HP4 := Lib.hid (show Whl w4 w3.heap.size 33 #[.slice M nm mc, .int .i64 x.h.at_, .slice R nr rc, .bool x.h.done, .int .i64 x.b.mode, .int .i64 x.b.base, .slice none 0 0, .int .i64 x.b.orders.page, .int .i64 x.b.orders.head, .int .i64 x.b.orders.tail, .bool x.b.stopped, .int .i64 x.b.fences, .int .i64 x.b.faults.page, .int .i64 x.b.faults.head, .int .i64 x.b.faults.tail, .bool x.b.lost] by rw [← hwb]; exact whl_new _ _ _ rfl)
    have hb : Below w3.heap.size w3 w4 := by rw [← hwb]; exact below_alloc _ _
    have hz4 : w3.heap.size + 1 ≤ w4.heap.size := by rw [← hwb]; simp
    have HS4 := Lib.hid (whl_since HS3.out hb)
    have HV4 := Lib.hid (HV3.out.since hb)
    have HB4 := Lib.hid (HB3.out.trans (hb.mono (by omega)))
    have HB34 := Lib.hid hb
    clear hwb hb
    have hmm := @run_makeMap Try.prog
    go_upto_region 6 with (fail)
    clear hmm
    generalize hwc : w4.alloc (.map #[] 0) = w5
    have HMP := Lib.hid (show w5.ownsMap Try.prog 60 heldR w4.heap.size 0 (.map []) by rw [← hwc]; exact World.ownsMap_made _ _ _ _)
    have hb : Below w4.heap.size w4 w5 := by rw [← hwc]; exact below_alloc _ _
    have hz5 : w4.heap.size + 1 ≤ w5.heap.size := by rw [← hwc]; simp
    have HFI0 := Lib.hid (FairI.start (m := bareM x) H0.out rfl)
    have J0 : Hid (FJ w w.heap.size w4.heap.size w3.heap.size [bareM x] (bareM x) [⟨bareM x, M, nm, mc, R, nr, rc, none, 0, 0⟩] (.map []) 0 (some ⟨w3.heap.size, 0, none⟩) 1 1 M nm mc R nr rc none 0 0 w5) := by
      have hv : MachV w5 (avF w.heap.size w4.heap.size (some ⟨w3.heap.size, 0, none⟩)) (bareM x) M nm R nr none 0 0 := (MachV.since (x := bareM x) (MachV.av (MachV.ltX HV3.out) (fun q hq => ⟨hq.1, by omega, fun ad e => by injection e with e; subst e; show q ≠ w3.heap.size; omega⟩)) (Below.trans (show Below w3.heap.size w3 w4 from HB34.out) (hb.mono (by omega))))
      have hp := whl_since HP4.out hb
      exact Lib.hid ⟨whl_since HS4.out hb, hv, ownM_one (e := ⟨bareM x, M, nm, mc, R, nr, rc, none, 0, 0⟩) hp (Nat.le_refl _), fun e he => by
        rw [List.mem_singleton] at he; subst he; exact hv, rfl, HMP.out, fun ad e => by injection e with e; subst e; show w3.heap.size ≠ _; omega, HB4.out.trans (hb.mono (by omega)), by omega⟩
    obtain ⟨nn, hnn⟩ : ∃ nn, nn = min hn 60 := ⟨_, rfl⟩
    have hmin : min (hn : Int) 60 = (nn : Int) := by omega
    have hsl := slice_hiP HA hn hc nn (by omega) (by omega)
    have hnl : nn ≤ hn := by omega
    have hn60 : nn ≤ 60 := by omega
    have HNN := Lib.hid hnn
    clear hwc hb hnn HS3 HV3 HB3 HP4 HS4 HV4 HB4 HMP HB34
    go_cut [36, 37, 38] (fun s36 s37 s38 wd => s36 = .slice HA nn hc ∧ s37 = .int .i64 nn ∧ s38 = .int .i64 0 ∧ wd = w5)
    case first =>
      rcases Nat.lt_or_ge 60 hn with hm | hm
      · have q1 : ¬ ((hn : Int) ≤ 60) := by omega
        have q2 : (60 : Int) = (nn : Int) := by have := HNN.out; omega
        have q3 := hsl
        rw [← q2] at q3
        have hn12 : nn = 60 := by have := HNN.out; omega
        have HN12 := Lib.hid hn12
        clear hmin hsl q2 hn12 hnl
        go_wp2
        go_meet
        exact ⟨by rw [HN12.out], by rw [HN12.out], rfl, rfl⟩
      · have q1 : (hn : Int) ≤ 60 := by omega
        have hn12 : nn = hn := by have := HNN.out; omega
        have HN12 := Lib.hid hn12
        rw [hn12] at hsl
        clear hmin hn12 hnl
        go_wp2
        go_meet
        exact ⟨by rw [HN12.out], by rw [HN12.out], rfl, rfl⟩
    case rest =>
      obtain ⟨rfl, rfl, rfl, rfl⟩ := hcut
      clear hmin hsl
      go_wp2
      go_loopw [38, 5] (fun s38 s5 wr => ∃ (k : Nat) (past : List Mch) (z : Mch) (es : List Mle) (D : DataW Value) (q : Nat) (A : Option Addr) (n c : Nat) (M : Option Addr) (nm mc : Nat) (R : Option Addr) (nr rc : Nat) (L : Option Addr) (ln lc : Nat) (since : Int → Int → Nat), k ≤ nn ∧ s38 = .int .i64 k ∧ s5 = .slice A n c ∧ n ≤ k + 1 ∧ q ≤ k * 512 ∧ Hid (FJ w w.heap.size w4.heap.size w3.heap.size past z es D q A n c M nm mc R nr rc L ln lc wr) ∧ Hid (SincM D since ∧ FairI past z since)) (fun s38 _ _ => nn - (intOf s38).toNat)
      case atStart => exact ⟨0, _, _, _, _, 0, _, 1, 1, _, nm, mc, _, nr, rc, none, 0, 0, fun _ _ => 0, by omega, rfl, rfl, by omega, by omega, J0.out, SincM.start, HFI0.out⟩
      case round =>
        clear J0 H0 HFI0
        obtain ⟨wo, hwo⟩ : ∃ wo, wo = wr := ⟨_, rfl⟩
        subst hwo
        obtain ⟨k, past, z, es, D, q, A, n, c, M, nm, mc, R, nr, rc, L, ln, lc, since, hk, rfl, rfl, hnk, hqk, hJ, hSI⟩ := hrel
        have HJ := Lib.hid hJ.out
        have HSM := Lib.hid hSI.out.1
        have HFI := Lib.hid hSI.out.2
        have hws : w.heap.size < wo.heap.size := whl_lt hJ.out.m
        have OBK := Lib.hid (show (∀ ad, A = some ad → ad.block < wo.heap.size) ∧ w4.heap.size < wo.heap.size from ⟨fun ad e => (own_blk hJ.out.ow.2.2.2 ad e).2, hJ.out.mp.lt⟩)
        have hnl2 : past.length = n := by rw [← hJ.out.ps, List.length_map]; exact hJ.out.ow.1
        have HNL := Lib.hid hnl2
        clear hJ hSI hnl2
        by_cases hlt : k < nn
        rotate_left
        · obtain rfl : k = nn := by omega
          have hh3 : ¬ ((k : Int) < (k : Int)) := by omega
          have HBE := Lib.hid HJ.out.sb
          clear hlt
          go_wp2
          go_ret
          exact ⟨rfl, HBE.out⟩
        obtain ⟨y, hyk⟩ := some_of_lt hs (k := k) (by rw [HHL.out]; omega)
        have hhcn := hapsC_now HHC.out HH.out HJ.out.sb
        obtain ⟨b, off, rfl, hb, hcc⟩ := (haps_now HH.out HJ.out.sb).at_ (by omega)
        obtain ⟨HD0, nd, cd, hcs, hda⟩ := hcc k y hyk
        have hdc := hhcn b off rfl k (by omega) HD0 nd cd hcs.2.2.2.2.2.2
        have HRG := Lib.hid (hap_range hcs)
        have HDD := Lib.hid hda
        have HDC := Lib.hid hdc
        have q1 : (0 : Int) ≤ (k : Int) := by omega
        have q2 : (k : Int) < (nn : Int) := by omega
        clear hcc hcs hda hyk hhcn hdc
        go_upto_region 9 with (first
          | (refine wpList_load_mid rfl 46 (.tmp 40) rfl b (off + k * 7) (by rfl) _ _ HRG.out Try.underlying46 rfl Try.sizeHap ?_)
          | (refine wpList_store_new rfl 46 (.tmp 8) (.tmp 41) rfl _ _ _ _ rfl rfl (by rfl) (by rfl) Try.sizeHap rfl (by rfl) ?_))
        generalize hwb : wo.alloc (.cells #[.int .i64 y.kind, .int .i64 y.n, .int .i64 y.a.dev, .int .i64 y.a.at_, .int .i64 y.a.count, .bool y.a.wr, .slice HD0 nd cd] 46) = w4x
        have HA4 := Lib.hid (show Whl w4x wo.heap.size 46 #[.int .i64 y.kind, .int .i64 y.n, .int .i64 y.a.dev, .int .i64 y.a.at_, .int .i64 y.a.count, .bool y.a.wr, .slice HD0 nd cd] by rw [← hwb]; exact whl_new _ _ _ rfl)
        have hb4 : Below wo.heap.size wo w4x := by rw [← hwb]; exact below_alloc _ _
        have hz4a : w4x.heap.size ≤ wo.heap.size + 1 := by rw [← hwb]; simp
        have hz4b : wo.heap.size + 1 ≤ w4x.heap.size := by rw [← hwb]; simp
        have HBR := Lib.hid hb4
        have HD4 := Lib.hid (ints_now HDD.out hb4)
        clear hwb hb4
        go_wp2_with (first | (refine wpList_load_part rfl 35 (.tmp 42) rfl (wo.heap.size) 2 _ _ [.int .i64 y.a.dev, .int .i64 y.a.at_, .int .i64 y.a.count, .bool y.a.wr, .slice HD0 nd cd] rfl HA4.out rfl _ Try.underlying35 rfl Try.sizeAsk ?_))
        refine (law_short y.a HD0 nd cd _ HD4.out HDC.out).mono ?_
        rintro e w5x ⟨kd, dd, rfl, hi5, hc5, hb5⟩
        have HI5 := Lib.hid hi5
        have HA5 := Lib.hid (whl_since HA4.out hb5)
        replace HBR := Lib.hid (HBR.out.trans (hb5.mono HBR.out.size))
        have hz5x := hb5.size
        have HRI : Hid (RowIn (fun q => q < wo.heap.size) HD0 kd) := Lib.hid (fun h0 ad e => rowIn_ints HDD.out (by have h1 := hi5.1; have h2 := HDD.out.1; have h3 := short_len y.a; omega) ad e)
        clear hi5 hc5 hb5 HA4 HD4 HDC HDD HRG
        go_upto_region 10 with (refine wpList_store_part rfl 35 (.tmp 45) (.tmp 44) rfl (wo.heap.size) 2 _ _ #[.int .i64 (shortA y.a).dev, .int .i64 (shortA y.a).at_, .int .i64 (shortA y.a).count, .bool (shortA y.a).wr, .slice HD0 kd dd] #[.int .i64 y.kind, .int .i64 y.n, .int .i64 (shortA y.a).dev, .int .i64 (shortA y.a).at_, .int .i64 (shortA y.a).count, .bool (shortA y.a).wr, .slice HD0 kd dd] rfl rfl HA5.out Try.sizeAsk (by kernel_rfl) rfl (by kernel_rfl) ?_; intro w6 h6 t6)
        have hz6 := t6.2
        have hz6a : w6.heap.size ≤ w5x.heap.size := Nat.le_of_eq hz6
        have hz6b : w5x.heap.size ≤ w6.heap.size := Nat.le_of_eq hz6.symm
        have HA6 := Lib.hid h6
        replace HBR := Lib.hid (below_trn HBR.out HBR.out.size t6 (Nat.le_refl _))
        have HI6 := Lib.hid (chg_ints0 HI5.out t6.1 HRI.out (fun q e hq => by omega))
        clear h6 t6 hz6 HA5 HI5 HRI
        obtain ⟨⟨z5, t⟩, hDA⟩ : ∃ r, doA z (⟨y.kind, y.n, shortA y.a⟩ : Hap) = r := ⟨_, rfl⟩
        obtain ⟨E, hDE⟩ : ∃ E, doE z (⟨y.kind, y.n, shortA y.a⟩ : Hap) = E := ⟨_, rfl⟩
        have HDA := Lib.hid hDA
        have HDE := Lib.hid hDE
        replace HJ := Lib.hid (HJ.out.since_ HBR.out)
        have HM := Lib.hid HJ.out.m
        clear hDA hDE
        go_wp2_with (first | (refine wpList_load_whl rfl 33 (.tmp 2) rfl (w.heap.size) _ _ rfl HM.out _ Try.underlying33 rfl Try.sizeMach ?_) | (refine wpList_load_whl rfl 46 (.tmp 8) rfl (wo.heap.size) _ _ rfl HA6.out _ Try.underlying46 rfl Try.sizeHap ?_))
        refine (mdo_ans z (⟨y.kind, y.n, shortA y.a⟩ : Hap) M R L HD0 kd dd _ nm mc nr rc ln lc HJ.out.mv.hm HJ.out.mv.hr HJ.out.mv.hl HI6.out (z5, t) E HDA.out HDE.out).mono ?_
        rintro e w7 ⟨M5, nm5, mc5, R5, nr5, rc5, L5, n5, c5, D5, dn5, dc5, T5, tn5, tc5, rfl, hv5, ht5, hb⟩
        have VZ := Lib.hid (hv5.av (Av' := fun q => wo.heap.size < q) (fun q hq => by omega))
        have VT := Lib.hid ht5
        replace HA6 := Lib.hid (whl_since HA6.out hb)
        replace HJ := Lib.hid (HJ.out.since_ hb)
        have hz7 := hb.size
        clear hb hv5 ht5 HI6 HM
        go_upto_region 11 with (first
          | (refine wpList_store_all rfl 33 (.tmp 9) (.tmp 50) rfl (w7.heap.size) _ _ #[.slice M5 nm5 mc5, .int .i64 z5.h.at_, .slice R5 nr5 rc5, .bool z5.h.done, .int .i64 z5.b.mode, .int .i64 z5.b.base, .slice L5 n5 c5, .int .i64 z5.b.orders.page, .int .i64 z5.b.orders.head, .int .i64 z5.b.orders.tail, .bool z5.b.stopped, .int .i64 z5.b.fences, .int .i64 z5.b.faults.page, .int .i64 z5.b.faults.head, .int .i64 z5.b.faults.tail, .bool z5.b.lost] rfl rfl (whl_alloc (whl_new w7 _ _ rfl) _) Try.sizeMach rfl rfl ?_; intro w8 h8 t8)
          | (refine wpList_store_all rfl 41 (.tmp 10) (.tmp 51) rfl (w7.heap.size + 1) _ _ #[.bool t.done, .slice D5 dn5 dc5, .int .i64 t.fault, .slice T5 tn5 tc5] rfl rfl (whl_trn (whl_new (w7.alloc _) _ _ (by simp)) t8 (Nat.succ_ne_self _)) Try.sizeTold rfl rfl ?_; intro w9 h9 t9))
        have hw8 := t8.2
        have hw9 := t9.2
        (try simp only [World.size_alloc] at hw8)
        have hz9a : w9.heap.size ≤ w7.heap.size + 2 := by omega
        have hz9b : w7.heap.size + 2 ≤ w9.heap.size := by omega
        have C9 := chg_trans (chg_mono (Q := fun q => w7.heap.size ≤ q) t8.1 (fun q _ e => by omega)) (chg_mono t9.1 (fun q _ e => by omega))
        have hb : Below w7.heap.size w7 w9 := below_chg (((Below.refl w7.heap.size w7).alloc (Nat.le_refl _) _).alloc (by simp) _) (by simp; omega) C9 (fun q hq e => by omega)
        have H8 := Lib.hid (whl_trn h8 t9 (Nat.ne_of_lt (Nat.lt_succ_self _)))
        have H9 := Lib.hid h9
        replace HA6 := Lib.hid (whl_since HA6.out hb)
        replace VZ := Lib.hid (VZ.out.since hb)
        replace VT := Lib.hid (VT.out.since hb)
        replace HJ := Lib.hid (HJ.out.since_ hb)
        clear hb C9 t8 t9 h8 h9 hw8 hw9
        by_cases hE : E = 0
        rotate_left
        · have t0 : (E != 0) = true := by rw [bne_iff_ne]; exact hE
          clear hE
          go_wp2
          go_roundw
          case rel => exact ⟨k + 1, past, z, es, D, q, A, n, c, M, nm, mc, R, nr, rc, L, ln, lc, since, by omega, by go_num, rfl, by omega, by omega, HJ.out, HSM.out, HFI.out⟩
          case measure => simp [intOf]; omega
        have t0 : (E != 0) = false := by rw [bne_eq_false_iff_eq]; exact hE
        have HE := Lib.hid (show doE z (⟨y.kind, y.n, shortA y.a⟩ : Hap) = 0 by rw [HDE.out]; exact hE)
        clear hE
        have HNX := Lib.hid (HFI.out.next HE.out (fun hk3 => short_page (do_3 HE.out hk3).1))
        rw [HDA.out] at HNX
        have HTC := Lib.hid (show ∀ u ∈ t.touched, (tchE u = 0) ∧ fairE (past.drop (since u.dev (u.seen / 8))) u = 0 ∧ 0 ≤ fairV (past.drop (since u.dev (u.seen / 8))) u by
          by_cases hk3 : y.kind = 3
          · have hpg := short_page (do_3 HE.out hk3).1
            have h1 := HFI.out.touch (by rw [HNL.out]; omega) HE.out hk3 hpg
            have h2 := (plain_law HE.out hk3 hpg).2.2
            rw [HDA.out] at h1 h2
            exact fun u hu => ⟨(h2 u hu).2.2.2.2.2, h1 u hu⟩
          · have h1 := not3_no HE.out hk3
            rw [HDA.out] at h1
            intro u hu
            rw [show t.touched = [] from h1] at hu
            cases hu)
        have f3 : w9.cell? ⟨w7.heap.size + 1, 3, none⟩ = some (.slice T5 tn5 tc5) := whl_cell H9.out 3
        have l9 : w7.heap.size + 1 < w9.heap.size := by omega
        have hcapt := VT.out.ht.cap
        have HTL := Lib.hid VT.out.ht.len
        go_upto_region 13 with (fail)
        clear f3 l9 t0
        go_loopw [58] (fun s58 wi => ∃ j : Nat, j ≤ tn5 ∧ s58 = .int .i64 j ∧ Hid (Below w9.heap.size w9 wi)) (fun s58 _ => tn5 - (intOf s58).toNat)
        case atStart => exact ⟨0, by omega, rfl, Below.refl _ _⟩
        case round =>
          obtain ⟨j, hj, rfl, hbj⟩ := hrel
          have HBJ := Lib.hid hbj.out
          clear hbj
          by_cases hjl : j < tn5
          · obtain ⟨u, huj⟩ := some_of_lt t.touched (k := j) (by rw [HTL.out]; exact hjl)
            obtain ⟨b2, off2, rfl, hb2, hcc⟩ := (tchs_now VT.out.ht HBJ.out).at_ (by omega)
            obtain ⟨e0, e1, e2, e3, e4⟩ := hcc j u huj
            obtain ⟨u1, u2, u3⟩ := HTC.out u (List.mem_of_getElem? huj)
            have hur := tchE_invP u1
            unfold tchR at hur
            obtain ⟨V, hV⟩ : ∃ V, fairV (past.drop (since u.dev (u.seen / 8))) u = V := ⟨_, rfl⟩
            have HVV := Lib.hid hV
            have U2 := Lib.hid u2
            rw [hV] at u3
            have hVn : ¬ (V < 0) := by omega
            have hlow := HFI.out.low u.dev (u.seen / 8)
            rw [HNL.out] at hlow
            obtain ⟨s, hs0⟩ : ∃ s, since u.dev (u.seen / 8) = s := ⟨_, rfl⟩
            rw [hs0] at hlow
            have HS0 := Lib.hid hs0
            have HLK := Lib.hid (HSM.out.2 u.dev (u.seen / 8) hur.1 (by omega))
            rw [hs0] at HLK
            have HKY := Lib.hid (Try.kyP_of (d := u.dev) (p := u.seen / 8) (by omega) (by omega))
            have hcapA := HJ.out.ow.2.1
            obtain ⟨A', hlo, hlo2⟩ := slice_loM A n c s (by omega) hcapA
            have HLO2 := Lib.hid hlo2
            have r1 : (0 : Int) ≤ (j : Int) := by omega
            have r2 : (j : Int) < (tn5 : Int) := by omega
            have v1 : u.seen.tdiv 8 = u.seen / 8 := Int.tdiv_eq_ediv_of_nonneg (by omega)
            have v2 : IntKind.i64.wrap (u.seen / 8) = u.seen / 8 := IntWalk.i64_in _ (by omega)
            have v3 : 0 ≤ u.seen := by omega
            have v4 : u.seen ≤ 511 := by omega
            have hzr := HBJ.out.size
            have HJr := Lib.hid (HJ.out.since_ HBJ.out)
            clear hcc huj u1 u2 hV hs0 hlo2 hur
            go_upto_region 15 with (refine wpList_store_new rfl 48 (.tmp 13) (.tmp 61) rfl _ _ _ _ rfl rfl (by rfl) (by rfl) Try.sizeTchF rfl (by rfl) ?_)
            generalize hwb : wr.alloc (.cells #[.int .i64 u.dev, .int .i64 u.seen, .int .i64 u.at_, .bool u.wr, .int .i64 u.value] 48) = wa
            have HT13 := Lib.hid (show Whl wa wr.heap.size 48 #[.int .i64 u.dev, .int .i64 u.seen, .int .i64 u.at_, .bool u.wr, .int .i64 u.value] by rw [← hwb]; exact whl_new _ _ _ rfl)
            have hb : Below wr.heap.size wr wa := by rw [← hwb]; exact below_alloc _ _
            have hza : wr.heap.size + 1 ≤ wa.heap.size := by rw [← hwb]; simp
            replace HJr := Lib.hid (HJr.out.since_ hb)
            replace HBJ := Lib.hid (HBJ.out.trans (hb.mono hzr))
            clear hwb hb e0 e1 e2 e3 e4
            have f1 : wa.cell? ⟨wr.heap.size, 1, none⟩ = some (.int .i64 u.seen) := whl_cell HT13.out 1
            have l1 : wr.heap.size < wa.heap.size := by omega
            go_upto_region 16 with (fail)
            clear f1 l1 v1 v2
            go_cut [15, 16] (fun s15 s16 wd => s15 = .int .i64 V ∧ s16 = .int .i64 0 ∧ Hid (Below wa.heap.size wa wd))
            case first =>
              refine wp_region_held_drew (S := fun W' => Below wa.heap.size wa W') (by kernel_rfl) (Below.refl _ _).drew (fun hS0 => ?_)
              have HS := Lib.hid hS0
              clear hS0
              refine take_atR (i := 0) (d := 66) (v := .slice A n c) rfl rfl (by kernel_rfl) (by kernel_rfl) (by kernel_rfl) (fun _ _ _ h => h) (Or.inl ⟨by rfl, fun _ _ => rfl⟩) HS.out ?_
              (try simp only [Act.put, List.setIfInBounds_toArray, List.set_cons_zero, List.set_cons_succ])
              refine take_atR (i := 1) (d := 67) (v := .map (some w4.heap.size)) rfl rfl (by kernel_rfl) (by kernel_rfl) (by kernel_rfl) (fun _ _ _ h => h) (Or.inl ⟨by rfl, fun _ _ => rfl⟩) HS.out ?_
              (try simp only [Act.put, List.setIfInBounds_toArray, List.set_cons_zero, List.set_cons_succ])
              refine take_atR (i := 2) (d := 68) (v := .pointer (some ⟨wr.heap.size, 0, none⟩)) rfl rfl (by kernel_rfl) (by kernel_rfl) (by kernel_rfl) (fun _ _ _ h => h) (Or.inl ⟨by rfl, fun _ _ => rfl⟩) HS.out ?_
              (try simp only [Act.put, List.setIfInBounds_toArray, List.set_cons_zero, List.set_cons_succ])
              refine take_atR (i := 3) (d := 69) (v := .int .i64 u.dev) rfl rfl (by kernel_rfl) (by kernel_rfl) (by kernel_rfl) (fun _ _ _ h => h) (Or.inl ⟨by rfl, yld_cellF 3 (.tmp 68) _ _ rfl rfl (fun W' hW' => whl_cell (whl_since HT13.out hW') 0) (fun W' h => Try.ldIntF _ _ W' h)⟩) HS.out ?_
              (try simp only [Act.put, List.setIfInBounds_toArray, List.set_cons_zero, List.set_cons_succ])
              refine take_atR (i := 4) (d := 70) (v := .int .i64 (u.seen / 8)) rfl rfl (by kernel_rfl) (by kernel_rfl) (by kernel_rfl) (fun _ _ _ h => h) (Or.inl ⟨by rfl, fun _ _ => rfl⟩) HS.out ?_
              (try simp only [Act.put, List.setIfInBounds_toArray, List.set_cons_zero, List.set_cons_succ])
              refine take_atR (i := 5) (d := 71) (v := .agg #[.int .i64 u.dev, .int .i64 (u.seen / 8)]) rfl rfl (by kernel_rfl) (by kernel_rfl) (by kernel_rfl) (fun _ _ _ h => h) (Or.inl ⟨by rfl, fun W' _ => (by kernel_rfl)⟩) HS.out ?_
              (try simp only [Act.put, List.setIfInBounds_toArray, List.set_cons_zero, List.set_cons_succ])
              refine take_atR (i := 6) (d := 72) (v := .int .i64 (s : Int)) rfl rfl (by kernel_rfl) (by kernel_rfl) (by kernel_rfl) (fun _ _ _ h => h) (Or.inl ⟨by rfl, fun W' hW' => yld_lookF (.tmp 67) (.tmp 71) 59 rfl 60 3 Try.keyP Try.underlying59 (Try.zeroSincF _) w4.heap.size q D rfl (HJr.out.since_ hW').mp (.agg #[.int .i64 u.dev, .int .i64 (u.seen / 8)]) (kyP u.dev (u.seen / 8)) rfl HKY.out _ HLK.out⟩) HS.out ?_
              (try simp only [Act.put, List.setIfInBounds_toArray, List.set_cons_zero, List.set_cons_succ])
              refine take_atR (i := 7) (d := 73) (v := .slice A' (n - s) (c - s)) rfl rfl (by kernel_rfl) (by kernel_rfl) (by kernel_rfl) (fun _ _ _ h => h) (Or.inl ⟨by rfl, fun W' _ => yld_run rfl (hlo W')⟩) HS.out ?_
              (try simp only [Act.put, List.setIfInBounds_toArray, List.set_cons_zero, List.set_cons_succ])
              refine take_atR (i := 8) (d := 74) (v := .agg #[.int .i64 u.dev, .int .i64 u.seen, .int .i64 u.at_, .bool u.wr, .int .i64 u.value]) rfl rfl (by kernel_rfl) (by kernel_rfl) (by kernel_rfl) (fun _ _ _ h => h) (Or.inl ⟨by rfl, yld_whl 48 (.tmp 13) wr.heap.size 48 #[.int .i64 u.dev, .int .i64 u.seen, .int .i64 u.at_, .bool u.wr, .int .i64 u.value] rfl rfl (fun W' hW' => whl_since HT13.out hW') _ Try.underlying48 rfl Try.sizeTchF⟩) HS.out ?_
              (try simp only [Act.put, List.setIfInBounds_toArray, List.set_cons_zero, List.set_cons_succ])
              refine wpAnyH_ready (rs := [9]) (by kernel_rfl) (by simp) ?_
              refine AllReadyH.cons rfl (fun KK hKK => ?_) AllReadyH.nil
              rw [if_pos (by rfl)]
              refine wp_callR 10 #[.slice A' (n - s) (c - s), .agg #[.int .i64 u.dev, .int .i64 u.seen, .int .i64 u.at_, .bool u.wr, .int .i64 u.value]] (by kernel_rfl) 75 rfl ((fair_ans A' (n - s) (c - s) (past.drop s) u V 0 _ (HLO2.out _ _ _ (by have h := HJr.out.since_ HS.out; rw [← h.ps]; exact machs_of h.ow h.el)) (by rw [← HS0.out]; exact HVV.out) (by rw [← HS0.out]; exact U2.out)).mono ?_)
              rintro e wb ⟨rfl, hb⟩
              refine ⟨_, rfl, ?_⟩
              have HSb := Lib.hid (HS.out.trans (hb.mono HS.out.size))
              clear hb
              refine hKK.out _ _ HSb.out (fun _ => ?_)
              clear hKK KK
              (try simp only [Act.put, List.setIfInBounds_toArray, List.set_cons_zero, List.set_cons_succ])
              refine take_atR (i := 10) (d := 65) (v := _) rfl rfl (by kernel_rfl) (by kernel_rfl) (by kernel_rfl) (fun _ _ _ h => h) (Or.inl ⟨by rfl, fun _ _ => rfl⟩) HSb.out ?_
              (try simp only [Act.put, List.setIfInBounds_toArray, List.set_cons_zero, List.set_cons_succ])
              refine take_atR (i := 11) (d := 76) (v := .int .i64 V) rfl rfl (by kernel_rfl) (by kernel_rfl) (by kernel_rfl) (fun _ _ _ h => h) (Or.inl ⟨by rfl, fun _ _ => rfl⟩) HSb.out ?_
              (try simp only [Act.put, List.setIfInBounds_toArray, List.set_cons_zero, List.set_cons_succ])
              refine take_atR (i := 12) (d := 77) (v := .int .i64 0) rfl rfl (by kernel_rfl) (by kernel_rfl) (by kernel_rfl) (fun _ _ _ h => h) (Or.inl ⟨by rfl, fun _ _ => rfl⟩) HSb.out ?_
              (try simp only [Act.put, List.setIfInBounds_toArray, List.set_cons_zero, List.set_cons_succ])
              refine take_atR (i := 13) (d := 15) (v := _) rfl rfl (by kernel_rfl) (by kernel_rfl) (by kernel_rfl) (fun _ _ _ h => h) (Or.inl ⟨by rfl, fun _ _ => rfl⟩) HSb.out ?_
              (try simp only [Act.put, List.setIfInBounds_toArray, List.set_cons_zero, List.set_cons_succ])
              refine take_atR (i := 14) (d := 16) (v := _) rfl rfl (by kernel_rfl) (by kernel_rfl) (by kernel_rfl) (fun _ _ _ h => h) (Or.inl ⟨by rfl, fun _ _ => rfl⟩) HSb.out ?_
              (try simp only [Act.put, List.setIfInBounds_toArray, List.set_cons_zero, List.set_cons_succ])
              refine wpAnyH_done (by kernel_rfl) ?_ _
              go_wp2
              go_meet
              exact ⟨rfl, rfl, HSb.out⟩
            case rest =>
              obtain ⟨rfl, rfl, hS⟩ := hcut
              have HBK := Lib.hid (HBJ.out.trans (hS.out.mono (by omega)))
              clear hS
              go_wp2
              go_roundw
              case rel => exact ⟨j + 1, by omega, by go_num, HBK.out⟩
              case measure => simp [intOf]; omega
          · obtain rfl : j = tn5 := by omega
            have hh4 : ¬ ((j : Int) < (j : Int)) := by omega
            have hb := HBJ.out
            obtain ⟨wz, hwz⟩ : ∃ wz, wz = wr := ⟨_, rfl⟩
            subst hwz
            have hzj := hb.size
            replace HA6 := Lib.hid (whl_since HA6.out hb)
            replace VZ := Lib.hid (VZ.out.since hb)
            replace VT := Lib.hid (VT.out.since hb)
            replace H8 := Lib.hid (whl_since H8.out hb)
            replace H9 := Lib.hid (whl_since H9.out hb)
            replace HJ := Lib.hid (HJ.out.since_ hb)
            clear hb HBJ hjl HTC
            by_cases hk2 : y.kind = 2
            rotate_left
            · have t3 : (y.kind == 2) = false := beq_eq_false_iff_ne.2 hk2
              have HSN := Lib.hid (HSM.out.same (since' := sinceN past z (⟨y.kind, y.n, shortA y.a⟩ : Hap) since) (fun d p _ _ => by unfold sinceN; rw [if_neg (fun h => hk2 h.1)]))
              have fa : wz.cell? ⟨wo.heap.size, 0, none⟩ = some (.int .i64 y.kind) := whl_cell HA6.out 0
              have la : wo.heap.size < wz.heap.size := by omega
              have hqk2 : q ≤ (k + 1) * 512 := by omega
              clear hk2
              go_upto_region 31 with (fail)
              clear fa la t3 hh4
              obtain ⟨D', hD'⟩ : ∃ D', D' = D := ⟨_, rfl⟩
              obtain ⟨q', hq'⟩ : ∃ q', q' = q := ⟨_, rfl⟩
              rw [← hD'] at HJ HSN
              rw [← hq'] at HJ hqk2
              clear hD' hq'
              go_upto_region 32 with (first
                | (refine wpList_load_whl rfl 33 (.tmp 9) rfl (w7.heap.size) _ _ rfl H8.out _ Try.underlying33 rfl Try.sizeMach ?_)
                | (refine wpList_store_all rfl 33 (.tmp 2) (.tmp 106) rfl (w.heap.size) _ _ #[.slice M5 nm5 mc5, .int .i64 z5.h.at_, .slice R5 nr5 rc5, .bool z5.h.done, .int .i64 z5.b.mode, .int .i64 z5.b.base, .slice L5 n5 c5, .int .i64 z5.b.orders.page, .int .i64 z5.b.orders.head, .int .i64 z5.b.orders.tail, .bool z5.b.stopped, .int .i64 z5.b.fences, .int .i64 z5.b.faults.page, .int .i64 z5.b.faults.head, .int .i64 z5.b.faults.tail, .bool z5.b.lost] rfl rfl HJ.out.m Try.sizeMach rfl rfl ?_; intro w11 h11 t11))
              have hw11 := t11.2
              have hz11 : wz.heap.size ≤ w11.heap.size := Nat.le_of_eq hw11.symm
              have HV5 : Hid (MachV wz (avF w.heap.size w4.heap.size A) z5 M5 nm5 R5 nr5 L5 n5 c5) := Lib.hid (VZ.out.av (fun q hq => ⟨by omega, by have := OBK.out.2; omega, fun ad e => by have := OBK.out.1 ad e; omega⟩))
              have HJ5 := Lib.hid (HJ.out.store h11 t11 HV5.out)
              have HV6 := Lib.hid (machV_chgF HV5.out t11.1 (fun q e hq => hq.1 e))
              have hnk2 : n ≤ k + 1 := hnk
              clear h11 t11 hw11 HV5 VZ HJ
              have HM5 := Lib.hid HJ5.out.m
              go_upto_region 33 with (first
                | (refine wpList_load_whl rfl 33 (.tmp 2) rfl (w.heap.size) _ _ rfl HM5.out _ Try.underlying33 rfl Try.sizeMach ?_)
                | (refine wpList_buildS1 rfl (.tmp 108) 51 rfl _ (by rfl) _ (Try.bs1 _) ?_)
                | (at_builtin; go_loud (refine wpList_append_lies _ rfl (.tmp 107) (.tmp 109) 51 rfl w3.heap.size 33 i0 (.agg #[.slice none 0 0, .int .i64 0, .slice none 0 0, .bool false, .int .i64 0, .int .i64 0, .slice none 0 0, .int .i64 0, .int .i64 0, .int .i64 0, .bool false, .int .i64 0, .int .i64 0, .int .i64 0, .int .i64 0, .bool false]) 16 176 Try.underlying51 HI.out HI0.out HI1.out HI2.out rfl (by decide) (.slice A n c) n (mcells es) rfl (own_below HJ5.out.ow.2.2.2 (below_alloc _ _)) ⟨w11.heap.size, 0, none⟩ 1 1 (Mle.vals ⟨z5, M5, nm5, mc5, R5, nr5, rc5, L5, n5, c5⟩) rfl rfl (news_newV (by simp) rfl) (mle_one _) (by decide) (by unfold maxLen; omega) (by omega) (by simp; have := whl_lt HM5.out; have := OBK.out.2; omega) _ rfl ?_; intro gs caps w21 hown hgrow hat hlt2)))
              have HJ6 := Lib.hid ((HJ5.out.since_ (below_alloc _ _)).app (e := ⟨z5, M5, nm5, mc5, R5, nr5, rc5, L5, n5, c5⟩) hgrow hown hat (HV6.out.since (below_alloc _ _)))
              clear hown hgrow hat hlt2 HM5 HJ5 HV6
              go_wp2
              go_roundw
              case rel => exact ⟨k + 1, past ++ [z5], z5, es ++ [⟨z5, M5, nm5, mc5, R5, nr5, rc5, L5, n5, c5⟩], D', q', some ⟨gs, 0, none⟩, n + 1, caps, M5, nm5, mc5, R5, nr5, rc5, L5, n5, c5, sinceN past z (⟨y.kind, y.n, shortA y.a⟩ : Hap) since, by omega, by go_num, rfl, by omega, hqk2, HJ6, Lib.hid ⟨HSN.out, HNX.out⟩⟩
              case measure => simp [intOf]; omega
            · have t3 : (y.kind == 2) = true := by rw [beq_iff_eq]; exact hk2
              have HK2 := Lib.hid hk2
              have fa : wz.cell? ⟨wo.heap.size, 0, none⟩ = some (.int .i64 2) := (whl_cell HA6.out 0).trans (by show some (Value.int .i64 y.kind) = _; rw [hk2])
              have la : wo.heap.size < wz.heap.size := by omega
              clear hk2
              go_upto_region 22 with (fail)
              clear fa la t3 hh4
              have CK0 := Lib.hid HFI.out.here
              go_loopw [88] (fun s88 wi => ∃ (dv : Nat) (D1 : DataW Value) (q1 : Nat), dv ≤ 8 ∧ s88 = .int .i64 dv ∧ q1 ≤ k * 512 + dv * 64 ∧ Hid (SincM D1 (sincP past z since dv 0)) ∧ Hid (FJ w w.heap.size w4.heap.size w3.heap.size past z es D1 q1 A n c M nm mc R nr rc L ln lc wi) ∧ Hid (Chg (fun q => q = w4.heap.size) wz wi)) (fun s88 _ => 8 - (intOf s88).toNat)
              case atStart => exact ⟨0, D, q, by omega, rfl, by omega, HSM.out.same (fun d p _ _ => sincP_0 d p), HJ.out, chg_refl _⟩
              case round =>
                obtain ⟨dv, D1, q1, hdv, rfl, hq1, hs1, hj1, hc1⟩ := hrel
                have HS1 := Lib.hid hs1.out
                have HJ1 := Lib.hid hj1.out
                have HC1 := Lib.hid hc1.out
                clear hs1 hj1 hc1
                by_cases hdl : dv < 8
                rotate_left
                · obtain rfl : dv = 8 := by omega
                  have hh5 : ¬ ((8 : Int) < 8) := by omega
                  have HSN := Lib.hid (HS1.out.same (since' := sinceN past z (⟨y.kind, y.n, shortA y.a⟩ : Hap) since) (fun d p _ _ => (sincP_all HK2.out d p).symm))
                  obtain ⟨wy, hwy⟩ : ∃ wy, wy = wr := ⟨_, rfl⟩
                  subst hwy
                  have hC := HC1.out
                  have hzy := hC.size
                  have hqk2 : q1 ≤ (k + 1) * 512 := by omega
                  replace HJ := Lib.hid HJ1.out
                  replace H8 := Lib.hid (whl_chg H8.out hC (fun e => by have := OBK.out.2; omega))
                  replace VZ := Lib.hid (machV_chgF (machV_ltX2 VZ.out) hC (fun q e hq => by have := OBK.out.2; omega))
                  clear hC HC1 HS1 HJ1 hdl
                  go_upto_region 31 with (fail)
                  clear hh5
                  obtain ⟨D', hD'⟩ : ∃ D', D' = D1 := ⟨_, rfl⟩
                  obtain ⟨q', hq'⟩ : ∃ q', q' = q1 := ⟨_, rfl⟩
                  rw [← hD'] at HJ HSN
                  rw [← hq'] at HJ hqk2
                  clear hD' hq'
                  go_upto_region 32 with (first
                    | (refine wpList_load_whl rfl 33 (.tmp 9) rfl (w7.heap.size) _ _ rfl H8.out _ Try.underlying33 rfl Try.sizeMach ?_)
                    | (refine wpList_store_all rfl 33 (.tmp 2) (.tmp 106) rfl (w.heap.size) _ _ #[.slice M5 nm5 mc5, .int .i64 z5.h.at_, .slice R5 nr5 rc5, .bool z5.h.done, .int .i64 z5.b.mode, .int .i64 z5.b.base, .slice L5 n5 c5, .int .i64 z5.b.orders.page, .int .i64 z5.b.orders.head, .int .i64 z5.b.orders.tail, .bool z5.b.stopped, .int .i64 z5.b.fences, .int .i64 z5.b.faults.page, .int .i64 z5.b.faults.head, .int .i64 z5.b.faults.tail, .bool z5.b.lost] rfl rfl HJ.out.m Try.sizeMach rfl rfl ?_; intro w11 h11 t11))
                  have hw11 := t11.2
                  have hz11 : wy.heap.size ≤ w11.heap.size := Nat.le_of_eq hw11.symm
                  have HV5 : Hid (MachV wy (avF w.heap.size w4.heap.size A) z5 M5 nm5 R5 nr5 L5 n5 c5) := Lib.hid (VZ.out.av (fun q hq => ⟨by omega, by have := OBK.out.2; omega, fun ad e => by have := OBK.out.1 ad e; omega⟩))
                  have HJ5 := Lib.hid (HJ.out.store h11 t11 HV5.out)
                  have HV6 := Lib.hid (machV_chgF HV5.out t11.1 (fun q e hq => hq.1 e))
                  have hnk2 : n ≤ k + 1 := hnk
                  clear h11 t11 hw11 HV5 VZ HJ
                  have HM5 := Lib.hid HJ5.out.m
                  go_upto_region 33 with (first
                    | (refine wpList_load_whl rfl 33 (.tmp 2) rfl (w.heap.size) _ _ rfl HM5.out _ Try.underlying33 rfl Try.sizeMach ?_)
                    | (refine wpList_buildS1 rfl (.tmp 108) 51 rfl _ (by rfl) _ (Try.bs1 _) ?_)
                    | (at_builtin; go_loud (refine wpList_append_lies _ rfl (.tmp 107) (.tmp 109) 51 rfl w3.heap.size 33 i0 (.agg #[.slice none 0 0, .int .i64 0, .slice none 0 0, .bool false, .int .i64 0, .int .i64 0, .slice none 0 0, .int .i64 0, .int .i64 0, .int .i64 0, .bool false, .int .i64 0, .int .i64 0, .int .i64 0, .int .i64 0, .bool false]) 16 176 Try.underlying51 HI.out HI0.out HI1.out HI2.out rfl (by decide) (.slice A n c) n (mcells es) rfl (own_below HJ5.out.ow.2.2.2 (below_alloc _ _)) ⟨w11.heap.size, 0, none⟩ 1 1 (Mle.vals ⟨z5, M5, nm5, mc5, R5, nr5, rc5, L5, n5, c5⟩) rfl rfl (news_newV (by simp) rfl) (mle_one _) (by decide) (by unfold maxLen; omega) (by omega) (by simp; have := whl_lt HM5.out; have := OBK.out.2; omega) _ rfl ?_; intro gs caps w21 hown hgrow hat hlt2)))
                  have HJ6 := Lib.hid ((HJ5.out.since_ (below_alloc _ _)).app (e := ⟨z5, M5, nm5, mc5, R5, nr5, rc5, L5, n5, c5⟩) hgrow hown hat (HV6.out.since (below_alloc _ _)))
                  clear hown hgrow hat hlt2 HM5 HJ5 HV6
                  go_wp2
                  go_roundw
                  case rel => exact ⟨k + 1, past ++ [z5], z5, es ++ [⟨z5, M5, nm5, mc5, R5, nr5, rc5, L5, n5, c5⟩], D', q', some ⟨gs, 0, none⟩, n + 1, caps, M5, nm5, mc5, R5, nr5, rc5, L5, n5, c5, sinceN past z (⟨y.kind, y.n, shortA y.a⟩ : Hap) since, by omega, by go_num, rfl, by omega, hqk2, HJ6, Lib.hid ⟨HSN.out, HNX.out⟩⟩
                  case measure => simp [intOf]; omega
                · have r1 : (dv : Int) < 8 := by omega
                  go_upto_region 25 with (fail)
                  clear r1
                  go_loopw [91] (fun s91 wi => ∃ (pg : Nat) (D2 : DataW Value) (q2 : Nat), pg ≤ 64 ∧ s91 = .int .i64 pg ∧ q2 ≤ k * 512 + dv * 64 + pg ∧ Hid (SincM D2 (sincP past z since dv pg)) ∧ Hid (FJ w w.heap.size w4.heap.size w3.heap.size past z es D2 q2 A n c M nm mc R nr rc L ln lc wi) ∧ Hid (Chg (fun q => q = w4.heap.size) wz wi)) (fun s91 _ => 64 - (intOf s91).toNat)
                  case atStart => exact ⟨0, D1, q1, by omega, rfl, by omega, HS1.out, HJ1.out, HC1.out⟩
                  case round =>
                    clear HS1 HJ1 HC1
                    obtain ⟨pg, D2, q2, hpg, rfl, hq2, hs2, hj2, hc2⟩ := hrel
                    have HS2 := Lib.hid hs2.out
                    have HJ2 := Lib.hid hj2.out
                    have HC2 := Lib.hid hc2.out
                    clear hs2 hj2 hc2
                    by_cases hpl : pg < 64
                    rotate_left
                    · obtain rfl : pg = 64 := by omega
                      have hh6 : ¬ ((64 : Int) < 64) := by omega
                      clear hpl
                      go_wp2
                      go_roundw
                      case rel => exact ⟨dv + 1, D2, q2, by omega, by go_num, by omega, HS2.out.same (fun d p _ _ => by have h := sincP_row (past := past) (x := z) (since := since) (dd := (dv : Int)) d p; rw [Int.natCast_add]; exact h), HJ2.out, HC2.out⟩
                      case measure => simp [intOf]; omega
                    · have r2 : (pg : Int) < 64 := by omega
                      have HM2 := Lib.hid HJ2.out.m
                      obtain ⟨s1, s2, s3⟩ := sincP_step (past := past) (x := z) (since := since) (dd := (dv : Int)) (pp := (pg : Int)) (by omega) (by omega)
                      have S1 := Lib.hid s1
                      have S2 := Lib.hid s2
                      have S3 := Lib.hid s3
                      obtain ⟨bb, hbb⟩ : ∃ bb, drpM z (dv : Int) (pg : Int) = bb := ⟨_, rfl⟩
                      have HBB := Lib.hid hbb
                      clear s1 s2 s3 hbb
                      go_wp2_with (first | (refine wpList_load_whl rfl 33 (.tmp 2) rfl (w.heap.size) _ _ rfl HM2.out _ Try.underlying33 rfl Try.sizeMach ?_))
                      refine (law_dropped z (dv : Int) (pg : Int) M R L _ nm mc nr rc ln lc HJ2.out.mv.hm).mono ?_
                      rw [HBB.out]
                      rintro e we ⟨rfl, hb⟩
                      replace HJ2 := Lib.hid (HJ2.out.since_ hb)
                      replace HC2 := Lib.hid (chg_bel HC2.out hb)
                      clear hb HM2
                      cases bb with
                      | false =>
                        go_wp2
                        go_roundw
                        case rel => exact ⟨pg + 1, D2, q2, by omega, by go_num, by omega, HS2.out.same (fun d p _ _ => by
                          by_cases e : d = (dv : Int) ∧ p = (pg : Int)
                          · obtain ⟨rfl, rfl⟩ := e; exact S2.out HBB.out
                          · exact S3.out d p e), HJ2.out, HC2.out⟩
                        case measure => simp [intOf]; omega
                      | true =>
                        have HKY := Lib.hid (Try.kyP_of (d := (dv : Int)) (p := (pg : Int)) (by omega) (by omega))
                        go_wp2_with (at_mapUpdate; refine wpList_mapUpdate_own _ rfl _ _ _ 59 rfl 60 3 Try.keyP Try.underlying59 heldR w4.heap.size q2 _ rfl HJ2.out.mp (by unfold maxLen; omega) _ _ (kyP (dv : Int) (pg : Int)) rfl rfl HKY.out (.held (.int .i64 (n : Int))) [] rfl ?_; intro wf ho' hg')
                        have hC := chg_grown (P := fun q => q = w4.heap.size) (chg_refl we) hg' (fun k e => Or.inl (by injection e with e; exact e.symm))
                        have HJ3 := Lib.hid (HJ2.out.turn hC ho')
                        have HC3 := Lib.hid (chg_trans HC2.out (chg_mono hC (fun q _ e => e)))
                        have HS3 := Lib.hid (HS2.out.put (d := (dv : Int)) (p := (pg : Int)) (v := n) (by omega) (by omega) ((S1.out HBB.out).trans HNL.out) (fun d p e => S3.out d p e))
                        clear hC ho' hg' HKY
                        go_wp2
                        go_roundw
                        case rel => exact ⟨pg + 1, _, q2 + 1, by omega, by go_num, by omega, HS3.out, HJ3.out, HC3.out⟩
                        case measure => simp [intOf]; omega
end
end
/-! MachineFair: WHAT A DEVICE TOUCHES IT MAY HAVE, by memory and bridge alone, at some moment since its page was last dropped, whoever is picked, whatever the program does. No condition. -/
section
open Go.RowKit
set_option linter.unusedSimpArgs false
set_option linter.unusedVariables false
open Go.ChangeShapes Go.WideShapes Go.ChangeAt
theorem Try.laidOut : laidOutB Try.prog = true := by kernel_rfl
set_option maxRecDepth 100000 in
theorem machineFair_lifted (os : Os) (started : os.Started) (H : Type) (enc : TypeId × Value → H) :
    ReturnsInHanded {} Try.checked os 5 .any (Rows.machineFairSpec.pre6 enc Try.prog Try.f5 Rows.machineFairRow.domain false) (Rows.machineFairSpec.post enc Try.prog Try.f5 false true false false) := by
  refine returnsInHanded_of_change (C := Try.checked) Try.own started (by kernel_rfl) Try.func5
    (ChangeSpec.witness6 (enc := enc) (C := Try.checked) false ⟨#[], #[.agg #[.slice none 0 0, .int .i64 0, .slice none 0 0, .bool false, .int .i64 0, .int .i64 0, .slice none 0 0, .int .i64 0, .int .i64 0, .int .i64 0, .bool false, .int .i64 0, .int .i64 0, .int .i64 0, .int .i64 0, .bool false], .slice none 0 0], []⟩ 8 (by kernel_rfl) (by kernel_rfl) (by kernel_rfl) (by kernel_rfl)) ?_
  intro W base args ds gs before hval0 hW hcnd _
  have hval : ∀ (j : Nat) t v, Try.f5.params[j]? = some t → args[j]? = some v → Value.okWide Try.prog W .any base t v := hval0
  have hW' := hW
  obtain ⟨p, q, hA0, hV, hps, hfz, hnd⟩ := hW
  have hA : DataW.TrodAll enc Try.prog W 0 (fun _ => true) true Try.f5.params.toList args.toList ds p := hA0
  rw [Try.params5] at hA hval
  clear hA0 hval0 hcnd
  obtain ⟨v0, vs0, d0, ds0, p0, q0, hargs, rfl, hp0, h0, r0⟩ := trodAll_cons hA
  obtain ⟨v1, vs1, d1, ds1, p1, q1, rfl, rfl, hp1, h1, r1⟩ := trodAll_cons r0
  obtain ⟨rfl, rfl, _⟩ := trodAll_nil r1
  obtain rfl : args = #[v0, v1] := by cases args; simp_all
  obtain ⟨rfl, rfl⟩ := trodVars_none hV
  obtain ⟨x, M, R, L, nm, mc, nr, rc, n, c, rfl, hM, hR, hL⟩ := open_machine (hval 0 33 v0 rfl rfl) h0
  obtain ⟨HA, hn, hc, hs, rfl, hH, hHC⟩ := open_hapsC (hval 1 53 v1 rfl rfl) h1
  refine (law_MachineFair x hs M R L HA hn hc W nm mc nr rc n c hM hR hL hH hHC).mono fun e W' ⟨he, hb⟩ => ?_
  subst he
  exact ⟨_, rfl, law_post Try.laidOut (by kernel_rfl) rfl Try.underlying4 rfl hW' rfl rfl rfl hb⟩

theorem machineFair_holds : Rows.MachineFairSaid :=
  OpenClaim.holds_of_wide 5 Try.f5 rfl rfl rfl rfl rfl rfl rfl ⟨rfl, rfl, rfl, rfl, rfl⟩ rfl rfl rfl rfl rfl (by kernel_rfl) Try.func5 (by kernel_rfl)
    (of_decide_eq_true (by kernel_rfl)) (by unfold Func.isWrapper; first | (rw [if_pos (by decide +kernel)]; kernel_rfl) | (rw [if_neg (by decide +kernel)]; exact ⟨rfl, rfl⟩))
    (fun os started H enc _ => machineFair_lifted os started H enc)
end
end Go.Proofs.Ytbopdijnojaaiad
