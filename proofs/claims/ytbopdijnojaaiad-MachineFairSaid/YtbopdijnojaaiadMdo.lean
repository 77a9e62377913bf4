/- The machine: the walk of the program's Do. No statement of the seat is proved here. -/
import Derived.Test.YtbopdijnojaaiadMachY
import Derived.Test.YtbopdijnojaaiadMachC
import Derived.Test.YtbopdijnojaaiadHart9
import Derived.Test.YtbopdijnojaaiadObey
import Derived.Test.YtbopdijnojaaiadDmaO
import Derived.Test.YtbopdijnojaaiadHaps
import Derived.Test.YtbopdijnojaaiadWhole
import Derived.Deep.RegionHeld3
import Derived.Deep.MidRow
namespace Go.Proofs.Ytbopdijnojaaiad
open Go.RowKit
set_option linter.unusedSimpArgs false
set_option linter.unusedVariables false
/-- what Do hands back. -/
def MdoC (w : World) (r : Mch × Tld) (E : Int) (e : Ending) (w' : World) : Prop :=
  ∃ M nm mc R nr rc L n c D dn dc T tn tc, e = .returned (.tuple #[.agg #[.slice M nm mc, .int .i64 r.1.h.at_, .slice R nr rc, .bool r.1.h.done, .int .i64 r.1.b.mode, .int .i64 r.1.b.base, .slice L n c, .int .i64 r.1.b.orders.page, .int .i64 r.1.b.orders.head, .int .i64 r.1.b.orders.tail, .bool r.1.b.stopped, .int .i64 r.1.b.fences, .int .i64 r.1.b.faults.page, .int .i64 r.1.b.faults.head, .int .i64 r.1.b.faults.tail, .bool r.1.b.lost], .agg #[.bool r.2.done, .slice D dn dc, .int .i64 r.2.fault, .slice T tn tc], .int .i64 E]) ∧
    MachV w' (fun q => w.heap.size ≤ q) r.1 M nm R nr L n c ∧ TldV w' (fun q => w.heap.size ≤ q) r.2 D dn T tn tc ∧ Below w.heap.size w w'
theorem machV_no (w : World) (Av : Nat → Prop) : MachV w Av .no none 0 none 0 none 0 0 :=
  ⟨⟨rfl, by unfold maxLen; omega, Row.nil_⟩, ⟨rfl, by unfold maxLen; omega, Row.nil_⟩, lines_none _ _, fun h => absurd h (by decide), fun h => absurd h (by decide), fun h => absurd h (by decide)⟩
theorem tldV_none (w : World) (Av : Nat → Prop) : TldV w Av .no none 0 none 0 0 := ⟨⟨rfl, by unfold maxLen; omega, Row.nil_⟩, tchs_none _ _, fun h => absurd h (by decide), fun h => absurd h (by decide)⟩
theorem mdo_none {w w' : World} {E : Int} (hb : Below w.heap.size w w') : MdoC w (.no, .no) E (.returned (.tuple #[.agg #[.slice none 0 0, .int .i64 0, .slice none 0 0, .bool false, .int .i64 0, .int .i64 0, .slice none 0 0, .int .i64 0, .int .i64 0, .int .i64 0, .bool false, .int .i64 0, .int .i64 0, .int .i64 0, .int .i64 0, .bool false], .agg #[.bool false, .slice none 0 0, .int .i64 0, .slice none 0 0], .int .i64 E])) w' :=
  ⟨none, 0, 0, none, 0, 0, none, 0, 0, none, 0, 0, none, 0, 0, rfl, machV_no _ _, tldV_none _ _, hb⟩
theorem whl_all {w : World} {g : Nat} {t : TypeId} {cs : Array Value} (h : Whl w g t cs) : w.rangeAt g 0 cs.toList := fun j v hv => by
  rw [whl_cell h, Nat.zero_add]; simpa using hv
/-- behind the switch. -/
def SwC (w : World) (r : Mch × Tld) (E : Int) (g8 : Nat) (wd : World) : Prop :=
  ∃ (z : Mch) (t : Tld) (M : Option Addr) (nm mc : Nat) (R : Option Addr) (nr rc : Nat) (L : Option Addr) (n c : Nat) (D : Option Addr) (dn dc : Nat) (X : Option Addr) (tn tc : Nat),
    Whl wd w.heap.size 33 (#[.slice M nm mc, .int .i64 z.h.at_, .slice R nr rc, .bool z.h.done, .int .i64 z.b.mode, .int .i64 z.b.base, .slice L n c, .int .i64 z.b.orders.page, .int .i64 z.b.orders.head, .int .i64 z.b.orders.tail, .bool z.b.stopped, .int .i64 z.b.fences, .int .i64 z.b.faults.page, .int .i64 z.b.faults.head, .int .i64 z.b.faults.tail, .bool z.b.lost]) ∧ Whl wd g8 41 #[.bool t.done, .slice D dn dc, .int .i64 t.fault, .slice X tn tc] ∧ Whl wd (w.heap.size + 1 + 1) 33 #[.slice none 0 0, .int .i64 0, .slice none 0 0, .bool false, .int .i64 0, .int .i64 0, .slice none 0 0, .int .i64 0, .int .i64 0, .int .i64 0, .bool false, .int .i64 0, .int .i64 0, .int .i64 0, .int .i64 0, .bool false] ∧ Whl wd (w.heap.size + 1 + 1 + 1) 41 #[.bool false, .slice none 0 0, .int .i64 0, .slice none 0 0] ∧
    Below w.heap.size w wd ∧ (E = 0 → r = (z, t) ∧ MachV wd (fun q => w.heap.size + 4 ≤ q) z M nm R nr L n c ∧ TldV wd (fun q => w.heap.size + 4 ≤ q) t D dn X tn tc)

theorem do_1 {x : Mch} {y : Hap} {ys : List Int} {g : Hrt} {d : Brg} {E : Int} (h0 : ckM x = 0) (hk : y.kind = 1) (hE : doE x y = E) (hA : stepA x.m x.h x.b = (ys, g, d)) : stepE x.m x.h x.b = E ∧ (E = 0 → doA x y = (⟨ys, g, d⟩, .no)) := by
  have e : doE x y = stepE x.m x.h x.b := by rw [doE_0 h0, hapE_1 hk, stepE_m h0]
  refine ⟨by rw [← e]; exact hE, fun h => ?_⟩
  unfold stepA at hA
  rw [← e, hE, if_pos h] at hA
  unfold doA
  rw [hE, if_pos h, hapM_1 hk, hA]
theorem do_2 {x : Mch} {y : Hap} {rb : Brg} {E : Int} (h0 : ckM x = 0) (hk : y.kind = 2) (hE : doE x y = E) (hA : obeyA x.m x.b = rb) : obeyE x.m x.b = E ∧ (E = 0 → doA x y = (⟨x.m, x.h, rb⟩, .no)) := by
  have e : doE x y = obeyE x.m x.b := by rw [doE_0 h0, hapE_2 hk]
  refine ⟨by rw [← e]; exact hE, fun h => ?_⟩
  unfold obeyA at hA
  rw [← e, hE, if_pos h] at hA
  unfold doA
  rw [hE, if_pos h, hapM_2 hk, hA]
theorem do_3e {x : Mch} {y : Hap} {ys : List Int} {d : Brg} {t : Tld} {E : Int} (h0 : ckM x = 0) (hk : y.kind = 3) (hE : doE x y = E) (hA : dmaA x.m x.b y.a = (ys, d, t)) : dmaE x.m x.b y.a = E ∧ (E = 0 → doA x y = (⟨ys, x.h, d⟩, t)) := by
  have e : doE x y = dmaE x.m x.b y.a := by rw [doE_0 h0, hapE_3 hk, dmaE_m h0]
  refine ⟨by rw [← e]; exact hE, fun h => ?_⟩
  unfold dmaA at hA
  rw [← e, hE, if_pos h] at hA
  unfold doA
  rw [hE, if_pos h, hapM_3 hk, hA]
theorem do_4y {x : Mch} {y : Hap} {k : Nat} {E : Int} (h0 : ckM x = 0) (hk : y.kind = 4) (hE : doE x y = E) (hn : y.n = (k : Int)) (hl : k < x.b.cache.length) : E = 0 ∧ doA x y = (⟨x.m, x.h, { x.b with cache := x.b.cache.eraseIdx k }⟩, .no) := by
  have e : doE x y = 0 := by rw [doE_0 h0, hapE_4 hk, hn, if_pos (by omega)]
  refine ⟨by rw [← hE, e], ?_⟩
  unfold doA
  rw [e, if_pos rfl, hapM_4 hk, hn]
  simp
theorem do_4n {x : Mch} {y : Hap} {E : Int} (h0 : ckM x = 0) (hk : y.kind = 4) (hE : doE x y = E) (hn : ¬ (0 ≤ y.n ∧ y.n < x.b.cache.length)) : E = 4 := by rw [← hE, doE_0 h0, hapE_4 hk, if_neg hn]
theorem do_5 {x : Mch} {y : Hap} {E : Int} (h0 : ckM x = 0) (h1 : y.kind ≠ 1) (h2 : y.kind ≠ 2) (h3 : y.kind ≠ 3) (h4 : y.kind ≠ 4) (hE : doE x y = E) : E = 3 := by rw [← hE, doE_0 h0, hapE_n h1 h2 h3 h4]
theorem own_apt {B B' : Nat} {w : World} {A L : Option Addr} {m c n c' : Nat} {xs : List Int} {ls : List Line} (h : OwnI B w A m c xs) (h' : OwnL B' w L n c' ls) : ∀ ad ad', A = some ad → L = some ad' → ad.block ≠ ad'.block := by
  intro ad ad' e e'
  obtain ⟨_, _, h⟩ := h
  obtain ⟨_, _, _, _, h'⟩ := h'
  rcases h with ⟨h, _⟩ | ⟨g, cap, cur, hv, _, hg, _⟩
  · injection h with h1; rw [e] at h1; cases h1
  · rcases h' with ⟨h', _⟩ | ⟨g', cap', cur', hv', _, hg', _⟩
    · injection h' with h1; rw [e'] at h1; cases h1
    · injection hv with h1; rw [e] at h1; injection h1 with h1; subst h1
      injection hv' with h1; rw [e'] at h1; injection h1 with h1; subst h1
      intro hh
      simp only [] at hh
      subst hh
      rw [hg] at hg'
      injection hg' with hg'
      injection hg' with _ hty
      exact absurd hty (by decide)
theorem mdma_k (xs : List Int) (m : Option Addr) (nm mc : Nat) (b : Brg) (A0 : Option Addr) (n0 c0 : Nat) (AD : Option Addr) (nd cd : Nat) (w : World) (hx : Ints w w.heap.size m nm xs) (hl : Lines w w.heap.size A0 n0 c0 b.cache) (a : Ask) (hd : Ints w w.heap.size AD nd a.data) (R : List Int × Brg × Tld) (E : Int) (k : Nat) (hR : dmaA xs b a = R) (hE : dmaE xs b a = E) (hk : (if E = 0 then 512 else 0) = k) :
    Calls Try.prog 22 #[.agg #[.slice m nm mc], .agg #[.int .i64 b.mode, .int .i64 b.base, .slice A0 n0 c0, .int .i64 b.orders.page, .int .i64 b.orders.head, .int .i64 b.orders.tail, .bool b.stopped, .int .i64 b.fences, .int .i64 b.faults.page, .int .i64 b.faults.head, .int .i64 b.faults.tail, .bool b.lost], .agg #[.int .i64 a.dev, .int .i64 a.at_, .int .i64 a.count, .bool a.wr, .slice AD nd cd]] w (DoC w k R E) := by
  subst hk; exact dma_ans xs m nm mc b A0 n0 c0 AD nd cd w hx hl a hd R E hR hE
theorem own_aptR {B B' : Nat} {w : World} {A L : Option Addr} {m c n c' : Nat} {xs : List Int} {ls : List Line} (h : OwnI B w A m c xs) (h' : OwnL B' w L n c' ls) : ∀ ad ad', A = some ad → L = some ad' → ad.block ≠ ad'.block := own_apt h h'
theorem step_any (xs : List Int) (h : Hrt) (b : Brg) (M R L : Option Addr) (nm mc nr rc n c : Nat) (w : World) (hm : Ints w w.heap.size M nm xs) (hr : Ints w w.heap.size R nr h.regs) (hl : Lines w w.heap.size L n c b.cache) (ys : List Int) (g : Hrt) (d : Brg) (E : Int) (hE : stepE xs h b = E) (he : stepA xs h b = (ys, g, d)) :
    Calls Try.prog 20 #[.agg #[.slice M nm mc], .agg #[.int .i64 h.at_, .slice R nr rc, .bool h.done], .agg #[.int .i64 b.mode, .int .i64 b.base, .slice L n c, .int .i64 b.orders.page, .int .i64 b.orders.head, .int .i64 b.orders.tail, .bool b.stopped, .int .i64 b.fences, .int .i64 b.faults.page, .int .i64 b.faults.head, .int .i64 b.faults.tail, .bool b.lost]] w fun e w' => ∃ A na a P np p Q q k, e = .returned (.tuple #[.agg #[.slice A na a], .agg #[.int .i64 g.at_, .slice P np p, .bool g.done], .agg #[.int .i64 d.mode, .int .i64 d.base, .slice Q q k, .int .i64 d.orders.page, .int .i64 d.orders.head, .int .i64 d.orders.tail, .bool d.stopped, .int .i64 d.fences, .int .i64 d.faults.page, .int .i64 d.faults.head, .int .i64 d.faults.tail, .bool d.lost], .int .i64 E]) ∧
      Ints w' w'.heap.size A na ys ∧ Ints w' w'.heap.size P np g.regs ∧ Lines w' w'.heap.size Q q k d.cache ∧ Below w.heap.size w w' ∧ (∀ ad, A = some ad → w.heap.size ≤ ad.block) ∧ (∀ ad, P = some ad → w.heap.size ≤ ad.block) ∧ ∀ ad, Q = some ad → w.heap.size ≤ ad.block := by
  unfold stepA at he
  by_cases h0 : stepE xs h b = 0
  · rw [if_pos h0] at he
    rw [← hE, h0]
    exact (step_ok xs h b M R L nm mc nr rc n c w hm hr hl h0 ys g d he).mono fun e w' ⟨A, a, P, p, Q, q, k, h1, h2⟩ => ⟨A, 512, a, P, 8, p, Q, q, k, h1, h2⟩
  · rw [if_neg h0] at he
    injection he with e1 e2
    injection e2 with e2 e3
    subst e1 e2 e3
    rw [← hE]
    exact (step_not xs h b M R L nm mc nr rc n c w hm hr hl h0).mono fun e w' ⟨h1, h2⟩ => ⟨none, 0, 0, none, 0, 0, none, 0, 0, h1, ⟨rfl, by unfold maxLen; omega, Row.nil_⟩, ⟨rfl, by unfold maxLen; omega, Row.nil_⟩, lines_none _ _, h2, (fun ad e => nomatch e), (fun ad e => nomatch e), fun ad e => nomatch e⟩
section
variable (x : Mch) (y : Hap) (M R L AD : Option Addr) (nd cd : Nat) (w : World)
set_option maxRecDepth 100000 in
set_option maxHeartbeats 4000000 in
theorem mdo_bad (nm mc nr rc n c : Nat) (hm : Ints w w.heap.size M nm x.m) (hr : Ints w w.heap.size R nr x.h.regs) (hl : Lines w w.heap.size L n c x.b.cache) (h0 : ckM x ≠ 0) :
    Calls Try.prog 8 #[.agg #[.slice M nm mc, .int .i64 x.h.at_, .slice R nr rc, .bool x.h.done, .int .i64 x.b.mode, .int .i64 x.b.base, .slice L n c, .int .i64 x.b.orders.page, .int .i64 x.b.orders.head, .int .i64 x.b.orders.tail, .bool x.b.stopped, .int .i64 x.b.fences, .int .i64 x.b.faults.page, .int .i64 x.b.faults.head, .int .i64 x.b.faults.tail, .bool x.b.lost], .agg #[.int .i64 y.kind, .int .i64 y.n, .int .i64 y.a.dev, .int .i64 y.a.at_, .int .i64 y.a.count, .bool y.a.wr, .slice AD nd cd]] w (MdoC w (.no, .no) (ckM x)) := by
  have HM := Lib.hid hm
  have HR := Lib.hid hr
  have HL := Lib.hid hl
  have t0 : (ckM x != 0) = true := by rw [bne_iff_ne]; exact h0
  clear hm hr hl h0
  go_enter Try.func8, Try.ntmps8
  go_upto_region 1 with (fail)
  generalize hw0 : ((((w.alloc (.cells #[.slice M nm mc, .int .i64 x.h.at_, .slice R nr rc, .bool x.h.done, .int .i64 x.b.mode, .int .i64 x.b.base, .slice L n c, .int .i64 x.b.orders.page, .int .i64 x.b.orders.head, .int .i64 x.b.orders.tail, .bool x.b.stopped, .int .i64 x.b.fences, .int .i64 x.b.faults.page, .int .i64 x.b.faults.head, .int .i64 x.b.faults.tail, .bool x.b.lost] 33)).alloc (.cells #[.int .i64 y.kind, .int .i64 y.n, .int .i64 y.a.dev, .int .i64 y.a.at_, .int .i64 y.a.count, .bool y.a.wr, .slice AD nd cd] 46)).alloc (.cells #[.slice none 0 0, .int .i64 0, .slice none 0 0, .bool false, .int .i64 0, .int .i64 0, .slice none 0 0, .int .i64 0, .int .i64 0, .int .i64 0, .bool false, .int .i64 0, .int .i64 0, .int .i64 0, .int .i64 0, .bool false] 33)).alloc (.cells #[.bool false, .slice none 0 0, .int .i64 0, .slice none 0 0] 41)) = w0
  have H2 := Lib.hid (show Whl w0 (w.heap.size) 33 #[.slice M nm mc, .int .i64 x.h.at_, .slice R nr rc, .bool x.h.done, .int .i64 x.b.mode, .int .i64 x.b.base, .slice L n c, .int .i64 x.b.orders.page, .int .i64 x.b.orders.head, .int .i64 x.b.orders.tail, .bool x.b.stopped, .int .i64 x.b.fences, .int .i64 x.b.faults.page, .int .i64 x.b.faults.head, .int .i64 x.b.faults.tail, .bool x.b.lost] by rw [← hw0]; exact whl_alloc (whl_alloc (whl_alloc (whl_new _ _ _ rfl) _) _) _)
  have H3 := Lib.hid (show Whl w0 (w.heap.size + 1) 46 #[.int .i64 y.kind, .int .i64 y.n, .int .i64 y.a.dev, .int .i64 y.a.at_, .int .i64 y.a.count, .bool y.a.wr, .slice AD nd cd] by rw [← hw0]; exact whl_alloc (whl_alloc (whl_new _ _ _ (by simp)) _) _)
  have H4 := Lib.hid (show Whl w0 (w.heap.size + 1 + 1) 33 #[.slice none 0 0, .int .i64 0, .slice none 0 0, .bool false, .int .i64 0, .int .i64 0, .slice none 0 0, .int .i64 0, .int .i64 0, .int .i64 0, .bool false, .int .i64 0, .int .i64 0, .int .i64 0, .int .i64 0, .bool false] by rw [← hw0]; exact whl_alloc (whl_new _ _ _ (by simp)) _)
  have H5 := Lib.hid (show Whl w0 (w.heap.size + 1 + 1 + 1) 41 #[.bool false, .slice none 0 0, .int .i64 0, .slice none 0 0] by rw [← hw0]; exact whl_new _ _ _ (by simp))
  have HW0 := Lib.hid (show Below w.heap.size w w0 by rw [← hw0]; (repeat (first | (with_reducible exact Below.refl _ _) | (with_reducible refine Below.drew ?_) | (with_reducible refine bdrewN ?_ _) | ((with_reducible refine Below.setCell ?_ ?_ _); rotate_left; exact (by first | (simp; done) | (simp; omega) | omega)) | ((with_reducible refine Below.alloc ?_ ?_ _); rotate_left; exact (by first | (simp; done) | (simp; omega) | omega)))))
  have hz0 : w0.heap.size = w.heap.size + 1 + 1 + 1 + 1 := by rw [← hw0]; simp
  clear hw0
  go_wp2_with (refine wpList_load_whl rfl 33 (.tmp 2) rfl (w.heap.size) _ _ rfl H2.out _ Try.underlying33 rfl Try.sizeMach ?_)
  refine (machine_Check x M R L nm mc nr rc n c _ (ints_now HM.out HW0.out) (ints_now HR.out HW0.out) (lines_now HL.out HW0.out)).mono ?_
  rintro e w1 ⟨rfl, hb1⟩
  have HB1 := Lib.hid hb1
  have hz1 := hb1.size
  have H4a := Lib.hid (whl_since H4.out HB1.out)
  have H5a := Lib.hid (whl_since H5.out HB1.out)
  have HW1 := Lib.hid (HW0.out.trans (hb1.mono (by omega)))
  clear hb1 H2 H3 H4 H5
  go_wp2_with (first
    | (refine wpList_store_all rfl 33 (.tmp 4) (.tmp 14) rfl (w.heap.size + 1 + 1) _ _ #[.slice none 0 0, .int .i64 0, .slice none 0 0, .bool false, .int .i64 0, .int .i64 0, .slice none 0 0, .int .i64 0, .int .i64 0, .int .i64 0, .bool false, .int .i64 0, .int .i64 0, .int .i64 0, .int .i64 0, .bool false] rfl rfl H4a.out Try.sizeMach rfl rfl ?_; intro w4 H4c T4; have H4b0 := H4c; have H5c := whl_trn H5a.out T4 (by omega))
    | (refine wpList_store_all rfl 41 (.tmp 5) (.tmp 15) rfl (w.heap.size + 1 + 1 + 1) _ _ #[.bool false, .slice none 0 0, .int .i64 0, .slice none 0 0] rfl rfl H5c Try.sizeTold rfl rfl ?_; intro w5 H5b T5; have H4b := whl_trn H4b0 T5 (by omega)))
  go_wp2
  refine bodyPost_ret (v := .tuple #[.agg #[.slice none 0 0, .int .i64 0, .slice none 0 0, .bool false, .int .i64 0, .int .i64 0, .slice none 0 0, .int .i64 0, .int .i64 0, .int .i64 0, .bool false, .int .i64 0, .int .i64 0, .int .i64 0, .int .i64 0, .bool false], .agg #[.bool false, .slice none 0 0, .int .i64 0, .slice none 0 0], .int .i64 (ckM x)]) ?_ rfl (mdo_none ?_)
  · exact results_2 Try.results8 rfl rfl rfl (run_whl H4b _ Try.underlying33 rfl Try.sizeMach) (run_whl H5b _ Try.underlying41 rfl Try.sizeTold)
  · exact below_trn (below_trn HW1.out (by omega) T4 (by omega)) (by have := T4.2; omega) T5 (by omega)
set_option maxRecDepth 100000 in
set_option maxHeartbeats 16000000 in
theorem mdo_ok (mc rc n c : Nat) (hm : Ints w w.heap.size M 512 x.m) (hr : Ints w w.heap.size R 8 x.h.regs) (hl : Lines w w.heap.size L n c x.b.cache) (hd : Ints w w.heap.size AD nd y.a.data) (h0 : ckM x = 0) (r : Mch × Tld) (E : Int) (hrr : doA x y = r) (hEE : doE x y = E) :
    Calls Try.prog 8 #[.agg #[.slice M 512 mc, .int .i64 x.h.at_, .slice R 8 rc, .bool x.h.done, .int .i64 x.b.mode, .int .i64 x.b.base, .slice L n c, .int .i64 x.b.orders.page, .int .i64 x.b.orders.head, .int .i64 x.b.orders.tail, .bool x.b.stopped, .int .i64 x.b.fences, .int .i64 x.b.faults.page, .int .i64 x.b.faults.head, .int .i64 x.b.faults.tail, .bool x.b.lost], .agg #[.int .i64 y.kind, .int .i64 y.n, .int .i64 y.a.dev, .int .i64 y.a.at_, .int .i64 y.a.count, .bool y.a.wr, .slice AD nd cd]] w (MdoC w r E) := by
  have HM := Lib.hid hm
  have HR := Lib.hid hr
  have HL := Lib.hid hl
  have HD := Lib.hid hd
  have H0 := Lib.hid h0
  have HRR := Lib.hid hrr
  have HEE := Lib.hid hEE
  have HN := Lib.hid (show n ≤ 1000 by have := ((ckC_iff _).1 ((ckB_iff x.b).1 ((ckM_iff x).1 h0).2.2).2.1).1; have := hl.1; omega)
  clear hm hr hl hd h0 hrr hEE
  go_enter Try.func8, Try.ntmps8
  go_upto_region 1 with (fail)
  generalize hw0 : ((((w.alloc (.cells #[.slice M 512 mc, .int .i64 x.h.at_, .slice R 8 rc, .bool x.h.done, .int .i64 x.b.mode, .int .i64 x.b.base, .slice L n c, .int .i64 x.b.orders.page, .int .i64 x.b.orders.head, .int .i64 x.b.orders.tail, .bool x.b.stopped, .int .i64 x.b.fences, .int .i64 x.b.faults.page, .int .i64 x.b.faults.head, .int .i64 x.b.faults.tail, .bool x.b.lost] 33)).alloc (.cells #[.int .i64 y.kind, .int .i64 y.n, .int .i64 y.a.dev, .int .i64 y.a.at_, .int .i64 y.a.count, .bool y.a.wr, .slice AD nd cd] 46)).alloc (.cells #[.slice none 0 0, .int .i64 0, .slice none 0 0, .bool false, .int .i64 0, .int .i64 0, .slice none 0 0, .int .i64 0, .int .i64 0, .int .i64 0, .bool false, .int .i64 0, .int .i64 0, .int .i64 0, .int .i64 0, .bool false] 33)).alloc (.cells #[.bool false, .slice none 0 0, .int .i64 0, .slice none 0 0] 41)) = w0
  have H2 := Lib.hid (show Whl w0 (w.heap.size) 33 #[.slice M 512 mc, .int .i64 x.h.at_, .slice R 8 rc, .bool x.h.done, .int .i64 x.b.mode, .int .i64 x.b.base, .slice L n c, .int .i64 x.b.orders.page, .int .i64 x.b.orders.head, .int .i64 x.b.orders.tail, .bool x.b.stopped, .int .i64 x.b.fences, .int .i64 x.b.faults.page, .int .i64 x.b.faults.head, .int .i64 x.b.faults.tail, .bool x.b.lost] by rw [← hw0]; exact whl_alloc (whl_alloc (whl_alloc (whl_new _ _ _ rfl) _) _) _)
  have H3 := Lib.hid (show Whl w0 (w.heap.size + 1) 46 #[.int .i64 y.kind, .int .i64 y.n, .int .i64 y.a.dev, .int .i64 y.a.at_, .int .i64 y.a.count, .bool y.a.wr, .slice AD nd cd] by rw [← hw0]; exact whl_alloc (whl_alloc (whl_new _ _ _ (by simp)) _) _)
  have H4 := Lib.hid (show Whl w0 (w.heap.size + 1 + 1) 33 #[.slice none 0 0, .int .i64 0, .slice none 0 0, .bool false, .int .i64 0, .int .i64 0, .slice none 0 0, .int .i64 0, .int .i64 0, .int .i64 0, .bool false, .int .i64 0, .int .i64 0, .int .i64 0, .int .i64 0, .bool false] by rw [← hw0]; exact whl_alloc (whl_new _ _ _ (by simp)) _)
  have H5 := Lib.hid (show Whl w0 (w.heap.size + 1 + 1 + 1) 41 #[.bool false, .slice none 0 0, .int .i64 0, .slice none 0 0] by rw [← hw0]; exact whl_new _ _ _ (by simp))
  have HW0 := Lib.hid (show Below w.heap.size w w0 by rw [← hw0]; (repeat (first | (with_reducible exact Below.refl _ _) | (with_reducible refine Below.drew ?_) | (with_reducible refine bdrewN ?_ _) | ((with_reducible refine Below.setCell ?_ ?_ _); rotate_left; exact (by first | (simp; done) | (simp; omega) | omega)) | ((with_reducible refine Below.alloc ?_ ?_ _); rotate_left; exact (by first | (simp; done) | (simp; omega) | omega)))))
  have hz0 : w0.heap.size = w.heap.size + 1 + 1 + 1 + 1 := by rw [← hw0]; simp
  clear hw0
  go_wp2_with (refine wpList_load_whl rfl 33 (.tmp 2) rfl (w.heap.size) _ _ rfl H2.out _ Try.underlying33 rfl Try.sizeMach ?_)
  refine (machine_Check x M R L 512 mc 8 rc n c _ (ints_now HM.out HW0.out) (ints_now HR.out HW0.out) (lines_now HL.out HW0.out)).mono ?_
  rw [H0.out]
  rintro e w1 ⟨rfl, hb1⟩
  have HB1 := Lib.hid hb1
  have hz1 := hb1.size
  have HW1 := Lib.hid (HW0.out.trans (hb1.mono (by omega)))
  clear hb1
  have H2a := Lib.hid (whl_since H2.out HB1.out)
  clear H2
  have H3a := Lib.hid (whl_since H3.out HB1.out)
  clear H3
  have H4a := Lib.hid (whl_since H4.out HB1.out)
  clear H4
  have H5a := Lib.hid (whl_since H5.out HB1.out)
  clear H5
  go_wp2_with (refine wpList_load_whl rfl 33 (.tmp 2) rfl (w.heap.size) _ _ rfl H2a.out _ Try.underlying33 rfl Try.sizeMach ?_)
  refine (machine_Copy x M R L mc rc n c _ (ints_now HM.out HW1.out) (ints_now HR.out HW1.out) (lines_now HL.out HW1.out) HN.out).mono ?_
  rintro e w2 ⟨M2, mc2, R2, rc2, L2, c2, rfl, ho2, hor2, hol2, hb2⟩
  have HB2 := Lib.hid hb2
  have hz2 := hb2.size
  have HW2 := Lib.hid (HW1.out.trans (hb2.mono (by omega)))
  have HOM := Lib.hid ho2
  have HOR := Lib.hid hor2
  have HOL := Lib.hid hol2
  clear hb2 ho2 hor2 hol2
  have H2b := Lib.hid (whl_since H2a.out HB2.out)
  clear H2a
  have H3b := Lib.hid (whl_since H3a.out HB2.out)
  clear H3a
  have H4b := Lib.hid (whl_since H4a.out HB2.out)
  clear H4a
  have H5b := Lib.hid (whl_since H5a.out HB2.out)
  clear H5a
  go_upto_region 5 with (refine wpList_store_all rfl 33 (.tmp 2) (.tmp 18) rfl (w.heap.size) _ _ #[.slice M2 512 mc2, .int .i64 x.h.at_, .slice R2 8 rc2, .bool x.h.done, .int .i64 x.b.mode, .int .i64 x.b.base, .slice L2 n c2, .int .i64 x.b.orders.page, .int .i64 x.b.orders.head, .int .i64 x.b.orders.tail, .bool x.b.stopped, .int .i64 x.b.fences, .int .i64 x.b.faults.page, .int .i64 x.b.faults.head, .int .i64 x.b.faults.tail, .bool x.b.lost] rfl rfl H2b.out Try.sizeMach rfl rfl ?_; intro w3 h2c t3)
  have T3 := Lib.hid t3
  have H2c := Lib.hid h2c
  have hz3a : w2.heap.size ≤ w3.heap.size := Nat.le_of_eq t3.2.symm
  have hz3b : w3.heap.size ≤ w2.heap.size := Nat.le_of_eq t3.2
  clear h2c t3
  have H3c := Lib.hid (whl_trn H3b.out T3.out (by omega))
  clear H3b
  have H4c := Lib.hid (whl_trn H4b.out T3.out (by omega))
  clear H4b
  have H5c := Lib.hid (whl_trn H5b.out T3.out (by omega))
  clear H5b
  have HW3 := Lib.hid (below_trn HW2.out (by omega) T3.out (Nat.le_refl _))
  have OM := Lib.hid (trn_ownI HOM.out T3.out (by omega))
  have OR := Lib.hid (trn_ownI HOR.out T3.out (by omega))
  have OL := Lib.hid (trn_ownL HOL.out T3.out (by omega))
  clear HOM HOR HOL H2b
  have k3 : w3.cell? ⟨w.heap.size + 1, 0, none⟩ = some (.int .i64 y.kind) := whl_cell H3c.out 0
  have l3 : w.heap.size + 1 < w3.heap.size := by omega
  go_upto_region 6 with (fail)
  generalize hw4 : w3.alloc (.cells #[.bool false, .slice none 0 0, .int .i64 0, .slice none 0 0] 41) = w4
  have H8 := Lib.hid (show Whl w4 w3.heap.size 41 #[.bool false, .slice none 0 0, .int .i64 0, .slice none 0 0] by rw [← hw4]; exact whl_new _ _ _ rfl)
  have H2d := Lib.hid (show Whl w4 _ _ _ by rw [← hw4]; exact whl_alloc H2c.out _)
  clear H2c
  have H3d := Lib.hid (show Whl w4 _ _ _ by rw [← hw4]; exact whl_alloc H3c.out _)
  clear H3c
  have H4d := Lib.hid (show Whl w4 _ _ _ by rw [← hw4]; exact whl_alloc H4c.out _)
  clear H4c
  have H5d := Lib.hid (show Whl w4 _ _ _ by rw [← hw4]; exact whl_alloc H5c.out _)
  clear H5c
  have HW4 := Lib.hid (show Below w.heap.size w w4 by rw [← hw4]; exact HW3.out.alloc (by omega) _)
  have hz4a : w4.heap.size ≤ w3.heap.size + 1 := by rw [← hw4]; simp
  have hz4b : w3.heap.size + 1 ≤ w4.heap.size := by rw [← hw4]; simp
  have OM4 := Lib.hid (show OwnI w1.heap.size w4 M2 512 mc2 x.m by rw [← hw4]; exact OM.out.alloc _)
  have OR4 := Lib.hid (show OwnI w1.heap.size w4 R2 8 rc2 x.h.regs by rw [← hw4]; exact OR.out.alloc _)
  have OL4 := Lib.hid (show OwnL w1.heap.size w4 L2 n c2 x.b.cache by rw [← hw4]; exact OL.out.alloc _)
  have BR := Lib.hid (own_blk OR.out.2)
  have BM := Lib.hid (own_blk OM.out.2)
  have BL := Lib.hid (own_blk OL.out.2.2.2)
  clear hw4 k3 l3 OM OR OL HW3 HW2 HW1 HW0 HB1 HB2 T3
  have k3 : w4.cell? ⟨w.heap.size + 1, 0, none⟩ = some (.int .i64 y.kind) := whl_cell H3d.out 0
  go_cut [9] (fun s9 wd => s9 = .int .i64 0 ∧ wd = w4)
  case first =>
    go_wp2
    go_meet
    exact ⟨rfl, rfl⟩
  case rest =>
  obtain ⟨rfl, rfl⟩ := hcut
  obtain ⟨w4, hw4⟩ : ∃ w4, w4 = wc := ⟨_, rfl⟩
  subst hw4
  go_step
  go_step
  go_cut [9] (fun s9 wd => s9 = .int .i64 E ∧ SwC w r E w3.heap.size wd)
  case first =>
    by_cases h1 : y.kind = 1
    · have t1 : (y.kind == 1) = true := by rw [beq_iff_eq]; exact h1
      obtain ⟨ys, g, d, hA⟩ : ∃ ys g d, stepA x.m x.h x.b = (ys, g, d) := ⟨_, _, _, rfl⟩
      obtain ⟨he, hz⟩ := do_1 H0.out h1 HEE.out hA
      have HA := Lib.hid hA
      have HE := Lib.hid he
      have HZ := Lib.hid hz
      clear hA he hz h1
      go_wp2_with (first
        | (refine wpList_load_part rfl 24 (.tmp 24) rfl (w.heap.size) 0 _ _ [.slice M2 512 mc2] rfl H2d.out rfl _ Try.underlying24 rfl Try.sizeMem ?_)
        | (refine wpList_load_part rfl 26 (.tmp 26) rfl (w.heap.size) 1 _ _ [.int .i64 x.h.at_, .slice R2 8 rc2, .bool x.h.done] rfl H2d.out rfl _ Try.underlying26 rfl Try.sizeHart ?_)
        | (refine wpList_load_part rfl 31 (.tmp 28) rfl (w.heap.size) 4 _ _ [.int .i64 x.b.mode, .int .i64 x.b.base, .slice L2 n c2, .int .i64 x.b.orders.page, .int .i64 x.b.orders.head, .int .i64 x.b.orders.tail, .bool x.b.stopped, .int .i64 x.b.fences, .int .i64 x.b.faults.page, .int .i64 x.b.faults.head, .int .i64 x.b.faults.tail, .bool x.b.lost] rfl H2d.out rfl _ Try.underlying31 rfl Try.sizeBrg ?_))
      refine (step_any x.m x.h x.b M2 R2 L2 512 mc2 8 rc2 n c2 _ (OM4.out.ints (by decide)) (OR4.out.ints (by decide)) OL4.out.lines ys g d E HE.out HA.out).mono ?_
      rintro e w5 ⟨A, na, a, P, np, p, Q, q, k, rfl, hA5, hP5, hQ5, hb5, fA, fP, fQ⟩
      have HB5 := Lib.hid hb5
      have HA5 := Lib.hid hA5
      have HP5 := Lib.hid hP5
      have HQ5 := Lib.hid hQ5
      have FA := Lib.hid fA
      have FP := Lib.hid fP
      have FQ := Lib.hid fQ
      have hz5 := hb5.size
      clear hb5 hA5 hP5 hQ5 fA fP fQ
      have H2e := Lib.hid (whl_since H2d.out HB5.out)
      have H3e := Lib.hid (whl_since H3d.out HB5.out)
      have H4e := Lib.hid (whl_since H4d.out HB5.out)
      have H5e := Lib.hid (whl_since H5d.out HB5.out)
      have H8e := Lib.hid (whl_since H8.out HB5.out)
      go_wp2_with (first
        | (refine wpList_store_part rfl 24 (.tmp 35) (.tmp 31) rfl (w.heap.size) 0 _ _ #[.slice A na a] #[.slice A na a, .int .i64 x.h.at_, .slice R2 8 rc2, .bool x.h.done, .int .i64 x.b.mode, .int .i64 x.b.base, .slice L2 n c2, .int .i64 x.b.orders.page, .int .i64 x.b.orders.head, .int .i64 x.b.orders.tail, .bool x.b.stopped, .int .i64 x.b.fences, .int .i64 x.b.faults.page, .int .i64 x.b.faults.head, .int .i64 x.b.faults.tail, .bool x.b.lost] rfl rfl H2e.out Try.sizeMem (by kernel_rfl) rfl (by kernel_rfl) ?_; intro w6 h2f t6)
        | (refine wpList_store_part rfl 26 (.tmp 36) (.tmp 32) rfl (w.heap.size) 1 _ _ #[.int .i64 g.at_, .slice P np p, .bool g.done] #[.slice A na a, .int .i64 g.at_, .slice P np p, .bool g.done, .int .i64 x.b.mode, .int .i64 x.b.base, .slice L2 n c2, .int .i64 x.b.orders.page, .int .i64 x.b.orders.head, .int .i64 x.b.orders.tail, .bool x.b.stopped, .int .i64 x.b.fences, .int .i64 x.b.faults.page, .int .i64 x.b.faults.head, .int .i64 x.b.faults.tail, .bool x.b.lost] rfl rfl h2f Try.sizeHart (by kernel_rfl) rfl (by kernel_rfl) ?_; intro w7 h2g t7)
        | (refine wpList_store_part rfl 31 (.tmp 37) (.tmp 33) rfl (w.heap.size) 4 _ _ #[.int .i64 d.mode, .int .i64 d.base, .slice Q q k, .int .i64 d.orders.page, .int .i64 d.orders.head, .int .i64 d.orders.tail, .bool d.stopped, .int .i64 d.fences, .int .i64 d.faults.page, .int .i64 d.faults.head, .int .i64 d.faults.tail, .bool d.lost] #[.slice A na a, .int .i64 g.at_, .slice P np p, .bool g.done, .int .i64 d.mode, .int .i64 d.base, .slice Q q k, .int .i64 d.orders.page, .int .i64 d.orders.head, .int .i64 d.orders.tail, .bool d.stopped, .int .i64 d.fences, .int .i64 d.faults.page, .int .i64 d.faults.head, .int .i64 d.faults.tail, .bool d.lost] rfl rfl h2g Try.sizeBrg (by kernel_rfl) rfl (by kernel_rfl) ?_; intro w8 h2h t8))
      go_wp2
      go_meet
      have hw6 := t6.2
      have hw7 := t7.2
      have hw8 := t8.2
      have cc := chg_trans (chg_trans t6.1 t7.1) t8.1
      refine ⟨rfl, ⟨ys, g, d⟩, .no, A, na, a, P, np, p, Q, q, k, none, 0, 0, none, 0, 0, h2h, whl_chg H8e.out cc (by omega), whl_chg H4e.out cc (by omega), whl_chg H5e.out cc (by omega), ?_, fun hE0 => ⟨by rw [← HRR.out]; exact HZ.out hE0, ?_, tldV_none _ _⟩⟩
      · exact below_chg (HW4.out.trans (HB5.out.mono (by omega))) (by omega) cc (fun q hq e => by omega)
      · exact (MachV.chg (x := ⟨ys, g, d⟩) (Av := fun q => w4.heap.size ≤ q) ⟨HA5.out, HP5.out, HQ5.out, fun _ => FA.out, fun _ => FP.out, fun _ => FQ.out⟩ cc (fun q e hq => by omega)).av (fun q hq => by omega)
    have t1 : (y.kind == 1) = false := beq_eq_false_iff_ne.2 h1
    by_cases h2 : y.kind = 2
    · have t2 : (y.kind == 2) = true := by rw [beq_iff_eq]; exact h2
      obtain ⟨rb, hA⟩ : ∃ rb, obeyA x.m x.b = rb := ⟨_, rfl⟩
      obtain ⟨he, hz⟩ := do_2 H0.out h2 HEE.out hA
      have HA := Lib.hid hA
      have HE := Lib.hid he
      have HZ := Lib.hid hz
      clear hA he hz h2
      go_wp2_with (first
        | (refine wpList_load_part rfl 24 (.tmp 41) rfl (w.heap.size) 0 _ _ [.slice M2 512 mc2] rfl H2d.out rfl _ Try.underlying24 rfl Try.sizeMem ?_)
        | (refine wpList_load_part rfl 31 (.tmp 43) rfl (w.heap.size) 4 _ _ [.int .i64 x.b.mode, .int .i64 x.b.base, .slice L2 n c2, .int .i64 x.b.orders.page, .int .i64 x.b.orders.head, .int .i64 x.b.orders.tail, .bool x.b.stopped, .int .i64 x.b.fences, .int .i64 x.b.faults.page, .int .i64 x.b.faults.head, .int .i64 x.b.faults.tail, .bool x.b.lost] rfl H2d.out rfl _ Try.underlying31 rfl Try.sizeBrg ?_))
      refine (obey_ans x.m M2 512 mc2 x.b L2 n c2 rb E _ (OM4.out.ints (by decide)) OL4.out.lines HA.out HE.out).mono ?_
      rintro e w5 ⟨Q, q, k, rfl, hQ5, hb5, fQ⟩
      have HB5 := Lib.hid hb5
      have HQ5 := Lib.hid hQ5
      have FQ := Lib.hid fQ
      have hz5 := hb5.size
      clear hb5 hQ5 fQ
      have H2e := Lib.hid (whl_since H2d.out HB5.out)
      have H3e := Lib.hid (whl_since H3d.out HB5.out)
      have H4e := Lib.hid (whl_since H4d.out HB5.out)
      have H5e := Lib.hid (whl_since H5d.out HB5.out)
      have H8e := Lib.hid (whl_since H8.out HB5.out)
      go_wp2_with (refine wpList_store_part rfl 31 (.tmp 48) (.tmp 46) rfl (w.heap.size) 4 _ _ #[.int .i64 rb.mode, .int .i64 rb.base, .slice Q q k, .int .i64 rb.orders.page, .int .i64 rb.orders.head, .int .i64 rb.orders.tail, .bool rb.stopped, .int .i64 rb.fences, .int .i64 rb.faults.page, .int .i64 rb.faults.head, .int .i64 rb.faults.tail, .bool rb.lost] #[.slice M2 512 mc2, .int .i64 x.h.at_, .slice R2 8 rc2, .bool x.h.done, .int .i64 rb.mode, .int .i64 rb.base, .slice Q q k, .int .i64 rb.orders.page, .int .i64 rb.orders.head, .int .i64 rb.orders.tail, .bool rb.stopped, .int .i64 rb.fences, .int .i64 rb.faults.page, .int .i64 rb.faults.head, .int .i64 rb.faults.tail, .bool rb.lost] rfl rfl H2e.out Try.sizeBrg (by kernel_rfl) rfl (by kernel_rfl) ?_; intro w6 h2f t6)
      go_wp2
      go_meet
      have hw6 := t6.2
      have cc := t6.1
      have am := BM.out
      have ar := BR.out
      refine ⟨rfl, ⟨x.m, x.h, rb⟩, .no, M2, 512, mc2, R2, 8, rc2, Q, q, k, none, 0, 0, none, 0, 0, h2f, whl_chg H8e.out cc (by omega), whl_chg H4e.out cc (by omega), whl_chg H5e.out cc (by omega), ?_, fun hE0 => ⟨by rw [← HRR.out]; exact HZ.out hE0, ?_, tldV_none _ _⟩⟩
      · exact below_chg (HW4.out.trans (HB5.out.mono (by omega))) (by omega) cc (fun q hq e => by omega)
      · exact (MachV.chg (x := ⟨x.m, x.h, rb⟩) (Av := fun q => w1.heap.size ≤ q) ⟨ints_now (OM4.out.ints (by decide)) HB5.out, ints_now (OR4.out.ints (by decide)) HB5.out, HQ5.out, fun _ ad e => (am ad e).1, fun _ ad e => (ar ad e).1, fun _ ad e => by have := FQ.out ad e; omega⟩ cc (fun q e hq => by omega)).av (fun q hq => by omega)
    have t2 : (y.kind == 2) = false := beq_eq_false_iff_ne.2 h2
    by_cases h3 : y.kind = 3
    · have t3 : (y.kind == 3) = true := by rw [beq_iff_eq]; exact h3
      obtain ⟨ys, d, tt, hA⟩ : ∃ ys d tt, dmaA x.m x.b y.a = (ys, d, tt) := ⟨_, _, _, rfl⟩
      obtain ⟨he, hz⟩ := do_3e H0.out h3 HEE.out hA
      obtain ⟨na, hna⟩ : ∃ na, (if E = 0 then 512 else 0) = na := ⟨_, rfl⟩
      have HNA := Lib.hid hna
      have HA := Lib.hid hA
      have HE := Lib.hid he
      have HZ := Lib.hid hz
      clear hA he hz h3 hna
      go_wp2_with (first
        | (refine wpList_load_part rfl 24 (.tmp 52) rfl (w.heap.size) 0 _ _ [.slice M2 512 mc2] rfl H2d.out rfl _ Try.underlying24 rfl Try.sizeMem ?_)
        | (refine wpList_load_part rfl 31 (.tmp 54) rfl (w.heap.size) 4 _ _ [.int .i64 x.b.mode, .int .i64 x.b.base, .slice L2 n c2, .int .i64 x.b.orders.page, .int .i64 x.b.orders.head, .int .i64 x.b.orders.tail, .bool x.b.stopped, .int .i64 x.b.fences, .int .i64 x.b.faults.page, .int .i64 x.b.faults.head, .int .i64 x.b.faults.tail, .bool x.b.lost] rfl H2d.out rfl _ Try.underlying31 rfl Try.sizeBrg ?_)
        | (refine wpList_load_part rfl 35 (.tmp 56) rfl (w.heap.size + 1) 2 _ _ [.int .i64 y.a.dev, .int .i64 y.a.at_, .int .i64 y.a.count, .bool y.a.wr, .slice AD nd cd] rfl H3d.out rfl _ Try.underlying35 rfl Try.sizeAsk ?_))
      refine (mdma_k x.m M2 512 mc2 x.b L2 n c2 AD nd cd _ (OM4.out.ints (by decide)) OL4.out.lines y.a (ints_now HD.out HW4.out) (ys, d, tt) E na HA.out HE.out HNA.out).mono ?_
      rintro e w5 ⟨A, a, Q, q, k, D, dn, dc, X, tn, tc, rfl, hA5, hQ5, hD5, hT5, hb5, fA, fQ, fD, fT⟩
      have HB5 := Lib.hid hb5
      have HA5 := Lib.hid hA5
      have HQ5 := Lib.hid hQ5
      have HD5 := Lib.hid hD5
      have HT5 := Lib.hid hT5
      have FA := Lib.hid fA
      have FQ := Lib.hid fQ
      have FD := Lib.hid fD
      have FT := Lib.hid fT
      have hz5 := hb5.size
      clear hb5 hA5 hQ5 hD5 hT5 fA fQ fD fT
      have H2e := Lib.hid (whl_since H2d.out HB5.out)
      have H3e := Lib.hid (whl_since H3d.out HB5.out)
      have H4e := Lib.hid (whl_since H4d.out HB5.out)
      have H5e := Lib.hid (whl_since H5d.out HB5.out)
      have H8e := Lib.hid (whl_since H8.out HB5.out)
      have n8 : w3.heap.size ≠ w.heap.size := by omega
      go_wp2_with (first
        | (refine wpList_store_part rfl 24 (.tmp 63) (.tmp 59) rfl (w.heap.size) 0 _ _ #[.slice A na a] #[.slice A na a, .int .i64 x.h.at_, .slice R2 8 rc2, .bool x.h.done, .int .i64 x.b.mode, .int .i64 x.b.base, .slice L2 n c2, .int .i64 x.b.orders.page, .int .i64 x.b.orders.head, .int .i64 x.b.orders.tail, .bool x.b.stopped, .int .i64 x.b.fences, .int .i64 x.b.faults.page, .int .i64 x.b.faults.head, .int .i64 x.b.faults.tail, .bool x.b.lost] rfl rfl H2e.out Try.sizeMem (by kernel_rfl) rfl (by kernel_rfl) ?_; intro w6 h2f t6; have h8a := whl_trn H8e.out t6 n8)
        | (refine wpList_store_part rfl 31 (.tmp 64) (.tmp 60) rfl (w.heap.size) 4 _ _ #[.int .i64 d.mode, .int .i64 d.base, .slice Q q k, .int .i64 d.orders.page, .int .i64 d.orders.head, .int .i64 d.orders.tail, .bool d.stopped, .int .i64 d.fences, .int .i64 d.faults.page, .int .i64 d.faults.head, .int .i64 d.faults.tail, .bool d.lost] #[.slice A na a, .int .i64 x.h.at_, .slice R2 8 rc2, .bool x.h.done, .int .i64 d.mode, .int .i64 d.base, .slice Q q k, .int .i64 d.orders.page, .int .i64 d.orders.head, .int .i64 d.orders.tail, .bool d.stopped, .int .i64 d.fences, .int .i64 d.faults.page, .int .i64 d.faults.head, .int .i64 d.faults.tail, .bool d.lost] rfl rfl h2f Try.sizeBrg (by kernel_rfl) rfl (by kernel_rfl) ?_; intro w7 h2g t7; have h8b := whl_trn h8a t7 n8)
        | (refine wpList_store_all rfl 41 (.tmp 8) (.tmp 61) rfl (w3.heap.size) _ _ #[.bool tt.done, .slice D dn dc, .int .i64 tt.fault, .slice X tn tc] rfl rfl h8b Try.sizeTold rfl rfl ?_; intro w8 h8f t8))
      go_wp2
      go_meet
      have hw6 := t6.2
      have hw7 := t7.2
      have hw8 := t8.2
      have cc := chg_trans t6.1 t7.1
      have am := BM.out
      have ar := BR.out
      have c8 : Chg (fun q => q = w.heap.size ∨ q = w3.heap.size) w5 w8 := chg_trans (chg_mono cc (fun q _ e => Or.inl e)) (chg_mono t8.1 (fun q _ e => Or.inr e))
      refine ⟨rfl, ⟨ys, x.h, d⟩, tt, A, na, a, R2, 8, rc2, Q, q, k, D, dn, dc, X, tn, tc, whl_trn h2g t8 (by omega), h8f, whl_chg H4e.out c8 (by omega), whl_chg H5e.out c8 (by omega), ?_, fun hE0 => ⟨by rw [← HRR.out]; exact HZ.out hE0, ?_, ?_⟩⟩
      · exact below_chg (HW4.out.trans (HB5.out.mono (by omega))) (by omega) c8 (fun q hq e => by omega)
      · exact (MachV.chg (x := ⟨ys, x.h, d⟩) (Av := fun q => w4.heap.size ≤ q ∨ (w1.heap.size ≤ q ∧ q < w3.heap.size)) ⟨HA5.out, ints_now (OR4.out.ints (by decide)) HB5.out, HQ5.out, fun _ ad e => Or.inl (FA.out ad e), fun _ ad e => Or.inr (ar ad e), fun _ ad e => Or.inl (FQ.out ad e)⟩ c8 (fun q e hq => by omega)).av (fun q hq => by omega)
      · exact (TldV.chg (t := tt) (Av := fun q => w4.heap.size ≤ q) ⟨HD5.out, HT5.out, fun _ => FD.out, fun _ => FT.out⟩ c8 (fun q e hq => by omega)).av (fun q hq => by omega)
    have t3 : (y.kind == 3) = false := beq_eq_false_iff_ne.2 h3
    by_cases h4 : y.kind = 4
    · have t4 : (y.kind == 4) = true := by rw [beq_iff_eq]; exact h4
      have hln : x.b.cache.length = n := OL4.out.1
      have k2 : w4.cell? ⟨w.heap.size, 6, none⟩ = some (.slice L2 n c2) := whl_cell H2d.out 6
      by_cases hn : 0 ≤ y.n ∧ y.n < (n : Int)
      · obtain ⟨k, hk⟩ : ∃ k : Nat, y.n = (k : Int) := ⟨y.n.toNat, by omega⟩
        obtain ⟨hE4, hZ4⟩ := do_4y H0.out h4 HEE.out hk (by omega)
        have HE := Lib.hid hE4
        have HZ := Lib.hid hZ4
        have k3 : w4.cell? ⟨w.heap.size + 1, 1, none⟩ = some (.int .i64 (k : Int)) := by rw [← hk]; exact whl_cell H3d.out 1
        have s0 : (0 : Int) ≤ (k : Int) := by omega
        have s1 : (k : Int) < (n : Int) := by omega
        have s2 : IntKind.i64.wrap ((k : Int) + 1) = (k : Int) + 1 := IntWalk.i64_in _ (by have := HN.out; omega)
        have KN := Lib.hid (show k < n by omega)
        clear hn h4 hk hE4 hZ4 hln
        go_wp2_with fail
        refine (sl_Delete1 w1.heap.size L2 n c2 k x.b.cache _ OL4.out KN.out HN.out).mono ?_
        rintro e w5 ⟨g6, rfl, rfl, hl5, hC5⟩
        have n6 : w1.heap.size ≤ g6 := (BL.out _ rfl).1
        have n7 : g6 < w3.heap.size := (BL.out _ rfl).2
        have HL5 := Lib.hid hl5
        have HC5 := Lib.hid hC5
        have hz5 := hC5.size
        have H2e := Lib.hid (whl_chg H2d.out hC5 (by omega))
        clear k2 k3 hl5 hC5
        go_wp2_with (refine wpList_store_cell rfl 27 (.tmp 89) (.tmp 87) rfl (w.heap.size) 6 _ _ #[.slice M2 512 mc2, .int .i64 x.h.at_, .slice R2 8 rc2, .bool x.h.done, .int .i64 x.b.mode, .int .i64 x.b.base, .slice (some ⟨g6, 0, none⟩) (n - 1) c2, .int .i64 x.b.orders.page, .int .i64 x.b.orders.head, .int .i64 x.b.orders.tail, .bool x.b.stopped, .int .i64 x.b.fences, .int .i64 x.b.faults.page, .int .i64 x.b.faults.head, .int .i64 x.b.faults.tail, .bool x.b.lost] (.slice (some ⟨g6, 0, none⟩) (n - 1) c2) rfl rfl H2e.out Try.sizeLines (of_decide_eq_true rfl) rfl rfl ?_; intro w6 h2f t6)
        go_wp2
        go_meet
        have hw6 := t6.2
        have c8 : Chg (fun q => q = g6 ∨ q = w.heap.size) w4 w6 := chg_trans (chg_mono HC5.out (fun q _ e => Or.inl e)) (chg_mono t6.1 (fun q _ e => Or.inr e))
        have am := own_apt OM4.out OL4.out
        have ar := own_aptR OR4.out OL4.out
        have bm := BM.out
        have br := BR.out
        have bl := BL.out
        refine ⟨by rw [HE.out], ⟨x.m, x.h, { x.b with cache := x.b.cache.eraseIdx k }⟩, .no, M2, 512, mc2, R2, 8, rc2, some ⟨g6, 0, none⟩, n - 1, c2, none, 0, 0, none, 0, 0, h2f, whl_chg H8.out c8 (by omega), whl_chg H4d.out c8 (by omega), whl_chg H5d.out c8 (by omega), ?_, fun hE0 => ⟨by rw [← HRR.out]; exact HZ.out, ?_, tldV_none _ _⟩⟩
        · exact below_chg HW4.out (by omega) c8 (fun q hq e => by omega)
        · refine ⟨chg_ints0 (OM4.out.ints (by decide)) c8 (Av := fun q => w1.heap.size ≤ q ∧ q ≠ g6) (fun _ ad e => ⟨(bm ad e).1, am ad _ e rfl⟩) (fun q e hq => by omega), chg_ints0 (OR4.out.ints (by decide)) c8 (Av := fun q => w1.heap.size ≤ q ∧ q ≠ g6) (fun _ ad e => ⟨(br ad e).1, ar ad _ e rfl⟩) (fun q e hq => by omega), chg_lines0 HL5.out t6.1 (Av := fun q => w1.heap.size ≤ q) (fun _ ad e => by injection e with e; subst e; exact n6) (fun q e hq => by omega), fun _ ad e => by have := (bm ad e).1; omega, fun _ ad e => by have := (br ad e).1; omega, fun _ ad e => by injection e with e; subst e; show _ ≤ g6; omega⟩
      · have hE4 := do_4n H0.out h4 HEE.out (by rw [hln]; exact hn)
        have k3 : w4.cell? ⟨w.heap.size + 1, 1, none⟩ = some (.int .i64 y.n) := whl_cell H3d.out 1
        have HE := Lib.hid hE4
        by_cases hn0 : 0 ≤ y.n
        · have s1 : (n : Int) ≤ y.n := by omega
          clear hn h4 hE4 hln
          go_wp2
          go_meet
          exact ⟨by rw [HE.out], x, .no, M2, 512, mc2, R2, 8, rc2, L2, n, c2, none, 0, 0, none, 0, 0, H2d.out, H8.out, H4d.out, H5d.out, HW4.out, fun hE0 => absurd (hE0.symm.trans HE.out) (by decide)⟩
        · have s1 : y.n < 0 := by omega
          clear hn h4 hE4 hln hn0
          go_wp2
          go_meet
          exact ⟨by rw [HE.out], x, .no, M2, 512, mc2, R2, 8, rc2, L2, n, c2, none, 0, 0, none, 0, 0, H2d.out, H8.out, H4d.out, H5d.out, HW4.out, fun hE0 => absurd (hE0.symm.trans HE.out) (by decide)⟩
    have t4 : (y.kind == 4) = false := beq_eq_false_iff_ne.2 h4
    have HE := Lib.hid (do_5 H0.out h1 h2 h3 h4 HEE.out)
    clear h1 h2 h3 h4
    go_wp2
    go_meet
    exact ⟨by rw [HE.out], x, .no, M2, 512, mc2, R2, 8, rc2, L2, n, c2, none, 0, 0, none, 0, 0, H2d.out, H8.out, H4d.out, H5d.out, HW4.out, fun hE0 => absurd (hE0.symm.trans HE.out) (by decide)⟩
  case rest =>
    obtain ⟨rfl, z, tt, M', nm', mc', R', nr', rc', L', n', c', D', dn', dc', X', tn', tc', v2, v8, v4, v5, hWc, hz⟩ := hcut
    have V2 := Lib.hid v2
    have V8 := Lib.hid v8
    have V4 := Lib.hid v4
    have V5 := Lib.hid v5
    have HWC := Lib.hid hWc
    have HZ := Lib.hid hz
    have hlt8 := whl_lt v8
    have hzc := hWc.size
    clear v2 v8 v4 v5 hWc hz
    by_cases hE0 : E = 0
    · have t0 : (E != 0) = false := by rw [bne_eq_false_iff_eq]; exact hE0
      have HE0 := Lib.hid hE0
      clear hE0
      go_upto_region 21 with (fail)
      obtain ⟨hr, hzv, hzt⟩ := HZ.out HE0.out
      have HV := Lib.hid hzv
      have HT := Lib.hid hzt
      have HRZ := Lib.hid hr
      have R4 : Hid (wc.there (w.heap.size + 1 + 1) 0 16) := Lib.hid (whl_there V4.out (of_decide_eq_true rfl))
      have R5 : Hid (wc.there (w.heap.size + 1 + 1 + 1) 0 4) := Lib.hid (whl_there V5.out (of_decide_eq_true rfl))
      clear hr hzv hzt
      refine region_two (by kernel_rfl) _ _ _ _ _ rfl rfl rfl rfl rfl rfl (by kernel_rfl) (by kernel_rfl) (by kernel_rfl) (by kernel_rfl) (by kernel_rfl) (by kernel_rfl) (by kernel_rfl) (by kernel_rfl) (by kernel_rfl) rfl rfl rfl rfl rfl 33 41 (.tmp 2) (.tmp 8) (.tmp 4) (.tmp 5) (.tmp 95) (.tmp 96) rfl rfl rfl rfl (.int .i64 0) rfl w.heap.size w3.heap.size (w.heap.size + 1 + 1) (w.heap.size + 1 + 1 + 1) #[.slice M' nm' mc', .int .i64 z.h.at_, .slice R' nr' rc', .bool z.h.done, .int .i64 z.b.mode, .int .i64 z.b.base, .slice L' n' c', .int .i64 z.b.orders.page, .int .i64 z.b.orders.head, .int .i64 z.b.orders.tail, .bool z.b.stopped, .int .i64 z.b.fences, .int .i64 z.b.faults.page, .int .i64 z.b.faults.head, .int .i64 z.b.faults.tail, .bool z.b.lost] #[.bool tt.done, .slice D' dn' dc', .int .i64 tt.fault, .slice X' tn' tc'] _ _ Try.underlying33 Try.underlying41 rfl rfl Try.sizeMach Try.sizeTold rfl rfl rfl rfl rfl rfl rfl rfl (whl_all V2.out) (whl_all V8.out) R4.out R5.out (by omega) (by omega) (by omega) (by omega) (fun _ _ _ _ h => h) (fun _ _ _ _ h => h) ?_
      generalize hw9 : (wc.drew.setCells (w.heap.size + 1 + 1) 0 ([.slice M' nm' mc', .int .i64 z.h.at_, .slice R' nr' rc', .bool z.h.done, .int .i64 z.b.mode, .int .i64 z.b.base, .slice L' n' c', .int .i64 z.b.orders.page, .int .i64 z.b.orders.head, .int .i64 z.b.orders.tail, .bool z.b.stopped, .int .i64 z.b.fences, .int .i64 z.b.faults.page, .int .i64 z.b.faults.head, .int .i64 z.b.faults.tail, .bool z.b.lost] : List Value)).setCells (w.heap.size + 1 + 1 + 1) 0 ([.bool tt.done, .slice D' dn' dc', .int .i64 tt.fault, .slice X' tn' tc'] : List Value) = w9
      have C9 := Lib.hid (show Chg (fun q => q = w.heap.size + 1 + 1 ∨ q = w.heap.size + 1 + 1 + 1) wc w9 by
        rw [← hw9]
        exact chg_trans (chg_trans (chg_drew (chg_refl wc)) (chg_mono (chg_cells _ _ 0 _) (fun q _ e => Or.inl e))) (chg_mono (chg_cells _ _ 0 _) (fun q _ e => Or.inr e)))
      have hq1 := Lib.hid (show w9.rangeAt (w.heap.size + 1 + 1) 0 ([.slice M' nm' mc', .int .i64 z.h.at_, .slice R' nr' rc', .bool z.h.done, .int .i64 z.b.mode, .int .i64 z.b.base, .slice L' n' c', .int .i64 z.b.orders.page, .int .i64 z.b.orders.head, .int .i64 z.b.orders.tail, .bool z.b.stopped, .int .i64 z.b.fences, .int .i64 z.b.faults.page, .int .i64 z.b.faults.head, .int .i64 z.b.faults.tail, .bool z.b.lost] : List Value) by
        rw [← hw9]
        exact World.rangeAt_setCells_apart (World.rangeAt_setCells_same wc.drew (w.heap.size + 1 + 1) 0 ([.slice M' nm' mc', .int .i64 z.h.at_, .slice R' nr' rc', .bool z.h.done, .int .i64 z.b.mode, .int .i64 z.b.base, .slice L' n' c', .int .i64 z.b.orders.page, .int .i64 z.b.orders.head, .int .i64 z.b.orders.tail, .bool z.b.stopped, .int .i64 z.b.fences, .int .i64 z.b.faults.page, .int .i64 z.b.faults.head, .int .i64 z.b.faults.tail, .bool z.b.lost] : List Value) R4.out) _ _ _ (Or.inl (by omega)))
      have hq2 := Lib.hid (show w9.rangeAt (w.heap.size + 1 + 1 + 1) 0 ([.bool tt.done, .slice D' dn' dc', .int .i64 tt.fault, .slice X' tn' tc'] : List Value) by
        rw [← hw9]
        exact World.rangeAt_setCells_same (wc.drew.setCells (w.heap.size + 1 + 1) 0 ([.slice M' nm' mc', .int .i64 z.h.at_, .slice R' nr' rc', .bool z.h.done, .int .i64 z.b.mode, .int .i64 z.b.base, .slice L' n' c', .int .i64 z.b.orders.page, .int .i64 z.b.orders.head, .int .i64 z.b.orders.tail, .bool z.b.stopped, .int .i64 z.b.fences, .int .i64 z.b.faults.page, .int .i64 z.b.faults.head, .int .i64 z.b.faults.tail, .bool z.b.lost] : List Value)) (w.heap.size + 1 + 1 + 1) 0 ([.bool tt.done, .slice D' dn' dc', .int .i64 tt.fault, .slice X' tn' tc'] : List Value) (World.there_setCells (w := wc.drew) R5.out _ _ _))
      clear hw9
      go_wp2
      refine bodyPost_ret (v := .tuple #[.agg #[.slice M' nm' mc', .int .i64 z.h.at_, .slice R' nr' rc', .bool z.h.done, .int .i64 z.b.mode, .int .i64 z.b.base, .slice L' n' c', .int .i64 z.b.orders.page, .int .i64 z.b.orders.head, .int .i64 z.b.orders.tail, .bool z.b.stopped, .int .i64 z.b.fences, .int .i64 z.b.faults.page, .int .i64 z.b.faults.head, .int .i64 z.b.faults.tail, .bool z.b.lost], .agg #[.bool tt.done, .slice D' dn' dc', .int .i64 tt.fault, .slice X' tn' tc'], .int .i64 0]) ?_ rfl ?_
      · exact results_2 Try.results8 rfl rfl rfl (run_loadVar_mid w9 _ 0 33 ([.slice M' nm' mc', .int .i64 z.h.at_, .slice R' nr' rc', .bool z.h.done, .int .i64 z.b.mode, .int .i64 z.b.base, .slice L' n' c', .int .i64 z.b.orders.page, .int .i64 z.b.orders.head, .int .i64 z.b.orders.tail, .bool z.b.stopped, .int .i64 z.b.fences, .int .i64 z.b.faults.page, .int .i64 z.b.faults.head, .int .i64 z.b.faults.tail, .bool z.b.lost] : List Value) _ hq1.out Try.underlying33 rfl Try.sizeMach) (run_loadVar_mid w9 _ 0 41 ([.bool tt.done, .slice D' dn' dc', .int .i64 tt.fault, .slice X' tn' tc'] : List Value) _ hq2.out Try.underlying41 rfl Try.sizeTold)
      · have hr := HRZ.out
        subst hr
        refine ⟨M', nm', mc', R', nr', rc', L', n', c', D', dn', dc', X', tn', tc', by rw [HE0.out], ?_, ?_, ?_⟩
        · exact (HV.out.chg C9.out (fun q e hq => by omega)).av (fun q hq => by omega)
        · exact (HT.out.chg C9.out (fun q e hq => by omega)).av (fun q hq => by omega)
        · exact below_chg HWC.out (by omega) C9.out (fun q hq e => by omega)
    · have t0 : (E != 0) = true := by rw [bne_iff_ne]; exact hE0
      have hr0 : r = (.no, .no) := by rw [← HRR.out]; unfold doA; rw [HEE.out, if_neg hE0]
      clear hE0
      subst hr0
      go_wp2_with (first
        | (refine wpList_store_all rfl 33 (.tmp 4) (.tmp 92) rfl (w.heap.size + 1 + 1) _ _ #[.slice none 0 0, .int .i64 0, .slice none 0 0, .bool false, .int .i64 0, .int .i64 0, .slice none 0 0, .int .i64 0, .int .i64 0, .int .i64 0, .bool false, .int .i64 0, .int .i64 0, .int .i64 0, .int .i64 0, .bool false] rfl rfl V4.out Try.sizeMach rfl rfl ?_; intro w5 h4a t4; have h5a := whl_trn V5.out t4 (by omega))
        | (refine wpList_store_all rfl 41 (.tmp 5) (.tmp 93) rfl (w.heap.size + 1 + 1 + 1) _ _ #[.bool false, .slice none 0 0, .int .i64 0, .slice none 0 0] rfl rfl h5a Try.sizeTold rfl rfl ?_; intro w6 h5b t5; have h4b := whl_trn h4a t5 (by omega)))
      go_wp2
      refine bodyPost_ret (v := .tuple #[.agg #[.slice none 0 0, .int .i64 0, .slice none 0 0, .bool false, .int .i64 0, .int .i64 0, .slice none 0 0, .int .i64 0, .int .i64 0, .int .i64 0, .bool false, .int .i64 0, .int .i64 0, .int .i64 0, .int .i64 0, .bool false], .agg #[.bool false, .slice none 0 0, .int .i64 0, .slice none 0 0], .int .i64 E]) ?_ rfl (mdo_none ?_)
      · exact results_2 Try.results8 rfl rfl rfl (run_whl h4b _ Try.underlying33 rfl Try.sizeMach) (run_whl h5b _ Try.underlying41 rfl Try.sizeTold)
      · exact below_trn (below_trn HWC.out (by omega) t4 (by omega)) (by have := t4.2; omega) t5 (by omega)
theorem mdo_ans (nm mc nr rc n c : Nat) (hm : Ints w w.heap.size M nm x.m) (hr : Ints w w.heap.size R nr x.h.regs) (hl : Lines w w.heap.size L n c x.b.cache) (hd : Ints w w.heap.size AD nd y.a.data) (r : Mch × Tld) (E : Int) (hrr : doA x y = r) (hEE : doE x y = E) :
    Calls Try.prog 8 #[.agg #[.slice M nm mc, .int .i64 x.h.at_, .slice R nr rc, .bool x.h.done, .int .i64 x.b.mode, .int .i64 x.b.base, .slice L n c, .int .i64 x.b.orders.page, .int .i64 x.b.orders.head, .int .i64 x.b.orders.tail, .bool x.b.stopped, .int .i64 x.b.fences, .int .i64 x.b.faults.page, .int .i64 x.b.faults.head, .int .i64 x.b.faults.tail, .bool x.b.lost], .agg #[.int .i64 y.kind, .int .i64 y.n, .int .i64 y.a.dev, .int .i64 y.a.at_, .int .i64 y.a.count, .bool y.a.wr, .slice AD nd cd]] w (MdoC w r E) := by
  by_cases h0 : ckM x = 0
  · obtain ⟨c1, c2, _⟩ := (ckM_iff x).1 h0
    obtain rfl : nm = 512 := by rw [← hm.len]; exact (cm_inv c1).1
    obtain rfl : nr = 8 := by rw [← hr.len]; exact (ckH_inv c2).1
    exact mdo_ok x y M R L AD nd cd w mc rc n c hm hr hl hd h0 r E hrr hEE
  · have e : doE x y = ckM x := by unfold doE; rw [if_neg h0]
    have e2 : doA x y = (.no, .no) := by unfold doA; rw [e, if_neg h0]
    rw [← hrr, ← hEE, e, e2]
    exact mdo_bad x y M R L AD nd cd w nm mc nr rc n c hm hr hl h0
end
end Go.Proofs.Ytbopdijnojaaiad
