/- The audit: the walk of the laws' closed fact 'audited'. No statement of the seat is proved here. -/
import Derived.Test.YtbopdijnojaaiadFair
import Derived.Test.YtbopdijnojaaiadBuildS
import Derived.Test.YtbopdijnojaaiadWhole
import Derived.Test.YtbopdijnojaaiadCrossed
namespace Go.Proofs.Ytbopdijnojaaiad
open Go.RowKit
set_option linter.unusedSimpArgs false
set_option linter.unusedVariables false
attribute [local go_sem ↓] Go.wp_at_zero Go.wp_at_succ

theorem machs_one_ {w : World} {B g : Nat} {x : Mch} {M R L : Option Addr} {nm mc nr rc n c : Nat} (hw : Whl w g 33 #[.slice M nm mc, .int .i64 x.h.at_, .slice R nr rc, .bool x.h.done, .int .i64 x.b.mode, .int .i64 x.b.base, .slice L n c, .int .i64 x.b.orders.page, .int .i64 x.b.orders.head, .int .i64 x.b.orders.tail, .bool x.b.stopped, .int .i64 x.b.fences, .int .i64 x.b.faults.page, .int .i64 x.b.faults.head, .int .i64 x.b.faults.tail, .bool x.b.lost]) (hg : g < B)
    (h1 : Ints w B M nm x.m) (h2 : Ints w B R nr x.h.regs) (h3 : Lines w B L n c x.b.cache) : Machs w B (some ⟨g, 0, none⟩) 1 1 [x] :=
  ⟨rfl, Nat.le_refl _, by unfold maxLen; omega, fun _ => ⟨g, 0, rfl, hg, fun k z hz => by
    have hc := whl_cell hw
    match k, hz with
    | 0, hz =>
      simp at hz; subst hz
      exact ⟨M, nm, mc, R, nr, rc, L, n, c, ⟨hc 0, hc 1, hc 2, hc 3, hc 4, hc 5, hc 6, hc 7, hc 8, hc 9, hc 10, hc 11, hc 12, hc 13, hc 14, hc 15⟩, h1, h2, h3⟩⟩⟩
theorem machs_two_ {w : World} {B g : Nat} {x y : Mch} {M R L : Option Addr} {nm mc nr rc n c : Nat} (hw : Whl w g 33 #[.slice M nm mc, .int .i64 x.h.at_, .slice R nr rc, .bool x.h.done, .int .i64 x.b.mode, .int .i64 x.b.base, .slice L n c, .int .i64 x.b.orders.page, .int .i64 x.b.orders.head, .int .i64 x.b.orders.tail, .bool x.b.stopped, .int .i64 x.b.fences, .int .i64 x.b.faults.page, .int .i64 x.b.faults.head, .int .i64 x.b.faults.tail, .bool x.b.lost, .slice M nm mc, .int .i64 y.h.at_, .slice R nr rc, .bool y.h.done, .int .i64 y.b.mode, .int .i64 y.b.base, .slice L n c, .int .i64 y.b.orders.page, .int .i64 y.b.orders.head, .int .i64 y.b.orders.tail, .bool y.b.stopped, .int .i64 y.b.fences, .int .i64 y.b.faults.page, .int .i64 y.b.faults.head, .int .i64 y.b.faults.tail, .bool y.b.lost]) (hg : g < B)
    (h1 : Ints w B M nm x.m) (h2 : Ints w B R nr x.h.regs) (h3 : Lines w B L n c x.b.cache) (h4 : Ints w B M nm y.m) (h5 : Ints w B R nr y.h.regs) (h6 : Lines w B L n c y.b.cache) : Machs w B (some ⟨g, 0, none⟩) 2 2 [x, y] :=
  ⟨rfl, Nat.le_refl _, by unfold maxLen; omega, fun _ => ⟨g, 0, rfl, hg, fun k z hz => by
    have hc := whl_cell hw
    match k, hz with
    | 0, hz =>
      simp at hz; subst hz
      exact ⟨M, nm, mc, R, nr, rc, L, n, c, ⟨hc 0, hc 1, hc 2, hc 3, hc 4, hc 5, hc 6, hc 7, hc 8, hc 9, hc 10, hc 11, hc 12, hc 13, hc 14, hc 15⟩, h1, h2, h3⟩
    | 1, hz =>
      simp at hz; subst hz
      exact ⟨M, nm, mc, R, nr, rc, L, n, c, ⟨hc 16, hc 17, hc 18, hc 19, hc 20, hc 21, hc 22, hc 23, hc 24, hc 25, hc 26, hc 27, hc 28, hc 29, hc 30, hc 31⟩, h4, h5, h6⟩⟩⟩
def x0 : Mch := ⟨tabM, ⟨0, List.replicate 8 0, false⟩, tabB⟩
def yof (X : Mch) : Mch := ⟨X.m, X.h, ⟨0, X.b.base, X.b.cache, X.b.orders, X.b.stopped, X.b.fences, X.b.faults, X.b.lost⟩⟩
def t0 : Tch := ⟨1, 1, 73, true, 0⟩
theorem aud1 : fairE [x0, yof x0] t0 = 0 := by kernel_rfl
theorem aud2 : fairV [x0, yof x0] t0 = 0 := by kernel_rfl
theorem aud3 : fairE [yof x0] t0 = 0 := by kernel_rfl
theorem aud4 : fairV [yof x0] t0 = -1 := by kernel_rfl
theorem aud5 : tchE ⟨1, 1, 73, true, 0⟩ = 0 := by kernel_rfl
theorem aud6 : tchE ⟨0, 1, 0, false, 0⟩ = 3 := by kernel_rfl
theorem x0m : x0.m = tabM := by unfold x0; rfl
theorem x0r : x0.h.regs = List.replicate 8 0 := by unfold x0; rfl
theorem x0c : x0.b.cache = [] := by unfold x0 tabB; rfl
/-- behind the making of a machine. -/
theorem fair_ans (A : Option Addr) (n c : Nat) (ms : List Mch) (t : Tch) (V E : Int) (w : World) (hx : Machs w w.heap.size A n c ms) (hV : fairV ms t = V) (hE : fairE ms t = E) :
    Calls Try.prog 10 #[.slice A n c, .agg #[.int .i64 t.dev, .int .i64 t.seen, .int .i64 t.at_, .bool t.wr, .int .i64 t.value]] w fun e w' => e = .returned (.tuple #[.int .i64 V, .int .i64 E]) ∧ Below w.heap.size w w' := by
  subst hV hE
  exact audit_Fair A n c ms t w hx
def MkC (w1 : World) (A1 : Option Addr) (d1 : Nat) (s3 : Value) (wd : World) : Prop :=
  ∃ g R c, s3 = .pointer (some ⟨g, 0, none⟩) ∧ Whl wd g 33 #[.slice A1 512 d1, .int .i64 0, .slice R 8 c, .bool false, .int .i64 tabB.mode, .int .i64 tabB.base, .slice none 0 0, .int .i64 tabB.orders.page, .int .i64 tabB.orders.head, .int .i64 tabB.orders.tail, .bool tabB.stopped, .int .i64 tabB.fences, .int .i64 tabB.faults.page, .int .i64 tabB.faults.head, .int .i64 tabB.faults.tail, .bool tabB.lost] ∧ Ints wd wd.heap.size R 8 (List.replicate 8 0) ∧ (w1.heap.size ≤ g ∧ g < wd.heap.size) ∧ Since w1 wd
set_option maxRecDepth 100000 in
theorem Try.make8 : ∀ w : World, (Instr.makeSlice 22 (.int .i64 8) (.int .i64 8)).run Try.prog w = .ok (.slice (some ⟨w.heap.size, 0, none⟩) 8 8) (w.alloc (.cells #[.int .i64 0, .int .i64 0, .int .i64 0, .int .i64 0, .int .i64 0, .int .i64 0, .int .i64 0, .int .i64 0] 3)) := fun _ => by kernel_rfl
theorem zrs8 {w : World} {g : Nat} {B : Nat} (hg : g < B) (h : ∀ o, w.cell? ⟨g, o, none⟩ = ([.int .i64 0, .int .i64 0, .int .i64 0, .int .i64 0, .int .i64 0, .int .i64 0, .int .i64 0, .int .i64 0] : List Value)[o]?) : Ints w B (some ⟨g, 0, none⟩) 8 (List.replicate 8 0) :=
  Ints.of_cells rfl (by decide) hg (fun k => by rw [h k]; rfl)
set_option maxRecDepth 100000 in
set_option maxHeartbeats 4000000 in
theorem law_audited (w : World) : Calls Try.prog 6 #[] w fun e w' => e = .returned (.bool true) ∧ Below w.heap.size w w' := by
  have hmk := Try.make8
  go_enter Try.func6, Try.ntmps6
  go_wp2_with fail
  refine (law_tables _).mono ?_
  rintro e w1 ⟨A1, d1, rfl, ho1, hb1⟩
  have HI := Lib.hid (ho1.ints (by decide))
  have HB1 := Lib.hid hb1
  have hz1 := hb1.size
  clear ho1 hb1
  obtain ⟨tm, htm⟩ : ∃ tm, tm = tabM := ⟨_, rfl⟩
  have HXM := Lib.hid (show x0.m = tm from htm.symm)
  rw [← htm] at HI
  clear htm
  go_upto_region 2 with (fail)
  go_cut [3] (fun s3 wd => MkC w1 A1 d1 s3 wd)
  case first =>
    go_region
    all_goals
      go_wp2
      go_meet
      first
        | (refine ⟨_, some ⟨w1.heap.size + 1 + 1, 0, none⟩, 8, rfl, ?_, zrs8 ?_ ?_, ?_, ?_⟩
           · (repeat (first | with_reducible exact whl_new _ _ _ (by simp) | with_reducible refine whl_alloc ?_ _ | with_reducible refine whl_drew ?_))
             done
           · first | (simp; done) | (simp; omega) | omega
           · intro o; simp [go_sem]
           · refine ⟨?_, ?_⟩ <;> first | (simp; done) | (simp; omega) | omega
           · (repeat (first | (with_reducible exact since_refl _) | (with_reducible refine since_drew ?_) | (with_reducible refine since_alloc ?_ _) | ((with_reducible refine since_set ?_ ?_ _); rotate_left; exact (by first | (simp; done) | (simp; omega) | omega)))))
        | (refine ⟨_, some ⟨w1.heap.size + 1 + 1 + 1, 0, none⟩, 8, rfl, ?_, zrs8 ?_ ?_, ?_, ?_⟩
           · (repeat (first | with_reducible exact whl_new _ _ _ (by simp) | with_reducible refine whl_alloc ?_ _ | with_reducible refine whl_drew ?_))
             done
           · first | (simp; done) | (simp; omega) | omega
           · intro o; simp [go_sem]
           · refine ⟨?_, ?_⟩ <;> first | (simp; done) | (simp; omega) | omega
           · (repeat (first | (with_reducible exact since_refl _) | (with_reducible refine since_drew ?_) | (with_reducible refine since_alloc ?_ _) | ((with_reducible refine since_set ?_ ?_ _); rotate_left; exact (by first | (simp; done) | (simp; omega) | omega)))))
  case rest =>
    obtain ⟨g, R, c, rfl, hk, hR, ⟨hg1, hg2⟩, hS⟩ := hcut
    have HIC := Lib.hid (ints_snc HI.out hS)
    have HR := Lib.hid hR
    have HW := Lib.hid (show Below w.heap.size w wc from HB1.out.trans (Below.mono hS hz1))
    have hzc : w1.heap.size ≤ wc.heap.size := Below.size hS
    have HKW := Lib.hid hk
    clear hk hR hS
    go_wp2_with (first
      | (refine wpList_store_new rfl 33 (.tmp 4) (.tmp 19) rfl _ _ _ _ rfl rfl (by rfl) (by rfl) (by exact Try.sizeMach) (by rfl) (by rfl) ?_)
      | (refine wpList_load_whl rfl 33 (.tmp 3) rfl g _ _ rfl HKW.out _ Try.underlying33 rfl Try.sizeMach ?_)
      | (refine wpList_load_whl rfl 33 (.tmp 3) rfl g _ _ rfl (whl_alloc (whl_alloc HKW.out _) _) _ Try.underlying33 rfl Try.sizeMach ?_)
      | (refine wpList_load_whl rfl 33 (.tmp 4) rfl wc.heap.size _ _ rfl (whl_alloc (whl_new wc _ _ rfl) _) _ Try.underlying33 rfl Try.sizeMach ?_)
      | (refine wpList_buildS2 rfl (.tmp 24) (.tmp 25) 51 rfl _ _ (by rfl) (by rfl) _ (Try.bs2 _) ?_))
    refine (fair_ans (some ⟨wc.heap.size + 1 + 1, 0, none⟩) 2 2 [x0, yof x0] ⟨1, 1, 73, true, 0⟩ 0 0 _ (machs_two_ (M := A1) (R := R) (L := none) (nm := 512) (mc := d1) (nr := 8) (rc := c) (n := 0) (c := 0) (whl_new _ _ _ (by simp)) ?_ ?_ ?_ ?_ ?_ ?_ ?_) aud2 aud1).mono ?_
    · simp
    · rw [HXM.out]; exact (ints_now HIC.out (by (repeat (first | (with_reducible exact Below.refl _ _) | (with_reducible refine Below.drew ?_) | (with_reducible refine bdrewN ?_ _) | ((with_reducible refine Below.setCell ?_ ?_ _); rotate_left; exact (by first | (simp; done) | (simp; omega) | omega)) | ((with_reducible refine Below.alloc ?_ ?_ _); rotate_left; exact (by first | (simp; done) | (simp; omega) | omega))))))
    · rw [x0r]; exact (ints_now HR.out (by (repeat (first | (with_reducible exact Below.refl _ _) | (with_reducible refine Below.drew ?_) | (with_reducible refine bdrewN ?_ _) | ((with_reducible refine Below.setCell ?_ ?_ _); rotate_left; exact (by first | (simp; done) | (simp; omega) | omega)) | ((with_reducible refine Below.alloc ?_ ?_ _); rotate_left; exact (by first | (simp; done) | (simp; omega) | omega))))))
    · rw [x0c]; exact lines_none _ _
    · show Ints _ _ _ _ x0.m; rw [HXM.out]; exact (ints_now HIC.out (by (repeat (first | (with_reducible exact Below.refl _ _) | (with_reducible refine Below.drew ?_) | (with_reducible refine bdrewN ?_ _) | ((with_reducible refine Below.setCell ?_ ?_ _); rotate_left; exact (by first | (simp; done) | (simp; omega) | omega)) | ((with_reducible refine Below.alloc ?_ ?_ _); rotate_left; exact (by first | (simp; done) | (simp; omega) | omega))))))
    · show Ints _ _ _ _ x0.h.regs; rw [x0r]; exact (ints_now HR.out (by (repeat (first | (with_reducible exact Below.refl _ _) | (with_reducible refine Below.drew ?_) | (with_reducible refine bdrewN ?_ _) | ((with_reducible refine Below.setCell ?_ ?_ _); rotate_left; exact (by first | (simp; done) | (simp; omega) | omega)) | ((with_reducible refine Below.alloc ?_ ?_ _); rotate_left; exact (by first | (simp; done) | (simp; omega) | omega))))))
    · show Lines _ _ _ _ _ x0.b.cache; rw [x0c]; exact lines_none _ _
    rintro e w2 ⟨rfl, hb2⟩
    have HB2 := Lib.hid hb2
    have HY2 := Lib.hid (whl_since (whl_alloc (whl_alloc (whl_new wc _ _ rfl) _) _) hb2)
    have ht2 := fun o => (bcell hb2).1 (wc.heap.size + 1) o (by simp)
    have lt2 : wc.heap.size + 1 < w2.heap.size := by have := hb2.size; simp at this; omega
    simp (maxDischargeDepth := 6) [go_sem] at ht2
    clear hb2
    go_wp2_with (first
      | (refine wpList_load_whl rfl 33 (.tmp 4) rfl wc.heap.size _ _ rfl HY2.out _ Try.underlying33 rfl Try.sizeMach ?_)
      | (refine wpList_buildS1 rfl (.tmp 32) 51 rfl _ (by rfl) _ (Try.bs1 _) ?_))
    refine (fair_ans (some ⟨w2.heap.size, 0, none⟩) 1 1 [yof x0] ⟨1, 1, 73, true, 0⟩ (-1) 0 _ (machs_one_ (M := A1) (R := R) (L := none) (nm := 512) (mc := d1) (nr := 8) (rc := c) (n := 0) (c := 0) (whl_new _ _ _ (by simp)) ?_ ?_ ?_ ?_) aud4 aud3).mono ?_
    · simp
    · show Ints _ _ _ _ x0.m; rw [HXM.out]; exact (ints_now HIC.out (by (repeat (first | (with_reducible exact Below.refl _ _) | (with_reducible refine Below.drew ?_) | (with_reducible refine bdrewN ?_ _) | ((with_reducible refine Below.setCell ?_ ?_ _); rotate_left; exact (by first | (simp; done) | (simp; omega) | omega)) | ((with_reducible refine Below.alloc ?_ ?_ _); rotate_left; exact (by first | (simp; done) | (simp; omega) | omega)) | ((with_reducible refine Below.trans ?_ (HB2.out.mono ?_)); rotate_left; exact (by first | (simp; done) | (simp; omega) | omega))))))
    · show Ints _ _ _ _ x0.h.regs; rw [x0r]; exact (ints_now HR.out (by (repeat (first | (with_reducible exact Below.refl _ _) | (with_reducible refine Below.drew ?_) | (with_reducible refine bdrewN ?_ _) | ((with_reducible refine Below.setCell ?_ ?_ _); rotate_left; exact (by first | (simp; done) | (simp; omega) | omega)) | ((with_reducible refine Below.alloc ?_ ?_ _); rotate_left; exact (by first | (simp; done) | (simp; omega) | omega)) | ((with_reducible refine Below.trans ?_ (HB2.out.mono ?_)); rotate_left; exact (by first | (simp; done) | (simp; omega) | omega))))))
    · show Lines _ _ _ _ _ x0.b.cache; rw [x0c]; exact lines_none _ _
    clear HY2
    rintro e w3 ⟨rfl, hb3⟩
    have hz3 := hb3.size
    (try simp only [World.size_alloc, World.size_setCell, World.size_drew] at hz3)
    have k3_0_0 := (bcell hb3).1 (wc.heap.size + 1) 0 (by first | (simp; done) | (simp; omega) | omega)
    have k3_0_1 := (bcell hb3).1 (wc.heap.size + 1) 1 (by first | (simp; done) | (simp; omega) | omega)
    have k3_0_2 := (bcell hb3).1 (wc.heap.size + 1) 2 (by first | (simp; done) | (simp; omega) | omega)
    have k3_0_3 := (bcell hb3).1 (wc.heap.size + 1) 3 (by first | (simp; done) | (simp; omega) | omega)
    have k3_0_4 := (bcell hb3).1 (wc.heap.size + 1) 4 (by first | (simp; done) | (simp; omega) | omega)
    have l3_0 : (wc.heap.size + 1) < w3.heap.size := (by omega)
    have q3_0 := fun o => (bcell hb3).2 (wc.heap.size + 1) o (by first | (simp; done) | (simp; omega) | omega)
    simp (maxDischargeDepth := 6) [go_sem, *] at k3_0_0 k3_0_1 k3_0_2 k3_0_3 k3_0_4 q3_0
    have HB3 := Lib.hid hb3
    clear hb3
    go_wp2_with fail
    refine (audit_Check ⟨1, 1, 73, true, 0⟩ _).mono ?_
    rw [aud5]
    rintro e w4 ⟨rfl, hb4⟩
    have hz4 := hb4.size
    (try simp only [World.size_alloc, World.size_setCell, World.size_drew] at hz4)
    have HB4 := Lib.hid hb4
    clear hb4
    go_wp2_with fail
    refine (audit_Check ⟨0, 1, 0, false, 0⟩ _).mono ?_
    rw [aud6]
    rintro e w5 ⟨rfl, hb5⟩
    have hz5 := hb5.size
    (try simp only [World.size_alloc, World.size_setCell, World.size_drew] at hz5)
    have HB5 := Lib.hid hb5
    clear hb5
    go_wp2
    go_ret
    refine ⟨rfl, ?_⟩
    (repeat (first | (with_reducible exact Below.refl _ _) | (with_reducible refine Below.drew ?_) | (with_reducible refine bdrewN ?_ _) | ((with_reducible refine Below.setCell ?_ ?_ _); rotate_left; exact (by first | (simp; done) | (simp; omega) | omega)) | ((with_reducible refine Below.alloc ?_ ?_ _); rotate_left; exact (by first | (simp; done) | (simp; omega) | omega)) | ((with_reducible refine Below.trans ?_ (HB5.out.mono ?_)); rotate_left; exact (by first | (simp; done) | (simp; omega) | omega)) | ((with_reducible refine Below.trans ?_ (HB4.out.mono ?_)); rotate_left; exact (by first | (simp; done) | (simp; omega) | omega)) | ((with_reducible refine Below.trans ?_ (HB3.out.mono ?_)); rotate_left; exact (by first | (simp; done) | (simp; omega) | omega)) | ((with_reducible refine Below.trans ?_ (HB2.out.mono ?_)); rotate_left; exact (by first | (simp; done) | (simp; omega) | omega))))
    exact HW.out
end Go.Proofs.Ytbopdijnojaaiad
