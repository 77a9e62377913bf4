/- The laws' closed fact 'driven': a device is let through, dropped, and isn't any more. No statement of the seat is proved here. -/
import Derived.Test.YtbopdijnojaaiadMrun
import Derived.Test.YtbopdijnojaaiadDrvR
import Derived.Deep.DeepCutAuto
namespace Go.Proofs.Ytbopdijnojaaiad
open Go.RowKit
set_option linter.unusedSimpArgs false
set_option linter.unusedVariables false
attribute [local go_sem ↓] Go.wp_at_zero Go.wp_at_succ
/-- behind the making of the machine. -/
def MkD (w8 : World) (gM d1 : Nat) (s4 : Value) (wd : World) : Prop :=
  ∃ g R c, s4 = .pointer (some ⟨g, 0, none⟩) ∧ Whl wd g 33 #[.slice (some ⟨gM, 0, none⟩) 512 d1, .int .i64 100, .slice R 8 c, .bool false, .int .i64 tabB.mode, .int .i64 tabB.base, .slice none 0 0, .int .i64 tabB.orders.page, .int .i64 tabB.orders.head, .int .i64 1, .bool tabB.stopped, .int .i64 tabB.fences, .int .i64 tabB.faults.page, .int .i64 tabB.faults.head, .int .i64 tabB.faults.tail, .bool tabB.lost] ∧ Ints wd wd.heap.size R 8 (List.replicate 8 0) ∧ (w8.heap.size ≤ g ∧ g < wd.heap.size) ∧ Since w8 wd
set_option maxRecDepth 100000 in
set_option maxHeartbeats 8000000 in
theorem law_driven (w : World) : Calls Try.prog 11 #[] w fun e w' => e = .returned (.bool true) ∧ Below w.heap.size w w' := by
  have hmk := Try.mk8
  go_enter Try.func11, Try.ntmps11
  go_wp2_with fail
  refine (law_tables _).mono ?_
  rintro e w1 ⟨A1, d1, rfl, ho1, hb1⟩
  obtain ⟨gM, rfl, hg1, hg2, q1, q2, q3⟩ := own_cells ho1 (by decide)
  clear q1 q2 q3
  obtain ⟨tm, htm⟩ : ∃ tm, tm = tabM := ⟨_, rfl⟩
  have HTM := Lib.hid htm
  rw [← htm] at ho1
  have HO := Lib.hid ho1
  have HB1 := Lib.hid hb1
  have hz1 := hb1.size
  clear ho1 hb1 htm
  go_upto_region 3 with (fail)
  generalize hw3 : ((w1.alloc (.cells #[.slice (some ⟨gM, 0, none⟩) 512 d1] 24)).alloc (.cells #[.int .i64 tabB.mode, .int .i64 tabB.base, .slice none 0 0, .int .i64 tabB.orders.page, .int .i64 tabB.orders.head, .int .i64 tabB.orders.tail, .bool tabB.stopped, .int .i64 tabB.fences, .int .i64 tabB.faults.page, .int .i64 tabB.faults.head, .int .i64 tabB.faults.tail, .bool tabB.lost] 31)).alloc (.cells #[.int .i64 3, .int .i64 0, .int .i64 1, .int .i64 1, .int .i64 1, .bool false, .slice none 0 0] 46) = w3
  have K1 := Lib.hid (show Whl w3 w1.heap.size 24 #[.slice (some ⟨gM, 0, none⟩) 512 d1] by rw [← hw3]; exact whl_alloc (whl_alloc (whl_new _ _ _ rfl) _) _)
  have K2 := Lib.hid (show Whl w3 (w1.heap.size + 1) 31 #[.int .i64 tabB.mode, .int .i64 tabB.base, .slice none 0 0, .int .i64 tabB.orders.page, .int .i64 tabB.orders.head, .int .i64 tabB.orders.tail, .bool tabB.stopped, .int .i64 tabB.fences, .int .i64 tabB.faults.page, .int .i64 tabB.faults.head, .int .i64 tabB.faults.tail, .bool tabB.lost] by rw [← hw3]; exact whl_alloc (whl_new _ _ _ (by simp)) _)
  have K3 := Lib.hid (show Whl w3 (w1.heap.size + 1 + 1) 46 #[.int .i64 3, .int .i64 0, .int .i64 1, .int .i64 1, .int .i64 1, .bool false, .slice none 0 0] by rw [← hw3]; exact whl_new _ _ _ (by simp))
  have O3 := Lib.hid (show OwnI w.heap.size w3 (some ⟨gM, 0, none⟩) 512 d1 tm by rw [← hw3]; exact ((HO.out.alloc _).alloc _).alloc _)
  have HW3 := Lib.hid (show Below w.heap.size w w3 by rw [← hw3]; (repeat (first | (with_reducible exact Below.refl _ _) | (with_reducible refine Below.drew ?_) | (with_reducible refine bdrewN ?_ _) | ((with_reducible refine Below.setCell ?_ ?_ _); rotate_left; exact (by first | (simp; done) | (simp; omega) | omega)) | ((with_reducible refine Below.alloc ?_ ?_ _); rotate_left; exact (by first | (simp; done) | (simp; omega) | omega)) | ((with_reducible refine Below.trans ?_ (HB1.out.mono ?_)); rotate_left; exact (by first | (simp; done) | (simp; omega) | omega)))))
  have hz3a : w3.heap.size ≤ w1.heap.size + 3 := by rw [← hw3]; simp
  have hz3b : w1.heap.size + 3 ≤ w3.heap.size := by rw [← hw3]; simp
  have k3 : w3.cell? ⟨w1.heap.size, 0, none⟩ = some (.slice (some ⟨gM, 0, none⟩) 512 d1) := whl_cell K1.out 0
  have n1 : w1.heap.size ≠ gM := by omega
  clear hw3 HO
  go_upto_region 4 with (refine own_storeI rfl 3 (.tmp 18) (.const (.int .i64 4096)) rfl w.heap.size gM 100 512 d1 tm 4096 rfl rfl O3.out (by decide) Try.sizeInt ?_; intro w4 o4 t4; have k4 : w4.cell? ⟨w1.heap.size, 0, none⟩ = some (.slice (some ⟨gM, 0, none⟩) 512 d1) := whl_cell (whl_trn K1.out t4 n1) 0)
  go_upto_region 5 with (refine own_storeI rfl 3 (.tmp 21) (.const (.int .i64 4632)) rfl w.heap.size gM 101 512 d1 _ 4632 rfl rfl o4 (by decide) Try.sizeInt ?_; intro w5 o5 t5; have k5 : w5.cell? ⟨w1.heap.size, 0, none⟩ = some (.slice (some ⟨gM, 0, none⟩) 512 d1) := whl_cell (whl_trn (whl_trn K1.out t4 n1) t5 n1) 0)
  go_upto_region 6 with (refine own_storeI rfl 3 (.tmp 24) (.const (.int .i64 20544)) rfl w.heap.size gM 102 512 d1 _ 20544 rfl rfl o5 (by decide) Try.sizeInt ?_; intro w6 o6 t6; have k6 : w6.cell? ⟨w1.heap.size, 0, none⟩ = some (.slice (some ⟨gM, 0, none⟩) 512 d1) := whl_cell (whl_trn (whl_trn (whl_trn K1.out t4 n1) t5 n1) t6 n1) 0)
  go_upto_region 7 with (refine own_storeI rfl 3 (.tmp 27) (.const (.int .i64 1)) rfl w.heap.size gM 320 512 d1 _ 1 rfl rfl o6 (by decide) Try.sizeInt ?_; intro w7 o7 t7; have c7 := chg_trans (chg_trans (chg_trans t4.1 t5.1) t6.1) t7.1; have l2 := whl_chg K2.out c7 (by omega))
  go_upto_region 8 with (refine wpList_store_cell rfl 3 (.tmp 29) (.const (.int .i64 1)) rfl (w1.heap.size + 1) 5 _ _ #[.int .i64 tabB.mode, .int .i64 tabB.base, .slice none 0 0, .int .i64 tabB.orders.page, .int .i64 tabB.orders.head, .int .i64 1, .bool tabB.stopped, .int .i64 tabB.fences, .int .i64 tabB.faults.page, .int .i64 tabB.faults.head, .int .i64 tabB.faults.tail, .bool tabB.lost] (.int .i64 1) rfl rfl l2 Try.sizeInt (of_decide_eq_true rfl) rfl rfl ?_; intro w8 h8 t8)
  have e8 : w8.heap.size = w3.heap.size := by rw [t8.2, t7.2, t6.2, t5.2, t4.2]
  have hz8a : w8.heap.size ≤ w3.heap.size := Nat.le_of_eq e8
  have hz8b : w3.heap.size ≤ w8.heap.size := Nat.le_of_eq e8.symm
  clear e8
  obtain ⟨tx, htx⟩ : ∃ tx, tx = (((tm.set 100 4096).set 101 4632).set 102 20544).set 320 1 := ⟨_, rfl⟩
  have HXM := Lib.hid (show drvX.m = tx by rw [htx, HTM.out]; rfl)
  rw [← htx] at o7
  have O8 := Lib.hid (chg_ownI o7 t8.1 (fun ad e hp => by injection e with e; subst e; simp only [] at hp; omega))
  have J1 := Lib.hid (whl_trn (whl_chg K1.out c7 n1) t8 (by omega))
  have J3 := Lib.hid (whl_trn (whl_chg K3.out c7 (by omega)) t8 (by omega))
  have c8 : Chg (fun q => w.heap.size ≤ q) w3 w8 := chg_trans (chg_mono c7 (fun q _ e => by omega)) (chg_mono t8.1 (fun q _ e => by omega))
  have HW8 := Lib.hid (below_chg HW3.out (by omega) c8 (fun q hq e => by omega))
  have k8a := fun o => whl_cell J1.out o
  have k8b := fun o => whl_cell h8 o
  have l8a : w1.heap.size < w8.heap.size := by omega
  have l8b : w1.heap.size + 1 < w8.heap.size := by omega
  have l8c : w1.heap.size + 1 + 1 < w8.heap.size := by omega
  clear htx o7 o6 o5 o4 t4 t5 t6 t7 t8 k3 k4 k5 k6 l2 h8 c7 c8 HW3 K1 K2 K3 O3 HTM
  go_frame
  go_cut [4] (fun s4 wd => MkD w8 gM d1 s4 wd)
  case first =>
    clear J1 J3 O8 HW8 HXM
    go_region
    all_goals
      go_wp2
      go_meet
      first
        | (refine ⟨_, some ⟨w8.heap.size, 0, none⟩, 8, rfl, ?_, zr8 ?_ ?_, ?_, ?_⟩
           · (repeat (first | with_reducible exact whl_new _ _ _ (by simp) | with_reducible refine whl_alloc ?_ _ | with_reducible refine whl_drew ?_))
             done
           · first | (simp; done) | (simp; omega) | omega
           · intro o; simp [go_sem]
           · refine ⟨?_, ?_⟩ <;> first | (simp; done) | (simp; omega) | omega
           · (repeat (first | (with_reducible exact since_refl _) | (with_reducible refine since_drew ?_) | (with_reducible refine since_alloc ?_ _) | ((with_reducible refine since_set ?_ ?_ _); rotate_left; exact (by first | (simp; done) | (simp; omega) | omega)))))
        | (refine ⟨_, some ⟨w8.heap.size + 1, 0, none⟩, 8, rfl, ?_, zr8 ?_ ?_, ?_, ?_⟩
           · (repeat (first | with_reducible exact whl_new _ _ _ (by simp) | with_reducible refine whl_alloc ?_ _ | with_reducible refine whl_drew ?_))
             done
           · first | (simp; done) | (simp; omega) | omega
           · intro o; simp [go_sem]
           · refine ⟨?_, ?_⟩ <;> first | (simp; done) | (simp; omega) | omega
           · (repeat (first | (with_reducible exact since_refl _) | (with_reducible refine since_drew ?_) | (with_reducible refine since_alloc ?_ _) | ((with_reducible refine since_set ?_ ?_ _); rotate_left; exact (by first | (simp; done) | (simp; omega) | omega)))))
  case rest =>
    obtain ⟨g, R, c, rfl, hk, hR, ⟨hg3, hg4⟩, hS⟩ := hcut
    clear hmk
    have JW := Lib.hid hk
    have HR := Lib.hid hR
    have J3c := Lib.hid (whl_since J3.out hS)
    have HI := Lib.hid (ints_snc (O8.out.ints (by decide)) hS)
    have HWc := Lib.hid (show Below w.heap.size w wc from HW8.out.trans (Below.mono hS (by omega)))
    have hzc : w8.heap.size ≤ wc.heap.size := Below.size hS
    clear hk hR hS k8a k8b J1 J3 O8 HW8
    go_upto_region 10 with (fail)
    generalize hw9 : wc.alloc (.cells #[.int .i64 1, .int .i64 0, .int .i64 0, .int .i64 0, .int .i64 0, .bool false, .slice none 0 0] 46) = w9
    have L4 := Lib.hid (show Whl w9 g 33 _ by rw [← hw9]; exact whl_alloc JW.out _)
    have L3 := Lib.hid (show Whl w9 (w1.heap.size + 1 + 1) 46 _ by rw [← hw9]; exact whl_alloc J3c.out _)
    have L5 := Lib.hid (show Whl w9 wc.heap.size 46 #[.int .i64 1, .int .i64 0, .int .i64 0, .int .i64 0, .int .i64 0, .bool false, .slice none 0 0] by rw [← hw9]; exact whl_new _ _ _ rfl)
    have hb9 : Below wc.heap.size wc w9 := by rw [← hw9]; exact (Below.refl _ _).alloc (Nat.le_refl _) _
    have HI9 := Lib.hid (ints_now HI.out hb9)
    have HR9 := Lib.hid (ints_now HR.out hb9)
    have HW9 := Lib.hid (HWc.out.trans (hb9.mono (by omega)))
    have hz9 := hb9.size
    clear hw9 hb9 JW J3c HI HR HWc
    go_step
    refine wpList_load_whl rfl 33 (.tmp 4) rfl g _ _ rfl L4.out _ Try.underlying33 rfl Try.sizeMach ?_
    refine wpList_load_whl rfl 46 (.tmp 3) rfl (w1.heap.size + 1 + 1) _ _ rfl L3.out _ Try.underlying46 rfl Try.sizeHap ?_
    refine wpList_load_whl rfl 46 (.tmp 5) rfl wc.heap.size _ _ rfl L5.out _ Try.underlying46 rfl Try.sizeHap ?_
    refine wpList_load_whl rfl 46 (.tmp 5) rfl wc.heap.size _ _ rfl L5.out _ Try.underlying46 rfl Try.sizeHap ?_
    refine wpList_load_whl rfl 46 (.tmp 5) rfl wc.heap.size _ _ rfl L5.out _ Try.underlying46 rfl Try.sizeHap ?_
    refine wpList_load_whl rfl 46 (.tmp 3) rfl (w1.heap.size + 1 + 1) _ _ rfl L3.out _ Try.underlying46 rfl Try.sizeHap ?_
    go_frame
    refine wpList_build1 rfl (.const (.int .i64 2)) 46 rfl _ rfl _ (Try.bd1 _) ?_
    refine wpList_load_whl rfl 46 (.tmp 3) rfl (w1.heap.size + 1 + 1) _ _ rfl L3.out _ Try.underlying46 rfl Try.sizeHap ?_
    refine wpList_build1 rfl (.const (.int .i64 2)) 46 rfl _ rfl _ (Try.bd1 _) ?_
    go_frame
    refine wpList_buildS8 rfl (.tmp 38) (.tmp 39) (.tmp 40) (.tmp 41) (.tmp 42) (.tmp 43) (.tmp 44) (.tmp 45) 53 rfl _ _ _ _ _ _ _ _ rfl rfl rfl rfl rfl rfl rfl rfl _ (Try.bs8 _) ?_
    go_frame
    go_wp2_with fail
    have hal := (Below.refl w9.heap.size w9).alloc (Nat.le_refl _) (.cells #[.int .i64 3, .int .i64 0, .int .i64 1, .int .i64 1, .int .i64 1, .bool false, .slice none 0 0, .int .i64 1, .int .i64 0, .int .i64 0, .int .i64 0, .int .i64 0, .bool false, .slice none 0 0, .int .i64 1, .int .i64 0, .int .i64 0, .int .i64 0, .int .i64 0, .bool false, .slice none 0 0, .int .i64 1, .int .i64 0, .int .i64 0, .int .i64 0, .int .i64 0, .bool false, .slice none 0 0, .int .i64 3, .int .i64 0, .int .i64 1, .int .i64 1, .int .i64 1, .bool false, .slice none 0 0, .int .i64 2, .int .i64 0, .int .i64 0, .int .i64 0, .int .i64 0, .bool false, .slice none 0 0, .int .i64 3, .int .i64 0, .int .i64 1, .int .i64 1, .int .i64 1, .bool false, .slice none 0 0, .int .i64 2, .int .i64 0, .int .i64 0, .int .i64 0, .int .i64 0, .bool false, .slice none 0 0] 46)
    obtain ⟨y, hrun⟩ := drv_all
    refine (hrun (some ⟨gM, 0, none⟩) R d1 c w9.heap.size _ (by rw [show drvM = tx from HXM.out]; exact ints_now HI9.out hal) (ints_now HR9.out hal) (haps_drv (by simp) (whl_new _ _ _ rfl))).mono ?_
    clear hrun
    rintro e w10 ⟨mb, mo, nm5, mc5, R5, nr5, rc5, LX, c5, tb, tn, tc, sb, sc, _, rfl, rfl, q1, q2, q3, q4, q5, q6, q7, hb10⟩
    have hz10 := hb10.size
    simp only [World.size_alloc] at hz10
    have HW10 := Lib.hid (HW9.out.trans ((((Below.refl w9.heap.size w9).alloc (Nat.le_refl _) _).trans (hb10.mono (by simp))).mono (by omega)))
    have Q2 := Lib.hid q2
    have Q4 := Lib.hid q4
    have Q5 := Lib.hid q5
    have Q6 := Lib.hid q6
    have Q7 := Lib.hid q7
    clear hb10 hal q2 q4 q5 q6 q7 L4 L3 L5 HI9 HR9 HW9
    go_upto_region 11 with (refine wpList_store_new rfl 33 (.tmp 6) (.tmp 48) rfl _ _ _ _ rfl rfl (by rfl) (by rfl) Try.sizeMach rfl (by rfl) ?_)
    generalize hw11 : World.alloc w10 _ = w11
    have KM := Lib.hid (show Whl w11 w10.heap.size 33 _ by rw [← hw11]; exact whl_new _ _ _ rfl)
    have hb11 : Below w10.heap.size w10 w11 := by rw [← hw11]; exact (Below.refl _ _).alloc (Nat.le_refl _) _
    have hz11 := hb11.size
    have QQ := Lib.hid (ints_now Q7.out hb11)
    have U2 := Lib.hid (since_cell hb11 Q2.out)
    have U4 := Lib.hid (since_cell hb11 Q4.out)
    have U5 := Lib.hid (since_cell hb11 Q5.out)
    have U6 := Lib.hid (since_cell hb11 Q6.out)
    have HW11 := Lib.hid (HW10.out.trans (hb11.mono (by omega)))
    clear hw11 hb11 Q2 Q4 Q5 Q6 Q7 HW10
    go_wp2_with fail
    have hal := (Below.refl w11.heap.size w11).alloc (Nat.le_refl _) (.cells #[.int .i64 0, .int .i64 0, .int .i64 0, .int .i64 0, .int .i64 0, .int .i64 0, .int .i64 0, .int .i64 6] 37)
    refine (sl_EqualE _ _ 8 8 _ _ [0, 0, 0, 0, 0, 0, 0, 6] [0, 0, 0, 0, 0, 0, 0, 6] _ (ints_now QQ.out hal) (sx8 (by simp) (by intro o; simp [go_sem]))).mono ?_
    rintro e w12 ⟨rfl, hb12⟩
    have hb : Below w11.heap.size w11 w12 := hal.trans (hb12.mono (by simp))
    have k1 := whl_cell (whl_since KM.out hb) 0
    have k2 := whl_cell (whl_since KM.out hb) 6
    have u2 := since_cell hb U2.out
    have u4 := since_cell hb U4.out
    have u5 := since_cell hb U5.out
    have u6 := since_cell hb U6.out
    have HW12 := Lib.hid (HW11.out.trans (hb.mono (by omega)))
    have r1 : (0 : Int) < (tn : Int) := by omega
    have r2 : (4 : Int) < (tn : Int) := by omega
    have r3 : (6 : Int) < (tn : Int) := by omega
    have r4 : (328 : Int) < (nm5 : Int) := by omega
    clear hb hb12 hal KM QQ U2 U4 U5 U6 HW11
    go_wp2
    go_ret
    exact ⟨rfl, HW12.out⟩
end Go.Proofs.Ytbopdijnojaaiad
