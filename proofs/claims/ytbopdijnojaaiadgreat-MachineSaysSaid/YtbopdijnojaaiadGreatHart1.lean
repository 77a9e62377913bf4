/- The hart: the walks of the document's CheckHart and SameHart. No statement of the seat is proved here. -/
import Derived.Test.YtbopdijnojaaiadGreatZz
import Derived.Test.YtbopdijnojaaiadGreatHartP
import Derived.Test.YtbopdijnojaaiadGreatSlices
namespace Go.Proofs.YtbopdijnojaaiadGreat
set_option maxRecDepth 100000
set_option maxHeartbeats 2000000
open Go.RowKit
set_option linter.unusedSimpArgs false
set_option linter.unusedVariables false
section
theorem Xfq (h : Hrt) (A : Option Addr) (n c : Nat) (w : World) (hx : Ints w w.heap.size A n h.regs) :
    Calls Tryz.prog 24 #[.agg #[.int .i64 h.at_, .slice A n c, .bool h.done]] w fun e w' => e = .returned (.int .i64 (ckH h)) ∧ Below w.heap.size w w' := by
 have hl := hx.len
 have HL := Zh hl
 refine z148 ?_; intro HB
 by_cases h8 : n = 8
 · subst h8
   obtain ⟨b, off, rfl, hb, hc⟩ := hx.at_ (by omega)
   have HC := Zh hc
   clear hl hc hx
   by_cases hA : 0 ≤ h.at_ ∧ h.at_ < 512
   · have HA := Zh hA
     obtain ⟨a1, a2⟩ := hA
     go_enter Tryz.func24, Tryz.ntmps24
     go_wp2
     go_loop [20, 4] (fun i _ => ∃ k : Nat, k ≤ 8 ∧ i = .int .i64 k ∧ (h.regs.take k).all Xb1 = true) (fun i _ => 8 - (intOf i).toNat)
     case atStart => exact ⟨0, by omega, rfl, by simp⟩
     case round =>
       obtain ⟨k, hk, rfl, hall⟩ := hrel
       have HAL := Zh hall; clear hall
       by_cases hlt : k < 8
       · obtain ⟨x, hx⟩ := Xax h.regs (k := k) (by rw [HL.out]; exact hlt)
         have hcc := HC.out k x hx
         have HX := Zh hx; clear hx
         go_wp2
         all_goals first
           | (go_ret; exact ⟨Xbe (Xs3 HL.out HA.out HX.out y22).symm, HB.out _⟩)
           | skip
         go_round
         case rel => exact ⟨k+1, by omega, by go_num, Xcv HX.out HAL.out y22⟩
         case measure => simp [intOf]; omega
       · go_wp2
         obtain rfl : k = 8 := by omega
         go_ret
         exact ⟨Xbe (Xs1 HL.out HA.out HAL.out).symm, HB.out _⟩
   · have HA := Zh hA
     have h2 : h.at_ < 0 ∨ (0 ≤ h.at_ ∧ 512 ≤ h.at_) := by omega
     clear hA
     rcases h2 with a1 | ⟨a1, a2⟩
     all_goals
       go_enter Tryz.func24, Tryz.ntmps24
       go_wp2
       go_ret
       exact ⟨Xbe (Xv9 HL.out HA.out).symm, HB.out _⟩
 · have h6 : ((n : Int) != 8) = true := by simp; omega
   have H5 := Zh h8
   clear hl h8 hx
   go_enter Tryz.func24, Tryz.ntmps24
   go_wp2
   go_ret
   exact ⟨Xbe (Xs2 (by rw [HL.out]; exact H5.out)).symm, HB.out _⟩
theorem Xpo {w : World} {B n : Nat} {A : Option Addr} {xs : List Int} (h : Ints w B A n xs) {p : Addr} (hp : ∀ ad, A = some ad → ad.block ≠ p.block) (u : Value) : Ints (w.setCell p u) B A n xs := by
 refine ⟨h.1, h.2.1, fun hn => ?_⟩
 obtain ⟨b, off, e, hb, hc⟩ := h.2.2 hn
 exact ⟨b, off, e, hb, fun k v hv => (World.cell?_setCell_other _ _ _ _ (fun e' => hp _ e (by have := congrArg Addr.block e'; simpa using this.symm))).trans (hc k v hv)⟩
theorem Xlu (a b : Hrt) (A B : Option Addr) (n c m d : Nat) (w : World) (hx : Ints w w.heap.size A n a.regs) (hy : Ints w w.heap.size B m b.regs) :
    Calls Tryz.prog 27 #[.agg #[.int .i64 a.at_, .slice A n c, .bool a.done], .agg #[.int .i64 b.at_, .slice B m d, .bool b.done]] w fun e w' => e = .returned (.bool (Xgo a b)) ∧ Below w.heap.size w w' := by
 have HX := Zh hx; clear hx
 have HY := Zh hy; clear hy
 have HB := Zh (Xa3 w)
 have HS := Zh (Xk5 a b)
 by_cases h1 : a.at_ = b.at_
 · have t1 : (a.at_ == b.at_) = true := by rw [beq_iff_eq]; exact h1
   by_cases h2 : a.regs = b.regs
   · have HR := Zh (show (a.done == b.done) = Xgo a b by rw [HS.out]; cases a.done <;> cases b.done <;> simp [h1, h2])
     have H2 := Zh h2
     clear h1 h2
     go_enter Tryz.func27, Tryz.ntmps27
     go_wp2_with fail
     refine (Xew _ _ _ _ _ _ a.regs b.regs _ (((HX.out.alloc (Nat.le_refl _) _).alloc (by simp) _).more y3) (((HY.out.alloc (Nat.le_refl _) _).alloc (by simp) _).more y3)).mono ?_
     rw [show eqI a.regs b.regs = true by simp [eqI, H2.out]]
     rintro e w1 ⟨rfl, hb1⟩
     have hz1 := hb1.size
     (try simp only [World.size_alloc, World.size_setCell, World.size_drew] at hz1)
     have k1_0 := fun o => (Xab hb1).1 (w.heap.size) o y0
     have l1_0 : (w.heap.size) < w1.heap.size := (by omega)
     have q1_0 := fun o => (Xab hb1).2 (w.heap.size) o y0
     have k1_1 := fun o => (Xab hb1).1 (w.heap.size + 1) o y0
     have l1_1 : (w.heap.size + 1) < w1.heap.size := (by omega)
     have q1_1 := fun o => (Xab hb1).2 (w.heap.size + 1) o y0
     simp (maxDischargeDepth := 6) [go_sem, *] at k1_0 q1_0 k1_1 q1_1
     have HB1 := Zh hb1
     clear hb1
     go_wp2
     go_ret
     exact ⟨Xbf HR.out, by (repeat (first | (with_reducible exact Below.refl _ _) | (with_reducible refine Below.drew ?_) | (with_reducible refine Xai ?_ _) | ((with_reducible refine Below.setCell ?_ ?_ _); rotate_left; exact y0) | ((with_reducible refine Below.alloc ?_ ?_ _); rotate_left; exact y0) | ((with_reducible refine Below.trans ?_ (HB1.out.mono ?_)); rotate_left; exact y0)))⟩
   · have HR := Zh (show false = Xgo a b by rw [HS.out]; simp [h2])
     have H2 := Zh h2
     clear h1 h2
     go_enter Tryz.func27, Tryz.ntmps27
     go_wp2_with fail
     refine (Xew _ _ _ _ _ _ a.regs b.regs _ (((HX.out.alloc (Nat.le_refl _) _).alloc (by simp) _).more y3) (((HY.out.alloc (Nat.le_refl _) _).alloc (by simp) _).more y3)).mono ?_
     rw [show eqI a.regs b.regs = false by simp [eqI, H2.out]]
     rintro e w1 ⟨rfl, hb1⟩
     have hz1 := hb1.size
     (try simp only [World.size_alloc, World.size_setCell, World.size_drew] at hz1)
     have k1_0 := fun o => (Xab hb1).1 (w.heap.size) o y0
     have l1_0 : (w.heap.size) < w1.heap.size := (by omega)
     have q1_0 := fun o => (Xab hb1).2 (w.heap.size) o y0
     have k1_1 := fun o => (Xab hb1).1 (w.heap.size + 1) o y0
     have l1_1 : (w.heap.size + 1) < w1.heap.size := (by omega)
     have q1_1 := fun o => (Xab hb1).2 (w.heap.size + 1) o y0
     simp (maxDischargeDepth := 6) [go_sem, *] at k1_0 q1_0 k1_1 q1_1
     have HB1 := Zh hb1
     clear hb1
     go_wp2
     go_ret
     exact ⟨Xbf HR.out, by (repeat (first | (with_reducible exact Below.refl _ _) | (with_reducible refine Below.drew ?_) | (with_reducible refine Xai ?_ _) | ((with_reducible refine Below.setCell ?_ ?_ _); rotate_left; exact y0) | ((with_reducible refine Below.alloc ?_ ?_ _); rotate_left; exact y0) | ((with_reducible refine Below.trans ?_ (HB1.out.mono ?_)); rotate_left; exact y0)))⟩
 · have t1 : (a.at_ == b.at_) = false := by rw [beq_eq_false_iff_ne]; exact h1
   have HR := Zh (show false = Xgo a b by rw [HS.out]; simp [h1])
   clear h1
   go_enter Tryz.func27, Tryz.ntmps27
   go_wp2
   go_ret
   exact ⟨Xbf HR.out, by (repeat (first | (with_reducible exact Below.refl _ _) | (with_reducible refine Below.drew ?_) | (with_reducible refine Xai ?_ _) | ((with_reducible refine Below.setCell ?_ ?_ _); rotate_left; exact y0) | ((with_reducible refine Below.alloc ?_ ?_ _); rotate_left; exact y0)))⟩
end
section
theorem Xj4 (h : Hrt) (A : Option Addr) (n c : Nat) (w : World) (hx : Ints w w.heap.size A n h.regs) :
    Calls Tryz.prog 18 #[.agg #[.int .i64 h.at_, .slice A n c, .bool h.done]] w fun e w' => e = .returned (.int .i64 (ckH h)) ∧ Below w.heap.size w w' := by
 have hl := hx.len
 have HL := Zh hl
 refine z148 ?_; intro HB
 by_cases h8 : n = 8
 · subst h8
   obtain ⟨b, off, rfl, hb, hc⟩ := hx.at_ (by omega)
   have HC := Zh hc
   clear hl hc hx
   by_cases hA : 0 ≤ h.at_ ∧ h.at_ < 512
   · have HA := Zh hA
     have t0 : inB h.at_ 0 511 = true := by simp [inB]; omega
     clear hA
     go_enter Tryz.func18, Tryz.ntmps18
     go_wp2_with (go_at_call 38; refine (Xa6 _ _ _ _).mono ?_; rintro e w' ⟨rfl, rfl⟩)
     go_loop [16, 4] (fun i _ => ∃ k : Nat, k ≤ 8 ∧ i = .int .i64 k ∧ (h.regs.take k).all Xb1 = true) (fun i _ => 8 - (intOf i).toNat)
     case atStart => exact ⟨0, by omega, rfl, by simp⟩
     case round =>
       obtain ⟨k, hk, rfl, hall⟩ := hrel
       have HAL := Zh hall; clear hall
       by_cases hlt : k < 8
       · obtain ⟨x, hx⟩ := Xax h.regs (k := k) (by rw [HL.out]; exact hlt)
         have hcc := HC.out k x hx
         have HX := Zh hx; clear hx
         cases hi : inB x 0 65535
         · have HI := Zh (show Xb1 x = false by simp [inB] at hi; simp [Xb1]; omega)
           go_wp2_with (go_at_call 38; refine (Xa6 _ _ _ _).mono ?_; rintro e w' ⟨rfl, rfl⟩)
           go_ret
           exact ⟨Xbe (Xs3 HL.out HA.out HX.out HI.out).symm, HB.out _⟩
         · have HI := Zh (show Xb1 x = true by simp [inB] at hi; simp [Xb1]; omega)
           go_wp2_with (go_at_call 38; refine (Xa6 _ _ _ _).mono ?_; rintro e w' ⟨rfl, rfl⟩)
           go_round
           case rel => exact ⟨k+1, by omega, by go_num, Xcv HX.out HAL.out HI.out⟩
           case measure => simp [intOf]; omega
       · go_wp2
         obtain rfl : k = 8 := by omega
         go_ret
         exact ⟨Xbe (Xs1 HL.out HA.out HAL.out).symm, HB.out _⟩
   · have HA := Zh hA
     have t0 : inB h.at_ 0 511 = false := by simp [inB]; omega
     clear hA
     go_enter Tryz.func18, Tryz.ntmps18
     go_wp2_with (go_at_call 38; refine (Xa6 _ _ _ _).mono ?_; rintro e w' ⟨rfl, rfl⟩)
     go_ret
     exact ⟨Xbe (Xv9 HL.out HA.out).symm, HB.out _⟩
 · have h6 : ((n : Int) != 8) = true := by simp; omega
   have H5 := Zh h8
   clear hl h8 hx
   go_enter Tryz.func18, Tryz.ntmps18
   go_wp2
   go_ret
   exact ⟨Xbe (Xs2 (by rw [HL.out]; exact H5.out)).symm, HB.out _⟩
theorem Xhg (a b : Hrt) (A B : Option Addr) (n c m d : Nat) (w : World) (hx : Ints w w.heap.size A n a.regs) (hy : Ints w w.heap.size B m b.regs) :
    Calls Tryz.prog 30 #[.agg #[.int .i64 a.at_, .slice A n c, .bool a.done], .agg #[.int .i64 b.at_, .slice B m d, .bool b.done]] w fun e w' => e = .returned (.bool (Xgo a b)) ∧ Below w.heap.size w w' := by
 have HX := Zh hx; clear hx
 have HY := Zh hy; clear hy
 refine z148 ?_; intro _
 have HS := Zh (Xk5 a b)
 by_cases h1 : a.at_ = b.at_
 · have t1 : (a.at_ == b.at_) = true := by rw [beq_iff_eq]; exact h1
   by_cases h3 : a.done = b.done
   · have t3 : (a.done == b.done) = true := by rw [beq_iff_eq]; exact h3
     have HR := Zh (show eqI a.regs b.regs = Xgo a b by rw [HS.out, Bool.eq_iff_iff]; simp [h1, h3, eqI])
     clear h1 h3
     go_enter Tryz.func30, Tryz.ntmps30
     go_wp2_with fail
     refine (Xew _ _ _ _ _ _ a.regs b.regs _ (Xaf HX.out y29) (Xaf HY.out y29)).mono ?_
     rw [HR.out]
     exact z144
   · have t3 : (a.done == b.done) = false := by rw [beq_eq_false_iff_ne]; exact h3
     have HR := Zh (show false = Xgo a b by rw [HS.out]; simp [h3])
     clear h1 h3
     go_enter Tryz.func30, Tryz.ntmps30
     exact z79
 · have t1 : (a.at_ == b.at_) = false := by rw [beq_eq_false_iff_ne]; exact h1
   have HR := Zh (show false = Xgo a b by rw [HS.out]; simp [h1])
   clear h1
   go_enter Tryz.func30, Tryz.ntmps30
   exact z79
end
end Go.Proofs.YtbopdijnojaaiadGreat
