/- The bridge: the walks of the program's Copy, all and asked. No statement of the seat is proved here. -/
import Derived.Test.YtbopdijnojaaiadGreatZz
import Derived.Test.YtbopdijnojaaiadGreatBase
import Derived.Test.YtbopdijnojaaiadGreatFillZ
import Derived.Test.YtbopdijnojaaiadGreatRing
import Derived.Test.YtbopdijnojaaiadGreatSlices
namespace Go.Proofs.YtbopdijnojaaiadGreat
set_option maxRecDepth 100000
set_option maxHeartbeats 4000000
open Go.RowKit
set_option linter.unusedSimpArgs false
set_option linter.unusedVariables false
section
theorem Xmw (r : Ring) (w : World) : Calls Tryz.prog 56 #[.agg #[.int .i64 r.page, .int .i64 r.head, .int .i64 r.tail]] w fun e w' => e = .returned (.int .i64 (ckR r)) ∧ Below w.heap.size w w' := Xji r.page r.head r.tail w
theorem ckB_r {b : Brg} (h : ¬ brgR b) : ckB b = 2 := by unfold ckB; rw [if_neg h]
theorem ckB_c {b : Brg} (h : brgR b) (h' : ckC b.cache ≠ 0) : ckB b = ckC b.cache := by unfold ckB; rw [if_pos h, if_neg h']
theorem ckB_o {b : Brg} (h : brgR b) (h' : ckC b.cache = 0) (h2 : ¬ Xcj b.orders) : ckB b = 2 := by unfold ckB; rw [if_pos h, if_pos h', if_neg h2]
theorem ckB_f {b : Brg} (h : brgR b) (h' : ckC b.cache = 0) (h2 : Xcj b.orders) : ckB b = ckR b.faults := by unfold ckB; rw [if_pos h, if_pos h', if_pos h2]
theorem Xbb (b : Brg) (A : Option Addr) (n c : Nat) (w : World) (h : Lines w w.heap.size A n c b.cache) :
    Calls Tryz.prog 25 #[.agg (B_.b b A n c)] w fun e w' => e = .returned (.int .i64 (ckB b)) ∧ Below w.heap.size w w' := by
 refine z148 ?_; intro HB
 have HL := Zh h
 clear h
 by_cases hR : brgR b
 · have HR := Zh hR
   unfold brgR at hR
   obtain ⟨⟨r1, r2⟩, ⟨r3, r4⟩, r5, r6⟩ := hR
   by_cases hc : ckC b.cache = 0
   · have hc0 : (ckC b.cache != 0) = false := by rw [bne_eq_false_iff_eq]; exact hc
     by_cases ho : Xcj b.orders
     · have ho0 : (ckR b.orders != 0) = false := by rw [bne_eq_false_iff_eq]; exact Xl2 ho
       rw [ckB_f HR.out hc ho]
       clear hc ho
       go_enter Tryz.func25, Tryz.ntmps25
       go_wp2_with fail
       refine (Xdn _ _ _ _ _ ((HL.out.alloc (Nat.le_refl _) _).more (by simp))).mono ?_
       refine z174 ?_; intro w1 hz1 l1_0 k1_0 q1_0 HB1
       go_wp2_with fail
       refine (Xmw _ _).mono ?_
       refine z32 ?_; intro w2 hz2 _ _ _ HB2
       go_wp2_with fail
       refine (Xmw _ _).mono ?_
       exact z161
     · have ho0 : (ckR b.orders != 0) = true := by rw [Xng ho]; rfl
       have HO := Zh (Xng ho)
       rw [ckB_o HR.out hc ho]
       clear hc ho
       go_enter Tryz.func25, Tryz.ntmps25
       go_wp2_with fail
       refine (Xdn _ _ _ _ _ ((HL.out.alloc (Nat.le_refl _) _).more (by simp))).mono ?_
       refine z191 ?_; intro w1 hz1 _ _ _ HB1
       go_wp2_with fail
       refine (Xmw _ _).mono ?_
       refine z54 ?_; intro _ hb2 _
       have HB2 := Zh hb2
       clear hb2
       go_wp2
       go_ret
       exact ⟨Xbe HO.out, by (repeat (first | (with_reducible exact Below.refl _ _) | (with_reducible refine Below.drew ?_) | (with_reducible refine Xai ?_ _) | ((with_reducible refine Below.setCell ?_ ?_ _); rotate_left; exact y0) | ((with_reducible refine Below.alloc ?_ ?_ _); rotate_left; exact y0) | ((with_reducible refine Below.trans ?_ (HB2.out.mono ?_)); rotate_left; exact y0) | ((with_reducible refine Below.trans ?_ (HB1.out.mono ?_)); rotate_left; exact y0)))⟩
   · have hc0 : (ckC b.cache != 0) = true := by rw [bne_iff_ne]; exact hc
     rw [ckB_c HR.out hc]
     clear hc
     go_enter Tryz.func25, Tryz.ntmps25
     go_wp2_with fail
     refine (Xdn _ _ _ _ _ ((HL.out.alloc (Nat.le_refl _) _).more (by simp))).mono ?_
     exact z144
 · rw [ckB_r hR]
   have hr2 : b.mode < 0 ∨ (0 ≤ b.mode ∧ 2 < b.mode) ∨ (0 ≤ b.mode ∧ b.mode ≤ 2 ∧ b.base < 0) ∨ (0 ≤ b.mode ∧ b.mode ≤ 2 ∧ 0 ≤ b.base ∧ 64 ≤ b.base) ∨ (0 ≤ b.mode ∧ b.mode ≤ 2 ∧ 0 ≤ b.base ∧ b.base < 64 ∧ b.fences < 0) ∨ (0 ≤ b.mode ∧ b.mode ≤ 2 ∧ 0 ≤ b.base ∧ b.base < 64 ∧ 0 ≤ b.fences ∧ 1000 ≤ b.fences) := by unfold brgR at hR; omega
   clear hR
   rcases hr2 with r1 | ⟨r1, r2⟩ | ⟨r1, r2, r3⟩ | ⟨r1, r2, r3, r4⟩ | ⟨r1, r2, r3, r4, r5⟩ | ⟨r1, r2, r3, r4, r5, r6⟩
   all_goals
     go_enter Tryz.func25, Tryz.ntmps25
     go_wp2
     go_ret
     exact ⟨rfl, HB.out _⟩
end
section
theorem Xc7 (b : Brg) (A : Option Addr) (n c : Nat) (w : World) (h : Lines w w.heap.size A n c b.cache) (hn : n ≤ 1000) :
    Calls Tryz.prog 41 #[.agg (B_.b b A n c)] w fun e w' => ∃ A' c', e = .returned (.agg (B_.b b A' n c')) ∧ OwnL w.heap.size w' A' n c' b.cache ∧ Below w.heap.size w w' := by
 have HL := Zh h
 clear h
 go_enter Tryz.func41, Tryz.ntmps41
 go_wp2_with fail
 refine (Xdd _ _ _ _ _ ((HL.out.alloc (Nat.le_refl _) _ |>.alloc (by simp) _).more y3) hn).mono ?_
 rintro e w1 ⟨A1, c1, rfl, ho, hb1⟩
 refine z129 ?_; intro _
 refine z102 ?_; intro k1_0 _ q1_0
 refine z10 ?_; intro k1_1 _ q1_1
 revert hb1 k1_0 q1_0 k1_1 q1_1; refine_lift z175 ?_; intro _ _ _ _ HB1
 have HO : Hid (OwnL (w.heap.size + 1 + 1) w1 A1 n c1 b.cache) := Zh (ho.low (by simp))
 clear ho
 go_wp2
 refine bodyPost_ret (v := .agg (B_.b b A1 n c1)) ?_ rfl ⟨_, _, rfl, ?_, ?_⟩
 · simp (maxDischargeDepth := 8) [results, Tryz.results41, go_sem, *]
 · refine OwnL.low (B := w.heap.size + 1 + 1) ?_ (by omega)
   (repeat (first | (with_reducible exact HO.out) | (with_reducible refine OwnL.set ?_ y19 _)))
 exact z5
theorem Xp2 (xs : List Int) (M : Option Addr) (nm cm' : Nat) (b : Brg) (A : Option Addr) (n c : Nat) (w : World) (hm : Ints w w.heap.size M nm xs) (h : Lines w w.heap.size A n c b.cache) :
    Calls Tryz.prog 45 #[.agg #[.slice M nm cm'], .agg (B_.b b A n c)] w fun e w' => e = .returned (.int .i64 (allE xs b)) ∧ Below w.heap.size w w' := by
 have HM := Zh hm
 have HL := Zh h
 clear h hm
 by_cases h0 : cm xs = 0
 · have t0 : (cm xs != 0) = false := by rw [bne_eq_false_iff_eq]; exact h0
   rw [show allE xs b = ckB b by unfold allE; rw [if_pos h0]]
   clear h0
   go_enter Tryz.func45, Tryz.ntmps45
   go_wp2_with fail
   refine (Xeb _ _ _ xs _ ((HM.out.alloc (Nat.le_refl _) _ |>.alloc (by simp) _).more y3)).mono ?_
   refine z33 ?_; intro w1 hb1 hz1
   refine z46 ?_; intro k1_0 _ q1_0
   revert hb1 k1_0 q1_0; refine_lift z93 ?_; intro _ _ HB1
   go_wp2_with fail
   refine (Xbb b _ _ _ _ ((HL.out.alloc (Nat.le_refl _) _ |>.alloc (by simp) _ |>.below (HB1.out.mono y3)).more (by omega))).mono ?_
   exact z157
 · have t0 : (cm xs != 0) = true := by rw [bne_iff_ne]; exact h0
   rw [show allE xs b = cm xs by unfold allE; rw [if_neg h0]]
   clear h0
   go_enter Tryz.func45, Tryz.ntmps45
   go_wp2_with fail
   refine (Xeb _ _ _ xs _ ((HM.out.alloc (Nat.le_refl _) _ |>.alloc (by simp) _).more y3)).mono ?_
   exact z144
def askE (d p : Int) : Int := if inD d p then 0 else 4
theorem Xmk (d p : Int) (w : World) : Calls Tryz.prog 78 #[.int .i64 d, .int .i64 p] w fun e w' => e = .returned (.int .i64 (askE d p)) ∧ w = w' := by
 by_cases h : inD d p
 · rw [show askE d p = 0 by unfold askE; rw [if_pos h]]
   unfold inD at h
   obtain ⟨⟨h1, h2⟩, h3, h4⟩ := h
   go_enter Tryz.func78, Tryz.ntmps78
   go_wp2
   go_ret
   exact ⟨rfl, rfl⟩
 · rw [show askE d p = 4 by unfold askE; rw [if_neg h]]
   have h2 : d < 0 ∨ (0 ≤ d ∧ 8 ≤ d) ∨ (0 ≤ d ∧ d < 8 ∧ p < 0) ∨ (0 ≤ d ∧ d < 8 ∧ 0 ≤ p ∧ 64 ≤ p) := by unfold inD at h; omega
   clear h
   rcases h2 with h1 | ⟨h1, h2⟩ | ⟨h1, h2, h3⟩ | ⟨h1, h2, h3, h4⟩
   all_goals
     go_enter Tryz.func78, Tryz.ntmps78
     go_wp2
     go_ret
     exact ⟨rfl, rfl⟩
end
end Go.Proofs.YtbopdijnojaaiadGreat
