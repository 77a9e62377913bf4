/- The document's bridge: the walks of CheckBridge and SameBridge. No statement of the seat is proved here. -/
import Derived.Test.YtbopdijnojaaiadGreatZz
import Derived.Test.YtbopdijnojaaiadGreatRefC
import Derived.Test.YtbopdijnojaaiadGreatRingR
import Derived.Test.YtbopdijnojaaiadGreatBridgeS
namespace Go.Proofs.YtbopdijnojaaiadGreat
set_option maxRecDepth 100000
set_option maxHeartbeats 8000000
open Go.RowKit
set_option linter.unusedSimpArgs false
set_option linter.unusedVariables false
theorem Xq9 (r : Ring) (w : World) : Calls Tryz.prog 53 #[.agg #[.int .i64 r.page, .int .i64 r.head, .int .i64 r.tail]] w fun e w' => e = .returned (.int .i64 (ckR r)) ∧ Below w.heap.size w w' := Xgp r.page r.head r.tail w
theorem Xig (b : Brg) (A : Option Addr) (n c : Nat) (w : World) (h : Lines w w.heap.size A n c b.cache) :
    Calls Tryz.prog 19 #[.agg (B_.b b A n c)] w fun e w' => e = .returned (.int .i64 (ckB b)) ∧ Below w.heap.size w w' := by
 refine z148 ?_; intro HB
 have HL := Zh h
 clear h
 by_cases hR : brgR b
 · have HR := Zh hR
   have i1 : inB b.mode 0 2 = true := Xb8 hR.1
   have i2 : inB b.base 0 63 = true := Xb8 (by have := hR.2.1; omega)
   have i3 : inB b.fences 0 999 = true := Xb8 (by have := hR.2.2; omega)
   clear hR
   by_cases hc : ckC b.cache = 0
   · have hc0 : (ckC b.cache == 0) = true := by rw [beq_iff_eq]; exact hc
     by_cases ho : Xcj b.orders
     · have ho0 : (ckR b.orders == 0) = true := by rw [beq_iff_eq]; exact Xl2 ho
       have HQ := Zh (ckB_f HR.out hc ho)
       rw [HQ.out]
       have HCC := Zh hc
       have HOO := Zh (Xl2 ho)
       clear hc ho hc0 ho0
       go_enter Tryz.func19, Tryz.ntmps19
       go_wp2_with (go_at_call 38; refine (Xa6 _ _ _ _).mono ?_; rintro e w' ⟨rfl, rfl⟩)
       refine z84 ?_
       rw [HCC.out]
       refine z174 ?_; intro w1 hz1 l1_0 k1_0 q1_0 HB1
       go_wp2_with fail
       refine (Xq9 _ _).mono ?_
       rw [HOO.out]
       refine z32 ?_; intro w2 hz2 l2_0 k2_0 q2_0 HB2
       go_wp2_with fail
       refine (Xq9 _ _).mono ?_
       exact z161
     · have HQ := Zh (ckB_o HR.out hc ho)
       rw [HQ.out]
       have HCC := Zh hc
       have HOO := Zh (Xng ho)
       clear hc ho hc0
       go_enter Tryz.func19, Tryz.ntmps19
       go_wp2_with (go_at_call 38; refine (Xa6 _ _ _ _).mono ?_; rintro e w' ⟨rfl, rfl⟩)
       refine z84 ?_
       rw [HCC.out]
       refine z174 ?_; intro w1 hz1 l1_0 k1_0 q1_0 HB1
       go_wp2_with fail
       refine (Xq9 _ _).mono ?_
       rw [HOO.out]
       refine z32 ?_; intro _ _ _ _ _ HB2
       go_wp2
       go_ret
       exact z27
   · have hc0 : (ckC b.cache == 0) = false := beq_eq_false_iff_ne.2 hc
     have HQ := Zh (ckB_c HR.out hc)
     rw [HQ.out]
     clear hc
     go_enter Tryz.func19, Tryz.ntmps19
     go_wp2_with (go_at_call 38; refine (Xa6 _ _ _ _).mono ?_; rintro e w' ⟨rfl, rfl⟩)
     refine z84 ?_
     refine z2 ?_; intro _ hb1 _ k1_0 _ q1_0
     revert hb1 k1_0 q1_0; refine_lift z93 ?_; intro _ _ HB1
     go_wp2
     go_ret
     exact z21
 · rw [ckB_r hR]
   have hr2 : (¬ (0 ≤ b.mode ∧ b.mode ≤ 2)) ∨ ((0 ≤ b.mode ∧ b.mode ≤ 2) ∧ ¬ (0 ≤ b.base ∧ b.base ≤ 63)) ∨ ((0 ≤ b.mode ∧ b.mode ≤ 2) ∧ (0 ≤ b.base ∧ b.base ≤ 63) ∧ ¬ (0 ≤ b.fences ∧ b.fences ≤ 999)) := by unfold brgR at hR; omega
   clear hR
   rcases hr2 with r1 | ⟨r1, r2⟩ | ⟨r1, r2, r3⟩
   · have i1 : inB b.mode 0 2 = false := Xfx r1
     clear r1
     go_enter Tryz.func19, Tryz.ntmps19
     exact z65
   · have i1 : inB b.mode 0 2 = true := Xb8 r1
     have i2 : inB b.base 0 63 = false := Xfx r2
     clear r1 r2
     go_enter Tryz.func19, Tryz.ntmps19
     exact z65
   · have i1 : inB b.mode 0 2 = true := Xb8 r1
     have i2 : inB b.base 0 63 = true := Xb8 r2
     have i3 : inB b.fences 0 999 = false := Xfx r3
     clear r1 r2 r3
     go_enter Tryz.func19, Tryz.ntmps19
     exact z65
theorem Xjb (a b : Brg) (A B : Option Addr) (n c n2 c2 : Nat) (w : World) (h1 : Lines w w.heap.size A n c a.cache) (h2 : Lines w w.heap.size B n2 c2 b.cache) :
    Calls Tryz.prog 31 #[.agg (B_.b a A n c), .agg (B_.b b B n2 c2)] w fun e w' => e = .returned (.bool (Xk7 a b)) ∧ Below w.heap.size w w' := by
 have H1 := Zh h1
 have H2 := Zh h2
 have HB := Zh (fun o o' => ((Xa3 w o).alloc (by simp) o'))
 rw [Xk6]
 clear h1 h2
 cases t1 : (a.mode == b.mode)
 · go_enter Tryz.func31, Tryz.ntmps31
   go_wp2
   go_ret
   exact ⟨rfl, HB.out _ _⟩
 cases t2 : (a.base == b.base)
 · go_enter Tryz.func31, Tryz.ntmps31
   go_wp2
   go_ret
   exact ⟨rfl, HB.out _ _⟩
 cases t3 : eqL a.cache b.cache
 · have HQ := Zh t3
   clear t3
   go_enter Tryz.func31, Tryz.ntmps31
   go_wp2_with fail
   refine z81 ?_
   refine z2 ?_; intro w1 hb1 hz1 k1_0 l1_0 q1_0
   refine z10 ?_; intro k1_1 l1_1 q1_1
   revert hb1 k1_0 q1_0 k1_1 q1_1; refine_lift z175 ?_; intro k1_0 q1_0 k1_1 q1_1 HB1
   go_wp2
   go_ret
   exact z21
 have HQ := Zh t3
 clear t3
 go_enter Tryz.func31, Tryz.ntmps31
 go_wp2_with fail
 refine z81 ?_
 refine z49 ?_; intro _ _ _ _ _ _ _ _ HB1
 have r1 := fun w => Tryz.eqlRing a.orders b.orders w
 have r2 := fun w => Tryz.eqlRing a.faults b.faults w
 cases t4 : (Xf2 a.orders b.orders)
 · exact z113
 rw [t4] at r1
 cases t5 : (a.stopped == b.stopped)
 · exact z115
 cases t6 : (a.fences == b.fences)
 · exact z114
 cases t7 : (Xf2 a.faults b.faults)
 · exact z64
 exact z64
end Go.Proofs.YtbopdijnojaaiadGreat
