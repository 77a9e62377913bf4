/- The bridge: the walk of the program's fresh. No statement of the seat is proved here. -/
import Derived.Test.YtbopdijnojaaiadGreatZz
import Derived.Test.YtbopdijnojaaiadGreatBridgeC
import Derived.Test.YtbopdijnojaaiadGreatWalkW
import Derived.Test.YtbopdijnojaaiadGreatEntryX
namespace Go.Proofs.YtbopdijnojaaiadGreat
set_option maxRecDepth 100000
set_option maxHeartbeats 4000000
open Go.RowKit
set_option linter.unusedSimpArgs false
set_option linter.unusedVariables false
def LineV (x : Line) : Value := .agg #[.int .i64 x.dev, .int .i64 x.page, .int .i64 x.at_, .bool x.rd, .bool x.wr]
theorem Xx7 (x : Int) (w : World) (h : cxK x = false) : Calls Tryz.prog 102 #[.int .i64 x] w fun e w' => e = .returned (.tuple #[.agg #[.bool false, .bool false, .int .i64 0], .bool false]) ∧ Below w.heap.size w w' :=
  (Xdl x w).mono fun e w' ⟨he, hb⟩ => ⟨by
    have hg : cxG x = false := by
      cases h' : cxG x with
      | false => rfl
      | true => rw [Xne h'] at h; cases h
    rw [he, Xjr, hg, h]; simp [cxR, hg], hb⟩
theorem Xx6 (x : Int) (w : World) (h : cxK x = true) (hg : cxG x = false) : Calls Tryz.prog 102 #[.int .i64 x] w fun e w' => e = .returned (.tuple #[.agg #[.bool false, .bool false, .int .i64 0], .bool true]) ∧ Below w.heap.size w w' :=
  (Xdl x w).mono fun e w' ⟨he, hb⟩ => ⟨by rw [he, Xjr, hg, h]; simp [cxR, hg], hb⟩
theorem Xv3 (x : Int) (s : Bool) (r : Int) (w : World) (hg : cxG x = true) (hs : bitI x 1 = s) (hr : cxR x = r) : Calls Tryz.prog 102 #[.int .i64 x] w fun e w' => e = .returned (.tuple #[.agg #[.bool true, .bool s, .int .i64 r], .bool true]) ∧ Below w.heap.size w w' :=
  (Xdl x w).mono fun e w' ⟨he, hb⟩ => ⟨by rw [he, Xjr, hg, Xne hg, hs, hr]; simp, hb⟩
theorem Xsk (xs : List Int) (m : Option Addr) (cm' : Nat) (b : Brg) (A : Option Addr) (n c : Nat) (d p : Int) (wr : Bool) (w : World) (hm : Ints w w.heap.size m 512 xs) (h0 : cm xs = 0) (hbase : 0 ≤ b.base ∧ b.base < 64) (hin : inD d p) (x : Int) (hx : rd xs (b.base * 8 + d) = x) (hK : cxK x = false) :
    Calls Tryz.prog 93 #[.agg #[.slice m 512 cm'], .agg (B_.b b A n c), .int .i64 d, .int .i64 p, .bool wr] w fun e w' => e = .returned (.tuple #[.agg #[.int .i64 0, .int .i64 0, .int .i64 0, .bool false, .bool false], .bool false, .int .i64 2]) ∧ Below w.heap.size w w' := by
 have HM := Zh hm
 have H0 := Zh h0
 have HK := Zh hK
 revert m hm hbase hin HM; refine_lift z78 ?_; intro _ _ _ _ _ _ _ _ hm _ _ hmc _ _ _
 clear hm h0 hmc hx hK
 go_enter Tryz.func93, Tryz.ntmps93
 go_wp2_with fail
 refine (Xx7 _ _ HK.out).mono ?_
 exact z140
theorem Xsj (xs : List Int) (m : Option Addr) (cm' : Nat) (b : Brg) (A : Option Addr) (n c : Nat) (d p : Int) (wr : Bool) (w : World) (hm : Ints w w.heap.size m 512 xs) (h0 : cm xs = 0) (hbase : 0 ≤ b.base ∧ b.base < 64) (hin : inD d p) (x : Int) (hx : rd xs (b.base * 8 + d) = x) (hK : cxK x = true) (hG : cxG x = false) :
    Calls Tryz.prog 93 #[.agg #[.slice m 512 cm'], .agg (B_.b b A n c), .int .i64 d, .int .i64 p, .bool wr] w fun e w' => e = .returned (.tuple #[.agg #[.int .i64 0, .int .i64 0, .int .i64 0, .bool false, .bool false], .bool false, .int .i64 2]) ∧ Below w.heap.size w w' := by
 have HM := Zh hm
 have H0 := Zh h0
 have HK := Zh hK
 have HG := Zh hG
 revert m hm hbase hin HM; refine_lift z78 ?_; intro _ _ _ _ _ _ _ _ hm _ _ hmc _ _ _
 clear hm h0 hmc hx hK hG
 go_enter Tryz.func93, Tryz.ntmps93
 go_wp2_with fail
 refine (Xx6 _ _ HK.out HG.out).mono ?_
 exact z140
theorem Xpu (xs : List Int) (m : Option Addr) (cm' : Nat) (b : Brg) (A : Option Addr) (n c : Nat) (d p : Int) (wr : Bool) (w : World) (hm : Ints w w.heap.size m 512 xs) (h0 : cm xs = 0) (hbase : 0 ≤ b.base ∧ b.base < 64) (hin : inD d p) (x : Int) (hx : rd xs (b.base * 8 + d) = x) (r : Int) (hG : cxG x = true) (hs : bitI x 1 = true) (hr : cxR x = r) :
    Calls Tryz.prog 93 #[.agg #[.slice m 512 cm'], .agg (B_.b b A n c), .int .i64 d, .int .i64 p, .bool wr] w fun e w' => e = .returned (.tuple #[.agg #[.int .i64 d, .int .i64 p, .int .i64 p, .bool true, .bool true], .bool false, .int .i64 0]) ∧ Below w.heap.size w w' := by
 have HM := Zh hm
 have H0 := Zh h0
 have HG := Zh hG
 have HS := Zh hs
 have HR := Zh hr
 revert m hm hbase hin HM; refine_lift z78 ?_; intro _ _ _ _ _ _ _ _ hm _ _ hmc _ _ _
 clear hm h0 hmc hx hG hs hr
 go_enter Tryz.func93, Tryz.ntmps93
 go_wp2_with fail
 refine (Xv3 _ _ _ _ HG.out HS.out HR.out).mono ?_
 refine z2 ?_; intro w1 hb1 _ k1_0 _ q1_0
 refine z41 ?_; intro k1_1 _ q1_1
 revert hb1 k1_0 q1_0 k1_1 q1_1; refine_lift z175 ?_; intro _ _ _ _ HB1
 go_wp2
 refine bodyPost_ret (v := .tuple #[.agg #[.int .i64 d, .int .i64 p, .int .i64 p, .bool true, .bool true], .bool false, .int .i64 0]) ?_ rfl ⟨rfl, ?_⟩
 · simp (maxDischargeDepth := 8) [results, Tryz.results93, go_sem, *]
 exact z5
theorem Xm7 (xs : List Int) (m : Option Addr) (cm' : Nat) (b : Brg) (A : Option Addr) (n c : Nat) (d p : Int) (wr : Bool) (w : World) (hm : Ints w w.heap.size m 512 xs) (h0 : cm xs = 0) (hbase : 0 ≤ b.base ∧ b.base < 64) (hin : inD d p) (x : Int) (hx : rd xs (b.base * 8 + d) = x) (r : Int) (hG : cxG x = true) (hs : bitI x 1 = false) (hr : cxR x = r) (v r' u l : Bool) (q f : Int) (hq : Xgk xs r p wr = (⟨v, r', u, l, q⟩, f, 0)) (hf : f ≠ 0) :
    Calls Tryz.prog 93 #[.agg #[.slice m 512 cm'], .agg (B_.b b A n c), .int .i64 d, .int .i64 p, .bool wr] w fun e w' => e = .returned (.tuple #[.agg #[.int .i64 0, .int .i64 0, .int .i64 0, .bool false, .bool false], .bool false, .int .i64 f]) ∧ Below w.heap.size w w' := by
 have HM := Zh hm
 have H0 := Zh h0
 have HG := Zh hG
 have HS := Zh hs
 have HR := Zh hr
 have HQ := Zh hq
 have tf : (f != 0) = true := by rw [bne_iff_ne]; exact hf
 revert m hm hbase hin HM; refine_lift z78 ?_; intro _ _ _ _ _ _ mb moff hm HM _ hmc _ hb2 _
 clear hm h0 hmc hx hG hs hr hq hf
 go_enter Tryz.func93, Tryz.ntmps93
 go_wp2_with fail
 refine z98 ?_; intro w1 _ _ _ _ _ _ _ HB1 M1
 go_wp2_with fail
 refine z138 ?_; intro _ _ _ _ _ _ _ _ HB2
 go_wp2
 refine bodyPost_ret (v := .tuple #[.agg #[.int .i64 0, .int .i64 0, .int .i64 0, .bool false, .bool false], .bool false, .int .i64 f]) ?_ rfl ⟨rfl, ?_⟩
 · simp (maxDischargeDepth := 8) [results, Tryz.results93, go_sem, *]
 · exact z11
theorem Xpv (xs : List Int) (m : Option Addr) (cm' : Nat) (b : Brg) (A : Option Addr) (n c : Nat) (d p : Int) (wr : Bool) (w : World) (hm : Ints w w.heap.size m 512 xs) (h0 : cm xs = 0) (hbase : 0 ≤ b.base ∧ b.base < 64) (hin : inD d p) (x : Int) (hx : rd xs (b.base * 8 + d) = x) (r : Int) (hG : cxG x = true) (hs : bitI x 1 = false) (hr : cxR x = r) (v r' u l : Bool) (q f : Int) (hq : Xgk xs r p wr = (⟨v, r', u, l, q⟩, f, 0)) (hf : f = 0) :
    Calls Tryz.prog 93 #[.agg #[.slice m 512 cm'], .agg (B_.b b A n c), .int .i64 d, .int .i64 p, .bool wr] w fun e w' => e = .returned (.tuple #[.agg #[.int .i64 d, .int .i64 p, .int .i64 q, .bool true, .bool u], .bool true, .int .i64 0]) ∧ Below w.heap.size w w' := by
 have HM := Zh hm
 have H0 := Zh h0
 have HG := Zh hG
 have HS := Zh hs
 have HR := Zh hr
 subst hf
 have HQ := Zh hq
 revert m hm hbase hin HM; refine_lift z78 ?_; intro _ _ _ _ _ _ mb moff hm HM _ hmc _ hb2 _
 clear hm h0 hmc hx hG hs hr hq
 go_enter Tryz.func93, Tryz.ntmps93
 go_wp2_with fail
 refine z98 ?_; intro w1 _ _ _ _ _ _ _ HB1 M1
 go_wp2_with fail
 refine z138 ?_; intro _ _ _ _ _ _ _ _ HB2
 go_wp2
 refine bodyPost_ret (v := .tuple #[.agg #[.int .i64 d, .int .i64 p, .int .i64 q, .bool true, .bool u], .bool true, .int .i64 0]) ?_ rfl ⟨rfl, ?_⟩
 · simp (maxDischargeDepth := 8) [results, Tryz.results93, go_sem, *]
 · exact z11
theorem Xmj (xs : List Int) (m : Option Addr) (cm' : Nat) (b : Brg) (A : Option Addr) (n c : Nat) (d p : Int) (wr : Bool) (w : World) (hm : Ints w w.heap.size m 512 xs) (h0 : cm xs = 0) (hbase : 0 ≤ b.base ∧ b.base < 64) (hin : inD d p) :
    Calls Tryz.prog 93 #[.agg #[.slice m 512 cm'], .agg (B_.b b A n c), .int .i64 d, .int .i64 p, .bool wr] w fun e w' => e = .returned (.tuple #[LineV (Xbp xs b d p wr).1, .bool (Xbp xs b d p wr).2.1, .int .i64 (Xbp xs b d p wr).2.2]) ∧ Below w.heap.size w w' := by
 by_cases hG : cxG (rd xs (b.base * 8 + d)) = true
 · cases hs : bitI (rd xs (b.base * 8 + d)) 1
   · have hin' : inP (cxR (rd xs (b.base * 8 + d))) p := by have := Xv2 (rd xs (b.base * 8 + d)); unfold inP; unfold inD at hin; omega
     have ea : Xgk xs (cxR (rd xs (b.base * 8 + d))) p wr = ((Xbx xs (cxR (rd xs (b.base * 8 + d))) p wr).1, (Xbx xs (cxR (rd xs (b.base * 8 + d))) p wr).2, 0) := by unfold Xgk; rw [if_pos h0, if_pos hin']
     have ef : Xbp xs b d p wr = if (Xbx xs (cxR (rd xs (b.base * 8 + d))) p wr).2 = 0 then (⟨d, p, (Xbx xs (cxR (rd xs (b.base * 8 + d))) p wr).1.p, true, (Xbx xs (cxR (rd xs (b.base * 8 + d))) p wr).1.u⟩, true, 0) else (.no, false, (Xbx xs (cxR (rd xs (b.base * 8 + d))) p wr).2) := by
       unfold Xbp; simp only [hG, hs, if_true]; rfl
     generalize Xbx xs (cxR (rd xs (b.base * 8 + d))) p wr = q at *
     obtain ⟨⟨v, r, u, l, pp⟩, f⟩ := q
     dsimp only at ea ef
     by_cases hf : f = 0
     · rw [ef, if_pos hf]
       exact Xpv xs m cm' b A n c d p wr w hm h0 hbase hin _ rfl _ hG hs rfl v r u l pp f ea hf
     · rw [ef, if_neg hf]
       exact Xm7 xs m cm' b A n c d p wr w hm h0 hbase hin _ rfl _ hG hs rfl v r u l pp f ea hf
   · have ef : Xbp xs b d p wr = (⟨d, p, p, true, true⟩, false, 0) := by unfold Xbp; simp only [hG, hs, if_true]
     rw [ef]
     exact Xpu xs m cm' b A n c d p wr w hm h0 hbase hin _ rfl _ hG hs rfl
 · have ef : Xbp xs b d p wr = (.no, false, 2) := by unfold Xbp; simp only [hG]; rfl
   rw [ef]
   by_cases hK : cxK (rd xs (b.base * 8 + d)) = true
   · exact Xsj xs m cm' b A n c d p wr w hm h0 hbase hin _ rfl hK (by simpa using hG)
   · exact Xsk xs m cm' b A n c d p wr w hm h0 hbase hin _ rfl (by simpa using hK)
end Go.Proofs.YtbopdijnojaaiadGreat
