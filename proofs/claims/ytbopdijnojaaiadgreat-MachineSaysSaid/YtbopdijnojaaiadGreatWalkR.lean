/- Tables: the walk of the document's Walked. No statement of the seat is proved here. -/
import Derived.Test.YtbopdijnojaaiadGreatZz
import Derived.Test.YtbopdijnojaaiadGreatWalkW
import Derived.Test.YtbopdijnojaaiadGreatEntryE
namespace Go.Proofs.YtbopdijnojaaiadGreat
set_option maxRecDepth 100000
set_option maxHeartbeats 8000000
open Go.RowKit
set_option linter.unusedSimpArgs false
set_option linter.unusedVariables false
theorem Xra (x : Int) (w : World) (h : enK x = false) : Calls Tryz.prog 100 #[.int .i64 x] w fun e w' => e = .returned (.tuple #[.agg #[.bool false, .bool false, .bool false, .bool false, .int .i64 0], .bool false]) ∧ Below w.heap.size w w' :=
  (Xf6 x w).mono fun e w' ⟨he, hb⟩ => ⟨by rw [he, Xss h], hb⟩
theorem Xq8 (x : Int) (w : World) (h : enK x = true) (h' : enG x = false) : Calls Tryz.prog 100 #[.int .i64 x] w fun e w' => e = .returned (.tuple #[.agg #[.bool false, .bool false, .bool false, .bool false, .int .i64 0], .bool true]) ∧ Below w.heap.size w w' :=
  (Xf6 x w).mono fun e w' ⟨he, hb⟩ => ⟨by rw [he, Xsr h h'], hb⟩
theorem Xfd (x : Int) (b1 b2 b3 : Bool) (p : Int) (w : World) (h : enG x = true) (h1 : bitI x 1 = b1) (h2 : bitI x 2 = b2) (h3 : bitI x 3 = b3) (hp : enP x = p) : Calls Tryz.prog 100 #[.int .i64 x] w fun e w' => e = .returned (.tuple #[.agg #[.bool true, .bool b1, .bool b2, .bool b3, .int .i64 p], .bool true]) ∧ Below w.heap.size w w' :=
  (Xf6 x w).mono fun e w' ⟨he, hb⟩ => ⟨by rw [he, Xvz h, h1, h2, h3, hp], hb⟩
def okW (r u wr : Bool) : Bool := r && (!wr || u)
theorem Wd_bad (A : Option Addr) (c : Nat) (xs : List Int) (root page : Int) (wr : Bool) (w : World) (h : Ints w w.heap.size A 512 xs) (h0 : cm xs = 0) (hin : inP root page) (x : Int) (hx : rd xs (root * 8 + page / 8) = x) (hK : enK x = false) :
    Calls Tryz.prog 86 #[.agg #[.slice A 512 c], .int .i64 root, .int .i64 page, .bool wr] w fun e w' => e = .returned (.tuple #[.agg #[.bool false, .bool false, .bool false, .bool false, .int .i64 0], .int .i64 4, .int .i64 0]) ∧ Below w.heap.size w w' := by
 have HK := Zh hK
 revert A h hin; refine_lift z30 ?_; intro _ _ _ _ _ _ _ _ h _ hc _ _ _
 clear hc hx h h0 hK
 go_enter Tryz.func86, Tryz.ntmps86
 go_wp2_with (go_at_call 38; refine (Xa6 _ _ _ _).mono ?_; rintro e w' ⟨rfl, rfl⟩)
 refine (Xra _ _ HK.out).mono ?_
 refine z106 ?_; (iterate 11 intro); intro HB1
 go_wp2
 refine z109 ?_
 exact z5
theorem Wd_off (A : Option Addr) (c : Nat) (xs : List Int) (root page : Int) (wr : Bool) (w : World) (h : Ints w w.heap.size A 512 xs) (h0 : cm xs = 0) (hin : inP root page) (x : Int) (hx : rd xs (root * 8 + page / 8) = x) (hK : enK x = true) (hG : enG x = false) :
    Calls Tryz.prog 86 #[.agg #[.slice A 512 c], .int .i64 root, .int .i64 page, .bool wr] w fun e w' => e = .returned (.tuple #[.agg #[.bool false, .bool false, .bool false, .bool false, .int .i64 0], .int .i64 3, .int .i64 0]) ∧ Below w.heap.size w w' := by
 have HK := Zh hK
 have HG := Zh hG
 revert A h hin; refine_lift z30 ?_; intro _ _ _ _ _ _ _ _ h _ hc _ _ _
 clear hc hx h h0 hK hG
 go_enter Tryz.func86, Tryz.ntmps86
 go_wp2_with (go_at_call 38; refine (Xa6 _ _ _ _).mono ?_; rintro e w' ⟨rfl, rfl⟩)
 refine (Xq8 _ _ HK.out HG.out).mono ?_
 refine z106 ?_; (iterate 11 intro); intro HB1
 go_wp2
 refine z199 ?_
 exact z5
theorem Wd_odd (A : Option Addr) (c : Nat) (xs : List Int) (root page : Int) (wr : Bool) (w : World) (h : Ints w w.heap.size A 512 xs) (h0 : cm xs = 0) (hin : inP root page) (x : Int) (hx : rd xs (root * 8 + page / 8) = x) (b1 b2 : Bool) (p : Int) (hG : enG x = true) (e1 : bitI x 1 = b1) (e2 : bitI x 2 = b2) (e3 : bitI x 3 = true) (ep : enP x = p) (hm : p % 8 ≠ 0) :
    Calls Tryz.prog 86 #[.agg #[.slice A 512 c], .int .i64 root, .int .i64 page, .bool wr] w fun e w' => e = .returned (.tuple #[.agg #[.bool false, .bool false, .bool false, .bool false, .int .i64 0], .int .i64 4, .int .i64 0]) ∧ Below w.heap.size w w' := by
 refine z47 ?_; intro HG H1 H2 H3 HP _ _
 have hm1 : (p % 8 != 0) = true := by rw [bne_iff_ne]; exact hm
 revert A h hin; refine_lift z30 ?_; intro _ _ _ _ _ _ _ _ h _ hc _ _ _
 clear hc hx h h0 hG e1 e2 e3 ep hm
 go_enter Tryz.func86, Tryz.ntmps86
 go_wp2_with (go_at_call 38; refine (Xa6 _ _ _ _).mono ?_; rintro e w' ⟨rfl, rfl⟩)
 refine (Xfd _ _ _ _ _ _ HG.out H1.out H2.out H3.out HP.out).mono ?_
 refine z106 ?_; (iterate 11 intro); intro HB1
 go_wp2
 refine z109 ?_
 exact z5
theorem Xkq (A : Option Addr) (c : Nat) (xs : List Int) (root page : Int) (wr : Bool) (w : World) (h : Ints w w.heap.size A 512 xs) (h0 : cm xs = 0) (hin : inP root page) (x : Int) (hx : rd xs (root * 8 + page / 8) = x) (b1 b2 : Bool) (p : Int) (hG : enG x = true) (e1 : bitI x 1 = b1) (e2 : bitI x 2 = b2) (e3 : bitI x 3 = true) (ep : enP x = p) (hm : p % 8 = 0) (hr : okW b1 b2 wr = true) :
    Calls Tryz.prog 86 #[.agg #[.slice A 512 c], .int .i64 root, .int .i64 page, .bool wr] w fun e w' => e = .returned (.tuple #[.agg #[.bool true, .bool b1, .bool b2, .bool true, .int .i64 (p + page % 8)], .int .i64 0, .int .i64 0]) ∧ Below w.heap.size w w' := by
 refine z47 ?_; intro HG H1 H2 H3 HP _ _
 have hm1 : (p % 8 != 0) = false := by rw [bne_eq_false_iff_eq]; exact hm
 revert A h hin; refine_lift z30 ?_; intro _ _ _ _ _ _ _ _ h _ hc _ _ _
 clear hc hx h h0 hG e1 e2 e3 ep hm
 cases b1 <;> cases b2 <;> cases wr
 all_goals first
   | (exact absurd hr (by decide))
   | skip
 all_goals
   clear hr
   go_enter Tryz.func86, Tryz.ntmps86
   go_wp2_with (go_at_call 38; refine (Xa6 _ _ _ _).mono ?_; rintro e w' ⟨rfl, rfl⟩)
   refine (Xfd _ _ _ _ _ _ HG.out H1.out H2.out H3.out HP.out).mono ?_
   rintro e w1 ⟨rfl, hb1⟩
   have hz1 := hb1.size
   (try simp only [World.size_alloc, World.size_setCell, World.size_drew] at hz1)
   have k1_0 := fun o => (Xab hb1).1 (w.heap.size) o y0
   have l1_0 : (w.heap.size) < w1.heap.size := (by omega)
   have q1_0 := fun o => (Xab hb1).2 (w.heap.size) o y0
   have k1_1 := fun o => (Xab hb1).1 (w.heap.size + 1) o y0
   have l1_1 : (w.heap.size + 1) < w1.heap.size := (by omega)
   have q1_1 := fun o => (Xab hb1).2 (w.heap.size + 1) o y0
   have k1_2 := fun o => (Xab hb1).1 (w.heap.size + 1 + 1) o y0
   have l1_2 : (w.heap.size + 1 + 1) < w1.heap.size := (by omega)
   have q1_2 := fun o => (Xab hb1).2 (w.heap.size + 1 + 1) o y0
   simp (maxDischargeDepth := 6) [go_sem, *] at k1_0 q1_0 k1_1 q1_1 k1_2 q1_2
   have HB1 := Zh hb1
   clear hb1
   go_wp2
   refine bodyPost_ret (v := .tuple #[.agg #[.bool true, .bool _, .bool _, .bool true, .int .i64 (p + page % 8)], .int .i64 0, .int .i64 0]) ?_ rfl ⟨rfl, ?_⟩
   · simp (maxDischargeDepth := 8) [results, Tryz.results86, go_sem, *]
   · (repeat (first | (with_reducible exact Below.refl _ _) | (with_reducible refine Below.drew ?_) | (with_reducible refine Xai ?_ _) | ((with_reducible refine Below.setCell ?_ ?_ _); rotate_left; exact y0) | ((with_reducible refine Below.alloc ?_ ?_ _); rotate_left; exact y0) | ((with_reducible refine Below.trans ?_ (HB1.out.mono ?_)); rotate_left; exact y0)))
theorem Xjd (A : Option Addr) (c : Nat) (xs : List Int) (root page : Int) (wr : Bool) (w : World) (h : Ints w w.heap.size A 512 xs) (h0 : cm xs = 0) (hin : inP root page) (x : Int) (hx : rd xs (root * 8 + page / 8) = x) (b1 b2 : Bool) (p : Int) (hG : enG x = true) (e1 : bitI x 1 = b1) (e2 : bitI x 2 = b2) (e3 : bitI x 3 = true) (ep : enP x = p) (hm : p % 8 = 0) (hr : okW b1 b2 wr = false) :
    Calls Tryz.prog 86 #[.agg #[.slice A 512 c], .int .i64 root, .int .i64 page, .bool wr] w fun e w' => e = .returned (.tuple #[.agg #[.bool false, .bool false, .bool false, .bool false, .int .i64 0], .int .i64 5, .int .i64 0]) ∧ Below w.heap.size w w' := by
 refine z47 ?_; intro HG H1 H2 H3 HP _ _
 have hm1 : (p % 8 != 0) = false := by rw [bne_eq_false_iff_eq]; exact hm
 revert A h hin; refine_lift z30 ?_; intro _ _ _ _ _ _ _ _ h _ hc _ _ _
 clear hc hx h h0 hG e1 e2 e3 ep hm
 cases b1 <;> cases b2 <;> cases wr
 all_goals first
   | (exact absurd hr (by decide))
   | skip
 all_goals
   clear hr
   go_enter Tryz.func86, Tryz.ntmps86
   go_wp2_with (go_at_call 38; refine (Xa6 _ _ _ _).mono ?_; rintro e w' ⟨rfl, rfl⟩)
   refine (Xfd _ _ _ _ _ _ HG.out H1.out H2.out H3.out HP.out).mono ?_
   rintro e w1 ⟨rfl, hb1⟩
   have hz1 := hb1.size
   (try simp only [World.size_alloc, World.size_setCell, World.size_drew] at hz1)
   have k1_0 := fun o => (Xab hb1).1 (w.heap.size) o y0
   have l1_0 : (w.heap.size) < w1.heap.size := (by omega)
   have q1_0 := fun o => (Xab hb1).2 (w.heap.size) o y0
   have k1_1 := fun o => (Xab hb1).1 (w.heap.size + 1) o y0
   have l1_1 : (w.heap.size + 1) < w1.heap.size := (by omega)
   have q1_1 := fun o => (Xab hb1).2 (w.heap.size + 1) o y0
   have k1_2 := fun o => (Xab hb1).1 (w.heap.size + 1 + 1) o y0
   have l1_2 : (w.heap.size + 1 + 1) < w1.heap.size := (by omega)
   have q1_2 := fun o => (Xab hb1).2 (w.heap.size + 1 + 1) o y0
   simp (maxDischargeDepth := 6) [go_sem, *] at k1_0 q1_0 k1_1 q1_1 k1_2 q1_2
   have HB1 := Zh hb1
   clear hb1
   go_wp2
   refine bodyPost_ret (v := .tuple #[.agg #[.bool false, .bool false, .bool false, .bool false, .int .i64 0], .int .i64 5, .int .i64 0]) ?_ rfl ⟨rfl, ?_⟩
   · simp (maxDischargeDepth := 8) [results, Tryz.results86, go_sem, *]
   · (repeat (first | (with_reducible exact Below.refl _ _) | (with_reducible refine Below.drew ?_) | (with_reducible refine Xai ?_ _) | ((with_reducible refine Below.setCell ?_ ?_ _); rotate_left; exact y0) | ((with_reducible refine Below.alloc ?_ ?_ _); rotate_left; exact y0) | ((with_reducible refine Below.trans ?_ (HB1.out.mono ?_)); rotate_left; exact y0)))
theorem Xyf (A : Option Addr) (c : Nat) (xs : List Int) (root page : Int) (wr : Bool) (w : World) (h : Ints w w.heap.size A 512 xs) (h0 : cm xs = 0) (hin : inP root page) (x : Int) (hx : rd xs (root * 8 + page / 8) = x) (b1 b2 : Bool) (p : Int) (hG : enG x = true) (e1 : bitI x 1 = b1) (e2 : bitI x 2 = b2) (e3 : bitI x 3 = false) (ep : enP x = p) (y : Int) (hy : rd xs (p * 8 + page % 8) = y) (gK : enK y = false) :
    Calls Tryz.prog 86 #[.agg #[.slice A 512 c], .int .i64 root, .int .i64 page, .bool wr] w fun e w' => e = .returned (.tuple #[.agg #[.bool false, .bool false, .bool false, .bool false, .int .i64 0], .int .i64 4, .int .i64 0]) ∧ Below w.heap.size w w' := by
 refine z47 ?_; intro HG H1 H2 H3 HP _ _
 have GK := Zh gK
 revert A h hin; refine_lift z30 ?_; intro _ _ _ _ _ _ b _ h _ hc hb2 _ _
 refine z147 ?_; intro hcy
 rw [hy, Int.mul_comm p 8] at hcy
 clear hc hx h h0 hG e1 e2 e3 ep hy gK
 go_enter Tryz.func86, Tryz.ntmps86
 go_wp2_with (go_at_call 38; refine (Xa6 _ _ _ _).mono ?_; rintro e w' ⟨rfl, rfl⟩)
 refine (Xfd _ _ _ _ _ _ HG.out H1.out H2.out H3.out HP.out).mono ?_
 refine z67 ?_; intro w1; (iterate 13 intro); intro HB1
 go_wp2_with fail
 refine (Xra _ _ GK.out).mono ?_
 refine z83 ?_; (iterate 14 intro); intro HB2
 go_wp2
 refine z109 ?_
 · exact z11
theorem Xye (A : Option Addr) (c : Nat) (xs : List Int) (root page : Int) (wr : Bool) (w : World) (h : Ints w w.heap.size A 512 xs) (h0 : cm xs = 0) (hin : inP root page) (x : Int) (hx : rd xs (root * 8 + page / 8) = x) (b1 b2 : Bool) (p : Int) (hG : enG x = true) (e1 : bitI x 1 = b1) (e2 : bitI x 2 = b2) (e3 : bitI x 3 = false) (ep : enP x = p) (y : Int) (hy : rd xs (p * 8 + page % 8) = y) (gK : enK y = true) (gG : enG y = false) :
    Calls Tryz.prog 86 #[.agg #[.slice A 512 c], .int .i64 root, .int .i64 page, .bool wr] w fun e w' => e = .returned (.tuple #[.agg #[.bool false, .bool false, .bool false, .bool false, .int .i64 0], .int .i64 3, .int .i64 0]) ∧ Below w.heap.size w w' := by
 refine z47 ?_; intro HG H1 H2 H3 HP _ _
 have GK := Zh gK
 have GG := Zh gG
 revert A h hin; refine_lift z30 ?_; intro _ _ _ _ _ _ b _ h _ hc hb2 _ _
 refine z147 ?_; intro hcy
 rw [hy, Int.mul_comm p 8] at hcy
 clear hc hx h h0 hG e1 e2 e3 ep hy gK gG
 go_enter Tryz.func86, Tryz.ntmps86
 go_wp2_with (go_at_call 38; refine (Xa6 _ _ _ _).mono ?_; rintro e w' ⟨rfl, rfl⟩)
 refine (Xfd _ _ _ _ _ _ HG.out H1.out H2.out H3.out HP.out).mono ?_
 refine z67 ?_; intro w1; (iterate 13 intro); intro HB1
 go_wp2_with fail
 refine (Xq8 _ _ GK.out GG.out).mono ?_
 refine z83 ?_; (iterate 14 intro); intro HB2
 go_wp2
 refine z199 ?_
 · exact z11
theorem Xvb (A : Option Addr) (c : Nat) (xs : List Int) (root page : Int) (wr : Bool) (w : World) (h : Ints w w.heap.size A 512 xs) (h0 : cm xs = 0) (hin : inP root page) (x : Int) (hx : rd xs (root * 8 + page / 8) = x) (b1 b2 : Bool) (p : Int) (hG : enG x = true) (e1 : bitI x 1 = b1) (e2 : bitI x 2 = b2) (e3 : bitI x 3 = false) (ep : enP x = p) (y : Int) (hy : rd xs (p * 8 + page % 8) = y) (c1 c2 : Bool) (q : Int) (gG : enG y = true) (f1 : bitI y 1 = c1) (f2 : bitI y 2 = c2) (f3 : bitI y 3 = false) (fp : enP y = q) :
    Calls Tryz.prog 86 #[.agg #[.slice A 512 c], .int .i64 root, .int .i64 page, .bool wr] w fun e w' => e = .returned (.tuple #[.agg #[.bool false, .bool false, .bool false, .bool false, .int .i64 0], .int .i64 4, .int .i64 0]) ∧ Below w.heap.size w w' := by
 refine z155 ?_; intro HG H1 H2 H3 HP _ _ GG F1 F2 F3 FP
 revert A h hin; refine_lift z30 ?_; intro _ _ _ _ _ _ b _ h _ hc hb2 _ _
 refine z147 ?_; intro hcy
 rw [hy, Int.mul_comm p 8] at hcy
 clear hc hx h h0 hG e1 e2 e3 ep hy gG f1 f2 f3 fp
 go_enter Tryz.func86, Tryz.ntmps86
 go_wp2_with (go_at_call 38; refine (Xa6 _ _ _ _).mono ?_; rintro e w' ⟨rfl, rfl⟩)
 refine (Xfd _ _ _ _ _ _ HG.out H1.out H2.out H3.out HP.out).mono ?_
 refine z67 ?_; intro w1; (iterate 13 intro); intro HB1
 go_wp2_with fail
 refine (Xfd _ _ _ _ _ _ GG.out F1.out F2.out F3.out FP.out).mono ?_
 refine z83 ?_; (iterate 14 intro); intro HB2
 go_wp2
 refine z109 ?_
 · exact z11
theorem Xyd (A : Option Addr) (c : Nat) (xs : List Int) (root page : Int) (wr : Bool) (w : World) (h : Ints w w.heap.size A 512 xs) (h0 : cm xs = 0) (hin : inP root page) (x : Int) (hx : rd xs (root * 8 + page / 8) = x) (b1 b2 : Bool) (p : Int) (hG : enG x = true) (e1 : bitI x 1 = b1) (e2 : bitI x 2 = b2) (e3 : bitI x 3 = false) (ep : enP x = p) (y : Int) (hy : rd xs (p * 8 + page % 8) = y) (c1 c2 : Bool) (q : Int) (gG : enG y = true) (f1 : bitI y 1 = c1) (f2 : bitI y 2 = c2) (f3 : bitI y 3 = true) (fp : enP y = q) (hr : okW c1 c2 wr = true) :
    Calls Tryz.prog 86 #[.agg #[.slice A 512 c], .int .i64 root, .int .i64 page, .bool wr] w fun e w' => e = .returned (.tuple #[.agg #[.bool true, .bool c1, .bool c2, .bool true, .int .i64 q], .int .i64 0, .int .i64 0]) ∧ Below w.heap.size w w' := by
 refine z155 ?_; intro HG H1 H2 H3 HP _ _ GG F1 F2 F3 FP
 revert A h hin; refine_lift z30 ?_; intro _ _ _ _ _ _ b _ h _ hc hb2 _ _
 refine z147 ?_; intro hcy
 rw [hy, Int.mul_comm p 8] at hcy
 clear hc hx h h0 hG e1 e2 e3 ep hy gG f1 f2 f3 fp
 cases c1 <;> cases c2 <;> cases wr
 all_goals first
   | (exact absurd hr (by decide))
   | skip
 all_goals
   clear hr
   go_enter Tryz.func86, Tryz.ntmps86
   go_wp2_with (go_at_call 38; refine (Xa6 _ _ _ _).mono ?_; rintro e w' ⟨rfl, rfl⟩)
   refine (Xfd _ _ _ _ _ _ HG.out H1.out H2.out H3.out HP.out).mono ?_
   rintro e w1 ⟨rfl, hb1⟩
   have hz1 := hb1.size
   (try simp only [World.size_alloc, World.size_setCell, World.size_drew] at hz1)
   have k1_0 := fun o => (Xab hb1).1 (w.heap.size) o y0
   have l1_0 : (w.heap.size) < w1.heap.size := (by omega)
   have q1_0 := fun o => (Xab hb1).2 (w.heap.size) o y0
   have k1_1 := fun o => (Xab hb1).1 (w.heap.size + 1) o y0
   have l1_1 : (w.heap.size + 1) < w1.heap.size := (by omega)
   have q1_1 := fun o => (Xab hb1).2 (w.heap.size + 1) o y0
   have k1_2 := fun o => (Xab hb1).1 (w.heap.size + 1 + 1) o y0
   have l1_2 : (w.heap.size + 1 + 1) < w1.heap.size := (by omega)
   have q1_2 := fun o => (Xab hb1).2 (w.heap.size + 1 + 1) o y0
   have k1_3 := fun o => (Xab hb1).1 (b) o y0
   have l1_3 : (b) < w1.heap.size := (by omega)
   have q1_3 := fun o => (Xab hb1).2 (b) o y0
   simp (maxDischargeDepth := 6) [go_sem, *] at k1_0 q1_0 k1_1 q1_1 k1_2 q1_2 k1_3 q1_3
   have HB1 := Zh hb1
   clear hb1
   go_wp2_with fail
   refine (Xfd _ _ _ _ _ _ GG.out F1.out F2.out F3.out FP.out).mono ?_
   rintro e w2 ⟨rfl, hb2⟩
   have hz2 := hb2.size
   (try simp only [World.size_alloc, World.size_setCell, World.size_drew] at hz2)
   have k2_0 := fun o => (Xab hb2).1 (w.heap.size) o y0
   have l2_0 : (w.heap.size) < w2.heap.size := (by omega)
   have q2_0 := fun o => (Xab hb2).2 (w.heap.size) o y0
   have k2_1 := fun o => (Xab hb2).1 (w.heap.size + 1) o y0
   have l2_1 : (w.heap.size + 1) < w2.heap.size := (by omega)
   have q2_1 := fun o => (Xab hb2).2 (w.heap.size + 1) o y0
   have k2_2 := fun o => (Xab hb2).1 (w.heap.size + 1 + 1) o y0
   have l2_2 : (w.heap.size + 1 + 1) < w2.heap.size := (by omega)
   have q2_2 := fun o => (Xab hb2).2 (w.heap.size + 1 + 1) o y0
   have k2_3 := fun o => (Xab hb2).1 (w1.heap.size) o y0
   have l2_3 : (w1.heap.size) < w2.heap.size := (by omega)
   have q2_3 := fun o => (Xab hb2).2 (w1.heap.size) o y0
   simp (maxDischargeDepth := 6) [go_sem, *] at k2_0 q2_0 k2_1 q2_1 k2_2 q2_2 k2_3 q2_3
   have HB2 := Zh hb2
   clear hb2
   go_wp2
   refine bodyPost_ret (v := .tuple #[.agg #[.bool true, .bool _, .bool _, .bool true, .int .i64 q], .int .i64 0, .int .i64 0]) ?_ rfl ⟨rfl, ?_⟩
   · simp (maxDischargeDepth := 8) [results, Tryz.results86, go_sem, *]
   · (repeat (first | (with_reducible exact Below.refl _ _) | (with_reducible refine Below.drew ?_) | (with_reducible refine Xai ?_ _) | ((with_reducible refine Below.setCell ?_ ?_ _); rotate_left; exact y0) | ((with_reducible refine Below.alloc ?_ ?_ _); rotate_left; exact y0) | ((with_reducible refine Below.trans ?_ (HB2.out.mono ?_)); rotate_left; exact y0) | ((with_reducible refine Below.trans ?_ (HB1.out.mono ?_)); rotate_left; exact y0)))
theorem Wd_no2 (A : Option Addr) (c : Nat) (xs : List Int) (root page : Int) (wr : Bool) (w : World) (h : Ints w w.heap.size A 512 xs) (h0 : cm xs = 0) (hin : inP root page) (x : Int) (hx : rd xs (root * 8 + page / 8) = x) (b1 b2 : Bool) (p : Int) (hG : enG x = true) (e1 : bitI x 1 = b1) (e2 : bitI x 2 = b2) (e3 : bitI x 3 = false) (ep : enP x = p) (y : Int) (hy : rd xs (p * 8 + page % 8) = y) (c1 c2 : Bool) (q : Int) (gG : enG y = true) (f1 : bitI y 1 = c1) (f2 : bitI y 2 = c2) (f3 : bitI y 3 = true) (fp : enP y = q) (hr : okW c1 c2 wr = false) :
    Calls Tryz.prog 86 #[.agg #[.slice A 512 c], .int .i64 root, .int .i64 page, .bool wr] w fun e w' => e = .returned (.tuple #[.agg #[.bool false, .bool false, .bool false, .bool false, .int .i64 0], .int .i64 5, .int .i64 0]) ∧ Below w.heap.size w w' := by
 refine z155 ?_; intro HG H1 H2 H3 HP _ _ GG F1 F2 F3 FP
 revert A h hin; refine_lift z30 ?_; intro _ _ _ _ _ _ b _ h _ hc hb2 _ _
 refine z147 ?_; intro hcy
 rw [hy, Int.mul_comm p 8] at hcy
 clear hc hx h h0 hG e1 e2 e3 ep hy gG f1 f2 f3 fp
 cases c1 <;> cases c2 <;> cases wr
 all_goals first
   | (exact absurd hr (by decide))
   | skip
 all_goals
   clear hr
   go_enter Tryz.func86, Tryz.ntmps86
   go_wp2_with (go_at_call 38; refine (Xa6 _ _ _ _).mono ?_; rintro e w' ⟨rfl, rfl⟩)
   refine (Xfd _ _ _ _ _ _ HG.out H1.out H2.out H3.out HP.out).mono ?_
   rintro e w1 ⟨rfl, hb1⟩
   have hz1 := hb1.size
   (try simp only [World.size_alloc, World.size_setCell, World.size_drew] at hz1)
   have k1_0 := fun o => (Xab hb1).1 (w.heap.size) o y0
   have l1_0 : (w.heap.size) < w1.heap.size := (by omega)
   have q1_0 := fun o => (Xab hb1).2 (w.heap.size) o y0
   have k1_1 := fun o => (Xab hb1).1 (w.heap.size + 1) o y0
   have l1_1 : (w.heap.size + 1) < w1.heap.size := (by omega)
   have q1_1 := fun o => (Xab hb1).2 (w.heap.size + 1) o y0
   have k1_2 := fun o => (Xab hb1).1 (w.heap.size + 1 + 1) o y0
   have l1_2 : (w.heap.size + 1 + 1) < w1.heap.size := (by omega)
   have q1_2 := fun o => (Xab hb1).2 (w.heap.size + 1 + 1) o y0
   have k1_3 := fun o => (Xab hb1).1 (b) o y0
   have l1_3 : (b) < w1.heap.size := (by omega)
   have q1_3 := fun o => (Xab hb1).2 (b) o y0
   simp (maxDischargeDepth := 6) [go_sem, *] at k1_0 q1_0 k1_1 q1_1 k1_2 q1_2 k1_3 q1_3
   have HB1 := Zh hb1
   clear hb1
   go_wp2_with fail
   refine (Xfd _ _ _ _ _ _ GG.out F1.out F2.out F3.out FP.out).mono ?_
   rintro e w2 ⟨rfl, hb2⟩
   have hz2 := hb2.size
   (try simp only [World.size_alloc, World.size_setCell, World.size_drew] at hz2)
   have k2_0 := fun o => (Xab hb2).1 (w.heap.size) o y0
   have l2_0 : (w.heap.size) < w2.heap.size := (by omega)
   have q2_0 := fun o => (Xab hb2).2 (w.heap.size) o y0
   have k2_1 := fun o => (Xab hb2).1 (w.heap.size + 1) o y0
   have l2_1 : (w.heap.size + 1) < w2.heap.size := (by omega)
   have q2_1 := fun o => (Xab hb2).2 (w.heap.size + 1) o y0
   have k2_2 := fun o => (Xab hb2).1 (w.heap.size + 1 + 1) o y0
   have l2_2 : (w.heap.size + 1 + 1) < w2.heap.size := (by omega)
   have q2_2 := fun o => (Xab hb2).2 (w.heap.size + 1 + 1) o y0
   have k2_3 := fun o => (Xab hb2).1 (w1.heap.size) o y0
   have l2_3 : (w1.heap.size) < w2.heap.size := (by omega)
   have q2_3 := fun o => (Xab hb2).2 (w1.heap.size) o y0
   simp (maxDischargeDepth := 6) [go_sem, *] at k2_0 q2_0 k2_1 q2_1 k2_2 q2_2 k2_3 q2_3
   have HB2 := Zh hb2
   clear hb2
   go_wp2
   refine bodyPost_ret (v := .tuple #[.agg #[.bool false, .bool false, .bool false, .bool false, .int .i64 0], .int .i64 5, .int .i64 0]) ?_ rfl ⟨rfl, ?_⟩
   · simp (maxDischargeDepth := 8) [results, Tryz.results86, go_sem, *]
   · (repeat (first | (with_reducible exact Below.refl _ _) | (with_reducible refine Below.drew ?_) | (with_reducible refine Xai ?_ _) | ((with_reducible refine Below.setCell ?_ ?_ _); rotate_left; exact y0) | ((with_reducible refine Below.alloc ?_ ?_ _); rotate_left; exact y0) | ((with_reducible refine Below.trans ?_ (HB2.out.mono ?_)); rotate_left; exact y0) | ((with_reducible refine Below.trans ?_ (HB1.out.mono ?_)); rotate_left; exact y0)))
theorem Xo7 (A : Option Addr) (c : Nat) (xs : List Int) (root page : Int) (wr : Bool) (w : World) (h : Ints w w.heap.size A 512 xs) (h0 : cm xs = 0) (hin : inP root page) :
    Calls Tryz.prog 86 #[.agg #[.slice A 512 c], .int .i64 root, .int .i64 page, .bool wr] w fun e w' => e = .returned (.tuple #[(Xbx xs root page wr).1.val, .int .i64 (Xbx xs root page wr).2, .int .i64 0]) ∧ Below w.heap.size w w' := by
 by_cases hK : enK (rd xs (root * 8 + page / 8)) = true
 · by_cases hG : enG (rd xs (root * 8 + page / 8)) = true
   · cases h3 : bitI (rd xs (root * 8 + page / 8)) 3
     · generalize hp : enP (rd xs (root * 8 + page / 8)) = p
       have e0 : Xcu xs root page = Xe7 xs p page := by simp [Xcu, hK, hG, h3, hp]
       by_cases gK : enK (rd xs (p * 8 + page % 8)) = true
       · by_cases gG : enG (rd xs (p * 8 + page % 8)) = true
         · cases g3 : bitI (rd xs (p * 8 + page % 8)) 3
           · have e : Xbx xs root page wr = (.no, 4) := by unfold Xbx; rw [e0]; simp [Xe7, gK, gG, g3]
             rw [e]
             exact Xvb A c xs root page wr w h h0 hin _ rfl _ _ p hG rfl rfl h3 hp _ rfl _ _ _ gG rfl rfl g3 rfl
           · cases hr : okW (bitI (rd xs (p * 8 + page % 8)) 1) (bitI (rd xs (p * 8 + page % 8)) 2) wr
             · have e : Xbx xs root page wr = (.no, 5) := by unfold Xbx; rw [e0]; unfold okW at hr; simp only [Xe7, gK, gG, g3, if_true, Xgd, hr]; rfl
               rw [e]
               exact Wd_no2 A c xs root page wr w h h0 hin _ rfl _ _ p hG rfl rfl h3 hp _ rfl _ _ _ gG rfl rfl g3 rfl hr
             · have e : Xbx xs root page wr = (Xgd (rd xs (p * 8 + page % 8)), 0) := by unfold Xbx; rw [e0]; unfold okW at hr; simp only [Xe7, gK, gG, g3, if_true, Xgd, hr]
               rw [e]
               refine (Xyd A c xs root page wr w h h0 hin _ rfl _ _ p hG rfl rfl h3 hp _ rfl _ _ _ gG rfl rfl g3 rfl hr).mono fun e w' ⟨he, hb⟩ => ⟨?_, hb⟩
               rw [he]; simp only [Ent.val, Xgd, g3]
         · have e : Xbx xs root page wr = (.no, 3) := by unfold Xbx; rw [e0]; simp [Xe7, gK, gG]
           rw [e]
           exact Xye A c xs root page wr w h h0 hin _ rfl _ _ p hG rfl rfl h3 hp _ rfl gK (by simpa using gG)
       · have e : Xbx xs root page wr = (.no, 4) := by unfold Xbx; rw [e0]; simp [Xe7, gK]
         rw [e]
         exact Xyf A c xs root page wr w h h0 hin _ rfl _ _ p hG rfl rfl h3 hp _ rfl (by simpa using gK)
     · generalize hp : enP (rd xs (root * 8 + page / 8)) = p
       by_cases hm : p % 8 = 0
       · have e0 : Xcu xs root page = ({ Xgd (rd xs (root * 8 + page / 8)) with p := p + page % 8 }, 0) := by simp [Xcu, hK, hG, h3, hp, hm]
         cases hr : okW (bitI (rd xs (root * 8 + page / 8)) 1) (bitI (rd xs (root * 8 + page / 8)) 2) wr
         · have e : Xbx xs root page wr = (.no, 5) := by unfold Xbx; rw [e0]; unfold okW at hr; simp only [Xgd, hr, if_true]; rfl
           rw [e]
           exact Xjd A c xs root page wr w h h0 hin _ rfl _ _ p hG rfl rfl h3 hp hm hr
         · have e : Xbx xs root page wr = ({ Xgd (rd xs (root * 8 + page / 8)) with p := p + page % 8 }, 0) := by unfold Xbx; rw [e0]; unfold okW at hr; simp only [Xgd, hr, if_true]
           rw [e]
           refine (Xkq A c xs root page wr w h h0 hin _ rfl _ _ p hG rfl rfl h3 hp hm hr).mono fun e w' ⟨he, hb⟩ => ⟨?_, hb⟩
           rw [he]; simp only [Ent.val, Xgd, h3]
       · have e : Xbx xs root page wr = (.no, 4) := by unfold Xbx; simp [Xcu, hK, hG, h3, hp, hm]
         rw [e]
         exact Wd_odd A c xs root page wr w h h0 hin _ rfl _ _ p hG rfl rfl h3 hp hm
   · have e : Xbx xs root page wr = (.no, 3) := by unfold Xbx; simp [Xcu, hK, hG]
     rw [e]
     exact Wd_off A c xs root page wr w h h0 hin _ rfl hK (by simpa using hG)
 · have e : Xbx xs root page wr = (.no, 4) := by unfold Xbx; simp [Xcu, hK]
   rw [e]
   exact Wd_bad A c xs root page wr w h h0 hin _ rfl (by simpa using hK)
end Go.Proofs.YtbopdijnojaaiadGreat
