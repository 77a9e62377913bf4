/- Tables: the walks of the program's functions of chapter 3. No statement of the seat is proved here. -/
import Derived.Test.YtbopdijnojaaiadGreatZz
import Derived.Test.YtbopdijnojaaiadGreatBase
import Derived.Test.YtbopdijnojaaiadGreatMem
import Derived.Test.YtbopdijnojaaiadGreatEntryX
namespace Go.Proofs.YtbopdijnojaaiadGreat
set_option maxRecDepth 100000
set_option maxHeartbeats 4000000
open Go.RowKit
set_option linter.unusedSimpArgs false
set_option linter.unusedVariables false
theorem Xnw (x : Int) (w : World) (h : enK x = false) : Calls Tryz.prog 107 #[.int .i64 x] w fun e w' => e = .returned (.tuple #[.agg #[.bool false, .bool false, .bool false, .bool false, .int .i64 0], .bool false]) ∧ Below w.heap.size w w' :=
  (Xha x w).mono fun e w' ⟨he, hb⟩ => ⟨by rw [he, Xss h], hb⟩
theorem Xnv (x : Int) (w : World) (h : enK x = true) (h' : enG x = false) : Calls Tryz.prog 107 #[.int .i64 x] w fun e w' => e = .returned (.tuple #[.agg #[.bool false, .bool false, .bool false, .bool false, .int .i64 0], .bool true]) ∧ Below w.heap.size w w' :=
  (Xha x w).mono fun e w' ⟨he, hb⟩ => ⟨by rw [he, Xsr h h'], hb⟩
theorem Xih (x : Int) (b1 b2 b3 : Bool) (p : Int) (w : World) (h : enG x = true) (h1 : bitI x 1 = b1) (h2 : bitI x 2 = b2) (h3 : bitI x 3 = b3) (hp : enP x = p) : Calls Tryz.prog 107 #[.int .i64 x] w fun e w' => e = .returned (.tuple #[.agg #[.bool true, .bool b1, .bool b2, .bool b3, .int .i64 p], .bool true]) ∧ Below w.heap.size w w' :=
  (Xha x w).mono fun e w' ⟨he, hb⟩ => ⟨by rw [he, Xvz h, h1, h2, h3, hp], hb⟩
theorem pair0 : ∀ (a b : Int) (w : World), (Instr.index 172 (.agg #[.int .i64 a, .int .i64 b]) (.int .i64 0)).run Tryz.prog w = .ok (.int .i64 a) w := fun _ _ _ => by kernel_rfl
theorem pair1 : ∀ (a b : Int) (w : World), (Instr.index 172 (.agg #[.int .i64 a, .int .i64 b]) (.int .i64 1)).run Tryz.prog w = .ok (.int .i64 b) w := fun _ _ _ => by kernel_rfl
theorem Xud (A : Option Addr) (c : Nat) (xs : List Int) (root page : Int) (w : World) (h : Ints w w.heap.size A 512 xs) (h0 : cm xs = 0) (hin : inP root page) (x : Int) (hx : rd xs (root * 8 + page / 8) = x) (hK : enK x = false) :
    Calls Tryz.prog 105 #[.agg #[.slice A 512 c], .int .i64 root, .int .i64 page] w fun e w' => e = .returned (.tuple #[.agg #[.bool false, .bool false, .bool false, .bool false, .int .i64 0], .int .i64 4]) ∧ Below w.heap.size w w' := by
 have HK := Zh hK
 revert A h hin; refine_lift z56 ?_; intro _ _ _ _ _ _ h _ hc; iterate 4 intro
 clear hc hx h h0 hK
 go_enter Tryz.func105, Tryz.ntmps105
 go_wp2
 refine wp_loop_rounds 1 ?_
 rw [rounds_succ]
 go_wp2_with fail
 refine (Xnw _ _ HK.out).mono ?_
 refine z49 ?_; intro _ _ _ _ _ _ _ _ HB1
 go_wp2
 refine z112 ?_
 exact z5
theorem Xub (A : Option Addr) (c : Nat) (xs : List Int) (root page : Int) (w : World) (h : Ints w w.heap.size A 512 xs) (h0 : cm xs = 0) (hin : inP root page) (x : Int) (hx : rd xs (root * 8 + page / 8) = x) (hK : enK x = true) (hG : enG x = false) :
    Calls Tryz.prog 105 #[.agg #[.slice A 512 c], .int .i64 root, .int .i64 page] w fun e w' => e = .returned (.tuple #[.agg #[.bool false, .bool false, .bool false, .bool false, .int .i64 0], .int .i64 3]) ∧ Below w.heap.size w w' := by
 have HK := Zh hK
 have HG := Zh hG
 revert A h hin; refine_lift z56 ?_; intro _ _ _ _ _ _ h _ hc; iterate 4 intro
 clear hc hx h h0 hK hG
 go_enter Tryz.func105, Tryz.ntmps105
 go_wp2
 refine wp_loop_rounds 1 ?_
 rw [rounds_succ]
 go_wp2_with fail
 refine (Xnv _ _ HK.out HG.out).mono ?_
 refine z49 ?_; intro _ _ _ _ _ _ _ _ HB1
 go_wp2
 refine bodyPost_ret (v := .tuple #[.agg #[.bool false, .bool false, .bool false, .bool false, .int .i64 0], .int .i64 3]) ?_ rfl ⟨rfl, ?_⟩
 exact z184
 exact z5
theorem Xuc (A : Option Addr) (c : Nat) (xs : List Int) (root page : Int) (w : World) (h : Ints w w.heap.size A 512 xs) (h0 : cm xs = 0) (hin : inP root page) (x : Int) (hx : rd xs (root * 8 + page / 8) = x) (b1 b2 : Bool) (p : Int) (hG : enG x = true) (e1 : bitI x 1 = b1) (e2 : bitI x 2 = b2) (e3 : bitI x 3 = true) (ep : enP x = p) (hm : p % 8 ≠ 0) :
    Calls Tryz.prog 105 #[.agg #[.slice A 512 c], .int .i64 root, .int .i64 page] w fun e w' => e = .returned (.tuple #[.agg #[.bool false, .bool false, .bool false, .bool false, .int .i64 0], .int .i64 4]) ∧ Below w.heap.size w w' := by
 refine z47 ?_; intro HG H1 H2 H3 HP _ _
 have a8 := and7 p (by omega) (by omega)
 have hm1 : (p % 8 != 0) = true := by rw [bne_iff_ne]; exact hm
 revert A h hin; refine_lift z56 ?_; intro _ _ _ _ _ _ h _ hc; iterate 4 intro
 clear hc hx h h0 hG e1 e2 e3 ep hm
 go_enter Tryz.func105, Tryz.ntmps105
 go_wp2
 refine wp_loop_rounds 1 ?_
 rw [rounds_succ]
 go_wp2_with fail
 refine (Xih _ _ _ _ _ _ HG.out H1.out H2.out H3.out HP.out).mono ?_
 refine z49 ?_; intro _ _ _ _ _ _ _ _ HB1
 go_wp2
 refine z112 ?_
 exact z5
theorem Xpk (A : Option Addr) (c : Nat) (xs : List Int) (root page : Int) (w : World) (h : Ints w w.heap.size A 512 xs) (h0 : cm xs = 0) (hin : inP root page) (x : Int) (hx : rd xs (root * 8 + page / 8) = x) (b1 b2 : Bool) (p : Int) (hG : enG x = true) (e1 : bitI x 1 = b1) (e2 : bitI x 2 = b2) (e3 : bitI x 3 = true) (ep : enP x = p) (hm : p % 8 = 0) :
    Calls Tryz.prog 105 #[.agg #[.slice A 512 c], .int .i64 root, .int .i64 page] w fun e w' => e = .returned (.tuple #[.agg #[.bool true, .bool b1, .bool b2, .bool true, .int .i64 (p + page % 8)], .int .i64 0]) ∧ Below w.heap.size w w' := by
 refine z47 ?_; intro HG H1 H2 H3 HP _ _
 have a8 := and7 p (by omega) (by omega)
 have hm1 : (p % 8 != 0) = false := by rw [bne_eq_false_iff_eq]; exact hm
 have a9 := or8 p (page % 8) hm (by omega) (by omega) (by omega) (by omega)
 revert A h hin; refine_lift z56 ?_; intro _ _ _ _ _ _ h _ hc; iterate 4 intro
 clear hc hx h h0 hG e1 e2 e3 ep hm
 go_enter Tryz.func105, Tryz.ntmps105
 go_wp2
 refine wp_loop_rounds 1 ?_
 rw [rounds_succ]
 go_wp2_with fail
 refine (Xih _ _ _ _ _ _ HG.out H1.out H2.out H3.out HP.out).mono ?_
 refine z49 ?_; intro _ _ _ _ _ _ _ _ HB1
 go_wp2
 refine bodyPost_ret (v := .tuple #[.agg #[.bool true, .bool b1, .bool b2, .bool true, .int .i64 (p + page % 8)], .int .i64 0]) ?_ rfl ⟨rfl, ?_⟩
 exact z184
 exact z5
theorem Xr1 (A : Option Addr) (c : Nat) (xs : List Int) (root page : Int) (w : World) (h : Ints w w.heap.size A 512 xs) (h0 : cm xs = 0) (hin : inP root page) (x : Int) (hx : rd xs (root * 8 + page / 8) = x) (b1 b2 : Bool) (p : Int) (hG : enG x = true) (e1 : bitI x 1 = b1) (e2 : bitI x 2 = b2) (e3 : bitI x 3 = false) (ep : enP x = p) (y : Int) (hy : rd xs (p * 8 + page % 8) = y) (gK : enK y = false) :
    Calls Tryz.prog 105 #[.agg #[.slice A 512 c], .int .i64 root, .int .i64 page] w fun e w' => e = .returned (.tuple #[.agg #[.bool false, .bool false, .bool false, .bool false, .int .i64 0], .int .i64 4]) ∧ Below w.heap.size w w' := by
 refine z47 ?_; intro HG H1 H2 H3 HP _ _
 have GK := Zh gK
 revert A h hin; refine_lift z56 ?_; intro _ _ _ _ b _ h _ hc; iterate 4 intro
 refine z147 ?_; intro hcy
 rw [hy] at hcy
 clear hc hx h h0 hG e1 e2 e3 ep hy gK
 go_enter Tryz.func105, Tryz.ntmps105
 go_wp2
 refine wp_loop_rounds 2 ?_
 refine z53 ?_; (iterate 11 intro); intro HB1
 go_wp2_with fail
 refine (Xnw _ _ GK.out).mono ?_
 refine z89 ?_; intro _ _ _ _ _ _ _ _ HB2
 go_wp2
 refine z112 ?_
 · exact z11
theorem Xr0 (A : Option Addr) (c : Nat) (xs : List Int) (root page : Int) (w : World) (h : Ints w w.heap.size A 512 xs) (h0 : cm xs = 0) (hin : inP root page) (x : Int) (hx : rd xs (root * 8 + page / 8) = x) (b1 b2 : Bool) (p : Int) (hG : enG x = true) (e1 : bitI x 1 = b1) (e2 : bitI x 2 = b2) (e3 : bitI x 3 = false) (ep : enP x = p) (y : Int) (hy : rd xs (p * 8 + page % 8) = y) (gK : enK y = true) (gG : enG y = false) :
    Calls Tryz.prog 105 #[.agg #[.slice A 512 c], .int .i64 root, .int .i64 page] w fun e w' => e = .returned (.tuple #[.agg #[.bool false, .bool false, .bool false, .bool false, .int .i64 0], .int .i64 3]) ∧ Below w.heap.size w w' := by
 refine z47 ?_; intro HG H1 H2 H3 HP _ _
 have GK := Zh gK
 have GG := Zh gG
 revert A h hin; refine_lift z56 ?_; intro _ _ _ _ b _ h _ hc; iterate 4 intro
 refine z147 ?_; intro hcy
 rw [hy] at hcy
 clear hc hx h h0 hG e1 e2 e3 ep hy gK gG
 go_enter Tryz.func105, Tryz.ntmps105
 go_wp2
 refine wp_loop_rounds 2 ?_
 refine z53 ?_; (iterate 11 intro); intro HB1
 go_wp2_with fail
 refine (Xnv _ _ GK.out GG.out).mono ?_
 refine z89 ?_; intro _ _ _ _ _ _ _ _ HB2
 go_wp2
 refine bodyPost_ret (v := .tuple #[.agg #[.bool false, .bool false, .bool false, .bool false, .int .i64 0], .int .i64 3]) ?_ rfl ⟨rfl, ?_⟩
 exact z184
 · exact z11
theorem Xrz (A : Option Addr) (c : Nat) (xs : List Int) (root page : Int) (w : World) (h : Ints w w.heap.size A 512 xs) (h0 : cm xs = 0) (hin : inP root page) (x : Int) (hx : rd xs (root * 8 + page / 8) = x) (b1 b2 : Bool) (p : Int) (hG : enG x = true) (e1 : bitI x 1 = b1) (e2 : bitI x 2 = b2) (e3 : bitI x 3 = false) (ep : enP x = p) (y : Int) (hy : rd xs (p * 8 + page % 8) = y) (c1 c2 : Bool) (q : Int) (gG : enG y = true) (f1 : bitI y 1 = c1) (f2 : bitI y 2 = c2) (f3 : bitI y 3 = true) (fp : enP y = q) :
    Calls Tryz.prog 105 #[.agg #[.slice A 512 c], .int .i64 root, .int .i64 page] w fun e w' => e = .returned (.tuple #[.agg #[.bool true, .bool c1, .bool c2, .bool true, .int .i64 q], .int .i64 0]) ∧ Below w.heap.size w w' := by
 refine z155 ?_; intro HG H1 H2 H3 HP _ _ GG F1 F2 F3 FP
 revert A h hin; refine_lift z56 ?_; intro _ _ _ _ b _ h _ hc; iterate 4 intro
 refine z147 ?_; intro hcy
 rw [hy] at hcy
 clear hc hx h h0 hG e1 e2 e3 ep hy gG f1 f2 f3 fp
 go_enter Tryz.func105, Tryz.ntmps105
 go_wp2
 refine wp_loop_rounds 2 ?_
 refine z53 ?_; (iterate 11 intro); intro HB1
 go_wp2_with fail
 refine (Xih _ _ _ _ _ _ GG.out F1.out F2.out F3.out FP.out).mono ?_
 refine z89 ?_; intro _ _ _ _ _ _ _ _ HB2
 go_wp2
 refine bodyPost_ret (v := .tuple #[.agg #[.bool true, .bool c1, .bool c2, .bool true, .int .i64 q], .int .i64 0]) ?_ rfl ⟨rfl, ?_⟩
 exact z184
 · exact z11
theorem Xpj (A : Option Addr) (c : Nat) (xs : List Int) (root page : Int) (w : World) (h : Ints w w.heap.size A 512 xs) (h0 : cm xs = 0) (hin : inP root page) (x : Int) (hx : rd xs (root * 8 + page / 8) = x) (b1 b2 : Bool) (p : Int) (hG : enG x = true) (e1 : bitI x 1 = b1) (e2 : bitI x 2 = b2) (e3 : bitI x 3 = false) (ep : enP x = p) (y : Int) (hy : rd xs (p * 8 + page % 8) = y) (c1 c2 : Bool) (q : Int) (gG : enG y = true) (f1 : bitI y 1 = c1) (f2 : bitI y 2 = c2) (f3 : bitI y 3 = false) (fp : enP y = q) :
    Calls Tryz.prog 105 #[.agg #[.slice A 512 c], .int .i64 root, .int .i64 page] w fun e w' => e = .returned (.tuple #[.agg #[.bool false, .bool false, .bool false, .bool false, .int .i64 0], .int .i64 4]) ∧ Below w.heap.size w w' := by
 refine z155 ?_; intro HG H1 H2 H3 HP _ _ GG F1 F2 F3 FP
 revert A h hin; refine_lift z56 ?_; intro _ _ _ _ b _ h _ hc; iterate 4 intro
 refine z147 ?_; intro hcy
 rw [hy] at hcy
 clear hc hx h h0 hG e1 e2 e3 ep hy gG f1 f2 f3 fp
 go_enter Tryz.func105, Tryz.ntmps105
 go_wp2
 refine wp_loop_rounds 3 ?_
 refine z53 ?_; (iterate 11 intro); intro HB1
 go_wp2_with fail
 refine (Xih _ _ _ _ _ _ GG.out F1.out F2.out F3.out FP.out).mono ?_
 refine z89 ?_; intro _ _ _ _ _ _ _ _ HB2
 go_wp2
 rw [rounds_succ]
 go_wp2
 refine z112 ?_
 · exact z11
theorem Xqc (A : Option Addr) (c : Nat) (xs : List Int) (root page : Int) (w : World) (h : Ints w w.heap.size A 512 xs) (h0 : cm xs = 0) (hin : inP root page) :
    Calls Tryz.prog 105 #[.agg #[.slice A 512 c], .int .i64 root, .int .i64 page] w fun e w' => e = .returned (.tuple #[(Xcu xs root page).1.val, .int .i64 (Xcu xs root page).2]) ∧ Below w.heap.size w w' := by
 by_cases hK : enK (rd xs (root * 8 + page / 8)) = true
 · by_cases hG : enG (rd xs (root * 8 + page / 8)) = true
   · cases h3 : bitI (rd xs (root * 8 + page / 8)) 3
     · have e : Xcu xs root page = Xe7 xs (enP (rd xs (root * 8 + page / 8))) page := by simp [Xcu, hK, hG, h3]
       rw [e]
       generalize hp : enP (rd xs (root * 8 + page / 8)) = p
       by_cases gK : enK (rd xs (p * 8 + page % 8)) = true
       · by_cases gG : enG (rd xs (p * 8 + page % 8)) = true
         · cases g3 : bitI (rd xs (p * 8 + page % 8)) 3
           · have e : Xe7 xs p page = (.no, 4) := by simp [Xe7, gK, gG, g3]
             rw [e]
             exact Xpj A c xs root page w h h0 hin _ rfl _ _ p hG rfl rfl h3 hp _ rfl _ _ _ gG rfl rfl g3 rfl
           · have e : Xe7 xs p page = (Xgd (rd xs (p * 8 + page % 8)), 0) := by simp [Xe7, gK, gG, g3]
             rw [e]
             refine (Xrz A c xs root page w h h0 hin _ rfl _ _ p hG rfl rfl h3 hp _ rfl _ _ _ gG rfl rfl g3 rfl).mono fun e w' ⟨he, hb⟩ => ⟨?_, hb⟩
             rw [he]; simp only [Ent.val, Xgd, g3]
         · have e : Xe7 xs p page = (.no, 3) := by simp [Xe7, gK, gG]
           rw [e]
           exact Xr0 A c xs root page w h h0 hin _ rfl _ _ p hG rfl rfl h3 hp _ rfl gK (by simpa using gG)
       · have e : Xe7 xs p page = (.no, 4) := by simp [Xe7, gK]
         rw [e]
         exact Xr1 A c xs root page w h h0 hin _ rfl _ _ p hG rfl rfl h3 hp _ rfl (by simpa using gK)
     · generalize hp : enP (rd xs (root * 8 + page / 8)) = p
       by_cases hm : p % 8 = 0
       · have e : Xcu xs root page = ({ Xgd (rd xs (root * 8 + page / 8)) with p := p + page % 8 }, 0) := by simp [Xcu, hK, hG, h3, hp, hm]
         rw [e]
         refine (Xpk A c xs root page w h h0 hin _ rfl _ _ p hG rfl rfl h3 hp hm).mono fun e w' ⟨he, hb⟩ => ⟨?_, hb⟩
         rw [he]; simp only [Ent.val, Xgd, h3]
       · have e : Xcu xs root page = (.no, 4) := by simp [Xcu, hK, hG, h3, hp, hm]
         rw [e]
         exact Xuc A c xs root page w h h0 hin _ rfl _ _ p hG rfl rfl h3 hp hm
   · have e : Xcu xs root page = (.no, 3) := by simp [Xcu, hK, hG]
     rw [e]
     exact Xub A c xs root page w h h0 hin _ rfl hK (by simpa using hG)
 · have e : Xcu xs root page = (.no, 4) := by simp [Xcu, hK]
   rw [e]
   exact Xud A c xs root page w h h0 hin _ rfl (by simpa using hK)
end Go.Proofs.YtbopdijnojaaiadGreat
