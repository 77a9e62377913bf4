/- Tables: the walk of the laws' closed fact 'walked'. No statement of the seat is proved here. -/
import Derived.Test.YtbopdijnojaaiadGreatZz
import Derived.Test.YtbopdijnojaaiadGreatWalk
import Derived.Test.YtbopdijnojaaiadGreatMemZ
namespace Go.Proofs.YtbopdijnojaaiadGreat
set_option maxRecDepth 100000
set_option maxHeartbeats 4000000
open Go.RowKit
set_option linter.unusedSimpArgs false
set_option linter.unusedVariables false
section
theorem Xot (v r u l : Bool) (p : Int) (wr : Bool) (w : World) : Calls Tryz.prog 106 #[.agg #[.bool v, .bool r, .bool u, .bool l, .int .i64 p], .bool wr] w fun e w' => e = .returned (.bool (r && (!wr || u))) ∧ Below w.heap.size w w' := by
 refine z148 ?_; intro HB
 cases r <;> cases u <;> cases wr
 all_goals
   go_enter Tryz.func106, Tryz.ntmps106
   go_wp2
   go_ret
   exact ⟨rfl, HB.out _⟩
theorem Xms (v r u l : Bool) (p : Int) (wr b : Bool) (h : (r && (!wr || u)) = b) (w : World) : Calls Tryz.prog 106 #[.agg #[.bool v, .bool r, .bool u, .bool l, .int .i64 p], .bool wr] w fun e w' => e = .returned (.bool b) ∧ Below w.heap.size w w' := by
 rw [← h]; exact Xot v r u l p wr w
theorem Xjf (A : Option Addr) (c : Nat) (xs : List Int) (root page : Int) (v r u l : Bool) (p f : Int) (w : World) (h : Ints w w.heap.size A 512 xs) (h0 : cm xs = 0) (hin : inP root page) (hq : Xcu xs root page = (⟨v, r, u, l, p⟩, f)) :
    Calls Tryz.prog 105 #[.agg #[.slice A 512 c], .int .i64 root, .int .i64 page] w fun e w' => e = .returned (.tuple #[.agg #[.bool v, .bool r, .bool u, .bool l, .int .i64 p], .int .i64 f]) ∧ Below w.heap.size w w' := by
 have := Xqc A c xs root page w h h0 hin
 rw [hq] at this
 exact this
theorem Xyh (A : Option Addr) (n c : Nat) (xs : List Int) (root page : Int) (wr : Bool) (w : World) (h : Ints w w.heap.size A n xs) (h0 : cm xs ≠ 0) :
    Calls Tryz.prog 103 #[.agg #[.slice A n c], .int .i64 root, .int .i64 page, .bool wr] w fun e w' => e = .returned (.tuple #[.agg #[.bool false, .bool false, .bool false, .bool false, .int .i64 0], .int .i64 0, .int .i64 (cm xs)]) ∧ Below w.heap.size w w' := by
 have HX := Zh h
 have hc0 : (cm xs != 0) = true := by rw [bne_iff_ne]; exact h0
 clear h h0
 go_enter Tryz.func103, Tryz.ntmps103
 go_wp2_with fail
 refine z128 ?_
 refine z49 ?_; intro _ _ _ _ _ _ _ _ HB1
 go_wp2
 refine bodyPost_ret (v := .tuple #[.agg #[.bool false, .bool false, .bool false, .bool false, .int .i64 0], .int .i64 0, .int .i64 (cm xs)]) ?_ rfl ⟨rfl, ?_⟩
 · simp (maxDischargeDepth := 8) [results, Tryz.results103, go_sem, *]
 exact z5
theorem Xvd (A : Option Addr) (n c : Nat) (xs : List Int) (root page : Int) (wr : Bool) (w : World) (h : Ints w w.heap.size A n xs) (h0 : cm xs = 0) (hin : ¬ inP root page) :
    Calls Tryz.prog 103 #[.agg #[.slice A n c], .int .i64 root, .int .i64 page, .bool wr] w fun e w' => e = .returned (.tuple #[.agg #[.bool false, .bool false, .bool false, .bool false, .int .i64 0], .int .i64 0, .int .i64 4]) ∧ Below w.heap.size w w' := by
 have HX := Zh h
 have hc0 : (cm xs != 0) = false := by rw [bne_eq_false_iff_eq]; exact h0
 have H0 := Zh h0
 unfold inP at hin
 have hr : root < 0 ∨ (0 ≤ root ∧ 64 ≤ root) ∨ (0 ≤ root ∧ root < 64 ∧ page < 0) ∨ (0 ≤ root ∧ root < 64 ∧ 0 ≤ page ∧ 64 ≤ page) := by omega
 clear h h0 hin
 have hc1 := H0.out
 clear hc1
 rcases hr with hr | ⟨hr, hr2⟩ | ⟨hr, hr2, hr3⟩ | ⟨hr, hr2, hr3, hr4⟩
 all_goals
   go_enter Tryz.func103, Tryz.ntmps103
   go_wp2_with fail
   refine (Xeb _ _ _ xs _ (((HX.out.alloc (Nat.le_refl _) _).alloc (by simp) _).more y3)).mono ?_
   rintro e w1 ⟨rfl, hb1⟩
   have hz1 := hb1.size
   (try simp only [World.size_alloc, World.size_setCell, World.size_drew] at hz1)
   have k1_0 := fun o => (Xab hb1).1 (w.heap.size) o y0
   have l1_0 : (w.heap.size) < w1.heap.size := (by omega)
   have q1_0 := fun o => (Xab hb1).2 (w.heap.size) o y0
   have k1_1 := fun o => (Xab hb1).1 (w.heap.size + 1) o y0
   have l1_1 : (w.heap.size + 1) < w1.heap.size := (by omega)
   have q1_1 := fun o => (Xab hb1).2 (w.heap.size + 1) o y0
   simp (maxDischargeDepth := 6) [go_sem, *] at k1_0 q1_0 k1_1 q1_1
   have HB1 := Zh hb1
   clear hb1
   go_wp2
   refine bodyPost_ret (v := .tuple #[.agg #[.bool false, .bool false, .bool false, .bool false, .int .i64 0], .int .i64 0, .int .i64 4]) ?_ rfl ⟨rfl, ?_⟩
   · simp (maxDischargeDepth := 8) [results, Tryz.results103, go_sem, *]
   · (repeat (first | (with_reducible exact Below.refl _ _) | (with_reducible refine Below.drew ?_) | (with_reducible refine Xai ?_ _) | ((with_reducible refine Below.setCell ?_ ?_ _); rotate_left; exact y0) | ((with_reducible refine Below.alloc ?_ ?_ _); rotate_left; exact y0) | ((with_reducible refine Below.trans ?_ (HB1.out.mono ?_)); rotate_left; exact y0)))
theorem Xp7 (A : Option Addr) (n c : Nat) (xs : List Int) (root page : Int) (wr : Bool) (w : World) (h : Ints w w.heap.size A n xs) (h0 : cm xs = 0) (hin : inP root page) (v r u l : Bool) (p f : Int) (hq : Xcu xs root page = (⟨v, r, u, l, p⟩, f)) (hf : f ≠ 0) :
    Calls Tryz.prog 103 #[.agg #[.slice A n c], .int .i64 root, .int .i64 page, .bool wr] w fun e w' => e = .returned (.tuple #[.agg #[.bool v, .bool r, .bool u, .bool l, .int .i64 p], .int .i64 f, .int .i64 0]) ∧ Below w.heap.size w w' := by
 revert n h hin; refine_lift z153 ?_; intro _ H0 HIN HQ h HX; iterate 4 intro
 have hf1 : (f == 0) = false := by rw [beq_eq_false_iff_ne]; exact hf
 clear h h0 hq hf
 go_enter Tryz.func103, Tryz.ntmps103
 go_wp2_with fail
 refine z128 ?_
 refine z49 ?_; intro _ _ _ _ _ _ _ _ HB1
 go_wp2_with fail
 refine (Xjf _ _ xs root page v r u l p f _ ((((HX.out.alloc (Nat.le_refl _) _).alloc (by simp) _).below (HB1.out.mono y3)).more (by omega)) H0.out HIN.out HQ.out).mono ?_
 refine z89 ?_; intro _ _ _ _ _ _ _ _ HB2
 go_wp2
 refine bodyPost_ret (v := .tuple #[.agg #[.bool v, .bool r, .bool u, .bool l, .int .i64 p], .int .i64 f, .int .i64 0]) ?_ rfl ⟨rfl, ?_⟩
 · simp (maxDischargeDepth := 8) [results, Tryz.results103, go_sem, *]
 · exact z11
theorem Xyg (A : Option Addr) (n c : Nat) (xs : List Int) (root page : Int) (wr : Bool) (w : World) (h : Ints w w.heap.size A n xs) (h0 : cm xs = 0) (hin : inP root page) (v r u l : Bool) (p f : Int) (hq : Xcu xs root page = (⟨v, r, u, l, p⟩, f)) (hf : f = 0) (hr : (r && (!wr || u)) = false) :
    Calls Tryz.prog 103 #[.agg #[.slice A n c], .int .i64 root, .int .i64 page, .bool wr] w fun e w' => e = .returned (.tuple #[.agg #[.bool false, .bool false, .bool false, .bool false, .int .i64 0], .int .i64 5, .int .i64 0]) ∧ Below w.heap.size w w' := by
 revert n h hin; refine_lift z153 ?_; intro _ H0 HIN HQ h HX; iterate 4 intro
 subst hf
 have HR := Zh hr
 clear h h0 hq hr
 go_enter Tryz.func103, Tryz.ntmps103
 go_wp2_with fail
 refine z128 ?_
 refine z49 ?_; intro _ _ _ _ _ _ _ _ HB1
 go_wp2_with fail
 refine z222 ?_
 refine z89 ?_; intro w2 _ _ _ _ _ _ _ HB2
 go_wp2_with fail
 refine z97 ?_; intro _ _ _ _ _ _ _ _ HB3
 go_wp2
 refine bodyPost_ret (v := .tuple #[.agg #[.bool false, .bool false, .bool false, .bool false, .int .i64 0], .int .i64 5, .int .i64 0]) ?_ rfl ⟨rfl, ?_⟩
 · simp (maxDischargeDepth := 8) [results, Tryz.results103, go_sem, *]
 exact z35
theorem Xvc (A : Option Addr) (n c : Nat) (xs : List Int) (root page : Int) (wr : Bool) (w : World) (h : Ints w w.heap.size A n xs) (h0 : cm xs = 0) (hin : inP root page) (v r u l : Bool) (p f : Int) (hq : Xcu xs root page = (⟨v, r, u, l, p⟩, f)) (hf : f = 0) (hr : (r && (!wr || u)) = true) :
    Calls Tryz.prog 103 #[.agg #[.slice A n c], .int .i64 root, .int .i64 page, .bool wr] w fun e w' => e = .returned (.tuple #[.agg #[.bool v, .bool r, .bool u, .bool l, .int .i64 p], .int .i64 0, .int .i64 0]) ∧ Below w.heap.size w w' := by
 revert n h hin; refine_lift z153 ?_; intro _ H0 HIN HQ h HX; iterate 4 intro
 subst hf
 have HR := Zh hr
 clear h h0 hq hr
 go_enter Tryz.func103, Tryz.ntmps103
 go_wp2_with fail
 refine z128 ?_
 refine z49 ?_; intro _ _ _ _ _ _ _ _ HB1
 go_wp2_with fail
 refine z222 ?_
 refine z89 ?_; intro w2 _ _ _ _ _ _ _ HB2
 go_wp2_with fail
 refine z97 ?_; intro _ _ _ _ _ _ _ _ HB3
 go_wp2
 refine bodyPost_ret (v := .tuple #[.agg #[.bool v, .bool r, .bool u, .bool l, .int .i64 p], .int .i64 0, .int .i64 0]) ?_ rfl ⟨rfl, ?_⟩
 · simp (maxDischargeDepth := 8) [results, Tryz.results103, go_sem, *]
 exact z35
theorem Xqd (A : Option Addr) (n c : Nat) (xs : List Int) (root page : Int) (wr : Bool) (w : World) (h : Ints w w.heap.size A n xs) :
    Calls Tryz.prog 103 #[.agg #[.slice A n c], .int .i64 root, .int .i64 page, .bool wr] w fun e w' => e = .returned (.tuple #[(Xgk xs root page wr).1.val, .int .i64 (Xgk xs root page wr).2.1, .int .i64 (Xgk xs root page wr).2.2]) ∧ Below w.heap.size w w' := by
 by_cases h0 : cm xs = 0
 · by_cases hin : inP root page
   · have e : Xgk xs root page wr = ((Xbx xs root page wr).1, (Xbx xs root page wr).2, 0) := by unfold Xgk; rw [if_pos h0, if_pos hin]
     rw [e]
     have hk := Xhv xs root page
     unfold Xbx
     generalize hq : Xcu xs root page = q at *
     obtain ⟨⟨v, r, u, l, p⟩, f⟩ := q
     dsimp only at *
     by_cases hf : f = 0
     · rw [if_pos hf]
       by_cases hr : (r && (!wr || u)) = true
       · rw [if_pos hr]
         subst hf
         exact Xvc A n c xs root page wr w h h0 hin v r u l p 0 hq rfl hr
       · rw [if_neg hr]
         exact Xyg A n c xs root page wr w h h0 hin v r u l p f hq hf (by simpa using hr)
     · rw [if_neg hf]
       rcases hk with hk | ⟨hk, _⟩
       · exact absurd hk.1 hf
       · simp only [] at hk
         rw [← hk]
         exact Xp7 A n c xs root page wr w h h0 hin v r u l p f hq hf
   · have e : Xgk xs root page wr = (.no, 0, 4) := by unfold Xgk; rw [if_pos h0, if_neg hin]
     rw [e]
     exact Xvd A n c xs root page wr w h h0 hin
 · have e : Xgk xs root page wr = (.no, 0, cm xs) := by unfold Xgk; rw [if_neg h0]
   rw [e]
   exact Xyh A n c xs root page wr w h h0
end
section
theorem Xwc (A : Option Addr) (n c : Nat) (xs : List Int) (root page : Int) (wr : Bool) (v r u l : Bool) (p f e : Int) (w : World) (h : Ints w w.heap.size A n xs) (hq : Xgk xs root page wr = (⟨v, r, u, l, p⟩, f, e)) :
    Calls Tryz.prog 103 #[.agg #[.slice A n c], .int .i64 root, .int .i64 page, .bool wr] w fun e' w' => e' = .returned (.tuple #[.agg #[.bool v, .bool r, .bool u, .bool l, .int .i64 p], .int .i64 f, .int .i64 e]) ∧ Below w.heap.size w w' := by
 have := Xqd A n c xs root page wr w h
 rw [hq] at this
 exact this
end
end Go.Proofs.YtbopdijnojaaiadGreat
