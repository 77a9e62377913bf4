/- Rings: the walks of the program's Push and Pop. No statement of the seat is proved here. -/
import Derived.Test.YtbopdijnojaaiadGreatZz
import Derived.Test.YtbopdijnojaaiadGreatBase
import Derived.Test.YtbopdijnojaaiadGreatMem
import Derived.Test.YtbopdijnojaaiadGreatSlices
namespace Go.Proofs.YtbopdijnojaaiadGreat
set_option maxRecDepth 100000
set_option maxHeartbeats 4000000
open Go.RowKit
set_option linter.unusedSimpArgs false
set_option linter.unusedVariables false
section
section
theorem OwnI.drew {B : Nat} {w : World} {A : Option Addr} {n c : Nat} {xs : List Int} (h : OwnI B w A n c xs) : OwnI B w.drew A n c xs := h
theorem OwnI.drewN {B : Nat} {w : World} {A : Option Addr} {n c : Nat} {xs : List Int} (h : OwnI B w A n c xs) (k : Nat) : OwnI B (w.drewN k) A n c xs := h
theorem tmod8 (d : Int) (h : -8 < d ∧ d < 8) : d.tmod 8 = d := by
 rcases Int.le_total 0 d with h0 | h0
 · rw [Int.tmod_eq_emod_of_nonneg h0]; omega
 · obtain ⟨m, rfl⟩ : ∃ m, d = -m := ⟨-d, by omega⟩
   rw [Int.neg_tmod, Int.tmod_eq_emod_of_nonneg (by omega)]; omega
theorem Xji (p h t : Int) (w : World) : Calls Tryz.prog 56 #[.agg #[.int .i64 p, .int .i64 h, .int .i64 t]] w fun e w' => e = .returned (.int .i64 (ckR ⟨p, h, t⟩)) ∧ Below w.heap.size w w' := by
 refine z148 ?_; intro HB
 by_cases hr : Xcj ⟨p, h, t⟩
 · rw [Xl2 hr]
   revert hr; refine_lift z216 ?_; intro h1 h2 h3 h4 h5 _
   go_enter Tryz.func56, Tryz.ntmps56
   go_wp2
   go_ret
   exact ⟨rfl, HB.out _⟩
 · rw [Xng hr]
   unfold Xcj at hr
   simp only [] at hr
   have hr2 : p < 0 ∨ (0 ≤ p ∧ 64 ≤ p) ∨ (0 ≤ p ∧ p < 64 ∧ h < 0) ∨ (0 ≤ p ∧ p < 64 ∧ 0 ≤ h ∧ 8 ≤ h) ∨ (0 ≤ p ∧ p < 64 ∧ 0 ≤ h ∧ h < 8 ∧ t < 0) ∨ (0 ≤ p ∧ p < 64 ∧ 0 ≤ h ∧ h < 8 ∧ 0 ≤ t ∧ 8 ≤ t) := by omega
   clear hr
   rcases hr2 with hr | ⟨h1, hr⟩ | ⟨h1, h2, hr⟩ | ⟨h1, h2, h3, hr⟩ | ⟨h1, h2, h3, h4, hr⟩ | ⟨h1, h2, h3, h4, h5, hr⟩
   all_goals
     go_enter Tryz.func56, Tryz.ntmps56
     go_wp2
     go_ret
     exact ⟨rfl, HB.out _⟩
theorem Xex (p h t : Int) (hr : Xcj ⟨p, h, t⟩) (w : World) : Calls Tryz.prog 71 #[.agg #[.int .i64 p, .int .i64 h, .int .i64 t]] w fun e w' => e = .returned (.int .i64 (lenR ⟨p, h, t⟩)) ∧ Below w.heap.size w w' := by
 refine z148 ?_; intro HB
 revert hr; refine_lift z216 ?_; iterate 6 intro
 have ht := tmod8 (t - h) (by omega)
 have HE := Zh (show (t - h + 8) % 8 = lenR ⟨p, h, t⟩ by unfold lenR; simp only []; omega)
 go_enter Tryz.func71, Tryz.ntmps71
 go_wp2
 go_ret
 exact ⟨Xbe HE.out, HB.out _⟩
theorem Xia (A : Option Addr) (n c : Nat) (xs : List Int) (p h t : Int) (w : World) (hx : Ints w w.heap.size A n xs) :
    Calls Tryz.prog 70 #[.agg #[.slice A n c], .agg #[.int .i64 p, .int .i64 h, .int .i64 t]] w fun e w' => e = .returned (.int .i64 (Xc8 xs ⟨p, h, t⟩)) ∧ Below w.heap.size w w' := by
 have HX := Zh hx
 by_cases h0 : cm xs = 0
 · have e : Xc8 xs ⟨p, h, t⟩ = ckR ⟨p, h, t⟩ := by unfold Xc8; rw [if_pos h0]
   rw [e]
   have hc0 : (cm xs != 0) = false := by rw [bne_eq_false_iff_eq]; exact h0
   clear hx h0 e
   go_enter Tryz.func70, Tryz.ntmps70
   go_wp2_with fail
   refine z128 ?_
   refine z33 ?_; intro w1 hb1 hz1
   refine z46 ?_; intro k1_0 l1_0 q1_0
   revert hb1 k1_0 q1_0; refine_lift z93 ?_; intro k1_0 q1_0 HB1
   go_wp2_with fail
   refine (Xji _ _ _ _).mono ?_
   exact z157
 · have e : Xc8 xs ⟨p, h, t⟩ = cm xs := by unfold Xc8; rw [if_neg h0]
   rw [e]
   have hc0 : (cm xs != 0) = true := by rw [bne_iff_ne]; exact h0
   clear hx h0 e
   go_enter Tryz.func70, Tryz.ntmps70
   go_wp2_with fail
   refine z128 ?_
   refine z33 ?_; intro w1 hb1 _
   refine z46 ?_; intro k1_0 _ q1_0
   revert hb1 k1_0 q1_0; refine_lift z93 ?_; intro _ _ HB1
   go_wp2
   go_ret
   exact z21
end
section
theorem Xmx (A : Option Addr) (n c : Nat) (xs : List Int) (p h t : Int) (w : World) (hx : Ints w w.heap.size A n xs) (hE : popE xs ⟨p, h, t⟩ ≠ 0) :
    Calls Tryz.prog 46 #[.agg #[.slice A n c], .agg #[.int .i64 p, .int .i64 h, .int .i64 t]] w fun e w' => e = .returned (.tuple #[.int .i64 0, .agg #[.int .i64 0, .int .i64 0, .int .i64 0], .int .i64 (popE xs ⟨p, h, t⟩)]) ∧ Below w.heap.size w w' := by
 have HX := Zh hx
 have HE := Zh hE
 clear hE
 by_cases hb : Xc8 xs ⟨p, h, t⟩ = 0
 · refine z215 ?_; intro hb0
   have HR := Zh (Xfj hb).2
   by_cases hl : lenR ⟨p, h, t⟩ = 0
   · rw [popE_6 hb hl]
     clear hb hx
     go_enter Tryz.func46, Tryz.ntmps46
     go_wp2_with fail
     refine z176 ?_
     refine z33 ?_; intro w1 hb1 hz1
     refine z46 ?_; intro k1_0 l1_0 q1_0
     refine z41 ?_; intro k1_1 _ q1_1
     revert hb1 k1_0 q1_0 k1_1 q1_1; refine_lift z175 ?_; intro k1_0 q1_0 _ _ HB1
     go_wp2_with fail
     refine (Xex p h t HR.out _).mono ?_
     refine z72 ?_; intro _ hb2 _ k2_0 _ q2_0
     simp (maxDischargeDepth := 6) [go_sem, *] at k2_0 q2_0
     have HB2 := Zh hb2
     clear hb2
     go_wp2_with fail
     all_goals (try go_region)
     all_goals (try go_wp2)
     all_goals
       refine bodyPost_ret (v := .tuple #[.int .i64 0, .agg #[.int .i64 0, .int .i64 0, .int .i64 0], .int .i64 6]) ?_ rfl ⟨rfl, ?_⟩
       · simp (maxDischargeDepth := 8) [results, Tryz.results46, go_sem, *]
       · (repeat (first | (with_reducible exact Below.refl _ _) | (with_reducible refine Below.drew ?_) | (with_reducible refine Xai ?_ _) | ((with_reducible refine Below.setCell ?_ ?_ _); rotate_left; exact y0) | ((with_reducible refine Below.alloc ?_ ?_ _); rotate_left; exact y0) | ((with_reducible refine Below.trans ?_ (HB2.out.mono ?_)); rotate_left; exact y0) | ((with_reducible refine Below.trans ?_ (HB1.out.mono ?_)); rotate_left; exact y0)))
   · exact absurd (popE_0 hb hl) HE.out
 · rw [popE_b hb]
   have hb0 : (Xc8 xs ⟨p, h, t⟩ != 0) = true := by rw [bne_iff_ne]; exact hb
   clear hb hx
   go_enter Tryz.func46, Tryz.ntmps46
   go_wp2_with fail
   refine z176 ?_
   refine z125 ?_; intro _ hb1 _ k1_0 _ q1_0
   revert hb1 k1_0 q1_0; refine_lift z93 ?_; intro _ _ HB1
   go_wp2_with fail
   all_goals (try go_region)
   all_goals (try go_wp2)
   all_goals
     refine bodyPost_ret (v := .tuple #[.int .i64 0, .agg #[.int .i64 0, .int .i64 0, .int .i64 0], .int .i64 (Xc8 xs ⟨p, h, t⟩)]) ?_ rfl ⟨rfl, ?_⟩
     · simp (maxDischargeDepth := 8) [results, Tryz.results46, go_sem, *]
     · (repeat (first | (with_reducible exact Below.refl _ _) | (with_reducible refine Below.drew ?_) | (with_reducible refine Xai ?_ _) | ((with_reducible refine Below.setCell ?_ ?_ _); rotate_left; exact y0) | ((with_reducible refine Below.alloc ?_ ?_ _); rotate_left; exact y0) | ((with_reducible refine Below.trans ?_ (HB1.out.mono ?_)); rotate_left; exact y0)))
theorem Xtq (A : Option Addr) (n c : Nat) (xs : List Int) (p h t : Int) (w : World) (hx : Ints w w.heap.size A n xs) (hE : popE xs ⟨p, h, t⟩ = 0) :
    Calls Tryz.prog 46 #[.agg #[.slice A n c], .agg #[.int .i64 p, .int .i64 h, .int .i64 t]] w fun e w' => e = .returned (.tuple #[.int .i64 (popV xs ⟨p, h, t⟩), .agg #[.int .i64 p, .int .i64 ((h + 1) % 8), .int .i64 t], .int .i64 0]) ∧ Below w.heap.size w w' := by
 obtain ⟨hb, hl⟩ := Xty hE
 obtain ⟨h0, hr⟩ := Xfj hb
 have hn : n = 512 := by rw [← hx.len]; exact (Xb4 h0).1
 subst hn
 have HX := Zh hx
 have HR := Zh hr
 refine z215 ?_; intro _
 have hl0 : (lenR ⟨p, h, t⟩ == 0) = false := by rw [beq_eq_false_iff_ne]; exact hl
 revert hr; refine_lift z216 ?_; iterate 6 intro
 have hv := Xhq (xs := xs) (i := p * 8 + h) (Xb4 h0).1 (by omega)
 obtain ⟨b, off, rfl, hbb, hc⟩ := hx.at_ (by omega)
 have hcv := hc _ _ hv
 rw [show rd xs (p * 8 + h) = popV xs ⟨p, h, t⟩ from rfl] at hcv
 generalize popV xs ⟨p, h, t⟩ = x at *
 clear hb h0 hx hE hl hv hc
 go_enter Tryz.func46, Tryz.ntmps46
 go_wp2_with fail
 refine z176 ?_
 refine z67 ?_; (iterate 14 intro); intro HB1
 go_wp2_with fail
 refine (Xex p h t HR.out _).mono ?_
 rintro e w2 ⟨rfl, hb2⟩
 refine z7 ?_; intro _ k2_0 _ q2_0 k2_1 _ q2_1
 refine z43 ?_; intro k2_2 _ q2_2
 have k2_3 := fun o => (Xab hb2).1 (b) o y0
 have l2_3 : (b) < w2.heap.size := (by omega)
 have q2_3 := fun o => (Xab hb2).2 (b) o y0
 simp (maxDischargeDepth := 6) [go_sem, *] at k2_0 q2_0 k2_1 q2_1 k2_2 q2_2 k2_3 q2_3
 have HB2 := Zh hb2
 clear hb2
 go_wp2_with fail
 all_goals (try go_region)
 all_goals (try go_wp2)
 all_goals
   refine bodyPost_ret (v := .tuple #[.int .i64 x, .agg #[.int .i64 p, .int .i64 ((h + 1) % 8), .int .i64 t], .int .i64 0]) ?_ rfl ⟨rfl, ?_⟩
   · simp (maxDischargeDepth := 8) [results, Tryz.results46, go_sem, *]
   · (repeat (first | (with_reducible exact Below.refl _ _) | (with_reducible refine Below.drew ?_) | (with_reducible refine Xai ?_ _) | ((with_reducible refine Below.setCell ?_ ?_ _); rotate_left; exact y0) | ((with_reducible refine Below.alloc ?_ ?_ _); rotate_left; exact y0) | ((with_reducible refine Below.trans ?_ (HB2.out.mono ?_)); rotate_left; exact y0) | ((with_reducible refine Below.trans ?_ (HB1.out.mono ?_)); rotate_left; exact y0)))
theorem Xgp (p h t : Int) (w : World) : Calls Tryz.prog 53 #[.agg #[.int .i64 p, .int .i64 h, .int .i64 t]] w fun e w' => e = .returned (.int .i64 (ckR ⟨p, h, t⟩)) ∧ Below w.heap.size w w' := by
 refine z148 ?_; intro HB
 by_cases hp : 0 ≤ p ∧ p ≤ 63
 · by_cases hh : 0 ≤ h ∧ h ≤ 7
   · by_cases ht : 0 ≤ t ∧ t ≤ 7
     · rw [Xl2 (show Xcj ⟨p, h, t⟩ by unfold Xcj; simp only []; omega)]
       have i1 := Xb8 hp
       have i2 := Xb8 hh
       have i3 := Xb8 ht
       clear hp hh ht
       go_enter Tryz.func53, Tryz.ntmps53
       exact z65
     · rw [Xng (show ¬ Xcj ⟨p, h, t⟩ by unfold Xcj; simp only []; omega)]
       have i1 := Xb8 hp
       have i2 := Xb8 hh
       have i3 := Xfx ht
       clear hp hh ht
       go_enter Tryz.func53, Tryz.ntmps53
       exact z65
   · rw [Xng (show ¬ Xcj ⟨p, h, t⟩ by unfold Xcj; simp only []; omega)]
     have i1 := Xb8 hp
     have i2 := Xfx hh
     clear hp hh
     go_enter Tryz.func53, Tryz.ntmps53
     exact z65
 · rw [Xng (show ¬ Xcj ⟨p, h, t⟩ by unfold Xcj; simp only []; omega)]
   have i1 := Xfx hp
   clear hp
   go_enter Tryz.func53, Tryz.ntmps53
   exact z65
theorem Xfe (p h t : Int) (hr : Xcj ⟨p, h, t⟩) (w : World) : Calls Tryz.prog 89 #[.agg #[.int .i64 p, .int .i64 h, .int .i64 t]] w fun e w' => e = .returned (.int .i64 (lenR ⟨p, h, t⟩)) ∧ Below w.heap.size w w' := by
 refine z148 ?_; intro HB
 revert hr; refine_lift z216 ?_; iterate 6 intro
 have hL : lenR ⟨p, h, t⟩ = (t - h) % 8 := rfl
 obtain ⟨L, hl⟩ := Int.eq_ofNat_of_zero_le (show 0 ≤ (t - h) % 8 by omega)
 rw [hL, hl]
 have HL := Zh hl
 clear hL hl
 have hL7 : L ≤ 7 := by have := HL.out; omega
 go_enter Tryz.func89, Tryz.ntmps89
 go_wp2
 go_loop [3, 4] (fun n k => ∃ j : Nat, j ≤ L ∧ n = .int .i64 j ∧ k = .int .i64 ((h + j) % 8)) (fun n _ => L - (intOf n).toNat)
 case atStart => exact ⟨0, by omega, rfl, by simp; omega⟩
 case round =>
   obtain ⟨j, hj, rfl, rfl⟩ := hrel
   have hb1 : 0 ≤ (h + (j : Int)) % 8 := by omega
   have hb2 : (h + (j : Int)) % 8 < 8 := by omega
   by_cases hlt : j < L
   · have ht : ((h + (j : Int)) % 8 != t) = true := by rw [bne_iff_ne]; have := HL.out; omega
     have HS := Zh (show ((h + (j : Int)) % 8 + 1) % 8 = (h + ((j + 1 : Nat) : Int)) % 8 by omega)
     generalize (h + (j : Int)) % 8 = y at *
     go_wp2
     go_round
     case rel => exact ⟨j + 1, by omega, by go_num, by rw [HS.out]⟩
     case measure => simp [intOf]; omega
   · obtain rfl : j = L := by omega
     have ht : ((h + (j : Int)) % 8 != t) = false := by rw [bne_eq_false_iff_eq]; have := HL.out; omega
     generalize (h + (j : Int)) % 8 = y at *
     go_wp2
     go_ret
     exact ⟨rfl, HB.out _⟩
end
end
section
theorem Xla (A : Option Addr) (n c : Nat) (xs : List Int) (p h t v : Int) (w : World) (hx : Ints w w.heap.size A n xs) (hE : Xff xs ⟨p, h, t⟩ v ≠ 0) :
    Calls Tryz.prog 95 #[.agg #[.slice A n c], .agg #[.int .i64 p, .int .i64 h, .int .i64 t], .int .i64 v] w fun e w' => e = .returned (.tuple #[.agg #[.slice none 0 0], .agg #[.int .i64 0, .int .i64 0, .int .i64 0], .int .i64 (Xff xs ⟨p, h, t⟩ v)]) ∧ Below w.heap.size w w' := by
 have HX := Zh hx
 have HE := Zh hE
 clear hE
 by_cases hb : Xc8 xs ⟨p, h, t⟩ = 0
 · refine z215 ?_; intro hb0
   have HR := Zh (Xfj hb).2
   by_cases hv : 0 ≤ v ∧ v ≤ 65535
   · by_cases hl : lenR ⟨p, h, t⟩ = 7
     · rw [Xrh hb hv hl]
       obtain ⟨h1, h2⟩ := hv
       clear hb hx
       go_enter Tryz.func95, Tryz.ntmps95
       go_wp2_with fail
       refine z164 ?_
       refine z33 ?_; intro w1 hb1 hz1
       refine z46 ?_; intro k1_0 l1_0 q1_0
       refine z41 ?_; intro k1_1 l1_1 q1_1
       refine z182 ?_; intro k1_2 _ q1_2
       simp (maxDischargeDepth := 6) [go_sem, *] at k1_0 q1_0 k1_1 q1_1 k1_2 q1_2
       have HB1 := Zh hb1
       clear hb1
       go_wp2_with fail
       refine (Xex p h t HR.out _).mono ?_
       refine z72 ?_; intro w2 hb2 _ k2_0 _ q2_0
       have k2_1 := fun o => (Xab hb2).1 (w.heap.size + 1 + 1 + 1) o y0
       have l2_1 : (w.heap.size + 1 + 1 + 1) < w2.heap.size := (by omega)
       have q2_1 := fun o => (Xab hb2).2 (w.heap.size + 1 + 1 + 1) o y0
       simp (maxDischargeDepth := 6) [go_sem, *] at k2_0 q2_0 k2_1 q2_1
       have HB2 := Zh hb2
       clear hb2
       go_wp2_with fail
       all_goals (try go_region)
       all_goals (try go_wp2)
       all_goals
         refine bodyPost_ret (v := .tuple #[.agg #[.slice none 0 0], .agg #[.int .i64 0, .int .i64 0, .int .i64 0], .int .i64 1]) ?_ rfl ⟨rfl, ?_⟩
         · simp (maxDischargeDepth := 8) [results, Tryz.results95, go_sem, *]
         · (repeat (first | (with_reducible exact Below.refl _ _) | (with_reducible refine Below.drew ?_) | (with_reducible refine Xai ?_ _) | ((with_reducible refine Below.setCell ?_ ?_ _); rotate_left; exact y0) | ((with_reducible refine Below.alloc ?_ ?_ _); rotate_left; exact y0) | ((with_reducible refine Below.trans ?_ (HB2.out.mono ?_)); rotate_left; exact y0) | ((with_reducible refine Below.trans ?_ (HB1.out.mono ?_)); rotate_left; exact y0)))
     · exact absurd (Xm3 hb hv hl) HE.out
   · rw [Xwv hb hv]
     have hv2 : v < 0 ∨ (0 ≤ v ∧ 65535 < v) := by omega
     clear hb hx hv
     rcases hv2 with hv2 | ⟨hv2, hv3⟩
     all_goals
       go_enter Tryz.func95, Tryz.ntmps95
       go_wp2_with fail
       refine (Xia _ _ _ xs p h t _ ((HX.out.alloc (Nat.le_refl _) _ |>.alloc (by simp) _ |>.alloc y3 _ |>.alloc y3 _).more y3)).mono ?_
       rintro e w1 ⟨rfl, hb1⟩
       have hz1 := hb1.size
       (try simp only [World.size_alloc, World.size_setCell, World.size_drew] at hz1)
       have k1_0 := fun o => (Xab hb1).1 (w.heap.size + 1 + 1) o y0
       have l1_0 : (w.heap.size + 1 + 1) < w1.heap.size := (by omega)
       have q1_0 := fun o => (Xab hb1).2 (w.heap.size + 1 + 1) o y0
       have k1_1 := fun o => (Xab hb1).1 (w.heap.size + 1 + 1 + 1) o y0
       have l1_1 : (w.heap.size + 1 + 1 + 1) < w1.heap.size := (by omega)
       have q1_1 := fun o => (Xab hb1).2 (w.heap.size + 1 + 1 + 1) o y0
       simp (maxDischargeDepth := 6) [go_sem, *] at k1_0 q1_0 k1_1 q1_1
       have HB1 := Zh hb1
       clear hb1
       go_wp2_with fail
       all_goals (try go_region)
       all_goals (try go_wp2)
       all_goals
         refine bodyPost_ret (v := .tuple #[.agg #[.slice none 0 0], .agg #[.int .i64 0, .int .i64 0, .int .i64 0], .int .i64 2]) ?_ rfl ⟨rfl, ?_⟩
         · simp (maxDischargeDepth := 8) [results, Tryz.results95, go_sem, *]
         · (repeat (first | (with_reducible exact Below.refl _ _) | (with_reducible refine Below.drew ?_) | (with_reducible refine Xai ?_ _) | ((with_reducible refine Below.setCell ?_ ?_ _); rotate_left; exact y0) | ((with_reducible refine Below.alloc ?_ ?_ _); rotate_left; exact y0) | ((with_reducible refine Below.trans ?_ (HB1.out.mono ?_)); rotate_left; exact y0)))
 · rw [Xww hb]
   have hb0 : (Xc8 xs ⟨p, h, t⟩ != 0) = true := by rw [bne_iff_ne]; exact hb
   clear hb hx
   go_enter Tryz.func95, Tryz.ntmps95
   go_wp2_with fail
   refine z164 ?_
   refine z125 ?_; intro w1 hb1 _ k1_0 _ q1_0
   have k1_1 := fun o => (Xab hb1).1 (w.heap.size + 1 + 1 + 1) o y0
   have l1_1 : (w.heap.size + 1 + 1 + 1) < w1.heap.size := (by omega)
   have q1_1 := fun o => (Xab hb1).2 (w.heap.size + 1 + 1 + 1) o y0
   revert hb1 k1_0 q1_0 k1_1 q1_1; refine_lift z175 ?_; intro _ _ _ _ HB1
   go_wp2_with fail
   all_goals (try go_region)
   all_goals (try go_wp2)
   all_goals
     refine bodyPost_ret (v := .tuple #[.agg #[.slice none 0 0], .agg #[.int .i64 0, .int .i64 0, .int .i64 0], .int .i64 (Xc8 xs ⟨p, h, t⟩)]) ?_ rfl ⟨rfl, ?_⟩
     · simp (maxDischargeDepth := 8) [results, Tryz.results95, go_sem, *]
     · (repeat (first | (with_reducible exact Below.refl _ _) | (with_reducible refine Below.drew ?_) | (with_reducible refine Xai ?_ _) | ((with_reducible refine Below.setCell ?_ ?_ _); rotate_left; exact y0) | ((with_reducible refine Below.alloc ?_ ?_ _); rotate_left; exact y0) | ((with_reducible refine Below.trans ?_ (HB1.out.mono ?_)); rotate_left; exact y0)))
theorem Xq5 (A : Option Addr) (n c : Nat) (xs : List Int) (p h t v : Int) (w : World) (hx : Ints w w.heap.size A n xs) (hE : Xff xs ⟨p, h, t⟩ v = 0) :
    Calls Tryz.prog 95 #[.agg #[.slice A n c], .agg #[.int .i64 p, .int .i64 h, .int .i64 t], .int .i64 v] w fun e w' => ∃ A' c', e = .returned (.tuple #[.agg #[.slice A' 512 c'], .agg #[.int .i64 p, .int .i64 h, .int .i64 ((t + 1) % 8)], .int .i64 0]) ∧ OwnI w.heap.size w' A' 512 c' (Xj5 xs ⟨p, h, t⟩ v) ∧ Below w.heap.size w w' := by
 obtain ⟨hb, hv, hl⟩ := Xlh hE
 obtain ⟨h0, hr⟩ := Xfj hb
 have hn : n = 512 := by rw [← hx.len]; exact (Xb4 h0).1
 subst hn
 have HX := Zh hx
 have HL := Zh (Xb4 h0).1
 have HR := Zh hr
 refine z215 ?_; intro _
 have hl0 : (lenR ⟨p, h, t⟩ == 7) = false := by rw [beq_eq_false_iff_ne]; exact hl
 obtain ⟨v1, v2⟩ := hv
 revert hr; refine_lift z216 ?_; iterate 6 intro
 clear hb h0 hx hE hl
 go_enter Tryz.func95, Tryz.ntmps95
 go_wp2_with fail
 refine z164 ?_
 refine z2 ?_; intro w1 hb1 _ k1_0 _ q1_0
 refine z10 ?_; intro k1_1 _ q1_1
 refine z29 ?_; intro k1_2 _ q1_2
 refine z91 ?_; intro k1_3 _ q1_3
 simp (maxDischargeDepth := 6) [go_sem, *] at k1_0 q1_0 k1_1 q1_1 k1_2 q1_2 k1_3 q1_3
 have HB1 := Zh hb1
 clear hb1
 have X1 := Zh ((((HX.out.alloc (Nat.le_refl _) (.cells #[.slice A 512 c] 24) |>.alloc (by simp) (.cells #[.int .i64 p, .int .i64 h, .int .i64 t] 29) |>.alloc y3 (.cells #[.slice none 0 0] 24) |>.alloc y3 (.cells #[.int .i64 0, .int .i64 0, .int .i64 0] 29)).below (HB1.out.mono y3))).more (B' := w1.heap.size) (by omega))
 go_wp2_with fail
 refine (Xex p h t HR.out _).mono ?_
 rintro e w2 ⟨rfl, hb2⟩
 refine z7 ?_; intro _ k2_0 _ q2_0 k2_1 _ q2_1
 refine z43 ?_; intro k2_2 _ q2_2
 refine z92 ?_; intro k2_3 _ q2_3
 simp (maxDischargeDepth := 6) [go_sem, *] at k2_0 q2_0 k2_1 q2_1 k2_2 q2_2 k2_3 q2_3
 have HB2 := Zh hb2
 clear hb2
 have X2 := Zh ((X1.out.below HB2.out).more (B' := w2.heap.size) (by omega))
 go_wp2_with fail
 refine (Xfp _ _ _ xs _ X2.out (by decide) (by decide)).mono ?_
 rintro e w3 ⟨A3, c3, rfl, ho, hb3⟩
 refine z25 ?_; intro _ k3_0 _ q3_0 k3_1 _ q3_1 k3_2 _ q3_2 k3_3 _ q3_3
 simp (maxDischargeDepth := 6) [go_sem, *] at k3_0 q3_0 k3_1 q3_1 k3_2 q3_2 k3_3 q3_3
 have HB3 := Zh hb3
 clear hb3
 have ho1 : OwnI w2.heap.size (w3.setCell ⟨w.heap.size, 0, none⟩ (.slice A3 512 c3)) A3 512 c3 xs := ho.set y3 _
 obtain ⟨g, rfl, hg1, hg2, hgc, hgf, hgs⟩ := Xbl ho1 (by decide)
 have HGS := Zh (hgs (p * 8 + t).toNat v (by omega))
 obtain ⟨x, hx⟩ := Xax xs (k := (p * 8 + t).toNat) (by rw [HL.out]; omega)
 have hcx := hgc _ _ hx
 have hne : ¬ g = w.heap.size := by omega
 have hne2 : ¬ g = w.heap.size + 1 := by omega
 clear ho1 hgc hgs hx ho
 go_wp2_with fail
 all_goals (try go_region)
 all_goals (try go_wp2)
 all_goals
   refine bodyPost_ret (v := .tuple #[.agg #[.slice (some ⟨g, 0, none⟩) 512 c3], .agg #[.int .i64 p, .int .i64 h, .int .i64 ((t + 1) % 8)], .int .i64 0]) ?_ rfl ⟨_, _, rfl, ?_, ?_⟩
   · simp (maxDischargeDepth := 8) [results, Tryz.results95, go_sem, *]
   · show OwnI _ _ _ _ _ (xs.set (p * 8 + t).toNat v)
     (refine OwnI.low (B := w2.heap.size) ?_ (by omega)); (repeat (first | (with_reducible refine OwnI.drew ?_) | (with_reducible refine OwnI.drewN ?_ _) | (with_reducible refine OwnI.alloc ?_ _) | (with_reducible exact HGS.out) | (with_reducible refine OwnI.set ?_ y19 _)))
   · (repeat (first | (with_reducible exact Below.refl _ _) | (with_reducible refine Below.drew ?_) | (with_reducible refine Xai ?_ _) | ((with_reducible refine Below.setCell ?_ ?_ _); rotate_left; exact y0) | ((with_reducible refine Below.alloc ?_ ?_ _); rotate_left; exact y0) | ((with_reducible refine Below.trans ?_ (HB3.out.mono ?_)); rotate_left; exact y0) | ((with_reducible refine Below.trans ?_ (HB2.out.mono ?_)); rotate_left; exact y0) | ((with_reducible refine Below.trans ?_ (HB1.out.mono ?_)); rotate_left; exact y0)))
end
end Go.Proofs.YtbopdijnojaaiadGreat
