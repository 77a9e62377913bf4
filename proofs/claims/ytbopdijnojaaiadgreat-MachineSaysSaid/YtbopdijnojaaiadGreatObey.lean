/- Orders obeyed: the program's Obey, whatever comes. No statement of the seat is proved here. -/
import Derived.Test.YtbopdijnojaaiadGreatZz
import Derived.Test.YtbopdijnojaaiadGreatBridgeS
import Derived.Test.YtbopdijnojaaiadGreatRingR
import Derived.Test.YtbopdijnojaaiadGreatWord
import Derived.Test.YtbopdijnojaaiadGreatDrop
namespace Go.Proofs.YtbopdijnojaaiadGreat
set_option maxRecDepth 100000
set_option maxHeartbeats 4000000
open Go.RowKit
set_option linter.unusedSimpArgs false
set_option linter.unusedVariables false
section
def Xno (w : World) (rb : Brg) (E : Int) (e : Ending) (w' : World) : Prop :=
  ∃ L n c, e = .returned (.tuple #[.agg (B_.b rb L n c), .int .i64 E]) ∧ Lines w' w'.heap.size L n c rb.cache ∧ Below w.heap.size w w' ∧ ∀ ad, L = some ad → w.heap.size ≤ ad.block
theorem Xm4 {w w' : World} {E : Int} (hb : Below w.heap.size w w') : Xno w .no E (.returned (.tuple #[.agg (B_.b Brg.no none 0 0), .int .i64 E])) w' :=
  ⟨none, 0, 0, rfl, Xb2 _ _, hb, fun _ h => by cases h⟩
section
variable (xs : List Int) (m : Option Addr) (nm cm' : Nat) (b : Brg) (A : Option Addr) (n c : Nat) (w : World) (hx : Ints w w.heap.size m nm xs) (hl : Lines w w.heap.size A n c b.cache)
include hx hl in
theorem Xvh (hE : allE xs b ≠ 0) :
    Calls Tryz.prog 14 #[.agg #[.slice m nm cm'], .agg (B_.b b A n c)] w (Xno w .no (allE xs b)) := by
 refine z189 ?_; intro HX HL
 have t1 : (allE xs b != 0) = true := by rw [bne_iff_ne]; exact hE
 clear hx hl hE
 go_enter Tryz.func14, Tryz.ntmps14
 go_wp2_with fail
 refine z20 ?_
 refine z125 ?_; intro _ hb1 _ k1_0 _ q1_0
 revert hb1 k1_0 q1_0; refine_lift z93 ?_; intro _ _ HB1
 go_wp2
 refine bodyPost_ret (v := .tuple #[.agg (B_.b Brg.no none 0 0), .int .i64 (allE xs b)]) ?_ rfl (Xm4 ?_)
 · simp (maxDischargeDepth := 8) [results, Tryz.results14, go_sem, Brg.no, Ring.no, *]
 exact z5
include hx hl in
theorem Xvg (hE : allE xs b = 0) (hs : b.stopped = true) :
    Calls Tryz.prog 14 #[.agg #[.slice m nm cm'], .agg (B_.b b A n c)] w (Xno w .no 6) := by
 refine z189 ?_; intro HX HL
 have HE := Zh hE
 have HS := Zh hs
 clear hx hl hE hs
 refine z217 ?_; iterate 6 intro
 refine z33 ?_; intro w1 hb1 _
 refine z46 ?_; intro k1_0 _ q1_0
 refine z41 ?_; intro k1_1 _ q1_1
 revert hb1 k1_0 q1_0 k1_1 q1_1; refine_lift z175 ?_; intro _ _ _ _ HB1
 have hs := HS.out
 go_wp2
 refine bodyPost_ret (v := .tuple #[.agg (B_.b Brg.no none 0 0), .int .i64 6]) ?_ rfl (Xm4 ?_)
 · simp (maxDischargeDepth := 8) [results, Tryz.results14, go_sem, Brg.no, Ring.no, *]
 exact z5
include hx hl in
theorem Xvf (hE : allE xs b = 0) (hs : b.stopped = false) (hp : popE xs b.orders ≠ 0) :
    Calls Tryz.prog 14 #[.agg #[.slice m nm cm'], .agg (B_.b b A n c)] w (Xno w .no (popE xs b.orders)) := by
 refine z189 ?_; intro HX HL
 have HE := Zh hE
 have HS := Zh hs
 have HP := Zh (show popE xs ⟨b.orders.page, b.orders.head, b.orders.tail⟩ ≠ 0 from hp)
 have t1 : (popE xs ⟨b.orders.page, b.orders.head, b.orders.tail⟩ != 0) = true := by rw [bne_iff_ne]; exact hp
 clear hx hl hE hs hp
 refine z217 ?_; iterate 6 intro
 refine z106 ?_; (iterate 11 intro); intro HB1
 have hs := HS.out
 go_wp2_with fail
 refine (Xmx _ _ _ xs _ _ _ _ (Xaf HX.out y30) HP.out).mono ?_
 refine z72 ?_; intro _ hb2 _ k2_0 _ q2_0
 simp (maxDischargeDepth := 6) [go_sem, *] at k2_0 q2_0
 have HB2 := Zh hb2
 clear hb2
 go_wp2
 refine bodyPost_ret (v := .tuple #[.agg (B_.b Brg.no none 0 0), .int .i64 (popE xs ⟨b.orders.page, b.orders.head, b.orders.tail⟩)]) ?_ rfl (Xm4 ?_)
 · simp (maxDischargeDepth := 8) [results, Tryz.results14, go_sem, Brg.no, Ring.no, *]
 · exact z11
end
section
variable (xs : List Int) (m : Option Addr) (cm' : Nat) (b : Brg) (A : Option Addr) (n c : Nat) (w : World) (hx : Ints w w.heap.size m 512 xs) (hl : Lines w w.heap.size A n c b.cache) (h0 : cm xs = 0) (hb : ckB b = 0) (hs : b.stopped = false) (hp : popE xs b.orders = 0) (v : Int) (hv : popV xs b.orders = v)
include hx hl h0 hb hs hp hv in
theorem Xvi (hr : rdoE v ≠ 0) :
    Calls Tryz.prog 14 #[.agg #[.slice m 512 cm'], .agg (B_.b b A n c)] w (Xno w { b with stopped := true } 0) := by
 refine z160 ?_; intro HX HL HE HS HP HV HN
 have t1 : (rdoE v != 0) = true := by rw [bne_iff_ne]; exact hr
 clear hx hl hs hp h0 hb hv hr
 refine z217 ?_; iterate 6 intro
 refine z2 ?_; intro w1 hb1 _ k1_0 l1_0 q1_0
 refine z10 ?_; intro k1_1 l1_1 q1_1
 refine z29 ?_; intro k1_2 l1_2 q1_2
 simp (maxDischargeDepth := 6) [go_sem, *] at k1_0 q1_0 k1_1 q1_1 k1_2 q1_2
 have HB1 := Zh hb1
 clear hb1
 have hs := HS.out
 go_wp2_with fail
 refine z68 ?_; intro _ _ l2_0 l2_1 k2_0 q2_0 k2_1 q2_1 HB2
 clear k1_0 q1_0 l1_0 k1_1 q1_1 l1_1 k1_2 q1_2 l1_2
 go_wp2_with fail
 refine z62 ?_; intro w3 A3 c3 ho3 hb3 _ k3_0 l3_0 q3_0 k3_1 l3_1 q3_1
 simp (maxDischargeDepth := 6) [go_sem, *] at k3_0 q3_0 k3_1 q3_1
 have HB3 := Zh hb3
 clear hb3
 have HO3 : Hid (OwnL (w.heap.size + 1 + 1 + 1) w3 A3 n c3 b.cache) := Zh (ho3.low y3)
 have HP3 := Zh (Xaw ho3.2.2.2)
 clear ho3 k2_0 q2_0 l2_0 k2_1 q2_1 l2_1
 go_wp2_with fail
 refine (Xf0 _ _).mono ?_
 rw [show rdoV v = .tuple #[.agg #[.int .i64 (rdoF v (v % 4)), .int .i64 (rdoF v (v / 4 % 8)), .int .i64 (rdoF v (v / 32))], .int .i64 (rdoE v)] from rfl]
 refine z57 ?_; intro _ hb4 _ k4_0_0 k4_0_1 k4_0_2 k4_0_3 k4_0_4 k4_0_5 k4_0_6 k4_0_7 k4_0_8 k4_0_9 k4_0_10 k4_0_11 _ q4_0 k4_1 _ q4_1
 simp (maxDischargeDepth := 6) [go_sem, *] at k4_0_0 k4_0_1 k4_0_2 k4_0_3 k4_0_4 k4_0_5 k4_0_6 k4_0_7 k4_0_8 k4_0_9 k4_0_10 k4_0_11 q4_0 k4_1 q4_1
 have HB4 := Zh hb4
 clear hb4
 clear k3_0 q3_0 l3_0 k3_1 q3_1 l3_1
 go_wp2
 refine bodyPost_ret (v := .tuple #[.agg (B_.b ({ b with stopped := true } : Brg) A3 n c3), .int .i64 0]) ?_ rfl ⟨A3, n, c3, rfl, ?_, ?_, ?_⟩
 · simp (maxDischargeDepth := 8) [results, Tryz.results14, go_sem, *]
 · refine OwnL.lines (B := w.heap.size + 1 + 1 + 1) ?_
   (repeat (first | ((with_reducible refine OwnL.set ?_ ?_ _); rotate_left; exact y0) | (with_reducible refine OwnL.alloc ?_ _) | (with_reducible exact HO3.out) | (with_reducible refine OwnL.below ?_ HB4.out)))
 · (repeat (first | (with_reducible exact Below.refl _ _) | (with_reducible refine Below.drew ?_) | (with_reducible refine Xai ?_ _) | ((with_reducible refine Below.setCell ?_ ?_ _); rotate_left; exact y0) | ((with_reducible refine Below.alloc ?_ ?_ _); rotate_left; exact y0) | ((with_reducible refine Below.trans ?_ (HB4.out.mono ?_)); rotate_left; exact y0) | ((with_reducible refine Below.trans ?_ (HB3.out.mono ?_)); rotate_left; exact y0) | ((with_reducible refine Below.trans ?_ (HB2.out.mono ?_)); rotate_left; exact y0) | ((with_reducible refine Below.trans ?_ (HB1.out.mono ?_)); rotate_left; exact y0)))
 · intro ad e; have := (HP3.out ad e).1; simp at this; omega
end
end
section
def obB (b : Brg) (ms : List Line) (F : Int) : Brg := ⟨b.mode, b.base, ms, ⟨b.orders.page, (b.orders.head + 1) % 8, b.orders.tail⟩, b.stopped, F, b.faults, b.lost⟩
section
variable (xs : List Int) (m : Option Addr) (cm' : Nat) (b : Brg) (A : Option Addr) (n c : Nat) (w : World) (hx : Ints w w.heap.size m 512 xs) (hl : Lines w w.heap.size A n c b.cache) (h0 : cm xs = 0) (hb : ckB b = 0) (hs : b.stopped = false) (hp : popE xs b.orders = 0) (v : Int) (hv : popV xs b.orders = v)
include hx hl h0 hb hs hp hv in
theorem Xtc (ms : List Line) (F : Int) (rb : Brg) (hr : rdoE v = 0) (hm : Xe3 b.cache (v % 4) (v / 4 % 8) (v / 32) = ms) (hF : F = if v % 4 = 0 then (b.fences + 1) % 1000 else b.fences) (hrb : rb = obB b ms F) :
    Calls Tryz.prog 14 #[.agg #[.slice m 512 cm'], .agg (B_.b b A n c)] w (Xno w rb 0) := by
 refine z160 ?_; intro HX HL HE HS HP HV HN
 have HM := Zh hm
 have HRR := Zh (show rdoV v = .tuple #[.agg #[.int .i64 (v % 4), .int .i64 (v / 4 % 8), .int .i64 (v / 32)], .int .i64 0] by simp [rdoV, rdoF, hr])
 have hk := (Xrn hr).2
 unfold OrdR at hk
 have HWF := Zh (show (Lit.int .i64 (v % 4)).wf = true by
   have : v % 4 = 0 ∨ v % 4 = 1 ∨ v % 4 = 2 ∨ v % 4 = 3 := by omega
   rcases this with e | e | e | e <;> rw [e] <;> rfl)
 have HDE := Zh (show Xee b.cache (v % 4) = 0 from Xge ((Xbo b).1 hb).2.1 (by omega))
 have hf := ((Xbo b).1 hb).1.2.2
 obtain ⟨hf1, hf2⟩ := hf
 have HRB := Zh hrb
 have HFF := Zh hF
 have HPR := Zh (show popR b.orders = ⟨b.orders.page, (b.orders.head + 1) % 8, b.orders.tail⟩ from rfl)
 obtain ⟨vk, hvk⟩ : ∃ k, v % 4 = k := ⟨_, rfl⟩
 obtain ⟨vd, hvd⟩ : ∃ k, v / 4 % 8 = k := ⟨_, rfl⟩
 obtain ⟨vp, hvp⟩ : ∃ k, v / 32 = k := ⟨_, rfl⟩
 rw [hvk] at HM HRR HWF HDE HFF
 rw [hvd] at HM HRR
 rw [hvp] at HM HRR
 rw [HRB.out]
 clear hx hl hs hp h0 hb hv hr hm hF hrb hk hvk hvd hvp
 by_cases hq : vk = 0
 · have HQ := Zh (show (b.fences + 1) % 1000 = F by rw [HFF.out, if_pos hq])
   have t2 : (vk == 0) = true := by rw [beq_iff_eq]; exact hq
   have e1 : IntKind.i64.wrap (b.fences + 1) = b.fences + 1 := IntWalk.i64_in _ (by omega)
   have e2 : (b.fences + 1).tmod 1000 = (b.fences + 1) % 1000 := Int.tmod_eq_emod_of_nonneg (by omega)
   clear hq
   refine z217 ?_; iterate 6 intro
   refine z2 ?_; intro w1 hb1 hz1 k1_0 l1_0 q1_0
   exact z8
 · have HQ := Zh (show b.fences = F by rw [HFF.out, if_neg hq])
   have t2 : (vk == 0) = false := by rw [beq_eq_false_iff_ne]; exact hq
   clear hq
   refine z217 ?_; iterate 6 intro
   refine z2 ?_; intro w1 hb1 _ k1_0 l1_0 q1_0
   exact z8
end
end
section
theorem Xro {xs : List Int} {b : Brg} (h : rdoE (popV xs b.orders) ≠ 0) : Xf7 xs b = { b with stopped := true } := by unfold Xf7; rw [if_neg h]
theorem Xpg {xs : List Int} {b : Brg} (h : rdoE (popV xs b.orders) = 0) : Xf7 xs b = obB b (Xe3 b.cache (popV xs b.orders % 4) (popV xs b.orders / 4 % 8) (popV xs b.orders / 32)) (if popV xs b.orders % 4 = 0 then (b.fences + 1) % 1000 else b.fences) := by
 unfold Xf7; rw [if_pos h]; rfl
theorem Xt8 (xs : List Int) (m : Option Addr) (nm cm' : Nat) (b : Brg) (A : Option Addr) (n c : Nat) (rb : Brg) (E : Int) (w : World) (hx : Ints w w.heap.size m nm xs) (hl : Lines w w.heap.size A n c b.cache) (hr : Xdy xs b = rb) (hE : Xen xs b = E) :
    Calls Tryz.prog 14 #[.agg #[.slice m nm cm'], .agg (B_.b b A n c)] w (Xno w rb E) := by
 subst hE
 subst hr
 by_cases hA : allE xs b = 0
 · obtain ⟨h0, hb⟩ := Xkp hA
   have hn : nm = 512 := by rw [← hx.len]; exact (Xb4 h0).1
   subst hn
   by_cases hs : b.stopped = true
   · have e : Xen xs b = 6 := by unfold Xen; rw [if_pos hA, if_pos hs]
     have e2 : Xdy xs b = .no := by unfold Xdy; rw [if_neg y28]
     rw [e, e2]
     exact Xvg xs m 512 cm' b A n c w hx hl hA hs
   · have hs' : b.stopped = false := by simpa using hs
     have e : Xen xs b = popE xs b.orders := by unfold Xen; rw [if_pos hA, if_neg hs]
     by_cases hp : popE xs b.orders = 0
     · have e2 : Xdy xs b = Xf7 xs b := by unfold Xdy; rw [if_pos (by rw [e]; exact hp)]
       rw [e, hp, e2]
       by_cases hr : rdoE (popV xs b.orders) = 0
       · exact Xtc xs m cm' b A n c w hx hl h0 hb hs' hp _ rfl _ _ (Xf7 xs b) hr rfl rfl (Xpg hr)
       · rw [Xro hr]
         exact Xvi xs m cm' b A n c w hx hl h0 hb hs' hp _ rfl hr
     · have e2 : Xdy xs b = .no := by unfold Xdy; rw [if_neg (by rw [e]; exact hp)]
       rw [e, e2]
       exact Xvf xs m 512 cm' b A n c w hx hl hA hs' hp
 · have e : Xen xs b = allE xs b := by unfold Xen; rw [if_neg hA]
   have e2 : Xdy xs b = .no := by unfold Xdy; rw [if_neg (by rw [e]; exact hA)]
   rw [e, e2]
   exact Xvh xs m nm cm' b A n c w hx hl hA
end
end Go.Proofs.YtbopdijnojaaiadGreat
