/- The hart: the walk of the program's Step where it is refused. No statement of the seat is proved here. -/
import Derived.Test.YtbopdijnojaaiadGreatZz
import Derived.Test.YtbopdijnojaaiadGreatHart5
import Derived.Test.YtbopdijnojaaiadGreatHart1
namespace Go.Proofs.YtbopdijnojaaiadGreat
set_option maxRecDepth 100000
set_option maxHeartbeats 4000000
open Go.RowKit
set_option linter.unusedSimpArgs false
set_option linter.unusedVariables false
section
section
variable {w : World} {gm gh gb : Nat} {M : Option Addr} {mc : Nat} {R : Option Addr} {rc : Nat} {L : Option Addr} {n c : Nat} {xs : List Int} {h : Hrt} {b : Brg} {gM gR : Nat}
theorem Xpy {w w' w1 : World} {gm gh gb : Nat} {M R L : Option Addr} {mc rc n c : Nat} {r : List Int × Hrt × Brg × Bool} {e : Ending} (hd : Xfa w gm gh gb M mc R rc L n c r e w') (lM : ∀ ad, M = some ad → ad.block < w.heap.size) (lR : ∀ ad, R = some ad → ad.block < w.heap.size) (lh : gh < w.heap.size) (lb : gb < w.heap.size) (hs : Xam w' w1) : Xfa w gm gh gb M mc R rc L n c r e w1 := by
 obtain ⟨h1, h2, g, hg, ho⟩ := hd
 refine ⟨h1, h2.since hs, g, hg, Xc5 ho ?_ hs⟩
 rcases hg with hg | hg | hg | hg
 · exact lM _ hg
 · exact lR _ hg
 · rw [hg]; exact lh
 · rw [hg]; exact lb
theorem Xu0 {w w' w1 : World} {gm gh gb : Nat} {M R L : Option Addr} {mc rc n c : Nat} {xs : List Int} {h : Hrt} {b b' : Brg} (hC : Crd w gm gh gb M mc R rc L n c xs h b) (hS : Sep gm gh gb M R L) (hs : Xam w w1) (ho : Only gb w1 w') (h1 : Xa8 w' gb b' L n c) (h2 : Lines w' w'.heap.size L n c b'.cache) (ok : Bool) :
    Xfa w gm gh gb M mc R rc L n c (xs, h, b', ok) (.returned (.bool ok)) w' :=
  ⟨rfl, (hC.since hs).brg hS ho h1 h2, gb, Or.inr (Or.inr (Or.inr rfl)), ⟨Below.trans (Below.mono hs (Nat.le_of_lt (Xcw hC.b0))) ho.1, Nat.le_trans hs.size ho.2.1, fun q j hq hl => (ho.2.2.1 q j hq (Nat.lt_of_lt_of_le hl hs.size)).trans (Below.cell (p := ⟨q, j, none⟩) hs hl), fun q j hl => (ho.2.2.2 q j (Nat.lt_of_lt_of_le hl hs.size)).trans (Below.frozen (p := ⟨q, j, none⟩) hs hl)⟩⟩
theorem shl_lo {u i : Int} (hu : 0 ≤ u ∧ u ≤ 65535) (hi : 0 ≤ i ∧ i ≤ 16) : wrap64 (u * 2 ^ i.toNat) = u * 2 ^ i.toNat ∧ (u * 2 ^ i.toNat).tmod 65536 = shM u i := by
 have e : min i 16 = i := by omega
 unfold shM
 rw [e]
 have hm : i.toNat ≤ 16 := by omega
 have h1 : (2 : Int) ^ i.toNat ≤ 2 ^ 16 := by
   have := Nat.pow_le_pow_right (n := 2) (by decide) hm
   exact_mod_cast this
 have h0 : (0 : Int) ≤ 2 ^ i.toNat := Int.pow_nonneg (by decide)
 generalize (2 : Int) ^ i.toNat = p at *
 have h2 : 0 ≤ u * p := Int.mul_nonneg hu.1 h0
 have h3 : u * p ≤ 65535 * 65536 := Int.le_trans (Int.mul_le_mul_of_nonneg_right hu.2 h0) (Int.mul_le_mul_of_nonneg_left (by omega) (by decide))
 exact ⟨IntWalk.wrap64_in (u * p) (by omega), Int.tmod_eq_emod_of_nonneg h2⟩
theorem shl_hi {u i : Int} (hi : 16 < i) : shM u i = 0 := by
 have e : min i 16 = 16 := by omega
 unfold shM
 rw [e]
 show u * 65536 % 65536 = 0
 omega
theorem does_0 (hP : Xi6 w gm gh gb M mc R rc L n c xs h b gM gR) (a d i : Int) (ha : 0 ≤ a ∧ a < 8) (hd : 0 ≤ d ∧ d < 8) (hi : 0 ≤ i ∧ i ≤ 63) :
    Calls Tryz.prog 44 #[.pointer (some ⟨gm, 0, none⟩), .pointer (some ⟨gh, 0, none⟩), .pointer (some ⟨gb, 0, none⟩), insV 0 a d i] w (Xfa w gm gh gb M mc R rc L n c (Xbq xs h b 0 a d i)) := by
 revert M R hP; refine_lift z18 ?_; intro cM cR _ _ _ _ _ _ ck hcm _ _ om or crd sep _ HS _ _ _ _ _ _ _ _ HT
 rw [show Xbq xs h b 0 a d i = (xs, h, b, false) from rfl]
 have HD := Zh (fun (w' : World) (hs : Xam w w') => Xhz crd hs false)
 revert ha hd hi; refine_lift z183 ?_; iterate 6 intro
 clear crd sep om or cM cR ck hcm
 refine z163 ?_
 go_wp2
 go_ret
 exact z94
theorem does_1 (hP : Xi6 w gm gh gb M mc R rc L n c xs h b gM gR) (a d i : Int) (ha : 0 ≤ a ∧ a < 8) (hd : 0 ≤ d ∧ d < 8) (hi : 0 ≤ i ∧ i ≤ 63) :
    Calls Tryz.prog 44 #[.pointer (some ⟨gm, 0, none⟩), .pointer (some ⟨gh, 0, none⟩), .pointer (some ⟨gb, 0, none⟩), insV 1 a d i] w (Xfa w gm gh gb M mc R rc L n c (Xbq xs h b 1 a d i)) := by
 revert M R hP; refine_lift z18 ?_; intro cM cR _ _ _ _ _ lR ck hcm _ _ om or crd sep _ HS _ _ _ _ _ _ _ _ HT
 rw [show Xbq xs h b 1 a d i = (xs, h.setR a i, b, true) from rfl]
 have HD := Zh (fun (w' : World) (hs : Xam w w') => Xft crd sep or rfl lR hs (v := i) ha.1 ha.2)
 revert ha hd hi; refine_lift z183 ?_; iterate 6 intro
 clear crd sep om or cM cR ck hcm
 refine z163 ?_
 go_wp2
 go_ret
 exact z94
theorem does_2 (hP : Xi6 w gm gh gb M mc R rc L n c xs h b gM gR) (a d i : Int) (ha : 0 ≤ a ∧ a < 8) (hd : 0 ≤ d ∧ d < 8) (hi : 0 ≤ i ∧ i ≤ 63) :
    Calls Tryz.prog 44 #[.pointer (some ⟨gm, 0, none⟩), .pointer (some ⟨gh, 0, none⟩), .pointer (some ⟨gb, 0, none⟩), insV 2 a d i] w (Xfa w gm gh gb M mc R rc L n c (Xbq xs h b 2 a d i)) := by
 revert M R hP; refine_lift z18 ?_; intro cM cR _ _ _ _ _ lR ck hcm _ _ om or crd sep _ HS _ _ _ _ _ _ _ _ HT
 rw [show Xbq xs h b 2 a d i = (xs, h.setR a ((rd h.regs a + rd h.regs d) % 65536), b, true) from rfl]
 have HD := Zh (fun (w' : World) (hs : Xam w w') => Xft crd sep or rfl lR hs (v := (rd h.regs a + rd h.regs d) % 65536) ha.1 ha.2)
 revert ha hd hi; refine_lift z183 ?_; iterate 6 intro
 generalize rd h.regs a = u at *
 generalize rd h.regs d = v at *
 have e1 : IntKind.i64.wrap (u + v) = u + v := IntWalk.i64_in _ (by omega)
 have e2 : (u + v).tmod 65536 = (u + v) % 65536 := Int.tmod_eq_emod_of_nonneg (by omega)
 clear crd sep om or cM cR ck hcm
 refine z163 ?_
 go_upto_region 6 with (fail)
 go_region
 go_wp2
 go_ret
 exact z94
theorem does_3 (hP : Xi6 w gm gh gb M mc R rc L n c xs h b gM gR) (a d i : Int) (ha : 0 ≤ a ∧ a < 8) (hd : 0 ≤ d ∧ d < 8) (hi : 0 ≤ i ∧ i ≤ 63) :
    Calls Tryz.prog 44 #[.pointer (some ⟨gm, 0, none⟩), .pointer (some ⟨gh, 0, none⟩), .pointer (some ⟨gb, 0, none⟩), insV 3 a d i] w (Xfa w gm gh gb M mc R rc L n c (Xbq xs h b 3 a d i)) := by
 revert M R hP; refine_lift z18 ?_; intro cM cR _ _ _ _ _ lR ck hcm _ _ om or crd sep _ HS _ _ _ _ _ _ b1 _ HT
 rw [show Xbq xs h b 3 a d i = (xs, h.setR a (shM (rd h.regs a) i), b, true) from rfl]
 by_cases hq : i ≤ 16
 · have HD := Zh (fun (w' : World) (hs : Xam w w') => Xft crd sep or rfl lR hs (v := shM (rd h.regs a) i) ha.1 ha.2)
   have HE := Zh (shl_lo b1 ⟨hi.1, hq⟩)
   revert ha hd hi; refine_lift z183 ?_; intro a1 a2 d1 d2 i1 i2
   generalize rd h.regs a = u at *
   clear crd sep om or cM cR ck hcm
   refine z163 ?_
   go_upto_region 8 with (fail)
   go_region
   go_wp2
   go_ret
   rw [HE.out.1, HE.out.2]
   exact z94
 · rw [shl_hi (Int.not_le.1 hq)]
   have HD := Zh (fun (w' : World) (hs : Xam w w') => Xft crd sep or rfl lR hs (v := 0) ha.1 ha.2)
   revert ha hd hi; refine_lift z183 ?_; iterate 6 intro
   generalize rd h.regs a = u at *
   have hq2 : 16 < i := Int.not_le.1 hq
   clear hq crd sep om or cM cR ck hcm
   refine z163 ?_
   go_upto_region 8 with (fail)
   go_region
   go_wp2
   go_ret
   exact z94
theorem Xco {w0 W : World} (h : Xam w0 W) (q : Nat) : Xam w0 (W.drewN q) := Xai h q
theorem does_4 (hP : Xi6 w gm gh gb M mc R rc L n c xs h b gM gR) (a d i : Int) (ha : 0 ≤ a ∧ a < 8) (hd : 0 ≤ d ∧ d < 8) (hi : 0 ≤ i ∧ i ≤ 63) :
    Calls Tryz.prog 44 #[.pointer (some ⟨gm, 0, none⟩), .pointer (some ⟨gh, 0, none⟩), .pointer (some ⟨gb, 0, none⟩), insV 4 a d i] w (Xfa w gm gh gb M mc R rc L n c (Xbq xs h b 4 a d i)) := by
 revert M R hP; refine_lift z18 ?_; intro cM cR _ _ _ _ _ lR ck hcm _ _ om or crd sep _ HS _ _ _ _ _ _ _ _ HT
 have m0 := crd.m0
 by_cases hq : rd h.regs d + i < 512
 · rw [show Xbq xs h b 4 a d i = (xs, h.setR a (rd xs (rd h.regs d + i)), b, true) by unfold Xbq; rw [if_neg (by decide), if_neg (by decide), if_neg (by decide), if_pos rfl, if_pos hq]]
   have HD := Zh (fun (w' : World) (hs : Xam w w') => Xft crd sep or rfl lR hs (v := rd xs (rd h.regs d + i)) ha.1 ha.2)
   have hz := cM _ _ (Xii (k := rd h.regs d + i) (Xb4 hcm).1 (by omega) hq)
   revert ha hd hi; refine_lift z183 ?_; intro a1 a2 d1 d2 i1 i2
   generalize rd xs (rd h.regs d + i) = z at *
   generalize rd h.regs a = u at *
   generalize rd h.regs d = v at *
   have e1 : IntKind.i64.wrap (v + i) = v + i := IntWalk.i64_in _ (by omega)
   have e2 : 0 ≤ v + i := by omega
   clear crd sep om or cM cR ck hcm
   refine z163 ?_
   go_upto_region 11 with (fail)
   go_quiet (fail)
   go_upto_region 15 with (fail)
   exact z142
 · rw [show Xbq xs h b 4 a d i = (xs, h, b, false) by unfold Xbq; rw [if_neg (by decide), if_neg (by decide), if_neg (by decide), if_pos rfl, if_neg hq]]
   exact z120
theorem does_5 (hP : Xi6 w gm gh gb M mc R rc L n c xs h b gM gR) (a d i : Int) (ha : 0 ≤ a ∧ a < 8) (hd : 0 ≤ d ∧ d < 8) (hi : 0 ≤ i ∧ i ≤ 63) :
    Calls Tryz.prog 44 #[.pointer (some ⟨gm, 0, none⟩), .pointer (some ⟨gh, 0, none⟩), .pointer (some ⟨gb, 0, none⟩), insV 5 a d i] w (Xfa w gm gh gb M mc R rc L n c (Xbq xs h b 5 a d i)) := by
 revert M R hP; refine_lift z18 ?_; intro cM cR _ _ _ _ lM _ ck hcm _ _ om or crd sep _ HS _ _ _ _ _ _ _ _ HT
 have m0 := crd.m0
 by_cases hq : rd h.regs d + i < 512
 · rw [show Xbq xs h b 5 a d i = (xs.set (rd h.regs d + i).toNat (rd h.regs a), h, b, true) by unfold Xbq; rw [if_neg (by decide), if_neg (by decide), if_neg (by decide), if_neg (by decide), if_pos rfl, if_pos hq]]
   have HD := Zh (fun (w' : World) (hs : Xam w w') => Xuz crd sep om rfl lM hs (a := rd h.regs d + i) (v := rd h.regs a) (by omega) hq)
   have hz := cM _ _ (Xii (k := rd h.regs d + i) (Xb4 hcm).1 (by omega) hq)
   revert ha hd hi; refine_lift z183 ?_; intro a1 a2 d1 d2 i1 i2
   generalize rd xs (rd h.regs d + i) = z at *
   generalize rd h.regs a = u at *
   generalize rd h.regs d = v at *
   have e1 : IntKind.i64.wrap (v + i) = v + i := IntWalk.i64_in _ (by omega)
   have e2 : 0 ≤ v + i := by omega
   clear crd sep om or cM cR ck hcm
   refine z163 ?_
   go_upto_region 11 with (fail)
   go_quiet (fail)
   go_upto_region 16 with (fail)
   exact z142
 · rw [show Xbq xs h b 5 a d i = (xs, h, b, false) by unfold Xbq; rw [if_neg (by decide), if_neg (by decide), if_neg (by decide), if_neg (by decide), if_pos rfl, if_neg hq]]
   exact z120
theorem does_6 (hP : Xi6 w gm gh gb M mc R rc L n c xs h b gM gR) (a d i : Int) (ha : 0 ≤ a ∧ a < 8) (hd : 0 ≤ d ∧ d < 8) (hi : 0 ≤ i ∧ i ≤ 63) :
    Calls Tryz.prog 44 #[.pointer (some ⟨gm, 0, none⟩), .pointer (some ⟨gh, 0, none⟩), .pointer (some ⟨gb, 0, none⟩), insV 6 a d i] w (Xfa w gm gh gb M mc R rc L n c (Xbq xs h b 6 a d i)) := by
 revert M R hP; refine_lift z18 ?_; intro cM cR _ _ _ _ _ _ ck hcm _ _ om or crd sep _ HS _ _ _ _ _ _ _ _ HT
 have h0 := crd.h0
 by_cases hq : rd h.regs a = rd h.regs d
 · rw [show Xbq xs h b 6 a d i = (xs, { h with at_ := i }, b, true) by unfold Xbq; rw [if_neg (by decide), if_neg (by decide), if_neg (by decide), if_neg (by decide), if_neg (by decide), if_pos rfl, if_pos hq]]
   have HD := Zh (fun (w' : World) (hs : Xam w w') => Xxw crd sep hs i)
   have hqe : (rd h.regs a == rd h.regs d) = true := by rw [beq_iff_eq]; exact hq
   clear hq
   revert ha hd hi; refine_lift z183 ?_; intro a1 a2 d1 d2 i1 i2
   generalize rd h.regs a = u at *
   generalize rd h.regs d = v at *
   clear crd sep om or cM cR ck hcm
   refine z163 ?_
   go_upto_region 18 with (fail)
   go_quiet (fail)
   go_wp2
   go_ret
   first | exact HD.out _ (Xco (Xag HS.out _) _) | exact HT.out _ _ _ _ (HD.out _ HS.out) (Xco (Xag (Xan _) _) _) | (trace_state; fail "w6")
 · rw [show Xbq xs h b 6 a d i = (xs, h, b, true) by unfold Xbq; rw [if_neg (by decide), if_neg (by decide), if_neg (by decide), if_neg (by decide), if_neg (by decide), if_pos rfl, if_neg hq]]
   have HD := Zh (fun (w' : World) (hs : Xam w w') => Xhz crd hs true)
   have hqe : (rd h.regs a == rd h.regs d) = false := by rw [beq_eq_false_iff_ne]; exact hq
   clear hq
   revert ha hd hi; refine_lift z183 ?_; iterate 6 intro
   generalize rd h.regs a = u at *
   generalize rd h.regs d = v at *
   clear crd sep om or cM cR ck hcm
   refine z163 ?_
   go_upto_region 18 with (fail)
   go_quiet (fail)
   go_wp2
   go_ret
   first | exact HD.out _ (Xco (Xag HS.out _) _) | (trace_state; fail "w6")
theorem does_7 (hP : Xi6 w gm gh gb M mc R rc L n c xs h b gM gR) (a d i : Int) (ha : 0 ≤ a ∧ a < 8) (hd : 0 ≤ d ∧ d < 8) (hi : 0 ≤ i ∧ i ≤ 63) :
    Calls Tryz.prog 44 #[.pointer (some ⟨gm, 0, none⟩), .pointer (some ⟨gh, 0, none⟩), .pointer (some ⟨gb, 0, none⟩), insV 7 a d i] w (Xfa w gm gh gb M mc R rc L n c (Xbq xs h b 7 a d i)) := by
 revert M R hP; refine_lift z18 ?_; intro cM cR _ _ _ _ _ _ ck hcm _ _ om or crd sep HC HS h1 _ lb; iterate 6 intro
 rw [show Xbq xs h b 7 a d i = (xs, h, (Xa0 b i (rd h.regs a)).1, (Xa0 b i (rd h.regs a)).2) from rfl]
 have HD := Zh (fun (w' w1 : World) (hs : Xam w w1) (ho : Only gb w1 w') (h1 : Xa8 w' gb (Xa0 b i (rd h.regs a)).1 L n c) (h2 : Lines w' w'.heap.size L n c (Xa0 b i (rd h.regs a)).1.cache) => Xu0 crd sep hs ho h1 h2 (Xa0 b i (rd h.regs a)).2)
 have HO := Zh sep.l3
 have HI := Zh hi
 revert ha hd hi; refine_lift z183 ?_; iterate 6 intro
 have sb := sep.r3 ⟨gR, 0, none⟩ rfl
 generalize rd h.regs a = u at *
 clear crd sep om or cM cR ck hcm
 refine z163 ?_
 go_upto_region 21 with (fail)
 go_region_held3 (fun W => W.cell? ⟨w.heap.size, 1, none⟩ = some (.int .i64 a) ∧ W.cell? ⟨w.heap.size, 3, none⟩ = some (.int .i64 i) ∧ W.cell? ⟨gR, a.toNat, none⟩ = some (.int .i64 u)) (first | (simp [go_sem, *]; done) | exact ⟨‹_›, ‹_›, ‹_›⟩) (first
   | (go_at_call 68; refine (Xun b L n c gb i u _ (Xau HC.out.b0 (Xav (Xag HS.out _))) (by intro o; simp [go_sem, *]) (Xbh HC.out.lb (Xav (Xag HS.out _))) HO.out HI.out).mono ?_; rintro e w1 ⟨rfl, hb1, hl1, ho1⟩; have k1 := Xbt (g' := w.heap.size) (o := 1) (v := .int .i64 a) y17 ho1 (by omega); have k2 := Xbt (g' := w.heap.size) (o := 3) (v := .int .i64 i) y17 ho1 (by omega); have k3 := Xbt (g' := gR) (o := a.toNat) (v := .int .i64 u) y17 ho1 sb; have HE1 := Zh hb1; have HE2 := Zh hl1; have HE3 := Zh ho1; clear hb1 hl1 ho1))
 go_wp2
 go_ret
 exact HD.out _ _ (Xav (Xag HS.out _)) HE3.out HE1.out HE2.out
theorem keepX {w1 W : World} {g mb o : Nat} {mv : Value} {b : Brg} {A : Option Addr} {n c : Nat} (h : Xam w1 W) (hm : w1.cell? ⟨mb, o, none⟩ = some mv) (hb : Xa8 w1 g b A n c) :
    W.cell? ⟨mb, o, none⟩ = some mv ∧ W.cell? ⟨g, 0, none⟩ = some (.int .i64 b.mode) ∧ W.cell? ⟨g, 1, none⟩ = some (.int .i64 b.base) ∧ W.cell? ⟨g, 2, none⟩ = some (.slice A n c) ∧ W.cell? ⟨g, 3, none⟩ = some (.int .i64 b.orders.page) ∧ W.cell? ⟨g, 4, none⟩ = some (.int .i64 b.orders.head) ∧ W.cell? ⟨g, 5, none⟩ = some (.int .i64 b.orders.tail) ∧ W.cell? ⟨g, 6, none⟩ = some (.bool b.stopped) ∧ W.cell? ⟨g, 7, none⟩ = some (.int .i64 b.fences) ∧ W.cell? ⟨g, 8, none⟩ = some (.int .i64 b.faults.page) ∧ W.cell? ⟨g, 9, none⟩ = some (.int .i64 b.faults.head) ∧ W.cell? ⟨g, 10, none⟩ = some (.int .i64 b.faults.tail) ∧ W.cell? ⟨g, 11, none⟩ = some (.bool b.lost) ∧ Hid (Xam w1 W) := by
 obtain ⟨h0, h1, h2, h3, h4, h5, h6, h7, h8, h9, h10, h11⟩ := Xau hb h
 exact ⟨Xae h hm, h0, h1, h2, h3, h4, h5, h6, h7, h8, h9, h10, h11, h⟩
theorem does_8 (hP : Xi6 w gm gh gb M mc R rc L n c xs h b gM gR) (a d i : Int) (ha : 0 ≤ a ∧ a < 8) (hd : 0 ≤ d ∧ d < 8) (hi : 0 ≤ i ∧ i ≤ 63) :
    Calls Tryz.prog 44 #[.pointer (some ⟨gm, 0, none⟩), .pointer (some ⟨gh, 0, none⟩), .pointer (some ⟨gb, 0, none⟩), insV 8 a d i] w (Xfa w gm gh gb M mc R rc L n c (Xbq xs h b 8 a d i)) := by
 revert M R hP; refine_lift z18 ?_; intro cM cR _ fR _ _ _ lR ck hcm _ _ om or crd sep _ _ _ _ _ _ hx; iterate 4 intro
 obtain ⟨c0, c1, c2, c3, c4, c5, c6, c7, c8, c9, c10, c11⟩ := crd.b0
 by_cases hq : i < 10
 · rw [show Xbq xs h b 8 a d i = (xs, h.setR a (Xe9 b i), b, true) by unfold Xbq; rw [if_neg (by decide), if_neg (by decide), if_neg (by decide), if_neg (by decide), if_neg (by decide), if_neg (by decide), if_neg (by decide), if_pos rfl, if_pos hq]]
   have HV := Zh (show inV b i = Xe9 b i by unfold inV; rw [if_pos hq])
   have HD := Zh (fun (w' : World) (hs : Xam w w') => Xft crd sep or rfl lR hs (v := Xe9 b i) ha.1 ha.2)
   have hdq : decide (i < 10) = true := by simp [hq]
   refine z165 ?_; intro HM1 HG1
   revert ha hd hi; refine_lift z183 ?_; intro a1 a2 d1 d2 i1 i2
   clear crd sep om or cM cR ck hcm
   refine z163 ?_
   go_upto_region 23 with (fail)
   go_region_held3 (fun W => W.cell? ⟨w.heap.size, 3, none⟩ = some (.int .i64 i) ∧ W.cell? ⟨gb, 0, none⟩ = some (.int .i64 b.mode) ∧ W.cell? ⟨gb, 1, none⟩ = some (.int .i64 b.base) ∧ W.cell? ⟨gb, 2, none⟩ = some (.slice L n c) ∧ W.cell? ⟨gb, 3, none⟩ = some (.int .i64 b.orders.page) ∧ W.cell? ⟨gb, 4, none⟩ = some (.int .i64 b.orders.head) ∧ W.cell? ⟨gb, 5, none⟩ = some (.int .i64 b.orders.tail) ∧ W.cell? ⟨gb, 6, none⟩ = some (.bool b.stopped) ∧ W.cell? ⟨gb, 7, none⟩ = some (.int .i64 b.fences) ∧ W.cell? ⟨gb, 8, none⟩ = some (.int .i64 b.faults.page) ∧ W.cell? ⟨gb, 9, none⟩ = some (.int .i64 b.faults.head) ∧ W.cell? ⟨gb, 10, none⟩ = some (.int .i64 b.faults.tail) ∧ W.cell? ⟨gb, 11, none⟩ = some (.bool b.lost) ∧ Hid (Xam (w.alloc (.cells #[.int .i64 8, .int .i64 a, .int .i64 d, .int .i64 i] 89)) W))
     (((with_reducible refine keepX ?_ HM1.out HG1.out); (repeat (first | (with_reducible assumption) | (with_reducible exact Xan _) | (with_reducible exact Xci y5) | (with_reducible exact Xaz y5 (Xci y5)) | (with_reducible refine Xav ?_) | (with_reducible refine Xag ?_ _) | ((with_reducible refine Xbg ?_ ?_ _); rotate_left; exact y0))); done))
     (first
       | (go_at_call 69; refine (Xsc b L n c i _ i1).mono ?_; rintro e w2 ⟨rfl, hb2⟩; have hs2 := Xaz hb2 (Xci y5)))
   all_goals
     rename_i hHeld
     have HS2 := Zh (Xci hHeld)
     clear hHeld
     have e0 := Xae HS2.out (p := ⟨w.heap.size, 0, none⟩) (v := .int .i64 8) y23
     have e1 := Xae HS2.out (p := ⟨w.heap.size, 1, none⟩) (v := .int .i64 a) y23
     have e2 := Xae HS2.out (p := ⟨gR, a.toNat, none⟩) (v := .int .i64 (rd h.regs a)) (Xae (Xag (Xan w) _) hx)
     have e3 := (Below.frozen (p := ⟨gR, a.toNat, none⟩) HS2.out y3).trans ((Below.frozen (p := ⟨gR, a.toNat, none⟩) (Xa3 w _) lR).trans (fR _))
     have HS1 := Zh (show Xam w _ from Below.trans (Xa3 w (.cells #[.int .i64 8, .int .i64 a, .int .i64 d, .int .i64 i] 89)) (Below.mono HS2.out (by simp)))
     go_upto_region 25 with (fail)
     rw [HV.out]
     go_wp2
     go_ret
     first | exact HD.out _ HS1.out | (trace_state; fail "w8a")
 · rw [show Xbq xs h b 8 a d i = (xs, h, b, false) by unfold Xbq; rw [if_neg (by decide), if_neg (by decide), if_neg (by decide), if_neg (by decide), if_neg (by decide), if_neg (by decide), if_neg (by decide), if_pos rfl, if_neg hq]]
   have HD := Zh (fun (w' : World) (hs : Xam w w') => Xhz crd hs false)
   have hdq : decide (i < 10) = false := by simp [hq]
   refine z165 ?_; intro HM1 HG1
   revert ha hd hi; refine_lift z183 ?_; intro _ _ _ _ i1 _
   clear crd sep om or cM cR ck hcm
   refine z163 ?_
   go_upto_region 23 with (fail)
   go_region_held3 (fun W => W.cell? ⟨w.heap.size, 3, none⟩ = some (.int .i64 i) ∧ W.cell? ⟨gb, 0, none⟩ = some (.int .i64 b.mode) ∧ W.cell? ⟨gb, 1, none⟩ = some (.int .i64 b.base) ∧ W.cell? ⟨gb, 2, none⟩ = some (.slice L n c) ∧ W.cell? ⟨gb, 3, none⟩ = some (.int .i64 b.orders.page) ∧ W.cell? ⟨gb, 4, none⟩ = some (.int .i64 b.orders.head) ∧ W.cell? ⟨gb, 5, none⟩ = some (.int .i64 b.orders.tail) ∧ W.cell? ⟨gb, 6, none⟩ = some (.bool b.stopped) ∧ W.cell? ⟨gb, 7, none⟩ = some (.int .i64 b.fences) ∧ W.cell? ⟨gb, 8, none⟩ = some (.int .i64 b.faults.page) ∧ W.cell? ⟨gb, 9, none⟩ = some (.int .i64 b.faults.head) ∧ W.cell? ⟨gb, 10, none⟩ = some (.int .i64 b.faults.tail) ∧ W.cell? ⟨gb, 11, none⟩ = some (.bool b.lost) ∧ Hid (Xam (w.alloc (.cells #[.int .i64 8, .int .i64 a, .int .i64 d, .int .i64 i] 89)) W))
     (((with_reducible refine keepX ?_ HM1.out HG1.out); (repeat (first | (with_reducible assumption) | (with_reducible exact Xan _) | (with_reducible exact Xci y5) | (with_reducible exact Xaz y5 (Xci y5)) | (with_reducible refine Xav ?_) | (with_reducible refine Xag ?_ _) | ((with_reducible refine Xbg ?_ ?_ _); rotate_left; exact y0))); done))
     (first
       | (go_at_call 69; refine (Xsc b L n c i _ i1).mono ?_; rintro e w2 ⟨rfl, hb2⟩; have hs2 := Xaz hb2 (Xci y5)))
   all_goals
     rename_i hHeld
     have HS2 := Zh (Xci hHeld)
     clear hHeld
     have e0 := Xae HS2.out (p := ⟨w.heap.size, 0, none⟩) (v := .int .i64 8) y23
     have e1 := Xae HS2.out (p := ⟨w.heap.size, 1, none⟩) (v := .int .i64 a) y23
     have e2 := Xae HS2.out (p := ⟨gR, a.toNat, none⟩) (v := .int .i64 (rd h.regs a)) (Xae (Xag (Xan w) _) hx)
     have e3 := (Below.frozen (p := ⟨gR, a.toNat, none⟩) HS2.out y3).trans ((Below.frozen (p := ⟨gR, a.toNat, none⟩) (Xa3 w _) lR).trans (fR _))
     have HS1 := Zh (show Xam w _ from Below.trans (Xa3 w (.cells #[.int .i64 8, .int .i64 a, .int .i64 d, .int .i64 i] 89)) (Below.mono HS2.out (by simp)))
     go_wp2
     go_ret
     first | exact HD.out _ HS1.out | (trace_state; fail "w8b")
theorem Xsd (hP : Xi6 w gm gh gb M mc R rc L n c xs h b gM gR) (k a d i : Int) (hk : 0 ≤ k ∧ k ≤ 8) (ha : 0 ≤ a ∧ a < 8) (hd : 0 ≤ d ∧ d < 8) (hi : 0 ≤ i ∧ i ≤ 63) :
    Calls Tryz.prog 44 #[.pointer (some ⟨gm, 0, none⟩), .pointer (some ⟨gh, 0, none⟩), .pointer (some ⟨gb, 0, none⟩), insV k a d i] w (Xfa w gm gh gb M mc R rc L n c (Xbq xs h b k a d i)) := by
 have hk' : k = 0 ∨ k = 1 ∨ k = 2 ∨ k = 3 ∨ k = 4 ∨ k = 5 ∨ k = 6 ∨ k = 7 ∨ k = 8 := by omega
 rcases hk' with rfl | rfl | rfl | rfl | rfl | rfl | rfl | rfl | rfl
 · exact does_0 hP a d i ha hd hi
 · exact does_1 hP a d i ha hd hi
 · exact does_2 hP a d i ha hd hi
 · exact does_3 hP a d i ha hd hi
 · exact does_4 hP a d i ha hd hi
 · exact does_5 hP a d i ha hd hi
 · exact does_6 hP a d i ha hd hi
 · exact does_7 hP a d i ha hd hi
 · exact does_8 hP a d i ha hd hi
end
end
section
def StepC (w : World) (r : List Int × Hrt × Brg) (E : Int) (e : Ending) (w' : World) : Prop :=
  ∃ A d P q Q m k, e = .returned (.tuple #[.agg #[.slice A 512 d], .agg #[.int .i64 r.2.1.at_, .slice P 8 q, .bool r.2.1.done], .agg (B_.b r.2.2 Q m k), .int .i64 E]) ∧
    Ints w' w'.heap.size A 512 r.1 ∧ Ints w' w'.heap.size P 8 r.2.1.regs ∧ Lines w' w'.heap.size Q m k r.2.2.cache ∧ Below w.heap.size w w' ∧
    (∀ ad, A = some ad → w.heap.size ≤ ad.block) ∧ (∀ ad, P = some ad → w.heap.size ≤ ad.block) ∧ ∀ ad, Q = some ad → w.heap.size ≤ ad.block
section
variable (xs : List Int) (h : Hrt) (b : Brg) (M R L : Option Addr) (nm mc nr rc n c : Nat) (w : World)
theorem Xto (hm : Ints w w.heap.size M nm xs) (hc : cm xs ≠ 0) :
    Calls Tryz.prog 13 #[.agg #[.slice M nm mc], .agg #[.int .i64 h.at_, .slice R nr rc, .bool h.done], .agg (B_.b b L n c)] w fun e w' => e = .returned (.tuple #[.agg #[.slice none 0 0], .agg #[.int .i64 0, .slice none 0 0, .bool false], .agg (B_.b Brg.no none 0 0), .int .i64 (cm xs)]) ∧ Below w.heap.size w w' := by
 have HM := Zh hm
 have t0 : (cm xs == 0) = false := by rw [beq_eq_false_iff_ne]; exact hc
 have t1 : (cm xs != 0) = true := by rw [bne_iff_ne]; exact hc
 clear hm hc
 go_enter Tryz.func13, Tryz.ntmps13
 go_wp2_with fail
 refine z51 ?_
 refine z152 ?_; (iterate 20 intro); intro HB1
 go_wp2
 refine bodyPost_ret (v := .tuple #[.agg #[.slice none 0 0], .agg #[.int .i64 0, .slice none 0 0, .bool false], .agg (B_.b Brg.no none 0 0), .int .i64 (cm xs)]) ?_ rfl ⟨rfl, ?_⟩
 exact z186
 exact z5
theorem Xtn (hm : Ints w w.heap.size M nm xs) (hr : Ints w w.heap.size R nr h.regs) (c1 : cm xs = 0) (hc : ckH h ≠ 0) :
    Calls Tryz.prog 13 #[.agg #[.slice M nm mc], .agg #[.int .i64 h.at_, .slice R nr rc, .bool h.done], .agg (B_.b b L n c)] w fun e w' => e = .returned (.tuple #[.agg #[.slice none 0 0], .agg #[.int .i64 0, .slice none 0 0, .bool false], .agg (B_.b Brg.no none 0 0), .int .i64 (ckH h)]) ∧ Below w.heap.size w w' := by
 have HM := Zh hm
 have HR := Zh hr
 have Hc1 := Zh c1
 have t0 : (ckH h == 0) = false := by rw [beq_eq_false_iff_ne]; exact hc
 have t1 : (ckH h != 0) = true := by rw [bne_iff_ne]; exact hc
 clear hm hr c1 hc
 go_enter Tryz.func13, Tryz.ntmps13
 go_wp2_with fail
 refine z51 ?_
 rw [Hc1.out]
 refine z152 ?_; (iterate 20 intro); intro HB1
 go_wp2_with fail
 refine z119 ?_
 refine z171 ?_; (iterate 20 intro); intro HB2
 go_wp2
 refine bodyPost_ret (v := .tuple #[.agg #[.slice none 0 0], .agg #[.int .i64 0, .slice none 0 0, .bool false], .agg (B_.b Brg.no none 0 0), .int .i64 (ckH h)]) ?_ rfl ⟨rfl, ?_⟩
 exact z186
 · exact z11
theorem Xtm (hm : Ints w w.heap.size M nm xs) (hr : Ints w w.heap.size R nr h.regs) (hl : Lines w w.heap.size L n c b.cache) (c1 : cm xs = 0) (c2 : ckH h = 0) (hc : ckB b ≠ 0) :
    Calls Tryz.prog 13 #[.agg #[.slice M nm mc], .agg #[.int .i64 h.at_, .slice R nr rc, .bool h.done], .agg (B_.b b L n c)] w fun e w' => e = .returned (.tuple #[.agg #[.slice none 0 0], .agg #[.int .i64 0, .slice none 0 0, .bool false], .agg (B_.b Brg.no none 0 0), .int .i64 (ckB b)]) ∧ Below w.heap.size w w' := by
 refine z158 ?_; intro HM HR HL
 have Hc1 := Zh c1
 have Hc2 := Zh c2
 have t0 : (ckB b == 0) = false := by rw [beq_eq_false_iff_ne]; exact hc
 have t1 : (ckB b != 0) = true := by rw [bne_iff_ne]; exact hc
 clear hm hr hl c1 c2 hc
 go_enter Tryz.func13, Tryz.ntmps13
 go_wp2_with fail
 refine z51 ?_
 rw [Hc1.out]
 refine z152 ?_; (iterate 20 intro); intro HB1
 go_wp2_with fail
 refine z119 ?_
 rw [Hc2.out]
 refine z171 ?_; (iterate 20 intro); intro HB2
 go_wp2_with fail
 refine z59 ?_
 rintro e w3 ⟨rfl, hb3⟩
 refine z25 ?_; intro _ k3_0 _ q3_0 k3_1 _ q3_1 k3_2 _ q3_2 k3_3 _ q3_3
 refine z71 ?_; intro k3_4 _ q3_4 k3_5 _ q3_5
 simp (maxDischargeDepth := 6) [go_sem, *] at k3_0 q3_0 k3_1 q3_1 k3_2 q3_2 k3_3 q3_3 k3_4 q3_4 k3_5 q3_5
 have HB3 := Zh hb3
 clear hb3
 go_wp2
 refine bodyPost_ret (v := .tuple #[.agg #[.slice none 0 0], .agg #[.int .i64 0, .slice none 0 0, .bool false], .agg (B_.b Brg.no none 0 0), .int .i64 (ckB b)]) ?_ rfl ⟨rfl, ?_⟩
 exact z186
 exact z35
theorem Xtl (hm : Ints w w.heap.size M nm xs) (hr : Ints w w.heap.size R nr h.regs) (hl : Lines w w.heap.size L n c b.cache) (c1 : cm xs = 0) (c2 : ckH h = 0) (c3 : ckB b = 0) :
    Calls Tryz.prog 13 #[.agg #[.slice M nm mc], .agg #[.int .i64 h.at_, .slice R nr rc, .bool true], .agg (B_.b b L n c)] w fun e w' => e = .returned (.tuple #[.agg #[.slice none 0 0], .agg #[.int .i64 0, .slice none 0 0, .bool false], .agg (B_.b Brg.no none 0 0), .int .i64 6]) ∧ Below w.heap.size w w' := by
 refine z158 ?_; intro HM HR HL
 have Hc1 := Zh c1
 have Hc2 := Zh c2
 have Hc3 := Zh c3
 clear hm hr hl c1 c2 c3
 go_enter Tryz.func13, Tryz.ntmps13
 go_wp2_with fail
 refine z51 ?_
 rw [Hc1.out]
 refine z152 ?_; (iterate 20 intro); intro HB1
 go_wp2_with fail
 refine (Xfq ⟨h.at_, h.regs, true⟩ _ _ _ _ (Xaf HR.out y30)).mono ?_
 rw [show ckH ⟨h.at_, h.regs, true⟩ = 0 from Hc2.out]
 refine z171 ?_; (iterate 20 intro); intro HB2
 go_wp2_with fail
 refine z59 ?_
 rw [Hc3.out]
 rintro e w3 ⟨rfl, hb3⟩
 refine z25 ?_; intro _ k3_0 _ q3_0 k3_1 _ q3_1 k3_2 _ q3_2 k3_3 _ q3_3
 refine z71 ?_; intro k3_4 _ q3_4 k3_5 _ q3_5
 simp (maxDischargeDepth := 6) [go_sem, *] at k3_0 q3_0 k3_1 q3_1 k3_2 q3_2 k3_3 q3_3 k3_4 q3_4 k3_5 q3_5
 have HB3 := Zh hb3
 clear hb3
 go_wp2
 refine bodyPost_ret (v := .tuple #[.agg #[.slice none 0 0], .agg #[.int .i64 0, .slice none 0 0, .bool false], .agg (B_.b Brg.no none 0 0), .int .i64 6]) ?_ rfl ⟨rfl, ?_⟩
 exact z186
 exact z35
end
end
end Go.Proofs.YtbopdijnojaaiadGreat
