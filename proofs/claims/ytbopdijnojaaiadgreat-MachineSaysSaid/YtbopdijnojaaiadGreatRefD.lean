/- The document's cache: the walk of Dropped. No statement of the seat is proved here. -/
import Derived.Test.YtbopdijnojaaiadGreatZz
import Derived.Test.YtbopdijnojaaiadGreatRefC
import Derived.Test.YtbopdijnojaaiadGreatFillZ
namespace Go.Proofs.YtbopdijnojaaiadGreat
set_option maxRecDepth 100000
set_option maxHeartbeats 8000000
open Go.RowKit
set_option linter.unusedSimpArgs false
set_option linter.unusedVariables false
section
attribute [local go_sem ↓] Go.wp_at_zero Go.wp_at_succ
theorem Xw5 {w1 W : World} {p0 p1 p2 p3 p4 : Addr} {v0 v1 v2 v3 v4 : Value} (h : Xam w1 W) (h0 : w1.cell? p0 = some v0) (h1 : w1.cell? p1 = some v1) (h2 : w1.cell? p2 = some v2) (h3 : w1.cell? p3 = some v3) (h4 : w1.cell? p4 = some v4) : W.cell? p0 = some v0 ∧ W.cell? p1 = some v1 ∧ W.cell? p2 = some v2 ∧ W.cell? p3 = some v3 ∧ W.cell? p4 = some v4 ∧ Hid (Xam w1 W) :=
  ⟨Xae h h0, Xae h h1, Xae h h2, Xae h h3, Xae h h4, h⟩
theorem Xbu {w1 W : World} {c0 c1 c2 c3 c4 : Prop} (h : c0 ∧ c1 ∧ c2 ∧ c3 ∧ c4 ∧ Hid (Xam w1 W)) : Xam w1 W := h.2.2.2.2.2
def Xeg (w : World) (ad : Addr) (vs : List Value) : Prop := ∀ j u, vs[j]? = some u → w.cell? (ad.add j) = some u
theorem Xct {w W : World} {ad : Addr} {vs : List Value} (h : Xam w W) (hn : Xeg w ad vs) : Xeg W ad vs := fun j u hu => Xae h (hn j u hu)
theorem Xcc (w : World) (x : Line) : Xeg (w.alloc (.cells #[.int .i64 x.dev, .int .i64 x.page, .int .i64 x.at_, .bool x.rd, .bool x.wr] 58)) ⟨w.heap.size, 0, none⟩ x.vals := Xdz w x
theorem Xjn {w : World} {b off n c : Nat} {ls : List Line} (h : Lines w w.heap.size (some ⟨b, off, none⟩) n c ls) : Xeg w ⟨b, off, none⟩ (Xaq ls) := fun j u hu => by
  rw [Go.WideShapes.add_plain]
  exact Xwp h.2.2.2.2 rfl (by
    have hp : 0 < (Xaq ls).length := by have := (List.getElem?_eq_some_iff.1 hu).1; omega
    obtain ⟨b', off', e, hb, _⟩ := h.2.2.2.2 hp
    simp only [Option.some.injEq, Addr.mk.injEq, and_true] at e
    rw [e.1]; exact hb) j u hu
theorem Xi3 (b n' : Nat) (A : Option Addr) (ty : TypeId) (w : World) : (Builtin.append_ #[27, 27] ty #[.slice (some ⟨b, 0, none⟩) 0 0, .slice A 0 n']).run Tryz.prog w = .ok (.slice (some ⟨b, 0, none⟩) 0 0) w := by
 cases A <;> kernel_rfl
theorem Xfc {P : Program} (w : World) {ops : Array Oper} {o : Oper} {a : Act} {K : Act → World → Prop} {Q : Exit → Act → World → Prop} {E : Prop} (hgd : o.guard = none) (s x : Operand) (t : TypeId)
    (ho : o.op = .call { callee := .builtin .append, args := #[s, x], argTypes := #[t, t] }) (v y : Value) (hs : a.eval s = v) (hx : a.eval x = y) (hr : ∀ ty, (Builtin.append_ #[t, t] ty #[v, y]).run P w = .ok v w) (h : K (a.put o.dst v) w) :
    if Region.wanted o (yielded ops a.tmps) = true then Oper.wp P o a w K Q else E := by
 have hw : Region.wanted o (yielded ops a.tmps) = true := by simp [Region.wanted, hgd]
 rw [if_pos hw]
 unfold Oper.wp execOp
 simp only [ho, resolve, invoke, builtin, Sem.run_bind, Sem.run_pure, Result.andThen_ok, List.map_toArray, List.map_cons, List.map_nil, hs, hx, hr]
 exact h
theorem Xll (w : World) (k B : Nat) (hk : w.heap.size = k) (hB : B ≤ k) : OwnL B (w.alloc (.cells #[] 58)) (some ⟨k, 0, none⟩) 0 0 [] := by
 subst hk
 exact ⟨rfl, Nat.le_refl _, Nat.zero_le _, Xez (Xd9 w 58 5) hB⟩
theorem Xhs {B : Nat} {w : World} {e : TypeId} {s g m c : Nat} {xs : List Value} (h : w.ownsRow B e s (.slice (some ⟨g, 0, none⟩) (0 + m) c) (0 + m) ([] ++ xs)) : w.ownsRow B e s (.slice (some ⟨g, 0, none⟩) m c) m xs := by rw [Nat.zero_add, List.nil_append] at h; exact h
theorem Xfo {w w' : World} {row : Option Nat} {ad : Addr} {vs : List Value} (hg : w.grownBy w' row) (hne : some ad.block ≠ row) (h : Xeg w ad vs) : Xeg w' ad vs := fun j u hu => by
  have h1 := h j u hu
  have hb : (ad.add j).block = ad.block := by unfold Addr.add; split <;> rfl
  exact (hg.cell_far (ad.add j) (Xb9 h1) (by rw [hb]; exact hne)).trans h1
theorem Xf9 {w : World} {k k' : Nat} {vs : List Value} (h : Xeg w ⟨k, 0, none⟩ vs) (e : k = k') : Xeg w ⟨k', 0, none⟩ vs := by subst e; exact h
def Xkr (w : World) (n : Nat) (ls : List Line) (e : Ending) (w' : World) : Prop := ∃ A c, e = .returned (.tuple #[.slice A n c, .int .i64 0]) ∧ OwnL w.heap.size w' A n c ls ∧ Below w.heap.size w w'
theorem Xqt (b off c : Nat) (hc : 6 ≤ c) (w : World) : (Instr.slice 27 (.slice (some ⟨b, off, none⟩) 6 c) (some (.int .i64 1)) none none).run Tryz.prog w = .ok (.slice (some ⟨b, off + 5, none⟩) 5 (c - 1)) w := by
 have h1 : ¬ c = 1 := by omega
 simp [go_sem, h1, Addr.add]
theorem Xus (A : Option Addr) (c : Nat) (ls : List Line) (x : Line) (w : World) (hl : Lines w w.heap.size A 0 c ls) (h0 : ckC ls = 0) (h1 : Xbz x = 0) (h2 : Xbw ls x.dev x.page < 0) :
    Calls Tryz.prog 87 #[.slice A 0 c, .agg #[.int .i64 x.dev, .int .i64 x.page, .int .i64 x.at_, .bool x.rd, .bool x.wr]] w (Xkr w (0 + 1) (ls ++ [x])) := by
 refine z42 ?_; intro i0 HI HZ0 HZ1 HZ2 HL
 have hnil := Zh (List.length_eq_zero_iff.1 hl.len)
 refine z159 ?_; iterate 4 intro
 have HLS : Hid (ls.length = 0) := Zh (by have := hl.len; first | omega | (simp; omega))
 clear h0 h1 h2 hl
 refine z15 ?_; (iterate 18 intro); intro w3 _ _ _ _ _ HBW3 HC
 go_upto_region 11 with (fail)
 go_region_held3 (fun W => W.cell? ⟨w.heap.size, 0, none⟩ = some (.int .i64 x.dev) ∧ W.cell? ⟨w.heap.size, 1, none⟩ = some (.int .i64 x.page) ∧ W.cell? ⟨w.heap.size, 2, none⟩ = some (.int .i64 x.at_) ∧ W.cell? ⟨w.heap.size, 3, none⟩ = some (.bool x.rd) ∧ W.cell? ⟨w.heap.size, 4, none⟩ = some (.bool x.wr) ∧ Hid (Xam w3 W))
   (((with_reducible refine Xw5 ?_ HC.out.1 HC.out.2.1 HC.out.2.2.1 HC.out.2.2.2.1 HC.out.2.2.2.2); (repeat (first | (with_reducible assumption) | (with_reducible exact Xan _) | (with_reducible exact Xbu y5) | (with_reducible exact Xaz y5 (Xbu y5)) | (with_reducible refine Xav ?_) | (with_reducible refine Xag ?_ _) | ((with_reducible refine Xbg ?_ ?_ _); rotate_left; exact y0))); done))
   (first
     | (refine Xfc _ (by rfl) (.tmp 31) (.tmp 32) 27 (by rfl) (.slice (some ⟨w3.heap.size, 0, none⟩) 0 0) (.slice A 0 c) (by rfl) (by rfl) (fun ty => Xi3 _ _ _ ty _) ?_)
     | (refine Xfc _ (by rfl) (.tmp 31) (.tmp 32) 27 (by rfl) (.slice (some ⟨w3.heap.size + 1, 0, none⟩) 0 0) (.slice A 0 c) (by rfl) (by rfl) (fun ty => Xi3 _ _ _ ty _) ?_)
     | (refine step_append_lies _ (by rfl) (.tmp 33) (.tmp 35) 27 (by rfl) w3.heap.size 58 i0 (.agg #[.int .i64 0, .int .i64 0, .int .i64 0, .bool false, .bool false]) 5 32 Tryz.underlying27 HI.out HZ0.out HZ1.out HZ2.out (by rfl) (by decide) (.slice (some ⟨w3.heap.size, 0, none⟩) 0 0) 0 [] (by rfl) (((Xll w3.drew w3.heap.size w3.heap.size (by simp) (Nat.le_refl _)).alloc _).2.2.2) ⟨w3.heap.size + 1, 0, none⟩ 1 1 x.vals (by rfl) (by rfl) (Xf9 (Xcc (w3.drew.alloc (.cells #[] 58)) x) (by simp)) (Xbm x) (by decide) y6 (by omega) y0 _ rfl ?_; intro g6 cap6 w6 hown6 hgrow6 hat6 hlt6; have hs6 : Xam w3 w6 := Below.grown (Xbu y5) hgrow6 y0 y10)
     | (refine step_append_lies _ (by rfl) (.tmp 33) (.tmp 35) 27 (by rfl) w3.heap.size 58 i0 (.agg #[.int .i64 0, .int .i64 0, .int .i64 0, .bool false, .bool false]) 5 32 Tryz.underlying27 HI.out HZ0.out HZ1.out HZ2.out (by rfl) (by decide) (.slice (some ⟨w3.heap.size + 1, 0, none⟩) 0 0) 0 [] (by rfl) ((Xll (w3.drew.alloc (.cells #[.int .i64 x.dev, .int .i64 x.page, .int .i64 x.at_, .bool x.rd, .bool x.wr] 58)) (w3.heap.size + 1) w3.heap.size (by simp) (by omega)).2.2.2) ⟨w3.heap.size, 0, none⟩ 1 1 x.vals (by rfl) (by rfl) (Xct (Xag (Xan _) _) (Xf9 (Xcc w3.drew x) (by simp))) (Xbm x) (by decide) y6 (by omega) y0 _ rfl ?_; intro g6 cap6 w6 hown6 hgrow6 hat6 hlt6; have hs6 : Xam w3 w6 := Below.grown (Xbu y5) hgrow6 y0 y10))
 all_goals
   have HS6 := Zh hs6
   have HO6 := Zh (Xc1 HLS.out (by rw [hnil.out]; exact hown6))
   clear hown6
   go_wp2
   go_ret2
   exact ⟨some ⟨g6, 0, none⟩, cap6, rfl, HO6.out.low (Below.size HBW3.out), HBW3.out.trans (Below.mono HS6.out (Below.size HBW3.out))⟩
theorem Xuu (b off n c : Nat) (hn0 : 0 < n) (hn6 : n < 6) (ls : List Line) (x : Line) (w : World) (hl : Lines w w.heap.size (some ⟨b, off, none⟩) n c ls) (h0 : ckC ls = 0) (h1 : Xbz x = 0) (h2 : Xbw ls x.dev x.page < 0) :
    Calls Tryz.prog 87 #[.slice (some ⟨b, off, none⟩) n c, .agg #[.int .i64 x.dev, .int .i64 x.page, .int .i64 x.at_, .bool x.rd, .bool x.wr]] w (Xkr w (n + 1) (ls ++ [x])) := by
 refine z42 ?_; intro i0 HI HZ0 HZ1 HZ2 HL
 refine z159 ?_; iterate 4 intro
 have t3 : ((n : Int) == 6) = false := beq_eq_false_iff_ne.2 (by omega)
 have HLEN := Zh (show (Xaq ls).length = n * 5 by rw [Xbc]; have := hl.len; first | omega | (simp; omega))
 have HONE := Zh (Xeo ls)
 have HLS : Hid (ls.length = n) := Zh (by have := hl.len; first | omega | (simp; omega))
 clear h0 h1 h2 hl
 refine z15 ?_; (iterate 18 intro); intro w3 _ _ _ _ _ HBW3 HC
 have HNW : Hid (Xeg w3 ⟨b, off, none⟩ (Xaq ls)) := Zh (Xjn (Xah HL.out HBW3.out))
 go_upto_region 11 with (fail)
 go_region_held3 (fun W => W.cell? ⟨w.heap.size, 0, none⟩ = some (.int .i64 x.dev) ∧ W.cell? ⟨w.heap.size, 1, none⟩ = some (.int .i64 x.page) ∧ W.cell? ⟨w.heap.size, 2, none⟩ = some (.int .i64 x.at_) ∧ W.cell? ⟨w.heap.size, 3, none⟩ = some (.bool x.rd) ∧ W.cell? ⟨w.heap.size, 4, none⟩ = some (.bool x.wr) ∧ Hid (Xam w3 W))
   (((with_reducible refine Xw5 ?_ HC.out.1 HC.out.2.1 HC.out.2.2.1 HC.out.2.2.2.1 HC.out.2.2.2.2); (repeat (first | (with_reducible assumption) | (with_reducible exact Xan _) | (with_reducible exact Xbu y5) | (with_reducible exact Xaz y5 (Xbu y5)) | (with_reducible refine Xav ?_) | (with_reducible refine Xag ?_ _) | ((with_reducible refine Xbg ?_ ?_ _); rotate_left; exact y0))); done))
   (first
     | (refine step_append_lies _ (by rfl) (.tmp 31) (.tmp 32) 27 (by rfl) w3.heap.size 58 i0 (.agg #[.int .i64 0, .int .i64 0, .int .i64 0, .bool false, .bool false]) 5 32 Tryz.underlying27 HI.out HZ0.out HZ1.out HZ2.out (by rfl) (by decide) (.slice (some ⟨w3.heap.size, 0, none⟩) 0 0) 0 [] (by rfl) ((Xll w3.drew w3.heap.size w3.heap.size (by simp) (Nat.le_refl _)).2.2.2) ⟨b, off, none⟩ n c (Xaq ls) (by rfl) HLEN.out (Xct (Xbu y5) HNW.out) HONE.out (by omega) y6 (by omega) y0 _ rfl ?_; intro g cap w5 hown5 hgrow hat hlt; have hs5 : Xam w3 w5 := Below.grown (Xbu y5) hgrow y0 y10; have hz5 := Below.size hs5)
     | (refine step_append_lies _ (by rfl) (.tmp 31) (.tmp 32) 27 (by rfl) w3.heap.size 58 i0 (.agg #[.int .i64 0, .int .i64 0, .int .i64 0, .bool false, .bool false]) 5 32 Tryz.underlying27 HI.out HZ0.out HZ1.out HZ2.out (by rfl) (by decide) (.slice (some ⟨w3.heap.size, 0, none⟩) 0 0) 0 [] (by rfl) (((Xll w3.drew w3.heap.size w3.heap.size (by simp) (Nat.le_refl _)).alloc _).2.2.2) ⟨b, off, none⟩ n c (Xaq ls) (by rfl) HLEN.out (Xct (Xbu y5) HNW.out) HONE.out (by omega) y6 (by omega) y0 _ rfl ?_; intro g cap w5 hown5 hgrow hat hlt; have hs5 : Xam w3 w5 := Below.grown (Xbu y5) hgrow y0 y10; have hz5 := Below.size hs5; have hnw5 : Xeg w5 ⟨w3.heap.size + 1, 0, none⟩ x.vals := Xfo hgrow y8 (Xf9 (Xcc (w3.drew.alloc (.cells #[] 58)) x) (by simp)))
     | (refine step_append_lies _ (by rfl) (.tmp 31) (.tmp 32) 27 (by rfl) w3.heap.size 58 i0 (.agg #[.int .i64 0, .int .i64 0, .int .i64 0, .bool false, .bool false]) 5 32 Tryz.underlying27 HI.out HZ0.out HZ1.out HZ2.out (by rfl) (by decide) (.slice (some ⟨w3.heap.size + 1, 0, none⟩) 0 0) 0 [] (by rfl) ((Xll (w3.drew.alloc (.cells #[.int .i64 x.dev, .int .i64 x.page, .int .i64 x.at_, .bool x.rd, .bool x.wr] 58)) (w3.heap.size + 1) w3.heap.size (by simp) (by omega)).2.2.2) ⟨b, off, none⟩ n c (Xaq ls) (by rfl) HLEN.out (Xct (Xbu y5) HNW.out) HONE.out (by omega) y6 (by omega) y0 _ rfl ?_; intro g cap w5 hown5 hgrow hat hlt; have hs5 : Xam w3 w5 := Below.grown (Xbu y5) hgrow y0 y10; have hz5 := Below.size hs5; have hnw5 : Xeg w5 ⟨w3.heap.size, 0, none⟩ x.vals := Xfo hgrow y8 (Xct (Xag (Xan _) _) (Xf9 (Xcc w3.drew x) (by simp))))
     | (revert hown5; intro hown5; refine step_append_lies _ (by rfl) (.tmp 33) (.tmp 35) 27 (by rfl) w3.heap.size 58 i0 (.agg #[.int .i64 0, .int .i64 0, .int .i64 0, .bool false, .bool false]) 5 32 Tryz.underlying27 HI.out HZ0.out HZ1.out HZ2.out (by rfl) (by decide) (.slice (some ⟨g, 0, none⟩) (0 + n) cap) (0 + n) ([] ++ Xaq ls) (by rfl) (Xcp hown5 (Xa3 w5 _)) ⟨w5.heap.size, 0, none⟩ 1 1 x.vals (by rfl) (by rfl) (Xcc w5 x) (Xbm x) (by decide) y6 (by omega) y0 _ rfl ?_; intro g6 cap6 w6 hown6 hgrow6 hat6 hlt6; have hs6 : Xam w3 w6 := Below.grown (Xbu y5) hgrow6 y0 (fun q hq => Xds hown5 q hq))
     | (revert hnw5; intro hnw5; refine step_append_lies _ (by rfl) (.tmp 33) (.tmp 35) 27 (by rfl) w3.heap.size 58 i0 (.agg #[.int .i64 0, .int .i64 0, .int .i64 0, .bool false, .bool false]) 5 32 Tryz.underlying27 HI.out HZ0.out HZ1.out HZ2.out (by rfl) (by decide) (.slice (some ⟨g, 0, none⟩) (0 + n) cap) (0 + n) ([] ++ Xaq ls) (by rfl) hown5 _ 1 1 x.vals (by rfl) (by rfl) hnw5 (Xbm x) (by decide) y6 (by omega) y0 _ rfl ?_; intro g6 cap6 w6 hown6 hgrow6 hat6 hlt6; have hs6 : Xam w3 w6 := Below.grown (Xbu y5) hgrow6 y0 (fun q hq => Xds hown5 q hq))
     | (revert hown5; intro hown5; refine step_append_lies _ (by rfl) (.tmp 33) (.tmp 35) 27 (by rfl) w3.heap.size 58 i0 (.agg #[.int .i64 0, .int .i64 0, .int .i64 0, .bool false, .bool false]) 5 32 Tryz.underlying27 HI.out HZ0.out HZ1.out HZ2.out (by rfl) (by decide) (.slice (some ⟨g, 0, none⟩) n cap) n (Xaq ls) (by rfl) (Xcp (Xhs hown5) (Xa3 w5 _)) ⟨w5.heap.size, 0, none⟩ 1 1 x.vals (by rfl) (by rfl) (Xcc w5 x) (Xbm x) (by decide) y6 (by omega) y0 _ rfl ?_; intro g6 cap6 w6 hown6 hgrow6 hat6 hlt6; have hs6 : Xam w3 w6 := Below.grown (Xbu y5) hgrow6 y0 (fun q hq => Xds hown5 q hq))
     | (revert hnw5; intro hnw5; refine step_append_lies _ (by rfl) (.tmp 33) (.tmp 35) 27 (by rfl) w3.heap.size 58 i0 (.agg #[.int .i64 0, .int .i64 0, .int .i64 0, .bool false, .bool false]) 5 32 Tryz.underlying27 HI.out HZ0.out HZ1.out HZ2.out (by rfl) (by decide) (.slice (some ⟨g, 0, none⟩) n cap) n (Xaq ls) (by rfl) (Xhs hown5) _ 1 1 x.vals (by rfl) (by rfl) hnw5 (Xbm x) (by decide) y6 (by omega) y0 _ rfl ?_; intro g6 cap6 w6 hown6 hgrow6 hat6 hlt6; have hs6 : Xam w3 w6 := Below.grown (Xbu y5) hgrow6 y0 (fun q hq => Xds hown5 q hq)))
 all_goals
   have HS6 := Zh hs6
   have HO6 := Zh (Xc1 HLS.out (by first | exact hown6 | (rw [Nat.zero_add, List.nil_append] at hown6; exact hown6)))
   clear hown6
   go_wp2
   go_ret2
   exact ⟨some ⟨g6, 0, none⟩, cap6, rfl, HO6.out.low (Below.size HBW3.out), HBW3.out.trans (Below.mono HS6.out (Below.size HBW3.out))⟩
theorem Xut (b off c : Nat) (ls : List Line) (x : Line) (w : World) (hl : Lines w w.heap.size (some ⟨b, off, none⟩) 6 c ls) (h0 : ckC ls = 0) (h1 : Xbz x = 0) (h2 : Xbw ls x.dev x.page < 0) :
    Calls Tryz.prog 87 #[.slice (some ⟨b, off, none⟩) 6 c, .agg #[.int .i64 x.dev, .int .i64 x.page, .int .i64 x.at_, .bool x.rd, .bool x.wr]] w (Xkr w (5 + 1) (ls.drop 1 ++ [x])) := by
 refine z42 ?_; intro i0 HI HZ0 HZ1 HZ2 HL
 refine z159 ?_; intro hcap _ _ _
 have hlo := Zh (fun w => Xqt b off c (by have := hcap.1; omega) w)
 have HLEN := Zh (show (Xaq (ls.drop 1)).length = 5 * 5 by rw [Xbc]; have := hl.len; first | omega | (simp; omega))
 have HONE := Zh (Xeo (ls.drop 1))
 have HLS : Hid ((ls.drop 1).length = 5) := Zh (by have := hl.len; first | omega | (simp; omega))
 clear h0 h1 h2 hl
 refine z15 ?_; (iterate 18 intro); intro w3 _ _ _ _ _ HBW3 HC
 have HNW : Hid (Xeg w3 ⟨b, off + 5, none⟩ (Xaq (ls.drop 1))) := Zh (Xjn ((Xah HL.out HBW3.out).drop1))
 have hlo' := hlo.out
 go_upto_region 11 with (fail)
 go_region_held3 (fun W => W.cell? ⟨w.heap.size, 0, none⟩ = some (.int .i64 x.dev) ∧ W.cell? ⟨w.heap.size, 1, none⟩ = some (.int .i64 x.page) ∧ W.cell? ⟨w.heap.size, 2, none⟩ = some (.int .i64 x.at_) ∧ W.cell? ⟨w.heap.size, 3, none⟩ = some (.bool x.rd) ∧ W.cell? ⟨w.heap.size, 4, none⟩ = some (.bool x.wr) ∧ Hid (Xam w3 W))
   (((with_reducible refine Xw5 ?_ HC.out.1 HC.out.2.1 HC.out.2.2.1 HC.out.2.2.2.1 HC.out.2.2.2.2); (repeat (first | (with_reducible assumption) | (with_reducible exact Xan _) | (with_reducible exact Xbu y5) | (with_reducible exact Xaz y5 (Xbu y5)) | (with_reducible refine Xav ?_) | (with_reducible refine Xag ?_ _) | ((with_reducible refine Xbg ?_ ?_ _); rotate_left; exact y0))); done))
   (first
     | (refine step_append_lies _ (by rfl) (.tmp 31) (.tmp 32) 27 (by rfl) w3.heap.size 58 i0 (.agg #[.int .i64 0, .int .i64 0, .int .i64 0, .bool false, .bool false]) 5 32 Tryz.underlying27 HI.out HZ0.out HZ1.out HZ2.out (by rfl) (by decide) (.slice (some ⟨w3.heap.size, 0, none⟩) 0 0) 0 [] (by rfl) ((Xll w3.drew w3.heap.size w3.heap.size (by simp) (Nat.le_refl _)).2.2.2) ⟨b, off + 5, none⟩ 5 (c - 1) (Xaq (ls.drop 1)) (by rfl) HLEN.out (Xct (Xbu y5) HNW.out) HONE.out (by omega) y6 (by omega) y0 _ rfl ?_; intro g cap w5 hown5 hgrow hat hlt; have hs5 : Xam w3 w5 := Below.grown (Xbu y5) hgrow y0 y10; have hz5 := Below.size hs5)
     | (refine step_append_lies _ (by rfl) (.tmp 31) (.tmp 32) 27 (by rfl) w3.heap.size 58 i0 (.agg #[.int .i64 0, .int .i64 0, .int .i64 0, .bool false, .bool false]) 5 32 Tryz.underlying27 HI.out HZ0.out HZ1.out HZ2.out (by rfl) (by decide) (.slice (some ⟨w3.heap.size, 0, none⟩) 0 0) 0 [] (by rfl) (((Xll w3.drew w3.heap.size w3.heap.size (by simp) (Nat.le_refl _)).alloc _).2.2.2) ⟨b, off + 5, none⟩ 5 (c - 1) (Xaq (ls.drop 1)) (by rfl) HLEN.out (Xct (Xbu y5) HNW.out) HONE.out (by omega) y6 (by omega) y0 _ rfl ?_; intro g cap w5 hown5 hgrow hat hlt; have hs5 : Xam w3 w5 := Below.grown (Xbu y5) hgrow y0 y10; have hz5 := Below.size hs5; have hnw5 : Xeg w5 ⟨w3.heap.size + 1, 0, none⟩ x.vals := Xfo hgrow y8 (Xf9 (Xcc (w3.drew.alloc (.cells #[] 58)) x) (by simp)))
     | (refine step_append_lies _ (by rfl) (.tmp 31) (.tmp 32) 27 (by rfl) w3.heap.size 58 i0 (.agg #[.int .i64 0, .int .i64 0, .int .i64 0, .bool false, .bool false]) 5 32 Tryz.underlying27 HI.out HZ0.out HZ1.out HZ2.out (by rfl) (by decide) (.slice (some ⟨w3.heap.size + 1, 0, none⟩) 0 0) 0 [] (by rfl) ((Xll (w3.drew.alloc (.cells #[.int .i64 x.dev, .int .i64 x.page, .int .i64 x.at_, .bool x.rd, .bool x.wr] 58)) (w3.heap.size + 1) w3.heap.size (by simp) (by omega)).2.2.2) ⟨b, off + 5, none⟩ 5 (c - 1) (Xaq (ls.drop 1)) (by rfl) HLEN.out (Xct (Xbu y5) HNW.out) HONE.out (by omega) y6 (by omega) y0 _ rfl ?_; intro g cap w5 hown5 hgrow hat hlt; have hs5 : Xam w3 w5 := Below.grown (Xbu y5) hgrow y0 y10; have hz5 := Below.size hs5; have hnw5 : Xeg w5 ⟨w3.heap.size, 0, none⟩ x.vals := Xfo hgrow y8 (Xct (Xag (Xan _) _) (Xf9 (Xcc w3.drew x) (by simp))))
     | (revert hown5; intro hown5; refine step_append_lies _ (by rfl) (.tmp 33) (.tmp 35) 27 (by rfl) w3.heap.size 58 i0 (.agg #[.int .i64 0, .int .i64 0, .int .i64 0, .bool false, .bool false]) 5 32 Tryz.underlying27 HI.out HZ0.out HZ1.out HZ2.out (by rfl) (by decide) (.slice (some ⟨g, 0, none⟩) (0 + 5) cap) (0 + 5) ([] ++ Xaq (ls.drop 1)) (by rfl) (Xcp hown5 (Xa3 w5 _)) ⟨w5.heap.size, 0, none⟩ 1 1 x.vals (by rfl) (by rfl) (Xcc w5 x) (Xbm x) (by decide) y6 (by omega) y0 _ rfl ?_; intro g6 cap6 w6 hown6 hgrow6 hat6 hlt6; have hs6 : Xam w3 w6 := Below.grown (Xbu y5) hgrow6 y0 (fun q hq => Xds hown5 q hq))
     | (revert hnw5; intro hnw5; refine step_append_lies _ (by rfl) (.tmp 33) (.tmp 35) 27 (by rfl) w3.heap.size 58 i0 (.agg #[.int .i64 0, .int .i64 0, .int .i64 0, .bool false, .bool false]) 5 32 Tryz.underlying27 HI.out HZ0.out HZ1.out HZ2.out (by rfl) (by decide) (.slice (some ⟨g, 0, none⟩) (0 + 5) cap) (0 + 5) ([] ++ Xaq (ls.drop 1)) (by rfl) hown5 _ 1 1 x.vals (by rfl) (by rfl) hnw5 (Xbm x) (by decide) y6 (by omega) y0 _ rfl ?_; intro g6 cap6 w6 hown6 hgrow6 hat6 hlt6; have hs6 : Xam w3 w6 := Below.grown (Xbu y5) hgrow6 y0 (fun q hq => Xds hown5 q hq))
     | (revert hown5; intro hown5; refine step_append_lies _ (by rfl) (.tmp 33) (.tmp 35) 27 (by rfl) w3.heap.size 58 i0 (.agg #[.int .i64 0, .int .i64 0, .int .i64 0, .bool false, .bool false]) 5 32 Tryz.underlying27 HI.out HZ0.out HZ1.out HZ2.out (by rfl) (by decide) (.slice (some ⟨g, 0, none⟩) 5 cap) 5 (Xaq (ls.drop 1)) (by rfl) (Xcp (Xhs hown5) (Xa3 w5 _)) ⟨w5.heap.size, 0, none⟩ 1 1 x.vals (by rfl) (by rfl) (Xcc w5 x) (Xbm x) (by decide) y6 (by omega) y0 _ rfl ?_; intro g6 cap6 w6 hown6 hgrow6 hat6 hlt6; have hs6 : Xam w3 w6 := Below.grown (Xbu y5) hgrow6 y0 (fun q hq => Xds hown5 q hq))
     | (revert hnw5; intro hnw5; refine step_append_lies _ (by rfl) (.tmp 33) (.tmp 35) 27 (by rfl) w3.heap.size 58 i0 (.agg #[.int .i64 0, .int .i64 0, .int .i64 0, .bool false, .bool false]) 5 32 Tryz.underlying27 HI.out HZ0.out HZ1.out HZ2.out (by rfl) (by decide) (.slice (some ⟨g, 0, none⟩) 5 cap) 5 (Xaq (ls.drop 1)) (by rfl) (Xhs hown5) _ 1 1 x.vals (by rfl) (by rfl) hnw5 (Xbm x) (by decide) y6 (by omega) y0 _ rfl ?_; intro g6 cap6 w6 hown6 hgrow6 hat6 hlt6; have hs6 : Xam w3 w6 := Below.grown (Xbu y5) hgrow6 y0 (fun q hq => Xds hown5 q hq)))
 all_goals
   have HS6 := Zh hs6
   have HO6 := Zh (Xc1 HLS.out (by first | exact hown6 | (rw [Nat.zero_add, List.nil_append] at hown6; exact hown6)))
   clear hown6
   go_wp2
   go_ret2
   exact ⟨some ⟨g6, 0, none⟩, cap6, rfl, HO6.out.low (Below.size HBW3.out), HBW3.out.trans (Below.mono HS6.out (Below.size HBW3.out))⟩
theorem Xso (A : Option Addr) (n c : Nat) (ls : List Line) (x : Line) (w : World) (hl : Lines w w.heap.size A n c ls) (hE : Xeq ls x ≠ 0) :
    Calls Tryz.prog 87 #[.slice A n c, .agg #[.int .i64 x.dev, .int .i64 x.page, .int .i64 x.at_, .bool x.rd, .bool x.wr]] w fun e w' => e = .returned (.tuple #[.slice none 0 0, .int .i64 (Xeq ls x)]) ∧ Below w.heap.size w w' := by
 have HL := Zh hl
 have HE := Zh hE
 clear hl hE
 by_cases h0 : ckC ls = 0
 · refine z137 ?_; intro t0
   by_cases h1 : Xbz x = 0
   · have t1 : (Xbz x != 0) = false := by rw [bne_eq_false_iff_eq]; exact h1
     by_cases h2 : 0 ≤ Xbw ls x.dev x.page
     · rw [Xxf h0 h1 h2]
       have t2 : decide (0 ≤ Xbw ls x.dev x.page) = true := by simpa using h2
       clear h0 h1 h2
       go_enter Tryz.func87, Tryz.ntmps87
       go_wp2_with fail
       refine z40 ?_
       refine z174 ?_; intro w1 hz1 l1_0 k1_0 q1_0 HB1
       go_wp2_with fail
       refine (Xc0 _ _ _ [x] _ ((Xgt _ x).more (by simp))).mono ?_
       rw [Xki]
       refine z32 ?_; intro w2 hz2 _ _ _ HB2
       go_wp2_with fail
       refine z100 ?_; intro _ hb3
       refine z110 ?_; intro _
       have HB3 := Zh hb3
       clear hb3
       go_wp2
       go_ret2
       exact z34
     · exact absurd (Xkf h0 h1 (by omega)) HE.out
   · rw [Xxg h0 h1]
     have t1 : (Xbz x != 0) = true := by rw [bne_iff_ne]; exact h1
     clear h0 h1
     go_enter Tryz.func87, Tryz.ntmps87
     go_wp2_with fail
     refine z40 ?_
     refine z191 ?_; intro w1 hz1 _ _ _ HB1
     go_wp2_with fail
     refine (Xc0 _ _ _ [x] _ ((Xgt _ x).more (by simp))).mono ?_
     rw [Xki]
     refine z54 ?_; intro _ hb2 _
     have HB2 := Zh hb2
     clear hb2
     go_wp2
     go_ret2
     exact z27
 · rw [Xxh h0]
   have t0 : (ckC ls != 0) = true := by rw [bne_iff_ne]; exact h0
   clear h0
   go_enter Tryz.func87, Tryz.ntmps87
   go_wp2_with fail
   refine z40 ?_
   refine z33 ?_; intro _ hb1 _
   have HB1 := Zh hb1
   clear hb1
   go_wp2
   go_ret2
   exact z21
theorem Xld (A : Option Addr) (n c : Nat) (ls : List Line) (x : Line) (w : World) (hl : Lines w w.heap.size A n c ls) (hE : Xeq ls x = 0) :
    Calls Tryz.prog 87 #[.slice A n c, .agg #[.int .i64 x.dev, .int .i64 x.page, .int .i64 x.at_, .bool x.rd, .bool x.wr]] w (Xkr w (Xej ls x).length (Xej ls x)) := by
 obtain ⟨h0, h1, h2⟩ := Xir hE
 have hlen := hl.len
 have h6 : n ≤ 6 := by have := ((Xcx ls).1 h0).1; omega
 rw [Xm9 hE]
 rcases Nat.eq_zero_or_pos n with hn | hn
 · subst hn
   have e : ls.length + 1 - 6 = 0 := by omega
   rw [e, List.drop_zero, show (ls ++ [x]).length = 0 + 1 by rw [List.length_append, hlen]; rfl]
   exact Xus A c ls x w hl h0 h1 h2
 · obtain ⟨b, off, rfl, _, _⟩ := hl.at_ hn
   by_cases hn6 : n = 6
   · subst hn6
     have e : ls.length + 1 - 6 = 1 := by omega
     rw [e, show (ls.drop 1 ++ [x]).length = 5 + 1 by simp; omega]
     exact Xut b off c ls x w hl h0 h1 h2
   · have e : ls.length + 1 - 6 = 0 := by omega
     rw [e, List.drop_zero, show (ls ++ [x]).length = n + 1 by simp; omega]
     exact Xuu b off n c hn (by omega) ls x w hl h0 h1 h2
theorem Xpb (A : Option Addr) (n c : Nat) (ls ms : List Line) (x1 x2 x3 : Int) (x4 x5 : Bool) (E : Int) (w : World) (hl : Lines w w.heap.size A n c ls) (hE : Xeq ls ⟨x1, x2, x3, x4, x5⟩ = E) (hm : Xej ls ⟨x1, x2, x3, x4, x5⟩ = ms) :
    Calls Tryz.prog 87 #[.slice A n c, .agg #[.int .i64 x1, .int .i64 x2, .int .i64 x3, .bool x4, .bool x5]] w fun e w' => ∃ A' c', e = .returned (.tuple #[.slice A' ms.length c', .int .i64 E]) ∧ Lines w' w'.heap.size A' ms.length c' ms ∧ Below w.heap.size w w' ∧ ∀ ad, A' = some ad → w.heap.size ≤ ad.block := by
 by_cases h0 : E = 0
 · subst h0
   have := Xld A n c ls ⟨x1, x2, x3, x4, x5⟩ w hl hE
   rw [hm] at this
   refine this.mono ?_
   rintro e w' ⟨A', c', rfl, ho, hb⟩
   exact ⟨A', c', rfl, ho.lines, hb, fun ad h => Xds ho.2.2.2 ad.block (by rw [h]; rfl)⟩
 · have := Xso A n c ls ⟨x1, x2, x3, x4, x5⟩ w hl (by rw [hE]; exact h0)
   rw [hE] at this
   refine this.mono ?_
   rintro e w' ⟨rfl, hb⟩
   have hz : ms = [] := by rw [← hm]; exact Xxe hE h0
   subst hz
   exact ⟨none, 0, rfl, Xb2 _ _, hb, fun _ h => by cases h⟩
end
section
theorem Xr2 {ls : List Line} {q : Line → Bool} {j : Nat} {y : Line} (hy : ls[j]? = some y) : (ls.take (j + 1)).filter q = (ls.take j).filter q ++ (if q y = true then [y] else []) := by
 rw [List.take_add_one, hy, List.filter_append]
 congr 1
 simp only [Option.toList, List.filter_cons, List.filter_nil]
theorem Xpx (A : Option Addr) (n c : Nat) (ls : List Line) (k d p : Int) (w : World) (hl : Lines w w.heap.size A n c ls) (h0 : Xee ls k ≠ 0) :
    Calls Tryz.prog 62 #[.slice A n c, .agg #[.int .i64 k, .int .i64 d, .int .i64 p]] w fun e w' => e = .returned (.tuple #[.slice none 0 0, .int .i64 (Xee ls k)]) ∧ Below w.heap.size w w' := by
 have HL := Zh hl
 clear hl
 by_cases hc : ckC ls = 0
 · have t0 : (ckC ls != 0) = false := by rw [bne_eq_false_iff_eq]; exact hc
   have hk : ¬ (0 ≤ k ∧ k ≤ 3) := fun hk => h0 (Xge hc hk)
   have i1 : inB k 0 3 = false := Xfx hk
   rw [Xnb hc hk]
   clear hc hk h0
   go_enter Tryz.func62, Tryz.ntmps62
   go_wp2_with fail
   refine z40 ?_
   refine z191 ?_; intro w1 hz1 _ _ _ HB1
   go_wp2_with fail
   refine (Xa6 _ _ _ _).mono ?_
   rintro e w' ⟨rfl, rfl⟩
   go_wp2
   go_ret2
   exact z21
 · have t0 : (ckC ls != 0) = true := by rw [bne_iff_ne]; exact hc
   rw [Xnc hc]
   clear hc h0
   go_enter Tryz.func62, Tryz.ntmps62
   go_wp2_with fail
   refine z40 ?_
   refine z33 ?_; intro _ hb1 _
   have HB1 := Zh hb1
   clear hb1
   go_wp2
   go_ret2
   exact z21
theorem Xsu (A : Option Addr) (n c : Nat) (ls : List Line) (k d p : Int) (w : World) (hl : Lines w w.heap.size A n c ls) (h0 : Xee ls k = 0) :
    Calls Tryz.prog 62 #[.slice A n c, .agg #[.int .i64 k, .int .i64 d, .int .i64 p]] w fun e w' => ∃ A' c', e = .returned (.tuple #[.slice A' (Xe3 ls k d p).length c', .int .i64 0]) ∧ OwnL w.heap.size w' A' (Xe3 ls k d p).length c' (Xe3 ls k d p) ∧ Below w.heap.size w w' := by
 refine z42 ?_; intro i0 HI HZ0 HZ1 HZ2 HL
 have hcap := hl.cap
 obtain ⟨hc, hk⟩ := Xsv h0
 have h6 : n ≤ 6 := by have := ((Xcx ls).1 hc).1; have := hl.len; omega
 have t0 : (ckC ls != 0) = false := by rw [bne_eq_false_iff_eq]; exact hc
 have t1 : inB k 0 3 = true := Xb8 hk
 have HK := Zh hk
 rw [Xiu h0]
 clear hl hc hk h0
 go_enter Tryz.func62, Tryz.ntmps62
 go_wp2_with fail
 refine z40 ?_
 rintro e w1 ⟨rfl, hb1⟩
 have HS1 := Zh (show Xam w w1 from (by (repeat (first | (with_reducible exact Below.refl _ _) | (with_reducible refine Below.drew ?_) | (with_reducible refine Xai ?_ _) | ((with_reducible refine Below.setCell ?_ ?_ _); rotate_left; exact y0) | ((with_reducible refine Below.alloc ?_ ?_ _); rotate_left; exact y0))) : Below w.heap.size w _).trans (hb1.mono (by simp)))
 refine z129 ?_; intro _
 refine z102 ?_; intro k1_0 _ q1_0
 revert hb1 k1_0 q1_0; refine_lift z93 ?_; intro k1_0 q1_0 _
 have o0 : w1.cell? ⟨w.heap.size, 0, none⟩ = some (.int .i64 k) := by simp [k1_0]
 have o1 : w1.cell? ⟨w.heap.size, 1, none⟩ = some (.int .i64 d) := by simp [k1_0]
 have o2 : w1.cell? ⟨w.heap.size, 2, none⟩ = some (.int .i64 p) := by simp [k1_0]
 have HR := Zh (And.intro o0 (And.intro o1 o2))
 clear o1 o2 k1_0 q1_0
 go_wp2_with (go_at_call 38; refine (Xa6 _ _ _ _).mono ?_; rintro e w' ⟨rfl, rfl⟩)
 clear o0
 go_loopw [7, 22] (fun s7 s22 wr => ∃ (i : Nat) (A' : Option Addr) (c' : Nat), s7 = .slice A' ((ls.take i).filter (fun x => !goes k d p x)).length c' ∧ s22 = .int .i64 i ∧ i ≤ n ∧ Hid (OwnL w1.heap.size wr A' ((ls.take i).filter (fun x => !goes k d p x)).length c' ((ls.take i).filter (fun x => !goes k d p x))) ∧ Hid (Xam w1 wr)) (fun _ i _ => n - (intOf i).toNat)
 case atStart => exact ⟨0, none, 0, rfl, rfl, by omega, Xj6 _ _, Xan w1⟩
 case round =>
   obtain ⟨i, A', c', rfl, rfl, hi, hO, hS⟩ := hrel
   have r0 := Xae hS.out HR.out.1
   have r1 := Xae hS.out HR.out.2.1
   have r2 := Xae hS.out HR.out.2.2
   have lr : w.heap.size < wr.heap.size := Xb9 r0
   have hKi : ((ls.take i).filter (fun x => !goes k d p x)).length ≤ i := Xw4 _ _ _
   by_cases hlt : i < n
   · obtain ⟨y, hy⟩ := Xax ls (k := i) y14
     obtain ⟨b1, off1, rfl, hb1', hcc⟩ := (Xah HL.out (HS1.out.trans (Below.mono hS.out (Below.size HS1.out)))).at_ (by omega)
     obtain ⟨d0, d1, d2, d3, d4⟩ := hcc i y hy
     have HSN := Zh (Xr2 (q := fun x => !goes k d p x) hy)
     have i0' : (0 : Int) ≤ (i : Int) := by omega
     have i1 : (i : Int) < (n : Int) := by omega
     clear hcc hy
     generalize hfil : (ls.take i).filter (fun x => !goes k d p x) = fs at *
     go_upto_region 10 with (fail)
     go_cut [10] (fun s10 wd => s10 = .bool (goes k d p y) ∧ wd = wr.alloc (.cells #[.int .i64 y.dev, .int .i64 y.page, .int .i64 y.at_, .bool y.rd, .bool y.wr] 58))
     case first =>
       rcases (show k = 0 ∨ k = 1 ∨ k = 2 ∨ k = 3 by have := HK.out; omega) with hk | hk | hk | hk
       · have q1 : (k == 1) = false := by rw [hk]; rfl
         have q2 : (k == 2) = false := by rw [hk]; rfl
         have q3 : (k == 3) = false := by rw [hk]; rfl
         have HG := Zh (show false = goes k d p y by simp [goes, hk])
         clear hk
         go_wp2
         go_meet
         exact ⟨congrArg Value.bool HG.out, rfl⟩
       · have q1 : (k == 1) = true := by rw [hk]; rfl
         have HG := Zh (show true = goes k d p y by simp [goes, hk])
         clear hk
         go_wp2
         go_meet
         exact ⟨congrArg Value.bool HG.out, rfl⟩
       · have q1 : (k == 1) = false := by rw [hk]; rfl
         have q2 : (k == 2) = true := by rw [hk]; rfl
         have q3 : (k == 3) = false := by rw [hk]; rfl
         have HG := Zh (show (y.dev == d) = goes k d p y by simp [goes, hk])
         clear hk
         cases hd : (y.dev == d)
         · rw [hd] at HG
           go_wp2
           go_meet
           exact ⟨congrArg Value.bool HG.out, rfl⟩
         · rw [hd] at HG
           go_wp2
           go_meet
           exact ⟨congrArg Value.bool HG.out, rfl⟩
       · have q1 : (k == 1) = false := by rw [hk]; rfl
         have q2 : (k == 2) = false := by rw [hk]; rfl
         have q3 : (k == 3) = true := by rw [hk]; rfl
         have HG := Zh (show (y.dev == d && y.page == p) = goes k d p y by simp [goes, hk])
         clear hk
         cases hd : (y.dev == d)
         · rw [hd] at HG
           go_wp2
           go_meet
           exact ⟨congrArg Value.bool HG.out, rfl⟩
         · cases hp : (y.page == p)
           · rw [hd, hp] at HG
             go_wp2
             go_meet
             exact ⟨congrArg Value.bool HG.out, rfl⟩
           · rw [hd, hp] at HG
             go_wp2
             go_meet
             exact ⟨congrArg Value.bool HG.out, rfl⟩
     case rest =>
       obtain ⟨rfl, rfl⟩ := hcut
       cases hg : goes k d p y
       · have HE := Zh (show (ls.take (i + 1)).filter (fun x => !goes k d p x) = fs ++ [y] by rw [HSN.out]; simp [hg])
         have HV := Zh hg
         clear hg
         have hO2 := Zh ((hO.out.alloc (.cells #[.int .i64 y.dev, .int .i64 y.page, .int .i64 y.at_, .bool y.rd, .bool y.wr] 58)).alloc (.cells #[.int .i64 y.dev, .int .i64 y.page, .int .i64 y.at_, .bool y.rd, .bool y.wr] 58))
         have hzs := Below.size hS.out
         go_wp2_with (at_builtin; refine wpList_append_lies _ rfl (.tmp 62) (.tmp 64) 27 rfl w1.heap.size 58 i0 (.agg #[.int .i64 0, .int .i64 0, .int .i64 0, .bool false, .bool false]) 5 32 Tryz.underlying27 HI.out HZ0.out HZ1.out HZ2.out rfl (by decide) (.slice A' fs.length c') fs.length (Xaq fs) rfl hO2.out.2.2.2 ⟨wr.heap.size + 1, 0, none⟩ 1 1 y.vals rfl rfl (Xf9 (Xcc (wr.alloc (.cells #[.int .i64 y.dev, .int .i64 y.page, .int .i64 y.at_, .bool y.rd, .bool y.wr] 58)) y) (by simp)) (Xbm y) (by decide) y6 (by omega) y3 _ rfl ?_; intro g cap w6 hown6 hgrow6 hat6 hlt6)
         have hs6 : Xam w1 w6 := Below.grown (Xag (Xag hS.out _) _) hgrow6 y3 (fun q hq => Xds hO2.out.2.2.2 q hq)
         have HS6 := Zh hs6
         have HO6 := Zh (Xc1 rfl hown6)
         clear hgrow6 hat6 hown6 hs6
         go_roundw
         case rel =>
           refine ⟨i + 1, some ⟨g, 0, none⟩, cap, ?_, by go_num, hlt, ?_, HS6.out⟩
           · rw [HE.out]; simp
           · show OwnL _ _ _ _ _ _
             rw [HE.out]
             simpa using HO6.out
         case measure => simp [intOf]; omega
       · have HE := Zh (show (ls.take (i + 1)).filter (fun x => !goes k d p x) = fs by rw [HSN.out]; simp [hg])
         have HV := Zh hg
         clear hg
         go_wp2
         go_roundw
         case rel =>
           refine ⟨i + 1, A', c', ?_, by go_num, hlt, ?_, Xag hS.out _⟩
           · rw [HE.out]
           · show OwnL _ _ _ _ _ _
             rw [HE.out]
             exact hO.out.alloc _
         case measure => simp [intOf]; omega
   · obtain rfl : i = n := by omega
     have hall : ls.take i = ls := List.take_of_length_le (by rw [HL.out.len]; omega)
     rw [hall] at hO ⊢
     go_wp2
     go_ret2
     exact ⟨A', c', rfl, hO.out.low (Below.size HS1.out), HS1.out.trans (Below.mono hS.out (Below.size HS1.out))⟩
theorem Xm0 (A : Option Addr) (n c : Nat) (ls ms : List Line) (k d p E : Int) (w : World) (hl : Lines w w.heap.size A n c ls) (hE : Xee ls k = E) (hm : Xe3 ls k d p = ms) :
    Calls Tryz.prog 62 #[.slice A n c, .agg #[.int .i64 k, .int .i64 d, .int .i64 p]] w fun e w' => ∃ A' c', e = .returned (.tuple #[.slice A' ms.length c', .int .i64 E]) ∧ Lines w' w'.heap.size A' ms.length c' ms ∧ Below w.heap.size w w' ∧ ∀ ad, A' = some ad → w.heap.size ≤ ad.block := by
 by_cases h0 : E = 0
 · subst h0
   have := Xsu A n c ls k d p w hl hE
   rw [hm] at this
   refine this.mono ?_
   rintro e w' ⟨A', c', rfl, ho, hb⟩
   exact ⟨A', c', rfl, ho.lines, hb, fun ad h => Xds ho.2.2.2 ad.block (by rw [h]; rfl)⟩
 · have := Xpx A n c ls k d p w hl (by rw [hE]; exact h0)
   rw [hE] at this
   refine this.mono ?_
   rintro e w' ⟨rfl, hb⟩
   have hz : ms = [] := by rw [← hm]; exact Xna hE h0
   subst hz
   exact ⟨none, 0, rfl, Xb2 _ _, hb, fun _ h => by cases h⟩
end
end Go.Proofs.YtbopdijnojaaiadGreat
