/- The document's cache: the walk of Filled. No statement of the seat is proved here. -/
import Derived.Test.YtbopdijnojaaiabRefC
import Derived.Test.YtbopdijnojaaiabFillZ
import Derived.Deep.RegionHeld3
import Derived.Deep.DrawnRows
import Derived.Deep.DeepCutAuto
namespace Go.Proofs.Ytbopdijnojaaiab
open Go.RowKit
set_option linter.unusedSimpArgs false
set_option linter.unusedVariables false
attribute [local go_sem ↓] Go.wp_at_zero Go.wp_at_succ

theorem keep5 {w1 W : World} {p0 p1 p2 p3 p4 : Addr} {v0 v1 v2 v3 v4 : Value} (h : Since w1 W) (h0 : w1.cell? p0 = some v0) (h1 : w1.cell? p1 = some v1) (h2 : w1.cell? p2 = some v2) (h3 : w1.cell? p3 = some v3) (h4 : w1.cell? p4 = some v4) : W.cell? p0 = some v0 ∧ W.cell? p1 = some v1 ∧ W.cell? p2 = some v2 ∧ W.cell? p3 = some v3 ∧ W.cell? p4 = some v4 ∧ Hid (Since w1 W) :=
  ⟨since_cell h h0, since_cell h h1, since_cell h h2, since_cell h h3, since_cell h h4, h⟩
theorem since_5 {w1 W : World} {c0 c1 c2 c3 c4 : Prop} (h : c0 ∧ c1 ∧ c2 ∧ c3 ∧ c4 ∧ Hid (Since w1 W)) : Since w1 W := h.2.2.2.2.2
/-- cells that were there are. -/
def NewsAt (w : World) (ad : Addr) (vs : List Value) : Prop := ∀ j u, vs[j]? = some u → w.cell? (ad.add j) = some u
theorem news_since {w W : World} {ad : Addr} {vs : List Value} (h : Since w W) (hn : NewsAt w ad vs) : NewsAt W ad vs := fun j u hu => since_cell h (hn j u hu)
theorem news_block (w : World) (x : Line) : NewsAt (w.alloc (.cells #[.int .i64 x.dev, .int .i64 x.page, .int .i64 x.at_, .bool x.rd, .bool x.wr] 42)) ⟨w.heap.size, 0, none⟩ x.vals := news_new w x
theorem lines_news {w : World} {b off n c : Nat} {ls : List Line} (h : Lines w w.heap.size (some ⟨b, off, none⟩) n c ls) : NewsAt w ⟨b, off, none⟩ (lcells ls) := fun j u hu => by
  rw [Go.WideShapes.add_plain]
  exact row_at_ h.2.2.2.2 rfl (by
    have hp : 0 < (lcells ls).length := by have := (List.getElem?_eq_some_iff.1 hu).1; omega
    obtain ⟨b', off', e, hb, _⟩ := h.2.2.2.2 hp
    simp only [Option.some.injEq, Addr.mk.injEq, and_true] at e
    rw [e.1]; exact hb) j u hu
set_option maxRecDepth 100000 in
theorem append_none (b n' : Nat) (A : Option Addr) (ty : TypeId) (w : World) : (Builtin.append_ #[40, 40] ty #[.slice (some ⟨b, 0, none⟩) 0 0, .slice A 0 n']).run Try.prog w = .ok (.slice (some ⟨b, 0, none⟩) 0 0) w := by
  cases A <;> kernel_rfl

theorem step_append_nil {P : Program} (w : World) {ops : Array Oper} {o : Oper} {a : Act} {K : Act → World → Prop} {Q : Exit → Act → World → Prop} {E : Prop} (hgd : o.guard = none) (s x : Operand) (t : TypeId)
    (ho : o.op = .call { callee := .builtin .append, args := #[s, x], argTypes := #[t, t] }) (v y : Value) (hs : a.eval s = v) (hx : a.eval x = y) (hr : ∀ ty, (Builtin.append_ #[t, t] ty #[v, y]).run P w = .ok v w) (h : K (a.put o.dst v) w) :
    if Region.wanted o (yielded ops a.tmps) = true then Oper.wp P o a w K Q else E := by
  have hw : Region.wanted o (yielded ops a.tmps) = true := by simp [Region.wanted, hgd]
  rw [if_pos hw]
  unfold Oper.wp execOp
  simp only [ho, resolve, invoke, builtin, Sem.run_bind, Sem.run_pure, Result.andThen_ok, List.map_toArray, List.map_cons, List.map_nil, hs, hx, hr]
  exact h
theorem own_e (w : World) (k B : Nat) (hk : w.heap.size = k) (hB : B ≤ k) : OwnL B (w.alloc (.cells #[] 42)) (some ⟨k, 0, none⟩) 0 0 [] := by
  subst hk
  exact ⟨rfl, Nat.le_refl _, Nat.zero_le _, own_low (own_empty w 42 5) hB⟩
theorem zero_row {B : Nat} {w : World} {e : TypeId} {s g m c : Nat} {xs : List Value} (h : w.ownsRow B e s (.slice (some ⟨g, 0, none⟩) (0 + m) c) (0 + m) ([] ++ xs)) : w.ownsRow B e s (.slice (some ⟨g, 0, none⟩) m c) m xs := by rw [Nat.zero_add, List.nil_append] at h; exact h
theorem news_grown {w w' : World} {row : Option Nat} {ad : Addr} {vs : List Value} (hg : w.grownBy w' row) (hne : some ad.block ≠ row) (h : NewsAt w ad vs) : NewsAt w' ad vs := fun j u hu => by
  have h1 := h j u hu
  have hb : (ad.add j).block = ad.block := by unfold Addr.add; split <;> rfl
  exact (hg.cell_far (ad.add j) (cell_lt' h1) (by rw [hb]; exact hne)).trans h1
theorem news_at {w : World} {k k' : Nat} {vs : List Value} (h : NewsAt w ⟨k, 0, none⟩ vs) (e : k = k') : NewsAt w ⟨k', 0, none⟩ vs := by subst e; exact h
/-- what Filled answers where it fills in. -/
def FilledC (w : World) (n : Nat) (ls : List Line) (e : Ending) (w' : World) : Prop := ∃ A c, e = .returned (.tuple #[.slice A n c, .int .i64 0]) ∧ OwnL w.heap.size w' A n c ls ∧ Below w.heap.size w w'

set_option maxRecDepth 100000 in
theorem slice_lo1 (b off c : Nat) (hc : 6 ≤ c) (w : World) : (Instr.slice 40 (.slice (some ⟨b, off, none⟩) 6 c) (some (.int .i64 1)) none none).run Try.prog w = .ok (.slice (some ⟨b, off + 5, none⟩) 5 (c - 1)) w := by
  have h1 : ¬ c = 1 := by omega
  simp [go_sem, h1, Addr.add]
set_option maxRecDepth 100000 in
set_option maxHeartbeats 8000000 in
theorem filled_z (A : Option Addr) (c : Nat) (ls : List Line) (x : Line) (w : World) (hl : Lines w w.heap.size A 0 c ls) (h0 : ckC ls = 0) (h1 : lineE x = 0) (h2 : findL ls x.dev x.page < 0) :
    Calls Try.prog 29 #[.slice A 0 c, .agg #[.int .i64 x.dev, .int .i64 x.page, .int .i64 x.at_, .bool x.rd, .bool x.wr]] w (FilledC w (0 + 1) (ls ++ [x])) := by
  obtain ⟨i0, hi, hz0, hz1, hz2⟩ := info_parts Try.infoLine
  have HI := Lib.hid hi; clear hi
  have HZ0 := Lib.hid hz0; clear hz0
  have HZ1 := Lib.hid hz1; clear hz1
  have HZ2 := Lib.hid hz2; clear hz2
  have HL := Lib.hid hl
  have hnil := Lib.hid (List.length_eq_zero_iff.1 hl.len)
  have hcap := hl.cap
  have t0 : (ckC ls != 0) = false := by rw [bne_eq_false_iff_eq]; exact h0
  have t1 : (lineE x != 0) = false := by rw [bne_eq_false_iff_eq]; exact h1
  have t2 : decide (0 ≤ findL ls x.dev x.page) = false := decide_eq_false (by omega)
  have HLS : Hid (ls.length = 0) := Lib.hid (by have := hl.len; first | omega | (simp; omega))
  clear h0 h1 h2 hl
  go_enter Try.func29, Try.ntmps29
  go_wp2_with fail
  refine (ref_CheckCache _ _ _ ls _ (lines_now HL.out (by (repeat (first | (with_reducible exact Below.refl _ _) | (with_reducible refine Below.drew ?_) | (with_reducible refine bdrewN ?_ _) | ((with_reducible refine Below.setCell ?_ ?_ _); rotate_left; exact (by first | (simp; done) | (simp; omega) | omega)) | ((with_reducible refine Below.alloc ?_ ?_ _); rotate_left; exact (by first | (simp; done) | (simp; omega) | omega))))))).mono ?_
  rintro e w1 ⟨rfl, hb1⟩
  have hz1 := hb1.size
  (try simp only [World.size_alloc, World.size_setCell, World.size_drew] at hz1)
  have k1_0 := fun o => (bcell hb1).1 (w.heap.size) o (by first | (simp; done) | (simp; omega) | omega)
  have l1_0 : (w.heap.size) < w1.heap.size := (by omega)
  have q1_0 := fun o => (bcell hb1).2 (w.heap.size) o (by first | (simp; done) | (simp; omega) | omega)
  simp (maxDischargeDepth := 6) [go_sem, *] at k1_0 q1_0
  have HB1 := Lib.hid hb1
  clear hb1
  go_wp2_with fail
  refine (ref_CheckCache _ _ _ [x] _ ((lines_new _ x).more (by simp))).mono ?_
  rw [ckC_one]
  rintro e w2 ⟨rfl, hb2⟩
  have hz2 := hb2.size
  (try simp only [World.size_alloc, World.size_setCell, World.size_drew] at hz2)
  have k2_0 := fun o => (bcell hb2).1 (w.heap.size) o (by first | (simp; done) | (simp; omega) | omega)
  have l2_0 : (w.heap.size) < w2.heap.size := (by omega)
  have q2_0 := fun o => (bcell hb2).2 (w.heap.size) o (by first | (simp; done) | (simp; omega) | omega)
  simp (maxDischargeDepth := 6) [go_sem, *] at k2_0 q2_0
  have HB2 := Lib.hid hb2
  clear hb2
  go_wp2_with fail
  refine (ref_LineAt _ _ _ ls _ _ _ (lines_now HL.out (by (repeat (first | (with_reducible exact Below.refl _ _) | (with_reducible refine Below.drew ?_) | (with_reducible refine bdrewN ?_ _) | ((with_reducible refine Below.setCell ?_ ?_ _); rotate_left; exact (by first | (simp; done) | (simp; omega) | omega)) | ((with_reducible refine Below.alloc ?_ ?_ _); rotate_left; exact (by first | (simp; done) | (simp; omega) | omega)) | ((with_reducible refine Below.trans ?_ (HB2.out.mono ?_)); rotate_left; exact (by first | (simp; done) | (simp; omega) | omega)) | ((with_reducible refine Below.trans ?_ (HB1.out.mono ?_)); rotate_left; exact (by first | (simp; done) | (simp; omega) | omega))))))).mono ?_
  rintro e w3 ⟨rfl, hb3⟩
  have hz3 := hb3.size
  (try simp only [World.size_alloc, World.size_setCell, World.size_drew] at hz3)
  have k3_0 := fun o => (bcell hb3).1 (w.heap.size) o (by first | (simp; done) | (simp; omega) | omega)
  have l3_0 : (w.heap.size) < w3.heap.size := (by omega)
  have q3_0 := fun o => (bcell hb3).2 (w.heap.size) o (by first | (simp; done) | (simp; omega) | omega)
  simp (maxDischargeDepth := 6) [go_sem, *] at k3_0 q3_0
  have HB3 := Lib.hid hb3
  clear hb3
  have HBW3 := Lib.hid (show Below w.heap.size w w3 by (repeat (first | (with_reducible exact Below.refl _ _) | (with_reducible refine Below.drew ?_) | (with_reducible refine bdrewN ?_ _) | ((with_reducible refine Below.setCell ?_ ?_ _); rotate_left; exact (by first | (simp; done) | (simp; omega) | omega)) | ((with_reducible refine Below.alloc ?_ ?_ _); rotate_left; exact (by first | (simp; done) | (simp; omega) | omega)) | ((with_reducible refine Below.trans ?_ (HB3.out.mono ?_)); rotate_left; exact (by first | (simp; done) | (simp; omega) | omega)) | ((with_reducible refine Below.trans ?_ (HB2.out.mono ?_)); rotate_left; exact (by first | (simp; done) | (simp; omega) | omega)) | ((with_reducible refine Below.trans ?_ (HB1.out.mono ?_)); rotate_left; exact (by first | (simp; done) | (simp; omega) | omega)))))
  have C0 : w3.cell? ⟨w.heap.size, 0, none⟩ = some (.int .i64 x.dev) := by simp [k3_0]
  have C1 : w3.cell? ⟨w.heap.size, 1, none⟩ = some (.int .i64 x.page) := by simp [k3_0]
  have C2 : w3.cell? ⟨w.heap.size, 2, none⟩ = some (.int .i64 x.at_) := by simp [k3_0]
  have C3 : w3.cell? ⟨w.heap.size, 3, none⟩ = some (.bool x.rd) := by simp [k3_0]
  have C4 : w3.cell? ⟨w.heap.size, 4, none⟩ = some (.bool x.wr) := by simp [k3_0]
  have HC := Lib.hid (And.intro C0 (And.intro C1 (And.intro C2 (And.intro C3 C4))))
  clear C0 C1 C2 C3 C4
  go_upto_region 11 with (fail)
  go_region_held3 (fun W => W.cell? ⟨w.heap.size, 0, none⟩ = some (.int .i64 x.dev) ∧ W.cell? ⟨w.heap.size, 1, none⟩ = some (.int .i64 x.page) ∧ W.cell? ⟨w.heap.size, 2, none⟩ = some (.int .i64 x.at_) ∧ W.cell? ⟨w.heap.size, 3, none⟩ = some (.bool x.rd) ∧ W.cell? ⟨w.heap.size, 4, none⟩ = some (.bool x.wr) ∧ Hid (Since w3 W))
    (((with_reducible refine keep5 ?_ HC.out.1 HC.out.2.1 HC.out.2.2.1 HC.out.2.2.2.1 HC.out.2.2.2.2); (repeat (first | (with_reducible assumption) | (with_reducible exact since_refl _) | (with_reducible exact since_5 (by assumption)) | (with_reducible exact since_step (by assumption) (since_5 (by assumption))) | (with_reducible refine since_drew ?_) | (with_reducible refine since_alloc ?_ _) | ((with_reducible refine since_set ?_ ?_ _); rotate_left; exact (by first | (simp; done) | (simp; omega) | omega)))); done))
    (first
      | (refine step_append_nil _ (by rfl) (.tmp 31) (.tmp 32) 40 (by rfl) (.slice (some ⟨w3.heap.size, 0, none⟩) 0 0) (.slice A 0 c) (by rfl) (by rfl) (fun ty => append_none _ _ _ ty _) ?_)
      | (refine step_append_nil _ (by rfl) (.tmp 31) (.tmp 32) 40 (by rfl) (.slice (some ⟨w3.heap.size + 1, 0, none⟩) 0 0) (.slice A 0 c) (by rfl) (by rfl) (fun ty => append_none _ _ _ ty _) ?_)
      | (refine step_append_lies _ (by rfl) (.tmp 33) (.tmp 35) 40 (by rfl) w3.heap.size 42 i0 (.agg #[.int .i64 0, .int .i64 0, .int .i64 0, .bool false, .bool false]) 5 32 Try.underlying40 HI.out HZ0.out HZ1.out HZ2.out (by rfl) (by decide) (.slice (some ⟨w3.heap.size, 0, none⟩) 0 0) 0 [] (by rfl) (((own_e w3.drew w3.heap.size w3.heap.size (by simp) (Nat.le_refl _)).alloc _).2.2.2) ⟨w3.heap.size + 1, 0, none⟩ 1 1 x.vals (by rfl) (by rfl) (news_at (news_block (w3.drew.alloc (.cells #[] 42)) x) (by simp)) (vals_one x) (by decide) (by unfold maxLen; omega) (by omega) (by first | (simp; done) | (simp; omega) | omega) _ rfl ?_; intro g6 cap6 w6 hown6 hgrow6 hat6 hlt6; have hs6 : Since w3 w6 := Below.grown (since_5 (by assumption)) hgrow6 (by first | (simp; done) | (simp; omega) | omega) (by intro q hq; simp [Value.ownBlock] at hq; omega))
      | (refine step_append_lies _ (by rfl) (.tmp 33) (.tmp 35) 40 (by rfl) w3.heap.size 42 i0 (.agg #[.int .i64 0, .int .i64 0, .int .i64 0, .bool false, .bool false]) 5 32 Try.underlying40 HI.out HZ0.out HZ1.out HZ2.out (by rfl) (by decide) (.slice (some ⟨w3.heap.size + 1, 0, none⟩) 0 0) 0 [] (by rfl) ((own_e (w3.drew.alloc (.cells #[.int .i64 x.dev, .int .i64 x.page, .int .i64 x.at_, .bool x.rd, .bool x.wr] 42)) (w3.heap.size + 1) w3.heap.size (by simp) (by omega)).2.2.2) ⟨w3.heap.size, 0, none⟩ 1 1 x.vals (by rfl) (by rfl) (news_since (since_alloc (since_refl _) _) (news_at (news_block w3.drew x) (by simp))) (vals_one x) (by decide) (by unfold maxLen; omega) (by omega) (by first | (simp; done) | (simp; omega) | omega) _ rfl ?_; intro g6 cap6 w6 hown6 hgrow6 hat6 hlt6; have hs6 : Since w3 w6 := Below.grown (since_5 (by assumption)) hgrow6 (by first | (simp; done) | (simp; omega) | omega) (by intro q hq; simp [Value.ownBlock] at hq; omega)))
  all_goals
    have HS6 := Lib.hid hs6
    have HO6 := Lib.hid (own_fill0 HLS.out (by rw [hnil.out]; exact hown6))
    clear hown6
    go_wp2
    go_ret2
    exact ⟨some ⟨g6, 0, none⟩, cap6, rfl, HO6.out.low (Below.size HBW3.out), HBW3.out.trans (Below.mono HS6.out (Below.size HBW3.out))⟩

set_option maxRecDepth 100000 in
set_option maxHeartbeats 8000000 in
theorem filled_m (b off n c : Nat) (hn0 : 0 < n) (hn6 : n < 6) (ls : List Line) (x : Line) (w : World) (hl : Lines w w.heap.size (some ⟨b, off, none⟩) n c ls) (h0 : ckC ls = 0) (h1 : lineE x = 0) (h2 : findL ls x.dev x.page < 0) :
    Calls Try.prog 29 #[.slice (some ⟨b, off, none⟩) n c, .agg #[.int .i64 x.dev, .int .i64 x.page, .int .i64 x.at_, .bool x.rd, .bool x.wr]] w (FilledC w (n + 1) (ls ++ [x])) := by
  obtain ⟨i0, hi, hz0, hz1, hz2⟩ := info_parts Try.infoLine
  have HI := Lib.hid hi; clear hi
  have HZ0 := Lib.hid hz0; clear hz0
  have HZ1 := Lib.hid hz1; clear hz1
  have HZ2 := Lib.hid hz2; clear hz2
  have HL := Lib.hid hl
  have hcap := hl.cap
  have t0 : (ckC ls != 0) = false := by rw [bne_eq_false_iff_eq]; exact h0
  have t1 : (lineE x != 0) = false := by rw [bne_eq_false_iff_eq]; exact h1
  have t2 : decide (0 ≤ findL ls x.dev x.page) = false := decide_eq_false (by omega)
  have t3 : ((n : Int) == 6) = false := beq_eq_false_iff_ne.2 (by omega)
  have HLEN := Lib.hid (show (lcells ls).length = n * 5 by rw [lcells_len]; have := hl.len; first | omega | (simp; omega))
  have HONE := Lib.hid (lines_one ls)
  have HLS : Hid (ls.length = n) := Lib.hid (by have := hl.len; first | omega | (simp; omega))
  clear h0 h1 h2 hl
  go_enter Try.func29, Try.ntmps29
  go_wp2_with fail
  refine (ref_CheckCache _ _ _ ls _ (lines_now HL.out (by (repeat (first | (with_reducible exact Below.refl _ _) | (with_reducible refine Below.drew ?_) | (with_reducible refine bdrewN ?_ _) | ((with_reducible refine Below.setCell ?_ ?_ _); rotate_left; exact (by first | (simp; done) | (simp; omega) | omega)) | ((with_reducible refine Below.alloc ?_ ?_ _); rotate_left; exact (by first | (simp; done) | (simp; omega) | omega))))))).mono ?_
  rintro e w1 ⟨rfl, hb1⟩
  have hz1 := hb1.size
  (try simp only [World.size_alloc, World.size_setCell, World.size_drew] at hz1)
  have k1_0 := fun o => (bcell hb1).1 (w.heap.size) o (by first | (simp; done) | (simp; omega) | omega)
  have l1_0 : (w.heap.size) < w1.heap.size := (by omega)
  have q1_0 := fun o => (bcell hb1).2 (w.heap.size) o (by first | (simp; done) | (simp; omega) | omega)
  simp (maxDischargeDepth := 6) [go_sem, *] at k1_0 q1_0
  have HB1 := Lib.hid hb1
  clear hb1
  go_wp2_with fail
  refine (ref_CheckCache _ _ _ [x] _ ((lines_new _ x).more (by simp))).mono ?_
  rw [ckC_one]
  rintro e w2 ⟨rfl, hb2⟩
  have hz2 := hb2.size
  (try simp only [World.size_alloc, World.size_setCell, World.size_drew] at hz2)
  have k2_0 := fun o => (bcell hb2).1 (w.heap.size) o (by first | (simp; done) | (simp; omega) | omega)
  have l2_0 : (w.heap.size) < w2.heap.size := (by omega)
  have q2_0 := fun o => (bcell hb2).2 (w.heap.size) o (by first | (simp; done) | (simp; omega) | omega)
  simp (maxDischargeDepth := 6) [go_sem, *] at k2_0 q2_0
  have HB2 := Lib.hid hb2
  clear hb2
  go_wp2_with fail
  refine (ref_LineAt _ _ _ ls _ _ _ (lines_now HL.out (by (repeat (first | (with_reducible exact Below.refl _ _) | (with_reducible refine Below.drew ?_) | (with_reducible refine bdrewN ?_ _) | ((with_reducible refine Below.setCell ?_ ?_ _); rotate_left; exact (by first | (simp; done) | (simp; omega) | omega)) | ((with_reducible refine Below.alloc ?_ ?_ _); rotate_left; exact (by first | (simp; done) | (simp; omega) | omega)) | ((with_reducible refine Below.trans ?_ (HB2.out.mono ?_)); rotate_left; exact (by first | (simp; done) | (simp; omega) | omega)) | ((with_reducible refine Below.trans ?_ (HB1.out.mono ?_)); rotate_left; exact (by first | (simp; done) | (simp; omega) | omega))))))).mono ?_
  rintro e w3 ⟨rfl, hb3⟩
  have hz3 := hb3.size
  (try simp only [World.size_alloc, World.size_setCell, World.size_drew] at hz3)
  have k3_0 := fun o => (bcell hb3).1 (w.heap.size) o (by first | (simp; done) | (simp; omega) | omega)
  have l3_0 : (w.heap.size) < w3.heap.size := (by omega)
  have q3_0 := fun o => (bcell hb3).2 (w.heap.size) o (by first | (simp; done) | (simp; omega) | omega)
  simp (maxDischargeDepth := 6) [go_sem, *] at k3_0 q3_0
  have HB3 := Lib.hid hb3
  clear hb3
  have HBW3 := Lib.hid (show Below w.heap.size w w3 by (repeat (first | (with_reducible exact Below.refl _ _) | (with_reducible refine Below.drew ?_) | (with_reducible refine bdrewN ?_ _) | ((with_reducible refine Below.setCell ?_ ?_ _); rotate_left; exact (by first | (simp; done) | (simp; omega) | omega)) | ((with_reducible refine Below.alloc ?_ ?_ _); rotate_left; exact (by first | (simp; done) | (simp; omega) | omega)) | ((with_reducible refine Below.trans ?_ (HB3.out.mono ?_)); rotate_left; exact (by first | (simp; done) | (simp; omega) | omega)) | ((with_reducible refine Below.trans ?_ (HB2.out.mono ?_)); rotate_left; exact (by first | (simp; done) | (simp; omega) | omega)) | ((with_reducible refine Below.trans ?_ (HB1.out.mono ?_)); rotate_left; exact (by first | (simp; done) | (simp; omega) | omega)))))
  have C0 : w3.cell? ⟨w.heap.size, 0, none⟩ = some (.int .i64 x.dev) := by simp [k3_0]
  have C1 : w3.cell? ⟨w.heap.size, 1, none⟩ = some (.int .i64 x.page) := by simp [k3_0]
  have C2 : w3.cell? ⟨w.heap.size, 2, none⟩ = some (.int .i64 x.at_) := by simp [k3_0]
  have C3 : w3.cell? ⟨w.heap.size, 3, none⟩ = some (.bool x.rd) := by simp [k3_0]
  have C4 : w3.cell? ⟨w.heap.size, 4, none⟩ = some (.bool x.wr) := by simp [k3_0]
  have HC := Lib.hid (And.intro C0 (And.intro C1 (And.intro C2 (And.intro C3 C4))))
  clear C0 C1 C2 C3 C4
  have HNW : Hid (NewsAt w3 ⟨b, off, none⟩ (lcells ls)) := Lib.hid (lines_news (lines_now HL.out HBW3.out))
  go_upto_region 11 with (fail)
  go_region_held3 (fun W => W.cell? ⟨w.heap.size, 0, none⟩ = some (.int .i64 x.dev) ∧ W.cell? ⟨w.heap.size, 1, none⟩ = some (.int .i64 x.page) ∧ W.cell? ⟨w.heap.size, 2, none⟩ = some (.int .i64 x.at_) ∧ W.cell? ⟨w.heap.size, 3, none⟩ = some (.bool x.rd) ∧ W.cell? ⟨w.heap.size, 4, none⟩ = some (.bool x.wr) ∧ Hid (Since w3 W))
    (((with_reducible refine keep5 ?_ HC.out.1 HC.out.2.1 HC.out.2.2.1 HC.out.2.2.2.1 HC.out.2.2.2.2); (repeat (first | (with_reducible assumption) | (with_reducible exact since_refl _) | (with_reducible exact since_5 (by assumption)) | (with_reducible exact since_step (by assumption) (since_5 (by assumption))) | (with_reducible refine since_drew ?_) | (with_reducible refine since_alloc ?_ _) | ((with_reducible refine since_set ?_ ?_ _); rotate_left; exact (by first | (simp; done) | (simp; omega) | omega)))); done))
    (first
      | (refine step_append_lies _ (by rfl) (.tmp 31) (.tmp 32) 40 (by rfl) w3.heap.size 42 i0 (.agg #[.int .i64 0, .int .i64 0, .int .i64 0, .bool false, .bool false]) 5 32 Try.underlying40 HI.out HZ0.out HZ1.out HZ2.out (by rfl) (by decide) (.slice (some ⟨w3.heap.size, 0, none⟩) 0 0) 0 [] (by rfl) ((own_e w3.drew w3.heap.size w3.heap.size (by simp) (Nat.le_refl _)).2.2.2) ⟨b, off, none⟩ n c (lcells ls) (by rfl) HLEN.out (news_since (since_5 (by assumption)) HNW.out) HONE.out (by omega) (by unfold maxLen; omega) (by omega) (by first | (simp; done) | (simp; omega) | omega) _ rfl ?_; intro g cap w5 hown5 hgrow hat hlt; have hs5 : Since w3 w5 := Below.grown (since_5 (by assumption)) hgrow (by first | (simp; done) | (simp; omega) | omega) (by intro q hq; simp [Value.ownBlock] at hq; omega); have hz5 := Below.size hs5)
      | (refine step_append_lies _ (by rfl) (.tmp 31) (.tmp 32) 40 (by rfl) w3.heap.size 42 i0 (.agg #[.int .i64 0, .int .i64 0, .int .i64 0, .bool false, .bool false]) 5 32 Try.underlying40 HI.out HZ0.out HZ1.out HZ2.out (by rfl) (by decide) (.slice (some ⟨w3.heap.size, 0, none⟩) 0 0) 0 [] (by rfl) (((own_e w3.drew w3.heap.size w3.heap.size (by simp) (Nat.le_refl _)).alloc _).2.2.2) ⟨b, off, none⟩ n c (lcells ls) (by rfl) HLEN.out (news_since (since_5 (by assumption)) HNW.out) HONE.out (by omega) (by unfold maxLen; omega) (by omega) (by first | (simp; done) | (simp; omega) | omega) _ rfl ?_; intro g cap w5 hown5 hgrow hat hlt; have hs5 : Since w3 w5 := Below.grown (since_5 (by assumption)) hgrow (by first | (simp; done) | (simp; omega) | omega) (by intro q hq; simp [Value.ownBlock] at hq; omega); have hz5 := Below.size hs5; have hnw5 : NewsAt w5 ⟨w3.heap.size + 1, 0, none⟩ x.vals := news_grown hgrow (by simp [Value.ownBlock]) (news_at (news_block (w3.drew.alloc (.cells #[] 42)) x) (by simp)))
      | (refine step_append_lies _ (by rfl) (.tmp 31) (.tmp 32) 40 (by rfl) w3.heap.size 42 i0 (.agg #[.int .i64 0, .int .i64 0, .int .i64 0, .bool false, .bool false]) 5 32 Try.underlying40 HI.out HZ0.out HZ1.out HZ2.out (by rfl) (by decide) (.slice (some ⟨w3.heap.size + 1, 0, none⟩) 0 0) 0 [] (by rfl) ((own_e (w3.drew.alloc (.cells #[.int .i64 x.dev, .int .i64 x.page, .int .i64 x.at_, .bool x.rd, .bool x.wr] 42)) (w3.heap.size + 1) w3.heap.size (by simp) (by omega)).2.2.2) ⟨b, off, none⟩ n c (lcells ls) (by rfl) HLEN.out (news_since (since_5 (by assumption)) HNW.out) HONE.out (by omega) (by unfold maxLen; omega) (by omega) (by first | (simp; done) | (simp; omega) | omega) _ rfl ?_; intro g cap w5 hown5 hgrow hat hlt; have hs5 : Since w3 w5 := Below.grown (since_5 (by assumption)) hgrow (by first | (simp; done) | (simp; omega) | omega) (by intro q hq; simp [Value.ownBlock] at hq; omega); have hz5 := Below.size hs5; have hnw5 : NewsAt w5 ⟨w3.heap.size, 0, none⟩ x.vals := news_grown hgrow (by simp [Value.ownBlock]) (news_since (since_alloc (since_refl _) _) (news_at (news_block w3.drew x) (by simp))))
      | (revert hown5; intro hown5; refine step_append_lies _ (by rfl) (.tmp 33) (.tmp 35) 40 (by rfl) w3.heap.size 42 i0 (.agg #[.int .i64 0, .int .i64 0, .int .i64 0, .bool false, .bool false]) 5 32 Try.underlying40 HI.out HZ0.out HZ1.out HZ2.out (by rfl) (by decide) (.slice (some ⟨g, 0, none⟩) (0 + n) cap) (0 + n) ([] ++ lcells ls) (by rfl) (own_below hown5 (below_alloc w5 _)) ⟨w5.heap.size, 0, none⟩ 1 1 x.vals (by rfl) (by rfl) (news_block w5 x) (vals_one x) (by decide) (by unfold maxLen; omega) (by omega) (by first | (simp; done) | (simp; omega) | omega) _ rfl ?_; intro g6 cap6 w6 hown6 hgrow6 hat6 hlt6; have hs6 : Since w3 w6 := Below.grown (since_5 (by assumption)) hgrow6 (by first | (simp; done) | (simp; omega) | omega) (fun q hq => own_gel hown5 q hq))
      | (revert hnw5; intro hnw5; refine step_append_lies _ (by rfl) (.tmp 33) (.tmp 35) 40 (by rfl) w3.heap.size 42 i0 (.agg #[.int .i64 0, .int .i64 0, .int .i64 0, .bool false, .bool false]) 5 32 Try.underlying40 HI.out HZ0.out HZ1.out HZ2.out (by rfl) (by decide) (.slice (some ⟨g, 0, none⟩) (0 + n) cap) (0 + n) ([] ++ lcells ls) (by rfl) hown5 _ 1 1 x.vals (by rfl) (by rfl) hnw5 (vals_one x) (by decide) (by unfold maxLen; omega) (by omega) (by first | (simp; done) | (simp; omega) | omega) _ rfl ?_; intro g6 cap6 w6 hown6 hgrow6 hat6 hlt6; have hs6 : Since w3 w6 := Below.grown (since_5 (by assumption)) hgrow6 (by first | (simp; done) | (simp; omega) | omega) (fun q hq => own_gel hown5 q hq))
      | (revert hown5; intro hown5; refine step_append_lies _ (by rfl) (.tmp 33) (.tmp 35) 40 (by rfl) w3.heap.size 42 i0 (.agg #[.int .i64 0, .int .i64 0, .int .i64 0, .bool false, .bool false]) 5 32 Try.underlying40 HI.out HZ0.out HZ1.out HZ2.out (by rfl) (by decide) (.slice (some ⟨g, 0, none⟩) n cap) n (lcells ls) (by rfl) (own_below (zero_row hown5) (below_alloc w5 _)) ⟨w5.heap.size, 0, none⟩ 1 1 x.vals (by rfl) (by rfl) (news_block w5 x) (vals_one x) (by decide) (by unfold maxLen; omega) (by omega) (by first | (simp; done) | (simp; omega) | omega) _ rfl ?_; intro g6 cap6 w6 hown6 hgrow6 hat6 hlt6; have hs6 : Since w3 w6 := Below.grown (since_5 (by assumption)) hgrow6 (by first | (simp; done) | (simp; omega) | omega) (fun q hq => own_gel hown5 q hq))
      | (revert hnw5; intro hnw5; refine step_append_lies _ (by rfl) (.tmp 33) (.tmp 35) 40 (by rfl) w3.heap.size 42 i0 (.agg #[.int .i64 0, .int .i64 0, .int .i64 0, .bool false, .bool false]) 5 32 Try.underlying40 HI.out HZ0.out HZ1.out HZ2.out (by rfl) (by decide) (.slice (some ⟨g, 0, none⟩) n cap) n (lcells ls) (by rfl) (zero_row hown5) _ 1 1 x.vals (by rfl) (by rfl) hnw5 (vals_one x) (by decide) (by unfold maxLen; omega) (by omega) (by first | (simp; done) | (simp; omega) | omega) _ rfl ?_; intro g6 cap6 w6 hown6 hgrow6 hat6 hlt6; have hs6 : Since w3 w6 := Below.grown (since_5 (by assumption)) hgrow6 (by first | (simp; done) | (simp; omega) | omega) (fun q hq => own_gel hown5 q hq)))
  all_goals
    have HS6 := Lib.hid hs6
    have HO6 := Lib.hid (own_fill0 HLS.out (by first | exact hown6 | (rw [Nat.zero_add, List.nil_append] at hown6; exact hown6)))
    clear hown6
    go_wp2
    go_ret2
    exact ⟨some ⟨g6, 0, none⟩, cap6, rfl, HO6.out.low (Below.size HBW3.out), HBW3.out.trans (Below.mono HS6.out (Below.size HBW3.out))⟩

set_option maxRecDepth 100000 in
set_option maxHeartbeats 8000000 in
theorem filled_s (b off c : Nat) (ls : List Line) (x : Line) (w : World) (hl : Lines w w.heap.size (some ⟨b, off, none⟩) 6 c ls) (h0 : ckC ls = 0) (h1 : lineE x = 0) (h2 : findL ls x.dev x.page < 0) :
    Calls Try.prog 29 #[.slice (some ⟨b, off, none⟩) 6 c, .agg #[.int .i64 x.dev, .int .i64 x.page, .int .i64 x.at_, .bool x.rd, .bool x.wr]] w (FilledC w (5 + 1) (ls.drop 1 ++ [x])) := by
  obtain ⟨i0, hi, hz0, hz1, hz2⟩ := info_parts Try.infoLine
  have HI := Lib.hid hi; clear hi
  have HZ0 := Lib.hid hz0; clear hz0
  have HZ1 := Lib.hid hz1; clear hz1
  have HZ2 := Lib.hid hz2; clear hz2
  have HL := Lib.hid hl
  have hcap := hl.cap
  have t0 : (ckC ls != 0) = false := by rw [bne_eq_false_iff_eq]; exact h0
  have t1 : (lineE x != 0) = false := by rw [bne_eq_false_iff_eq]; exact h1
  have t2 : decide (0 ≤ findL ls x.dev x.page) = false := decide_eq_false (by omega)
  have hlo := Lib.hid (fun w => slice_lo1 b off c (by have := hcap.1; omega) w)
  have HLEN := Lib.hid (show (lcells (ls.drop 1)).length = 5 * 5 by rw [lcells_len]; have := hl.len; first | omega | (simp; omega))
  have HONE := Lib.hid (lines_one (ls.drop 1))
  have HLS : Hid ((ls.drop 1).length = 5) := Lib.hid (by have := hl.len; first | omega | (simp; omega))
  clear h0 h1 h2 hl
  go_enter Try.func29, Try.ntmps29
  go_wp2_with fail
  refine (ref_CheckCache _ _ _ ls _ (lines_now HL.out (by (repeat (first | (with_reducible exact Below.refl _ _) | (with_reducible refine Below.drew ?_) | (with_reducible refine bdrewN ?_ _) | ((with_reducible refine Below.setCell ?_ ?_ _); rotate_left; exact (by first | (simp; done) | (simp; omega) | omega)) | ((with_reducible refine Below.alloc ?_ ?_ _); rotate_left; exact (by first | (simp; done) | (simp; omega) | omega))))))).mono ?_
  rintro e w1 ⟨rfl, hb1⟩
  have hz1 := hb1.size
  (try simp only [World.size_alloc, World.size_setCell, World.size_drew] at hz1)
  have k1_0 := fun o => (bcell hb1).1 (w.heap.size) o (by first | (simp; done) | (simp; omega) | omega)
  have l1_0 : (w.heap.size) < w1.heap.size := (by omega)
  have q1_0 := fun o => (bcell hb1).2 (w.heap.size) o (by first | (simp; done) | (simp; omega) | omega)
  simp (maxDischargeDepth := 6) [go_sem, *] at k1_0 q1_0
  have HB1 := Lib.hid hb1
  clear hb1
  go_wp2_with fail
  refine (ref_CheckCache _ _ _ [x] _ ((lines_new _ x).more (by simp))).mono ?_
  rw [ckC_one]
  rintro e w2 ⟨rfl, hb2⟩
  have hz2 := hb2.size
  (try simp only [World.size_alloc, World.size_setCell, World.size_drew] at hz2)
  have k2_0 := fun o => (bcell hb2).1 (w.heap.size) o (by first | (simp; done) | (simp; omega) | omega)
  have l2_0 : (w.heap.size) < w2.heap.size := (by omega)
  have q2_0 := fun o => (bcell hb2).2 (w.heap.size) o (by first | (simp; done) | (simp; omega) | omega)
  simp (maxDischargeDepth := 6) [go_sem, *] at k2_0 q2_0
  have HB2 := Lib.hid hb2
  clear hb2
  go_wp2_with fail
  refine (ref_LineAt _ _ _ ls _ _ _ (lines_now HL.out (by (repeat (first | (with_reducible exact Below.refl _ _) | (with_reducible refine Below.drew ?_) | (with_reducible refine bdrewN ?_ _) | ((with_reducible refine Below.setCell ?_ ?_ _); rotate_left; exact (by first | (simp; done) | (simp; omega) | omega)) | ((with_reducible refine Below.alloc ?_ ?_ _); rotate_left; exact (by first | (simp; done) | (simp; omega) | omega)) | ((with_reducible refine Below.trans ?_ (HB2.out.mono ?_)); rotate_left; exact (by first | (simp; done) | (simp; omega) | omega)) | ((with_reducible refine Below.trans ?_ (HB1.out.mono ?_)); rotate_left; exact (by first | (simp; done) | (simp; omega) | omega))))))).mono ?_
  rintro e w3 ⟨rfl, hb3⟩
  have hz3 := hb3.size
  (try simp only [World.size_alloc, World.size_setCell, World.size_drew] at hz3)
  have k3_0 := fun o => (bcell hb3).1 (w.heap.size) o (by first | (simp; done) | (simp; omega) | omega)
  have l3_0 : (w.heap.size) < w3.heap.size := (by omega)
  have q3_0 := fun o => (bcell hb3).2 (w.heap.size) o (by first | (simp; done) | (simp; omega) | omega)
  simp (maxDischargeDepth := 6) [go_sem, *] at k3_0 q3_0
  have HB3 := Lib.hid hb3
  clear hb3
  have HBW3 := Lib.hid (show Below w.heap.size w w3 by (repeat (first | (with_reducible exact Below.refl _ _) | (with_reducible refine Below.drew ?_) | (with_reducible refine bdrewN ?_ _) | ((with_reducible refine Below.setCell ?_ ?_ _); rotate_left; exact (by first | (simp; done) | (simp; omega) | omega)) | ((with_reducible refine Below.alloc ?_ ?_ _); rotate_left; exact (by first | (simp; done) | (simp; omega) | omega)) | ((with_reducible refine Below.trans ?_ (HB3.out.mono ?_)); rotate_left; exact (by first | (simp; done) | (simp; omega) | omega)) | ((with_reducible refine Below.trans ?_ (HB2.out.mono ?_)); rotate_left; exact (by first | (simp; done) | (simp; omega) | omega)) | ((with_reducible refine Below.trans ?_ (HB1.out.mono ?_)); rotate_left; exact (by first | (simp; done) | (simp; omega) | omega)))))
  have C0 : w3.cell? ⟨w.heap.size, 0, none⟩ = some (.int .i64 x.dev) := by simp [k3_0]
  have C1 : w3.cell? ⟨w.heap.size, 1, none⟩ = some (.int .i64 x.page) := by simp [k3_0]
  have C2 : w3.cell? ⟨w.heap.size, 2, none⟩ = some (.int .i64 x.at_) := by simp [k3_0]
  have C3 : w3.cell? ⟨w.heap.size, 3, none⟩ = some (.bool x.rd) := by simp [k3_0]
  have C4 : w3.cell? ⟨w.heap.size, 4, none⟩ = some (.bool x.wr) := by simp [k3_0]
  have HC := Lib.hid (And.intro C0 (And.intro C1 (And.intro C2 (And.intro C3 C4))))
  clear C0 C1 C2 C3 C4
  have HNW : Hid (NewsAt w3 ⟨b, off + 5, none⟩ (lcells (ls.drop 1))) := Lib.hid (lines_news ((lines_now HL.out HBW3.out).drop1))
  have hlo' := hlo.out
  go_upto_region 11 with (fail)
  go_region_held3 (fun W => W.cell? ⟨w.heap.size, 0, none⟩ = some (.int .i64 x.dev) ∧ W.cell? ⟨w.heap.size, 1, none⟩ = some (.int .i64 x.page) ∧ W.cell? ⟨w.heap.size, 2, none⟩ = some (.int .i64 x.at_) ∧ W.cell? ⟨w.heap.size, 3, none⟩ = some (.bool x.rd) ∧ W.cell? ⟨w.heap.size, 4, none⟩ = some (.bool x.wr) ∧ Hid (Since w3 W))
    (((with_reducible refine keep5 ?_ HC.out.1 HC.out.2.1 HC.out.2.2.1 HC.out.2.2.2.1 HC.out.2.2.2.2); (repeat (first | (with_reducible assumption) | (with_reducible exact since_refl _) | (with_reducible exact since_5 (by assumption)) | (with_reducible exact since_step (by assumption) (since_5 (by assumption))) | (with_reducible refine since_drew ?_) | (with_reducible refine since_alloc ?_ _) | ((with_reducible refine since_set ?_ ?_ _); rotate_left; exact (by first | (simp; done) | (simp; omega) | omega)))); done))
    (first
      | (refine step_append_lies _ (by rfl) (.tmp 31) (.tmp 32) 40 (by rfl) w3.heap.size 42 i0 (.agg #[.int .i64 0, .int .i64 0, .int .i64 0, .bool false, .bool false]) 5 32 Try.underlying40 HI.out HZ0.out HZ1.out HZ2.out (by rfl) (by decide) (.slice (some ⟨w3.heap.size, 0, none⟩) 0 0) 0 [] (by rfl) ((own_e w3.drew w3.heap.size w3.heap.size (by simp) (Nat.le_refl _)).2.2.2) ⟨b, off + 5, none⟩ 5 (c - 1) (lcells (ls.drop 1)) (by rfl) HLEN.out (news_since (since_5 (by assumption)) HNW.out) HONE.out (by omega) (by unfold maxLen; omega) (by omega) (by first | (simp; done) | (simp; omega) | omega) _ rfl ?_; intro g cap w5 hown5 hgrow hat hlt; have hs5 : Since w3 w5 := Below.grown (since_5 (by assumption)) hgrow (by first | (simp; done) | (simp; omega) | omega) (by intro q hq; simp [Value.ownBlock] at hq; omega); have hz5 := Below.size hs5)
      | (refine step_append_lies _ (by rfl) (.tmp 31) (.tmp 32) 40 (by rfl) w3.heap.size 42 i0 (.agg #[.int .i64 0, .int .i64 0, .int .i64 0, .bool false, .bool false]) 5 32 Try.underlying40 HI.out HZ0.out HZ1.out HZ2.out (by rfl) (by decide) (.slice (some ⟨w3.heap.size, 0, none⟩) 0 0) 0 [] (by rfl) (((own_e w3.drew w3.heap.size w3.heap.size (by simp) (Nat.le_refl _)).alloc _).2.2.2) ⟨b, off + 5, none⟩ 5 (c - 1) (lcells (ls.drop 1)) (by rfl) HLEN.out (news_since (since_5 (by assumption)) HNW.out) HONE.out (by omega) (by unfold maxLen; omega) (by omega) (by first | (simp; done) | (simp; omega) | omega) _ rfl ?_; intro g cap w5 hown5 hgrow hat hlt; have hs5 : Since w3 w5 := Below.grown (since_5 (by assumption)) hgrow (by first | (simp; done) | (simp; omega) | omega) (by intro q hq; simp [Value.ownBlock] at hq; omega); have hz5 := Below.size hs5; have hnw5 : NewsAt w5 ⟨w3.heap.size + 1, 0, none⟩ x.vals := news_grown hgrow (by simp [Value.ownBlock]) (news_at (news_block (w3.drew.alloc (.cells #[] 42)) x) (by simp)))
      | (refine step_append_lies _ (by rfl) (.tmp 31) (.tmp 32) 40 (by rfl) w3.heap.size 42 i0 (.agg #[.int .i64 0, .int .i64 0, .int .i64 0, .bool false, .bool false]) 5 32 Try.underlying40 HI.out HZ0.out HZ1.out HZ2.out (by rfl) (by decide) (.slice (some ⟨w3.heap.size + 1, 0, none⟩) 0 0) 0 [] (by rfl) ((own_e (w3.drew.alloc (.cells #[.int .i64 x.dev, .int .i64 x.page, .int .i64 x.at_, .bool x.rd, .bool x.wr] 42)) (w3.heap.size + 1) w3.heap.size (by simp) (by omega)).2.2.2) ⟨b, off + 5, none⟩ 5 (c - 1) (lcells (ls.drop 1)) (by rfl) HLEN.out (news_since (since_5 (by assumption)) HNW.out) HONE.out (by omega) (by unfold maxLen; omega) (by omega) (by first | (simp; done) | (simp; omega) | omega) _ rfl ?_; intro g cap w5 hown5 hgrow hat hlt; have hs5 : Since w3 w5 := Below.grown (since_5 (by assumption)) hgrow (by first | (simp; done) | (simp; omega) | omega) (by intro q hq; simp [Value.ownBlock] at hq; omega); have hz5 := Below.size hs5; have hnw5 : NewsAt w5 ⟨w3.heap.size, 0, none⟩ x.vals := news_grown hgrow (by simp [Value.ownBlock]) (news_since (since_alloc (since_refl _) _) (news_at (news_block w3.drew x) (by simp))))
      | (revert hown5; intro hown5; refine step_append_lies _ (by rfl) (.tmp 33) (.tmp 35) 40 (by rfl) w3.heap.size 42 i0 (.agg #[.int .i64 0, .int .i64 0, .int .i64 0, .bool false, .bool false]) 5 32 Try.underlying40 HI.out HZ0.out HZ1.out HZ2.out (by rfl) (by decide) (.slice (some ⟨g, 0, none⟩) (0 + 5) cap) (0 + 5) ([] ++ lcells (ls.drop 1)) (by rfl) (own_below hown5 (below_alloc w5 _)) ⟨w5.heap.size, 0, none⟩ 1 1 x.vals (by rfl) (by rfl) (news_block w5 x) (vals_one x) (by decide) (by unfold maxLen; omega) (by omega) (by first | (simp; done) | (simp; omega) | omega) _ rfl ?_; intro g6 cap6 w6 hown6 hgrow6 hat6 hlt6; have hs6 : Since w3 w6 := Below.grown (since_5 (by assumption)) hgrow6 (by first | (simp; done) | (simp; omega) | omega) (fun q hq => own_gel hown5 q hq))
      | (revert hnw5; intro hnw5; refine step_append_lies _ (by rfl) (.tmp 33) (.tmp 35) 40 (by rfl) w3.heap.size 42 i0 (.agg #[.int .i64 0, .int .i64 0, .int .i64 0, .bool false, .bool false]) 5 32 Try.underlying40 HI.out HZ0.out HZ1.out HZ2.out (by rfl) (by decide) (.slice (some ⟨g, 0, none⟩) (0 + 5) cap) (0 + 5) ([] ++ lcells (ls.drop 1)) (by rfl) hown5 _ 1 1 x.vals (by rfl) (by rfl) hnw5 (vals_one x) (by decide) (by unfold maxLen; omega) (by omega) (by first | (simp; done) | (simp; omega) | omega) _ rfl ?_; intro g6 cap6 w6 hown6 hgrow6 hat6 hlt6; have hs6 : Since w3 w6 := Below.grown (since_5 (by assumption)) hgrow6 (by first | (simp; done) | (simp; omega) | omega) (fun q hq => own_gel hown5 q hq))
      | (revert hown5; intro hown5; refine step_append_lies _ (by rfl) (.tmp 33) (.tmp 35) 40 (by rfl) w3.heap.size 42 i0 (.agg #[.int .i64 0, .int .i64 0, .int .i64 0, .bool false, .bool false]) 5 32 Try.underlying40 HI.out HZ0.out HZ1.out HZ2.out (by rfl) (by decide) (.slice (some ⟨g, 0, none⟩) 5 cap) 5 (lcells (ls.drop 1)) (by rfl) (own_below (zero_row hown5) (below_alloc w5 _)) ⟨w5.heap.size, 0, none⟩ 1 1 x.vals (by rfl) (by rfl) (news_block w5 x) (vals_one x) (by decide) (by unfold maxLen; omega) (by omega) (by first | (simp; done) | (simp; omega) | omega) _ rfl ?_; intro g6 cap6 w6 hown6 hgrow6 hat6 hlt6; have hs6 : Since w3 w6 := Below.grown (since_5 (by assumption)) hgrow6 (by first | (simp; done) | (simp; omega) | omega) (fun q hq => own_gel hown5 q hq))
      | (revert hnw5; intro hnw5; refine step_append_lies _ (by rfl) (.tmp 33) (.tmp 35) 40 (by rfl) w3.heap.size 42 i0 (.agg #[.int .i64 0, .int .i64 0, .int .i64 0, .bool false, .bool false]) 5 32 Try.underlying40 HI.out HZ0.out HZ1.out HZ2.out (by rfl) (by decide) (.slice (some ⟨g, 0, none⟩) 5 cap) 5 (lcells (ls.drop 1)) (by rfl) (zero_row hown5) _ 1 1 x.vals (by rfl) (by rfl) hnw5 (vals_one x) (by decide) (by unfold maxLen; omega) (by omega) (by first | (simp; done) | (simp; omega) | omega) _ rfl ?_; intro g6 cap6 w6 hown6 hgrow6 hat6 hlt6; have hs6 : Since w3 w6 := Below.grown (since_5 (by assumption)) hgrow6 (by first | (simp; done) | (simp; omega) | omega) (fun q hq => own_gel hown5 q hq)))
  all_goals
    have HS6 := Lib.hid hs6
    have HO6 := Lib.hid (own_fill0 HLS.out (by first | exact hown6 | (rw [Nat.zero_add, List.nil_append] at hown6; exact hown6)))
    clear hown6
    go_wp2
    go_ret2
    exact ⟨some ⟨g6, 0, none⟩, cap6, rfl, HO6.out.low (Below.size HBW3.out), HBW3.out.trans (Below.mono HS6.out (Below.size HBW3.out))⟩

set_option maxRecDepth 100000 in
set_option maxHeartbeats 8000000 in
theorem filled_no (A : Option Addr) (n c : Nat) (ls : List Line) (x : Line) (w : World) (hl : Lines w w.heap.size A n c ls) (hE : fillE ls x ≠ 0) :
    Calls Try.prog 29 #[.slice A n c, .agg #[.int .i64 x.dev, .int .i64 x.page, .int .i64 x.at_, .bool x.rd, .bool x.wr]] w fun e w' => e = .returned (.tuple #[.slice none 0 0, .int .i64 (fillE ls x)]) ∧ Below w.heap.size w w' := by
  have HL := Lib.hid hl
  have HE := Lib.hid hE
  clear hl hE
  by_cases h0 : ckC ls = 0
  · have t0 : (ckC ls != 0) = false := by rw [bne_eq_false_iff_eq]; exact h0
    by_cases h1 : lineE x = 0
    · have t1 : (lineE x != 0) = false := by rw [bne_eq_false_iff_eq]; exact h1
      by_cases h2 : 0 ≤ findL ls x.dev x.page
      · rw [fillE_t h0 h1 h2]
        have t2 : decide (0 ≤ findL ls x.dev x.page) = true := by simpa using h2
        clear h0 h1 h2
        go_enter Try.func29, Try.ntmps29
        go_wp2_with fail
        refine (ref_CheckCache _ _ _ ls _ (lines_now HL.out (by (repeat (first | (with_reducible exact Below.refl _ _) | (with_reducible refine Below.drew ?_) | (with_reducible refine bdrewN ?_ _) | ((with_reducible refine Below.setCell ?_ ?_ _); rotate_left; exact (by first | (simp; done) | (simp; omega) | omega)) | ((with_reducible refine Below.alloc ?_ ?_ _); rotate_left; exact (by first | (simp; done) | (simp; omega) | omega))))))).mono ?_
        rintro e w1 ⟨rfl, hb1⟩
        have hz1 := hb1.size
        (try simp only [World.size_alloc, World.size_setCell, World.size_drew] at hz1)
        have k1_0 := fun o => (bcell hb1).1 (w.heap.size) o (by first | (simp; done) | (simp; omega) | omega)
        have l1_0 : (w.heap.size) < w1.heap.size := (by omega)
        have q1_0 := fun o => (bcell hb1).2 (w.heap.size) o (by first | (simp; done) | (simp; omega) | omega)
        simp (maxDischargeDepth := 6) [go_sem, *] at k1_0 q1_0
        have HB1 := Lib.hid hb1
        clear hb1
        go_wp2_with fail
        refine (ref_CheckCache _ _ _ [x] _ ((lines_new _ x).more (by simp))).mono ?_
        rw [ckC_one]
        rintro e w2 ⟨rfl, hb2⟩
        have hz2 := hb2.size
        (try simp only [World.size_alloc, World.size_setCell, World.size_drew] at hz2)
        have k2_0 := fun o => (bcell hb2).1 (w.heap.size) o (by first | (simp; done) | (simp; omega) | omega)
        have l2_0 : (w.heap.size) < w2.heap.size := (by omega)
        have q2_0 := fun o => (bcell hb2).2 (w.heap.size) o (by first | (simp; done) | (simp; omega) | omega)
        simp (maxDischargeDepth := 6) [go_sem, *] at k2_0 q2_0
        have HB2 := Lib.hid hb2
        clear hb2
        go_wp2_with fail
        refine (ref_LineAt _ _ _ ls _ _ _ (lines_now HL.out (by (repeat (first | (with_reducible exact Below.refl _ _) | (with_reducible refine Below.drew ?_) | (with_reducible refine bdrewN ?_ _) | ((with_reducible refine Below.setCell ?_ ?_ _); rotate_left; exact (by first | (simp; done) | (simp; omega) | omega)) | ((with_reducible refine Below.alloc ?_ ?_ _); rotate_left; exact (by first | (simp; done) | (simp; omega) | omega)) | ((with_reducible refine Below.trans ?_ (HB2.out.mono ?_)); rotate_left; exact (by first | (simp; done) | (simp; omega) | omega)) | ((with_reducible refine Below.trans ?_ (HB1.out.mono ?_)); rotate_left; exact (by first | (simp; done) | (simp; omega) | omega))))))).mono ?_
        rintro e w3 ⟨rfl, hb3⟩
        have hz3 := hb3.size
        (try simp only [World.size_alloc, World.size_setCell, World.size_drew] at hz3)
        have HB3 := Lib.hid hb3
        clear hb3
        go_wp2
        go_ret2
        exact ⟨rfl, by (repeat (first | (with_reducible exact Below.refl _ _) | (with_reducible refine Below.drew ?_) | (with_reducible refine bdrewN ?_ _) | ((with_reducible refine Below.setCell ?_ ?_ _); rotate_left; exact (by first | (simp; done) | (simp; omega) | omega)) | ((with_reducible refine Below.alloc ?_ ?_ _); rotate_left; exact (by first | (simp; done) | (simp; omega) | omega)) | ((with_reducible refine Below.trans ?_ (HB3.out.mono ?_)); rotate_left; exact (by first | (simp; done) | (simp; omega) | omega)) | ((with_reducible refine Below.trans ?_ (HB2.out.mono ?_)); rotate_left; exact (by first | (simp; done) | (simp; omega) | omega)) | ((with_reducible refine Below.trans ?_ (HB1.out.mono ?_)); rotate_left; exact (by first | (simp; done) | (simp; omega) | omega))))⟩
      · exact absurd (fillE_0 h0 h1 (by omega)) HE.out
    · rw [fillE_l h0 h1]
      have t1 : (lineE x != 0) = true := by rw [bne_iff_ne]; exact h1
      clear h0 h1
      go_enter Try.func29, Try.ntmps29
      go_wp2_with fail
      refine (ref_CheckCache _ _ _ ls _ (lines_now HL.out (by (repeat (first | (with_reducible exact Below.refl _ _) | (with_reducible refine Below.drew ?_) | (with_reducible refine bdrewN ?_ _) | ((with_reducible refine Below.setCell ?_ ?_ _); rotate_left; exact (by first | (simp; done) | (simp; omega) | omega)) | ((with_reducible refine Below.alloc ?_ ?_ _); rotate_left; exact (by first | (simp; done) | (simp; omega) | omega))))))).mono ?_
      rintro e w1 ⟨rfl, hb1⟩
      have hz1 := hb1.size
      (try simp only [World.size_alloc, World.size_setCell, World.size_drew] at hz1)
      have k1_0 := fun o => (bcell hb1).1 (w.heap.size) o (by first | (simp; done) | (simp; omega) | omega)
      have l1_0 : (w.heap.size) < w1.heap.size := (by omega)
      have q1_0 := fun o => (bcell hb1).2 (w.heap.size) o (by first | (simp; done) | (simp; omega) | omega)
      simp (maxDischargeDepth := 6) [go_sem, *] at k1_0 q1_0
      have HB1 := Lib.hid hb1
      clear hb1
      go_wp2_with fail
      refine (ref_CheckCache _ _ _ [x] _ ((lines_new _ x).more (by simp))).mono ?_
      rw [ckC_one]
      rintro e w2 ⟨rfl, hb2⟩
      have hz2 := hb2.size
      (try simp only [World.size_alloc, World.size_setCell, World.size_drew] at hz2)
      have HB2 := Lib.hid hb2
      clear hb2
      go_wp2
      go_ret2
      exact ⟨rfl, by (repeat (first | (with_reducible exact Below.refl _ _) | (with_reducible refine Below.drew ?_) | (with_reducible refine bdrewN ?_ _) | ((with_reducible refine Below.setCell ?_ ?_ _); rotate_left; exact (by first | (simp; done) | (simp; omega) | omega)) | ((with_reducible refine Below.alloc ?_ ?_ _); rotate_left; exact (by first | (simp; done) | (simp; omega) | omega)) | ((with_reducible refine Below.trans ?_ (HB2.out.mono ?_)); rotate_left; exact (by first | (simp; done) | (simp; omega) | omega)) | ((with_reducible refine Below.trans ?_ (HB1.out.mono ?_)); rotate_left; exact (by first | (simp; done) | (simp; omega) | omega))))⟩
  · rw [fillE_c h0]
    have t0 : (ckC ls != 0) = true := by rw [bne_iff_ne]; exact h0
    clear h0
    go_enter Try.func29, Try.ntmps29
    go_wp2_with fail
    refine (ref_CheckCache _ _ _ ls _ (lines_now HL.out (by (repeat (first | (with_reducible exact Below.refl _ _) | (with_reducible refine Below.drew ?_) | (with_reducible refine bdrewN ?_ _) | ((with_reducible refine Below.setCell ?_ ?_ _); rotate_left; exact (by first | (simp; done) | (simp; omega) | omega)) | ((with_reducible refine Below.alloc ?_ ?_ _); rotate_left; exact (by first | (simp; done) | (simp; omega) | omega))))))).mono ?_
    rintro e w1 ⟨rfl, hb1⟩
    have hz1 := hb1.size
    (try simp only [World.size_alloc, World.size_setCell, World.size_drew] at hz1)
    have HB1 := Lib.hid hb1
    clear hb1
    go_wp2
    go_ret2
    exact ⟨rfl, by (repeat (first | (with_reducible exact Below.refl _ _) | (with_reducible refine Below.drew ?_) | (with_reducible refine bdrewN ?_ _) | ((with_reducible refine Below.setCell ?_ ?_ _); rotate_left; exact (by first | (simp; done) | (simp; omega) | omega)) | ((with_reducible refine Below.alloc ?_ ?_ _); rotate_left; exact (by first | (simp; done) | (simp; omega) | omega)) | ((with_reducible refine Below.trans ?_ (HB1.out.mono ?_)); rotate_left; exact (by first | (simp; done) | (simp; omega) | omega))))⟩
theorem ref_filled_0 (A : Option Addr) (n c : Nat) (ls : List Line) (x : Line) (w : World) (hl : Lines w w.heap.size A n c ls) (hE : fillE ls x = 0) :
    Calls Try.prog 29 #[.slice A n c, .agg #[.int .i64 x.dev, .int .i64 x.page, .int .i64 x.at_, .bool x.rd, .bool x.wr]] w (FilledC w (fillL ls x).length (fillL ls x)) := by
  obtain ⟨h0, h1, h2⟩ := fillE_inv hE
  have hlen := hl.len
  have h6 : n ≤ 6 := by have := ((ckC_iff ls).1 h0).1; omega
  rw [fillL_0 hE]
  rcases Nat.eq_zero_or_pos n with hn | hn
  · subst hn
    have e : ls.length + 1 - 6 = 0 := by omega
    rw [e, List.drop_zero, show (ls ++ [x]).length = 0 + 1 by rw [List.length_append, hlen]; rfl]
    exact filled_z A c ls x w hl h0 h1 h2
  · obtain ⟨b, off, rfl, _, _⟩ := hl.at_ hn
    by_cases hn6 : n = 6
    · subst hn6
      have e : ls.length + 1 - 6 = 1 := by omega
      rw [e, show (ls.drop 1 ++ [x]).length = 5 + 1 by simp; omega]
      exact filled_s b off c ls x w hl h0 h1 h2
    · have e : ls.length + 1 - 6 = 0 := by omega
      rw [e, List.drop_zero, show (ls ++ [x]).length = n + 1 by simp; omega]
      exact filled_m b off n c hn (by omega) ls x w hl h0 h1 h2
theorem ref_Filled (A : Option Addr) (n c : Nat) (ls ms : List Line) (x1 x2 x3 : Int) (x4 x5 : Bool) (E : Int) (w : World) (hl : Lines w w.heap.size A n c ls) (hE : fillE ls ⟨x1, x2, x3, x4, x5⟩ = E) (hm : fillL ls ⟨x1, x2, x3, x4, x5⟩ = ms) :
    Calls Try.prog 29 #[.slice A n c, .agg #[.int .i64 x1, .int .i64 x2, .int .i64 x3, .bool x4, .bool x5]] w fun e w' => ∃ A' c', e = .returned (.tuple #[.slice A' ms.length c', .int .i64 E]) ∧ Lines w' w'.heap.size A' ms.length c' ms ∧ Below w.heap.size w w' ∧ ∀ ad, A' = some ad → w.heap.size ≤ ad.block := by
  by_cases h0 : E = 0
  · subst h0
    have := ref_filled_0 A n c ls ⟨x1, x2, x3, x4, x5⟩ w hl hE
    rw [hm] at this
    refine this.mono ?_
    rintro e w' ⟨A', c', rfl, ho, hb⟩
    exact ⟨A', c', rfl, ho.lines, hb, fun ad h => own_gel ho.2.2.2 ad.block (by rw [h]; rfl)⟩
  · have := filled_no A n c ls ⟨x1, x2, x3, x4, x5⟩ w hl (by rw [hE]; exact h0)
    rw [hE] at this
    refine this.mono ?_
    rintro e w' ⟨rfl, hb⟩
    have hz : ms = [] := by rw [← hm]; exact fillL_n hE h0
    subst hz
    exact ⟨none, 0, rfl, lines_none _ _, hb, fun _ h => by cases h⟩
end Go.Proofs.Ytbopdijnojaaiab
