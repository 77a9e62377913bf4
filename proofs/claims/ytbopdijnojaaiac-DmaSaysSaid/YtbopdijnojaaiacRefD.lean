/- The document's cache: the walk of Dropped. No statement of the seat is proved here. -/
import Derived.Test.YtbopdijnojaaiacRefC
import Derived.Test.YtbopdijnojaaiacFillZ
import Derived.Deep.RegionHeld3
import Derived.Deep.DrawnRows
import Derived.Deep.DeepCutAuto
namespace Go.Proofs.Ytbopdijnojaaiac
open Go.RowKit
set_option linter.unusedSimpArgs false
set_option linter.unusedVariables false

section
attribute [local go_sem ↓] Go.wp_at_zero Go.wp_at_succ

theorem keep5 {w1 W : World} {p0 p1 p2 p3 p4 : Addr} {v0 v1 v2 v3 v4 : Value} (h : Since w1 W) (h0 : w1.cell? p0 = some v0) (h1 : w1.cell? p1 = some v1) (h2 : w1.cell? p2 = some v2) (h3 : w1.cell? p3 = some v3) (h4 : w1.cell? p4 = some v4) : W.cell? p0 = some v0 ∧ W.cell? p1 = some v1 ∧ W.cell? p2 = some v2 ∧ W.cell? p3 = some v3 ∧ W.cell? p4 = some v4 ∧ Hid (Since w1 W) :=
  ⟨since_cell h h0, since_cell h h1, since_cell h h2, since_cell h h3, since_cell h h4, h⟩
theorem since_5 {w1 W : World} {c0 c1 c2 c3 c4 : Prop} (h : c0 ∧ c1 ∧ c2 ∧ c3 ∧ c4 ∧ Hid (Since w1 W)) : Since w1 W := h.2.2.2.2.2
/-- cells that were there are. -/
def NewsAt (w : World) (ad : Addr) (vs : List Value) : Prop := ∀ j u, vs[j]? = some u → w.cell? (ad.add j) = some u
theorem news_since {w W : World} {ad : Addr} {vs : List Value} (h : Since w W) (hn : NewsAt w ad vs) : NewsAt W ad vs := fun j u hu => since_cell h (hn j u hu)
theorem news_block (w : World) (x : Line) : NewsAt (w.alloc (.cells #[.int .i64 x.dev, .int .i64 x.page, .int .i64 x.at_, .bool x.rd, .bool x.wr] 83)) ⟨w.heap.size, 0, none⟩ x.vals := news_new w x
theorem lines_news {w : World} {b off n c : Nat} {ls : List Line} (h : Lines w w.heap.size (some ⟨b, off, none⟩) n c ls) : NewsAt w ⟨b, off, none⟩ (lcells ls) := fun j u hu => by
  rw [Go.WideShapes.add_plain]
  exact row_at_ h.2.2.2.2 rfl (by
    have hp : 0 < (lcells ls).length := by have := (List.getElem?_eq_some_iff.1 hu).1; omega
    obtain ⟨b', off', e, hb, _⟩ := h.2.2.2.2 hp
    simp only [Option.some.injEq, Addr.mk.injEq, and_true] at e
    rw [e.1]; exact hb) j u hu
set_option maxRecDepth 100000 in
theorem append_none (b n' : Nat) (A : Option Addr) (ty : TypeId) (w : World) : (Builtin.append_ #[33, 33] ty #[.slice (some ⟨b, 0, none⟩) 0 0, .slice A 0 n']).run Try.prog w = .ok (.slice (some ⟨b, 0, none⟩) 0 0) w := by
  cases A <;> kernel_rfl

theorem step_append_nil {P : Program} (w : World) {ops : Array Oper} {o : Oper} {a : Act} {K : Act → World → Prop} {Q : Exit → Act → World → Prop} {E : Prop} (hgd : o.guard = none) (s x : Operand) (t : TypeId)
    (ho : o.op = .call { callee := .builtin .append, args := #[s, x], argTypes := #[t, t] }) (v y : Value) (hs : a.eval s = v) (hx : a.eval x = y) (hr : ∀ ty, (Builtin.append_ #[t, t] ty #[v, y]).run P w = .ok v w) (h : K (a.put o.dst v) w) :
    if Region.wanted o (yielded ops a.tmps) = true then Oper.wp P o a w K Q else E := by
  have hw : Region.wanted o (yielded ops a.tmps) = true := by simp [Region.wanted, hgd]
  rw [if_pos hw]
  unfold Oper.wp execOp
  simp only [ho, resolve, invoke, builtin, Sem.run_bind, Sem.run_pure, Result.andThen_ok, List.map_toArray, List.map_cons, List.map_nil, hs, hx, hr]
  exact h
theorem own_e (w : World) (k B : Nat) (hk : w.heap.size = k) (hB : B ≤ k) : OwnL B (w.alloc (.cells #[] 83)) (some ⟨k, 0, none⟩) 0 0 [] := by
  subst hk
  exact ⟨rfl, Nat.le_refl _, Nat.zero_le _, own_low (own_empty w 83 5) hB⟩
theorem zero_row {B : Nat} {w : World} {e : TypeId} {s g m c : Nat} {xs : List Value} (h : w.ownsRow B e s (.slice (some ⟨g, 0, none⟩) (0 + m) c) (0 + m) ([] ++ xs)) : w.ownsRow B e s (.slice (some ⟨g, 0, none⟩) m c) m xs := by rw [Nat.zero_add, List.nil_append] at h; exact h
theorem news_grown {w w' : World} {row : Option Nat} {ad : Addr} {vs : List Value} (hg : w.grownBy w' row) (hne : some ad.block ≠ row) (h : NewsAt w ad vs) : NewsAt w' ad vs := fun j u hu => by
  have h1 := h j u hu
  have hb : (ad.add j).block = ad.block := by unfold Addr.add; split <;> rfl
  exact (hg.cell_far (ad.add j) (cell_lt' h1) (by rw [hb]; exact hne)).trans h1
theorem news_at {w : World} {k k' : Nat} {vs : List Value} (h : NewsAt w ⟨k, 0, none⟩ vs) (e : k = k') : NewsAt w ⟨k', 0, none⟩ vs := by subst e; exact h
/-- what Filled answers where it fills in. -/
def FilledC (w : World) (n : Nat) (ls : List Line) (e : Ending) (w' : World) : Prop := ∃ A c, e = .returned (.tuple #[.slice A n c, .int .i64 0]) ∧ OwnL w.heap.size w' A n c ls ∧ Below w.heap.size w w'

set_option maxRecDepth 100000 in
theorem slice_lo1 (b off c : Nat) (hc : 6 ≤ c) (w : World) : (Instr.slice 33 (.slice (some ⟨b, off, none⟩) 6 c) (some (.int .i64 1)) none none).run Try.prog w = .ok (.slice (some ⟨b, off + 5, none⟩) 5 (c - 1)) w := by
  have h1 : ¬ c = 1 := by omega
  simp [go_sem, h1, Addr.add]
set_option maxRecDepth 100000 in
set_option maxHeartbeats 8000000 in
theorem filled_z (A : Option Addr) (c : Nat) (ls : List Line) (x : Line) (w : World) (hl : Lines w w.heap.size A 0 c ls) (h0 : ckC ls = 0) (h1 : lineE x = 0) (h2 : findL ls x.dev x.page < 0) :
    Calls Try.prog 89 #[.slice A 0 c, .agg #[.int .i64 x.dev, .int .i64 x.page, .int .i64 x.at_, .bool x.rd, .bool x.wr]] w (FilledC w (0 + 1) (ls ++ [x])) := by
  obtain ⟨i0, hi, hz0, hz1, hz2⟩ := info_parts Try.infoLine
  have HI := Lib.hid hi; clear hi
  have HZ0 := Lib.hid hz0; clear hz0
  have HZ1 := Lib.hid hz1; clear hz1
  have HZ2 := Lib.hid hz2; clear hz2
  have HL := Lib.hid hl
  have hnil := Lib.hid (List.length_eq_zero_iff.1 hl.len)
  have hcap := hl.cap
  have t0 : (ckC ls != 0) = false := by rw [bne_eq_false_iff_eq]; exact h0
  have t1 : (lineE x != 0) = false := by rw [bne_eq_false_iff_eq]; exact h1
  have t2 : decide (0 ≤ findL ls x.dev x.page) = false := decide_eq_false (by omega)
  have HLS : Hid (ls.length = 0) := Lib.hid (by have := hl.len; first | omega | (simp; omega))
  clear h0 h1 h2 hl
  go_enter Try.func89, Try.ntmps89
  go_wp2_with fail
  refine (ref_CheckCache _ _ _ ls _ (lines_now HL.out (by (repeat (first | (with_reducible exact Below.refl _ _) | (with_reducible refine Below.drew ?_) | (with_reducible refine bdrewN ?_ _) | ((with_reducible refine Below.setCell ?_ ?_ _); rotate_left; exact (by first | (simp; done) | (simp; omega) | omega)) | ((with_reducible refine Below.alloc ?_ ?_ _); rotate_left; exact (by first | (simp; done) | (simp; omega) | omega))))))).mono ?_
  rintro e w1 ⟨rfl, hb1⟩
  have hz1 := hb1.size
  (try simp only [World.size_alloc, World.size_setCell, World.size_drew] at hz1)
  have k1_0 := fun o => (bcell hb1).1 (w.heap.size) o (by first | (simp; done) | (simp; omega) | omega)
  have l1_0 : (w.heap.size) < w1.heap.size := (by omega)
  have q1_0 := fun o => (bcell hb1).2 (w.heap.size) o (by first | (simp; done) | (simp; omega) | omega)
  simp (maxDischargeDepth := 6) [go_sem, *] at k1_0 q1_0
  have HB1 := Lib.hid hb1
  clear hb1
  go_wp2_with fail
  refine (ref_CheckCache _ _ _ [x] _ ((lines_new _ x).more (by simp))).mono ?_
  rw [ckC_one]
  rintro e w2 ⟨rfl, hb2⟩
  have hz2 := hb2.size
  (try simp only [World.size_alloc, World.size_setCell, World.size_drew] at hz2)
  have k2_0 := fun o => (bcell hb2).1 (w.heap.size) o (by first | (simp; done) | (simp; omega) | omega)
  have l2_0 : (w.heap.size) < w2.heap.size := (by omega)
  have q2_0 := fun o => (bcell hb2).2 (w.heap.size) o (by first | (simp; done) | (simp; omega) | omega)
  simp (maxDischargeDepth := 6) [go_sem, *] at k2_0 q2_0
  have HB2 := Lib.hid hb2
  clear hb2
  go_wp2_with fail
  refine (ref_LineAt _ _ _ ls _ _ _ (lines_now HL.out (by (repeat (first | (with_reducible exact Below.refl _ _) | (with_reducible refine Below.drew ?_) | (with_reducible refine bdrewN ?_ _) | ((with_reducible refine Below.setCell ?_ ?_ _); rotate_left; exact (by first | (simp; done) | (simp; omega) | omega)) | ((with_reducible refine Below.alloc ?_ ?_ _); rotate_left; exact (by first | (simp; done) | (simp; omega) | omega)) | ((with_reducible refine Below.trans ?_ (HB2.out.mono ?_)); rotate_left; exact (by first | (simp; done) | (simp; omega) | omega)) | ((with_reducible refine Below.trans ?_ (HB1.out.mono ?_)); rotate_left; exact (by first | (simp; done) | (simp; omega) | omega))))))).mono ?_
  rintro e w3 ⟨rfl, hb3⟩
  have hz3 := hb3.size
  (try simp only [World.size_alloc, World.size_setCell, World.size_drew] at hz3)
  have k3_0 := fun o => (bcell hb3).1 (w.heap.size) o (by first | (simp; done) | (simp; omega) | omega)
  have l3_0 : (w.heap.size) < w3.heap.size := (by omega)
  have q3_0 := fun o => (bcell hb3).2 (w.heap.size) o (by first | (simp; done) | (simp; omega) | omega)
  simp (maxDischargeDepth := 6) [go_sem, *] at k3_0 q3_0
  have HB3 := Lib.hid hb3
  clear hb3
  have HBW3 := Lib.hid (show Below w.heap.size w w3 by (repeat (first | (with_reducible exact Below.refl _ _) | (with_reducible refine Below.drew ?_) | (with_reducible refine bdrewN ?_ _) | ((with_reducible refine Below.setCell ?_ ?_ _); rotate_left; exact (by first | (simp; done) | (simp; omega) | omega)) | ((with_reducible refine Below.alloc ?_ ?_ _); rotate_left; exact (by first | (simp; done) | (simp; omega) | omega)) | ((with_reducible refine Below.trans ?_ (HB3.out.mono ?_)); rotate_left; exact (by first | (simp; done) | (simp; omega) | omega)) | ((with_reducible refine Below.trans ?_ (HB2.out.mono ?_)); rotate_left; exact (by first | (simp; done) | (simp; omega) | omega)) | ((with_reducible refine Below.trans ?_ (HB1.out.mono ?_)); rotate_left; exact (by first | (simp; done) | (simp; omega) | omega)))))
  have C0 : w3.cell? ⟨w.heap.size, 0, none⟩ = some (.int .i64 x.dev) := by simp [k3_0]
  have C1 : w3.cell? ⟨w.heap.size, 1, none⟩ = some (.int .i64 x.page) := by simp [k3_0]
  have C2 : w3.cell? ⟨w.heap.size, 2, none⟩ = some (.int .i64 x.at_) := by simp [k3_0]
  have C3 : w3.cell? ⟨w.heap.size, 3, none⟩ = some (.bool x.rd) := by simp [k3_0]
  have C4 : w3.cell? ⟨w.heap.size, 4, none⟩ = some (.bool x.wr) := by simp [k3_0]
  have HC := Lib.hid (And.intro C0 (And.intro C1 (And.intro C2 (And.intro C3 C4))))
  clear C0 C1 C2 C3 C4
  go_upto_region 11 with (fail)
  go_region_held3 (fun W => W.cell? ⟨w.heap.size, 0, none⟩ = some (.int .i64 x.dev) ∧ W.cell? ⟨w.heap.size, 1, none⟩ = some (.int .i64 x.page) ∧ W.cell? ⟨w.heap.size, 2, none⟩ = some (.int .i64 x.at_) ∧ W.cell? ⟨w.heap.size, 3, none⟩ = some (.bool x.rd) ∧ W.cell? ⟨w.heap.size, 4, none⟩ = some (.bool x.wr) ∧ Hid (Since w3 W))
    (((with_reducible refine keep5 ?_ HC.out.1 HC.out.2.1 HC.out.2.2.1 HC.out.2.2.2.1 HC.out.2.2.2.2); (repeat (first | (with_reducible assumption) | (with_reducible exact since_refl _) | (with_reducible exact since_5 (by assumption)) | (with_reducible exact since_step (by assumption) (since_5 (by assumption))) | (with_reducible refine since_drew ?_) | (with_reducible refine since_alloc ?_ _) | ((with_reducible refine since_set ?_ ?_ _); rotate_left; exact (by first | (simp; done) | (simp; omega) | omega)))); done))
    (first
      | (refine step_append_nil _ (by rfl) (.tmp 31) (.tmp 32) 33 (by rfl) (.slice (some ⟨w3.heap.size, 0, none⟩) 0 0) (.slice A 0 c) (by rfl) (by rfl) (fun ty => append_none _ _ _ ty _) ?_)
      | (refine step_append_nil _ (by rfl) (.tmp 31) (.tmp 32) 33 (by rfl) (.slice (some ⟨w3.heap.size + 1, 0, none⟩) 0 0) (.slice A 0 c) (by rfl) (by rfl) (fun ty => append_none _ _ _ ty _) ?_)
      | (refine step_append_lies _ (by rfl) (.tmp 33) (.tmp 35) 33 (by rfl) w3.heap.size 83 i0 (.agg #[.int .i64 0, .int .i64 0, .int .i64 0, .bool false, .bool false]) 5 32 Try.underlying33 HI.out HZ0.out HZ1.out HZ2.out (by rfl) (by decide) (.slice (some ⟨w3.heap.size, 0, none⟩) 0 0) 0 [] (by rfl) (((own_e w3.drew w3.heap.size w3.heap.size (by simp) (Nat.le_refl _)).alloc _).2.2.2) ⟨w3.heap.size + 1, 0, none⟩ 1 1 x.vals (by rfl) (by rfl) (news_at (news_block (w3.drew.alloc (.cells #[] 83)) x) (by simp)) (vals_one x) (by decide) (by unfold maxLen; omega) (by omega) (by first | (simp; done) | (simp; omega) | omega) _ rfl ?_; intro g6 cap6 w6 hown6 hgrow6 hat6 hlt6; have hs6 : Since w3 w6 := Below.grown (since_5 (by assumption)) hgrow6 (by first | (simp; done) | (simp; omega) | omega) (by intro q hq; simp [Value.ownBlock] at hq; omega))
      | (refine step_append_lies _ (by rfl) (.tmp 33) (.tmp 35) 33 (by rfl) w3.heap.size 83 i0 (.agg #[.int .i64 0, .int .i64 0, .int .i64 0, .bool false, .bool false]) 5 32 Try.underlying33 HI.out HZ0.out HZ1.out HZ2.out (by rfl) (by decide) (.slice (some ⟨w3.heap.size + 1, 0, none⟩) 0 0) 0 [] (by rfl) ((own_e (w3.drew.alloc (.cells #[.int .i64 x.dev, .int .i64 x.page, .int .i64 x.at_, .bool x.rd, .bool x.wr] 83)) (w3.heap.size + 1) w3.heap.size (by simp) (by omega)).2.2.2) ⟨w3.heap.size, 0, none⟩ 1 1 x.vals (by rfl) (by rfl) (news_since (since_alloc (since_refl _) _) (news_at (news_block w3.drew x) (by simp))) (vals_one x) (by decide) (by unfold maxLen; omega) (by omega) (by first | (simp; done) | (simp; omega) | omega) _ rfl ?_; intro g6 cap6 w6 hown6 hgrow6 hat6 hlt6; have hs6 : Since w3 w6 := Below.grown (since_5 (by assumption)) hgrow6 (by first | (simp; done) | (simp; omega) | omega) (by intro q hq; simp [Value.ownBlock] at hq; omega)))
  all_goals
    have HS6 := Lib.hid hs6
    have HO6 := Lib.hid (own_fill0 HLS.out (by rw [hnil.out]; exact hown6))
    clear hown6
    go_wp2
    go_ret2
    exact ⟨some ⟨g6, 0, none⟩, cap6, rfl, HO6.out.low (Below.size HBW3.out), HBW3.out.trans (Below.mono HS6.out (Below.size HBW3.out))⟩

set_option maxRecDepth 100000 in
set_option maxHeartbeats 8000000 in
theorem filled_m (b off n c : Nat) (hn0 : 0 < n) (hn6 : n < 6) (ls : List Line) (x : Line) (w : World) (hl : Lines w w.heap.size (some ⟨b, off, none⟩) n c ls) (h0 : ckC ls = 0) (h1 : lineE x = 0) (h2 : findL ls x.dev x.page < 0) :
    Calls Try.prog 89 #[.slice (some ⟨b, off, none⟩) n c, .agg #[.int .i64 x.dev, .int .i64 x.page, .int .i64 x.at_, .bool x.rd, .bool x.wr]] w (FilledC w (n + 1) (ls ++ [x])) := by
  obtain ⟨i0, hi, hz0, hz1, hz2⟩ := info_parts Try.infoLine
  have HI := Lib.hid hi; clear hi
  have HZ0 := Lib.hid hz0; clear hz0
  have HZ1 := Lib.hid hz1; clear hz1
  have HZ2 := Lib.hid hz2; clear hz2
  have HL := Lib.hid hl
  have hcap := hl.cap
  have t0 : (ckC ls != 0) = false := by rw [bne_eq_false_iff_eq]; exact h0
  have t1 : (lineE x != 0) = false := by rw [bne_eq_false_iff_eq]; exact h1
  have t2 : decide (0 ≤ findL ls x.dev x.page) = false := decide_eq_false (by omega)
  have t3 : ((n : Int) == 6) = false := beq_eq_false_iff_ne.2 (by omega)
  have HLEN := Lib.hid (show (lcells ls).length = n * 5 by rw [lcells_len]; have := hl.len; first | omega | (simp; omega))
  have HONE := Lib.hid (lines_one ls)
  have HLS : Hid (ls.length = n) := Lib.hid (by have := hl.len; first | omega | (simp; omega))
  clear h0 h1 h2 hl
  go_enter Try.func89, Try.ntmps89
  go_wp2_with fail
  refine (ref_CheckCache _ _ _ ls _ (lines_now HL.out (by (repeat (first | (with_reducible exact Below.refl _ _) | (with_reducible refine Below.drew ?_) | (with_reducible refine bdrewN ?_ _) | ((with_reducible refine Below.setCell ?_ ?_ _); rotate_left; exact (by first | (simp; done) | (simp; omega) | omega)) | ((with_reducible refine Below.alloc ?_ ?_ _); rotate_left; exact (by first | (simp; done) | (simp; omega) | omega))))))).mono ?_
  rintro e w1 ⟨rfl, hb1⟩
  have hz1 := hb1.size
  (try simp only [World.size_alloc, World.size_setCell, World.size_drew] at hz1)
  have k1_0 := fun o => (bcell hb1).1 (w.heap.size) o (by first | (simp; done) | (simp; omega) | omega)
  have l1_0 : (w.heap.size) < w1.heap.size := (by omega)
  have q1_0 := fun o => (bcell hb1).2 (w.heap.size) o (by first | (simp; done) | (simp; omega) | omega)
  simp (maxDischargeDepth := 6) [go_sem, *] at k1_0 q1_0
  have HB1 := Lib.hid hb1
  clear hb1
  go_wp2_with fail
  refine (ref_CheckCache _ _ _ [x] _ ((lines_new _ x).more (by simp))).mono ?_
  rw [ckC_one]
  rintro e w2 ⟨rfl, hb2⟩
  have hz2 := hb2.size
  (try simp only [World.size_alloc, World.size_setCell, World.size_drew] at hz2)
  have k2_0 := fun o => (bcell hb2).1 (w.heap.size) o (by first | (simp; done) | (simp; omega) | omega)
  have l2_0 : (w.heap.size) < w2.heap.size := (by omega)
  have q2_0 := fun o => (bcell hb2).2 (w.heap.size) o (by first | (simp; done) | (simp; omega) | omega)
  simp (maxDischargeDepth := 6) [go_sem, *] at k2_0 q2_0
  have HB2 := Lib.hid hb2
  clear hb2
  go_wp2_with fail
  refine (ref_LineAt _ _ _ ls _ _ _ (lines_now HL.out (by (repeat (first | (with_reducible exact Below.refl _ _) | (with_reducible refine Below.drew ?_) | (with_reducible refine bdrewN ?_ _) | ((with_reducible refine Below.setCell ?_ ?_ _); rotate_left; exact (by first | (simp; done) | (simp; omega) | omega)) | ((with_reducible refine Below.alloc ?_ ?_ _); rotate_left; exact (by first | (simp; done) | (simp; omega) | omega)) | ((with_reducible refine Below.trans ?_ (HB2.out.mono ?_)); rotate_left; exact (by first | (simp; done) | (simp; omega) | omega)) | ((with_reducible refine Below.trans ?_ (HB1.out.mono ?_)); rotate_left; exact (by first | (simp; done) | (simp; omega) | omega))))))).mono ?_
  rintro e w3 ⟨rfl, hb3⟩
  have hz3 := hb3.size
  (try simp only [World.size_alloc, World.size_setCell, World.size_drew] at hz3)
  have k3_0 := fun o => (bcell hb3).1 (w.heap.size) o (by first | (simp; done) | (simp; omega) | omega)
  have l3_0 : (w.heap.size) < w3.heap.size := (by omega)
  have q3_0 := fun o => (bcell hb3).2 (w.heap.size) o (by first | (simp; done) | (simp; omega) | omega)
  simp (maxDischargeDepth := 6) [go_sem, *] at k3_0 q3_0
  have HB3 := Lib.hid hb3
  clear hb3
  have HBW3 := Lib.hid (show Below w.heap.size w w3 by (repeat (first | (with_reducible exact Below.refl _ _) | (with_reducible refine Below.drew ?_) | (with_reducible refine bdrewN ?_ _) | ((with_reducible refine Below.setCell ?_ ?_ _); rotate_left; exact (by first | (simp; done) | (simp; omega) | omega)) | ((with_reducible refine Below.alloc ?_ ?_ _); rotate_left; exact (by first | (simp; done) | (simp; omega) | omega)) | ((with_reducible refine Below.trans ?_ (HB3.out.mono ?_)); rotate_left; exact (by first | (simp; done) | (simp; omega) | omega)) | ((with_reducible refine Below.trans ?_ (HB2.out.mono ?_)); rotate_left; exact (by first | (simp; done) | (simp; omega) | omega)) | ((with_reducible refine Below.trans ?_ (HB1.out.mono ?_)); rotate_left; exact (by first | (simp; done) | (simp; omega) | omega)))))
  have C0 : w3.cell? ⟨w.heap.size, 0, none⟩ = some (.int .i64 x.dev) := by simp [k3_0]
  have C1 : w3.cell? ⟨w.heap.size, 1, none⟩ = some (.int .i64 x.page) := by simp [k3_0]
  have C2 : w3.cell? ⟨w.heap.size, 2, none⟩ = some (.int .i64 x.at_) := by simp [k3_0]
  have C3 : w3.cell? ⟨w.heap.size, 3, none⟩ = some (.bool x.rd) := by simp [k3_0]
  have C4 : w3.cell? ⟨w.heap.size, 4, none⟩ = some (.bool x.wr) := by simp [k3_0]
  have HC := Lib.hid (And.intro C0 (And.intro C1 (And.intro C2 (And.intro C3 C4))))
  clear C0 C1 C2 C3 C4
  have HNW : Hid (NewsAt w3 ⟨b, off, none⟩ (lcells ls)) := Lib.hid (lines_news (lines_now HL.out HBW3.out))
  go_upto_region 11 with (fail)
  go_region_held3 (fun W => W.cell? ⟨w.heap.size, 0, none⟩ = some (.int .i64 x.dev) ∧ W.cell? ⟨w.heap.size, 1, none⟩ = some (.int .i64 x.page) ∧ W.cell? ⟨w.heap.size, 2, none⟩ = some (.int .i64 x.at_) ∧ W.cell? ⟨w.heap.size, 3, none⟩ = some (.bool x.rd) ∧ W.cell? ⟨w.heap.size, 4, none⟩ = some (.bool x.wr) ∧ Hid (Since w3 W))
    (((with_reducible refine keep5 ?_ HC.out.1 HC.out.2.1 HC.out.2.2.1 HC.out.2.2.2.1 HC.out.2.2.2.2); (repeat (first | (with_reducible assumption) | (with_reducible exact since_refl _) | (with_reducible exact since_5 (by assumption)) | (with_reducible exact since_step (by assumption) (since_5 (by assumption))) | (with_reducible refine since_drew ?_) | (with_reducible refine since_alloc ?_ _) | ((with_reducible refine since_set ?_ ?_ _); rotate_left; exact (by first | (simp; done) | (simp; omega) | omega)))); done))
    (first
      | (refine step_append_lies _ (by rfl) (.tmp 31) (.tmp 32) 33 (by rfl) w3.heap.size 83 i0 (.agg #[.int .i64 0, .int .i64 0, .int .i64 0, .bool false, .bool false]) 5 32 Try.underlying33 HI.out HZ0.out HZ1.out HZ2.out (by rfl) (by decide) (.slice (some ⟨w3.heap.size, 0, none⟩) 0 0) 0 [] (by rfl) ((own_e w3.drew w3.heap.size w3.heap.size (by simp) (Nat.le_refl _)).2.2.2) ⟨b, off, none⟩ n c (lcells ls) (by rfl) HLEN.out (news_since (since_5 (by assumption)) HNW.out) HONE.out (by omega) (by unfold maxLen; omega) (by omega) (by first | (simp; done) | (simp; omega) | omega) _ rfl ?_; intro g cap w5 hown5 hgrow hat hlt; have hs5 : Since w3 w5 := Below.grown (since_5 (by assumption)) hgrow (by first | (simp; done) | (simp; omega) | omega) (by intro q hq; simp [Value.ownBlock] at hq; omega); have hz5 := Below.size hs5)
      | (refine step_append_lies _ (by rfl) (.tmp 31) (.tmp 32) 33 (by rfl) w3.heap.size 83 i0 (.agg #[.int .i64 0, .int .i64 0, .int .i64 0, .bool false, .bool false]) 5 32 Try.underlying33 HI.out HZ0.out HZ1.out HZ2.out (by rfl) (by decide) (.slice (some ⟨w3.heap.size, 0, none⟩) 0 0) 0 [] (by rfl) (((own_e w3.drew w3.heap.size w3.heap.size (by simp) (Nat.le_refl _)).alloc _).2.2.2) ⟨b, off, none⟩ n c (lcells ls) (by rfl) HLEN.out (news_since (since_5 (by assumption)) HNW.out) HONE.out (by omega) (by unfold maxLen; omega) (by omega) (by first | (simp; done) | (simp; omega) | omega) _ rfl ?_; intro g cap w5 hown5 hgrow hat hlt; have hs5 : Since w3 w5 := Below.grown (since_5 (by assumption)) hgrow (by first | (simp; done) | (simp; omega) | omega) (by intro q hq; simp [Value.ownBlock] at hq; omega); have hz5 := Below.size hs5; have hnw5 : NewsAt w5 ⟨w3.heap.size + 1, 0, none⟩ x.vals := news_grown hgrow (by simp [Value.ownBlock]) (news_at (news_block (w3.drew.alloc (.cells #[] 83)) x) (by simp)))
      | (refine step_append_lies _ (by rfl) (.tmp 31) (.tmp 32) 33 (by rfl) w3.heap.size 83 i0 (.agg #[.int .i64 0, .int .i64 0, .int .i64 0, .bool false, .bool false]) 5 32 Try.underlying33 HI.out HZ0.out HZ1.out HZ2.out (by rfl) (by decide) (.slice (some ⟨w3.heap.size + 1, 0, none⟩) 0 0) 0 [] (by rfl) ((own_e (w3.drew.alloc (.cells #[.int .i64 x.dev, .int .i64 x.page, .int .i64 x.at_, .bool x.rd, .bool x.wr] 83)) (w3.heap.size + 1) w3.heap.size (by simp) (by omega)).2.2.2) ⟨b, off, none⟩ n c (lcells ls) (by rfl) HLEN.out (news_since (since_5 (by assumption)) HNW.out) HONE.out (by omega) (by unfold maxLen; omega) (by omega) (by first | (simp; done) | (simp; omega) | omega) _ rfl ?_; intro g cap w5 hown5 hgrow hat hlt; have hs5 : Since w3 w5 := Below.grown (since_5 (by assumption)) hgrow (by first | (simp; done) | (simp; omega) | omega) (by intro q hq; simp [Value.ownBlock] at hq; omega); have hz5 := Below.size hs5; have hnw5 : NewsAt w5 ⟨w3.heap.size, 0, none⟩ x.vals := news_grown hgrow (by simp [Value.ownBlock]) (news_since (since_alloc (since_refl _) _) (news_at (news_block w3.drew x) (by simp))))
      | (revert hown5; intro hown5; refine step_append_lies _ (by rfl) (.tmp 33) (.tmp 35) 33 (by rfl) w3.heap.size 83 i0 (.agg #[.int .i64 0, .int .i64 0, .int .i64 0, .bool false, .bool false]) 5 32 Try.underlying33 HI.out HZ0.out HZ1.out HZ2.out (by rfl) (by decide) (.slice (some ⟨g, 0, none⟩) (0 + n) cap) (0 + n) ([] ++ lcells ls) (by rfl) (own_below hown5 (below_alloc w5 _)) ⟨w5.heap.size, 0, none⟩ 1 1 x.vals (by rfl) (by rfl) (news_block w5 x) (vals_one x) (by decide) (by unfold maxLen; omega) (by omega) (by first | (simp; done) | (simp; omega) | omega) _ rfl ?_; intro g6 cap6 w6 hown6 hgrow6 hat6 hlt6; have hs6 : Since w3 w6 := Below.grown (since_5 (by assumption)) hgrow6 (by first | (simp; done) | (simp; omega) | omega) (fun q hq => own_gel hown5 q hq))
      | (revert hnw5; intro hnw5; refine step_append_lies _ (by rfl) (.tmp 33) (.tmp 35) 33 (by rfl) w3.heap.size 83 i0 (.agg #[.int .i64 0, .int .i64 0, .int .i64 0, .bool false, .bool false]) 5 32 Try.underlying33 HI.out HZ0.out HZ1.out HZ2.out (by rfl) (by decide) (.slice (some ⟨g, 0, none⟩) (0 + n) cap) (0 + n) ([] ++ lcells ls) (by rfl) hown5 _ 1 1 x.vals (by rfl) (by rfl) hnw5 (vals_one x) (by decide) (by unfold maxLen; omega) (by omega) (by first | (simp; done) | (simp; omega) | omega) _ rfl ?_; intro g6 cap6 w6 hown6 hgrow6 hat6 hlt6; have hs6 : Since w3 w6 := Below.grown (since_5 (by assumption)) hgrow6 (by first | (simp; done) | (simp; omega) | omega) (fun q hq => own_gel hown5 q hq))
      | (revert hown5; intro hown5; refine step_append_lies _ (by rfl) (.tmp 33) (.tmp 35) 33 (by rfl) w3.heap.size 83 i0 (.agg #[.int .i64 0, .int .i64 0, .int .i64 0, .bool false, .bool false]) 5 32 Try.underlying33 HI.out HZ0.out HZ1.out HZ2.out (by rfl) (by decide) (.slice (some ⟨g, 0, none⟩) n cap) n (lcells ls) (by rfl) (own_below (zero_row hown5) (below_alloc w5 _)) ⟨w5.heap.size, 0, none⟩ 1 1 x.vals (by rfl) (by rfl) (news_block w5 x) (vals_one x) (by decide) (by unfold maxLen; omega) (by omega) (by first | (simp; done) | (simp; omega) | omega) _ rfl ?_; intro g6 cap6 w6 hown6 hgrow6 hat6 hlt6; have hs6 : Since w3 w6 := Below.grown (since_5 (by assumption)) hgrow6 (by first | (simp; done) | (simp; omega) | omega) (fun q hq => own_gel hown5 q hq))
      | (revert hnw5; intro hnw5; refine step_append_lies _ (by rfl) (.tmp 33) (.tmp 35) 33 (by rfl) w3.heap.size 83 i0 (.agg #[.int .i64 0, .int .i64 0, .int .i64 0, .bool false, .bool false]) 5 32 Try.underlying33 HI.out HZ0.out HZ1.out HZ2.out (by rfl) (by decide) (.slice (some ⟨g, 0, none⟩) n cap) n (lcells ls) (by rfl) (zero_row hown5) _ 1 1 x.vals (by rfl) (by rfl) hnw5 (vals_one x) (by decide) (by unfold maxLen; omega) (by omega) (by first | (simp; done) | (simp; omega) | omega) _ rfl ?_; intro g6 cap6 w6 hown6 hgrow6 hat6 hlt6; have hs6 : Since w3 w6 := Below.grown (since_5 (by assumption)) hgrow6 (by first | (simp; done) | (simp; omega) | omega) (fun q hq => own_gel hown5 q hq)))
  all_goals
    have HS6 := Lib.hid hs6
    have HO6 := Lib.hid (own_fill0 HLS.out (by first | exact hown6 | (rw [Nat.zero_add, List.nil_append] at hown6; exact hown6)))
    clear hown6
    go_wp2
    go_ret2
    exact ⟨some ⟨g6, 0, none⟩, cap6, rfl, HO6.out.low (Below.size HBW3.out), HBW3.out.trans (Below.mono HS6.out (Below.size HBW3.out))⟩

set_option maxRecDepth 100000 in
set_option maxHeartbeats 8000000 in
theorem filled_s (b off c : Nat) (ls : List Line) (x : Line) (w : World) (hl : Lines w w.heap.size (some ⟨b, off, none⟩) 6 c ls) (h0 : ckC ls = 0) (h1 : lineE x = 0) (h2 : findL ls x.dev x.page < 0) :
    Calls Try.prog 89 #[.slice (some ⟨b, off, none⟩) 6 c, .agg #[.int .i64 x.dev, .int .i64 x.page, .int .i64 x.at_, .bool x.rd, .bool x.wr]] w (FilledC w (5 + 1) (ls.drop 1 ++ [x])) := by
  obtain ⟨i0, hi, hz0, hz1, hz2⟩ := info_parts Try.infoLine
  have HI := Lib.hid hi; clear hi
  have HZ0 := Lib.hid hz0; clear hz0
  have HZ1 := Lib.hid hz1; clear hz1
  have HZ2 := Lib.hid hz2; clear hz2
  have HL := Lib.hid hl
  have hcap := hl.cap
  have t0 : (ckC ls != 0) = false := by rw [bne_eq_false_iff_eq]; exact h0
  have t1 : (lineE x != 0) = false := by rw [bne_eq_false_iff_eq]; exact h1
  have t2 : decide (0 ≤ findL ls x.dev x.page) = false := decide_eq_false (by omega)
  have hlo := Lib.hid (fun w => slice_lo1 b off c (by have := hcap.1; omega) w)
  have HLEN := Lib.hid (show (lcells (ls.drop 1)).length = 5 * 5 by rw [lcells_len]; have := hl.len; first | omega | (simp; omega))
  have HONE := Lib.hid (lines_one (ls.drop 1))
  have HLS : Hid ((ls.drop 1).length = 5) := Lib.hid (by have := hl.len; first | omega | (simp; omega))
  clear h0 h1 h2 hl
  go_enter Try.func89, Try.ntmps89
  go_wp2_with fail
  refine (ref_CheckCache _ _ _ ls _ (lines_now HL.out (by (repeat (first | (with_reducible exact Below.refl _ _) | (with_reducible refine Below.drew ?_) | (with_reducible refine bdrewN ?_ _) | ((with_reducible refine Below.setCell ?_ ?_ _); rotate_left; exact (by first | (simp; done) | (simp; omega) | omega)) | ((with_reducible refine Below.alloc ?_ ?_ _); rotate_left; exact (by first | (simp; done) | (simp; omega) | omega))))))).mono ?_
  rintro e w1 ⟨rfl, hb1⟩
  have hz1 := hb1.size
  (try simp only [World.size_alloc, World.size_setCell, World.size_drew] at hz1)
  have k1_0 := fun o => (bcell hb1).1 (w.heap.size) o (by first | (simp; done) | (simp; omega) | omega)
  have l1_0 : (w.heap.size) < w1.heap.size := (by omega)
  have q1_0 := fun o => (bcell hb1).2 (w.heap.size) o (by first | (simp; done) | (simp; omega) | omega)
  simp (maxDischargeDepth := 6) [go_sem, *] at k1_0 q1_0
  have HB1 := Lib.hid hb1
  clear hb1
  go_wp2_with fail
  refine (ref_CheckCache _ _ _ [x] _ ((lines_new _ x).more (by simp))).mono ?_
  rw [ckC_one]
  rintro e w2 ⟨rfl, hb2⟩
  have hz2 := hb2.size
  (try simp only [World.size_alloc, World.size_setCell, World.size_drew] at hz2)
  have k2_0 := fun o => (bcell hb2).1 (w.heap.size) o (by first | (simp; done) | (simp; omega) | omega)
  have l2_0 : (w.heap.size) < w2.heap.size := (by omega)
  have q2_0 := fun o => (bcell hb2).2 (w.heap.size) o (by first | (simp; done) | (simp; omega) | omega)
  simp (maxDischargeDepth := 6) [go_sem, *] at k2_0 q2_0
  have HB2 := Lib.hid hb2
  clear hb2
  go_wp2_with fail
  refine (ref_LineAt _ _ _ ls _ _ _ (lines_now HL.out (by (repeat (first | (with_reducible exact Below.refl _ _) | (with_reducible refine Below.drew ?_) | (with_reducible refine bdrewN ?_ _) | ((with_reducible refine Below.setCell ?_ ?_ _); rotate_left; exact (by first | (simp; done) | (simp; omega) | omega)) | ((with_reducible refine Below.alloc ?_ ?_ _); rotate_left; exact (by first | (simp; done) | (simp; omega) | omega)) | ((with_reducible refine Below.trans ?_ (HB2.out.mono ?_)); rotate_left; exact (by first | (simp; done) | (simp; omega) | omega)) | ((with_reducible refine Below.trans ?_ (HB1.out.mono ?_)); rotate_left; exact (by first | (simp; done) | (simp; omega) | omega))))))).mono ?_
  rintro e w3 ⟨rfl, hb3⟩
  have hz3 := hb3.size
  (try simp only [World.size_alloc, World.size_setCell, World.size_drew] at hz3)
  have k3_0 := fun o => (bcell hb3).1 (w.heap.size) o (by first | (simp; done) | (simp; omega) | omega)
  have l3_0 : (w.heap.size) < w3.heap.size := (by omega)
  have q3_0 := fun o => (bcell hb3).2 (w.heap.size) o (by first | (simp; done) | (simp; omega) | omega)
  simp (maxDischargeDepth := 6) [go_sem, *] at k3_0 q3_0
  have HB3 := Lib.hid hb3
  clear hb3
  have HBW3 := Lib.hid (show Below w.heap.size w w3 by (repeat (first | (with_reducible exact Below.refl _ _) | (with_reducible refine Below.drew ?_) | (with_reducible refine bdrewN ?_ _) | ((with_reducible refine Below.setCell ?_ ?_ _); rotate_left; exact (by first | (simp; done) | (simp; omega) | omega)) | ((with_reducible refine Below.alloc ?_ ?_ _); rotate_left; exact (by first | (simp; done) | (simp; omega) | omega)) | ((with_reducible refine Below.trans ?_ (HB3.out.mono ?_)); rotate_left; exact (by first | (simp; done) | (simp; omega) | omega)) | ((with_reducible refine Below.trans ?_ (HB2.out.mono ?_)); rotate_left; exact (by first | (simp; done) | (simp; omega) | omega)) | ((with_reducible refine Below.trans ?_ (HB1.out.mono ?_)); rotate_left; exact (by first | (simp; done) | (simp; omega) | omega)))))
  have C0 : w3.cell? ⟨w.heap.size, 0, none⟩ = some (.int .i64 x.dev) := by simp [k3_0]
  have C1 : w3.cell? ⟨w.heap.size, 1, none⟩ = some (.int .i64 x.page) := by simp [k3_0]
  have C2 : w3.cell? ⟨w.heap.size, 2, none⟩ = some (.int .i64 x.at_) := by simp [k3_0]
  have C3 : w3.cell? ⟨w.heap.size, 3, none⟩ = some (.bool x.rd) := by simp [k3_0]
  have C4 : w3.cell? ⟨w.heap.size, 4, none⟩ = some (.bool x.wr) := by simp [k3_0]
  have HC := Lib.hid (And.intro C0 (And.intro C1 (And.intro C2 (And.intro C3 C4))))
  clear C0 C1 C2 C3 C4
  have HNW : Hid (NewsAt w3 ⟨b, off + 5, none⟩ (lcells (ls.drop 1))) := Lib.hid (lines_news ((lines_now HL.out HBW3.out).drop1))
  have hlo' := hlo.out
  go_upto_region 11 with (fail)
  go_region_held3 (fun W => W.cell? ⟨w.heap.size, 0, none⟩ = some (.int .i64 x.dev) ∧ W.cell? ⟨w.heap.size, 1, none⟩ = some (.int .i64 x.page) ∧ W.cell? ⟨w.heap.size, 2, none⟩ = some (.int .i64 x.at_) ∧ W.cell? ⟨w.heap.size, 3, none⟩ = some (.bool x.rd) ∧ W.cell? ⟨w.heap.size, 4, none⟩ = some (.bool x.wr) ∧ Hid (Since w3 W))
    (((with_reducible refine keep5 ?_ HC.out.1 HC.out.2.1 HC.out.2.2.1 HC.out.2.2.2.1 HC.out.2.2.2.2); (repeat (first | (with_reducible assumption) | (with_reducible exact since_refl _) | (with_reducible exact since_5 (by assumption)) | (with_reducible exact since_step (by assumption) (since_5 (by assumption))) | (with_reducible refine since_drew ?_) | (with_reducible refine since_alloc ?_ _) | ((with_reducible refine since_set ?_ ?_ _); rotate_left; exact (by first | (simp; done) | (simp; omega) | omega)))); done))
    (first
      | (refine step_append_lies _ (by rfl) (.tmp 31) (.tmp 32) 33 (by rfl) w3.heap.size 83 i0 (.agg #[.int .i64 0, .int .i64 0, .int .i64 0, .bool false, .bool false]) 5 32 Try.underlying33 HI.out HZ0.out HZ1.out HZ2.out (by rfl) (by decide) (.slice (some ⟨w3.heap.size, 0, none⟩) 0 0) 0 [] (by rfl) ((own_e w3.drew w3.heap.size w3.heap.size (by simp) (Nat.le_refl _)).2.2.2) ⟨b, off + 5, none⟩ 5 (c - 1) (lcells (ls.drop 1)) (by rfl) HLEN.out (news_since (since_5 (by assumption)) HNW.out) HONE.out (by omega) (by unfold maxLen; omega) (by omega) (by first | (simp; done) | (simp; omega) | omega) _ rfl ?_; intro g cap w5 hown5 hgrow hat hlt; have hs5 : Since w3 w5 := Below.grown (since_5 (by assumption)) hgrow (by first | (simp; done) | (simp; omega) | omega) (by intro q hq; simp [Value.ownBlock] at hq; omega); have hz5 := Below.size hs5)
      | (refine step_append_lies _ (by rfl) (.tmp 31) (.tmp 32) 33 (by rfl) w3.heap.size 83 i0 (.agg #[.int .i64 0, .int .i64 0, .int .i64 0, .bool false, .bool false]) 5 32 Try.underlying33 HI.out HZ0.out HZ1.out HZ2.out (by rfl) (by decide) (.slice (some ⟨w3.heap.size, 0, none⟩) 0 0) 0 [] (by rfl) (((own_e w3.drew w3.heap.size w3.heap.size (by simp) (Nat.le_refl _)).alloc _).2.2.2) ⟨b, off + 5, none⟩ 5 (c - 1) (lcells (ls.drop 1)) (by rfl) HLEN.out (news_since (since_5 (by assumption)) HNW.out) HONE.out (by omega) (by unfold maxLen; omega) (by omega) (by first | (simp; done) | (simp; omega) | omega) _ rfl ?_; intro g cap w5 hown5 hgrow hat hlt; have hs5 : Since w3 w5 := Below.grown (since_5 (by assumption)) hgrow (by first | (simp; done) | (simp; omega) | omega) (by intro q hq; simp [Value.ownBlock] at hq; omega); have hz5 := Below.size hs5; have hnw5 : NewsAt w5 ⟨w3.heap.size + 1, 0, none⟩ x.vals := news_grown hgrow (by simp [Value.ownBlock]) (news_at (news_block (w3.drew.alloc (.cells #[] 83)) x) (by simp)))
      | (refine step_append_lies _ (by rfl) (.tmp 31) (.tmp 32) 33 (by rfl) w3.heap.size 83 i0 (.agg #[.int .i64 0, .int .i64 0, .int .i64 0, .bool false, .bool false]) 5 32 Try.underlying33 HI.out HZ0.out HZ1.out HZ2.out (by rfl) (by decide) (.slice (some ⟨w3.heap.size + 1, 0, none⟩) 0 0) 0 [] (by rfl) ((own_e (w3.drew.alloc (.cells #[.int .i64 x.dev, .int .i64 x.page, .int .i64 x.at_, .bool x.rd, .bool x.wr] 83)) (w3.heap.size + 1) w3.heap.size (by simp) (by omega)).2.2.2) ⟨b, off + 5, none⟩ 5 (c - 1) (lcells (ls.drop 1)) (by rfl) HLEN.out (news_since (since_5 (by assumption)) HNW.out) HONE.out (by omega) (by unfold maxLen; omega) (by omega) (by first | (simp; done) | (simp; omega) | omega) _ rfl ?_; intro g cap w5 hown5 hgrow hat hlt; have hs5 : Since w3 w5 := Below.grown (since_5 (by assumption)) hgrow (by first | (simp; done) | (simp; omega) | omega) (by intro q hq; simp [Value.ownBlock] at hq; omega); have hz5 := Below.size hs5; have hnw5 : NewsAt w5 ⟨w3.heap.size, 0, none⟩ x.vals := news_grown hgrow (by simp [Value.ownBlock]) (news_since (since_alloc (since_refl _) _) (news_at (news_block w3.drew x) (by simp))))
      | (revert hown5; intro hown5; refine step_append_lies _ (by rfl) (.tmp 33) (.tmp 35) 33 (by rfl) w3.heap.size 83 i0 (.agg #[.int .i64 0, .int .i64 0, .int .i64 0, .bool false, .bool false]) 5 32 Try.underlying33 HI.out HZ0.out HZ1.out HZ2.out (by rfl) (by decide) (.slice (some ⟨g, 0, none⟩) (0 + 5) cap) (0 + 5) ([] ++ lcells (ls.drop 1)) (by rfl) (own_below hown5 (below_alloc w5 _)) ⟨w5.heap.size, 0, none⟩ 1 1 x.vals (by rfl) (by rfl) (news_block w5 x) (vals_one x) (by decide) (by unfold maxLen; omega) (by omega) (by first | (simp; done) | (simp; omega) | omega) _ rfl ?_; intro g6 cap6 w6 hown6 hgrow6 hat6 hlt6; have hs6 : Since w3 w6 := Below.grown (since_5 (by assumption)) hgrow6 (by first | (simp; done) | (simp; omega) | omega) (fun q hq => own_gel hown5 q hq))
      | (revert hnw5; intro hnw5; refine step_append_lies _ (by rfl) (.tmp 33) (.tmp 35) 33 (by rfl) w3.heap.size 83 i0 (.agg #[.int .i64 0, .int .i64 0, .int .i64 0, .bool false, .bool false]) 5 32 Try.underlying33 HI.out HZ0.out HZ1.out HZ2.out (by rfl) (by decide) (.slice (some ⟨g, 0, none⟩) (0 + 5) cap) (0 + 5) ([] ++ lcells (ls.drop 1)) (by rfl) hown5 _ 1 1 x.vals (by rfl) (by rfl) hnw5 (vals_one x) (by decide) (by unfold maxLen; omega) (by omega) (by first | (simp; done) | (simp; omega) | omega) _ rfl ?_; intro g6 cap6 w6 hown6 hgrow6 hat6 hlt6; have hs6 : Since w3 w6 := Below.grown (since_5 (by assumption)) hgrow6 (by first | (simp; done) | (simp; omega) | omega) (fun q hq => own_gel hown5 q hq))
      | (revert hown5; intro hown5; refine step_append_lies _ (by rfl) (.tmp 33) (.tmp 35) 33 (by rfl) w3.heap.size 83 i0 (.agg #[.int .i64 0, .int .i64 0, .int .i64 0, .bool false, .bool false]) 5 32 Try.underlying33 HI.out HZ0.out HZ1.out HZ2.out (by rfl) (by decide) (.slice (some ⟨g, 0, none⟩) 5 cap) 5 (lcells (ls.drop 1)) (by rfl) (own_below (zero_row hown5) (below_alloc w5 _)) ⟨w5.heap.size, 0, none⟩ 1 1 x.vals (by rfl) (by rfl) (news_block w5 x) (vals_one x) (by decide) (by unfold maxLen; omega) (by omega) (by first | (simp; done) | (simp; omega) | omega) _ rfl ?_; intro g6 cap6 w6 hown6 hgrow6 hat6 hlt6; have hs6 : Since w3 w6 := Below.grown (since_5 (by assumption)) hgrow6 (by first | (simp; done) | (simp; omega) | omega) (fun q hq => own_gel hown5 q hq))
      | (revert hnw5; intro hnw5; refine step_append_lies _ (by rfl) (.tmp 33) (.tmp 35) 33 (by rfl) w3.heap.size 83 i0 (.agg #[.int .i64 0, .int .i64 0, .int .i64 0, .bool false, .bool false]) 5 32 Try.underlying33 HI.out HZ0.out HZ1.out HZ2.out (by rfl) (by decide) (.slice (some ⟨g, 0, none⟩) 5 cap) 5 (lcells (ls.drop 1)) (by rfl) (zero_row hown5) _ 1 1 x.vals (by rfl) (by rfl) hnw5 (vals_one x) (by decide) (by unfold maxLen; omega) (by omega) (by first | (simp; done) | (simp; omega) | omega) _ rfl ?_; intro g6 cap6 w6 hown6 hgrow6 hat6 hlt6; have hs6 : Since w3 w6 := Below.grown (since_5 (by assumption)) hgrow6 (by first | (simp; done) | (simp; omega) | omega) (fun q hq => own_gel hown5 q hq)))
  all_goals
    have HS6 := Lib.hid hs6
    have HO6 := Lib.hid (own_fill0 HLS.out (by first | exact hown6 | (rw [Nat.zero_add, List.nil_append] at hown6; exact hown6)))
    clear hown6
    go_wp2
    go_ret2
    exact ⟨some ⟨g6, 0, none⟩, cap6, rfl, HO6.out.low (Below.size HBW3.out), HBW3.out.trans (Below.mono HS6.out (Below.size HBW3.out))⟩

set_option maxRecDepth 100000 in
set_option maxHeartbeats 8000000 in
theorem filled_no (A : Option Addr) (n c : Nat) (ls : List Line) (x : Line) (w : World) (hl : Lines w w.heap.size A n c ls) (hE : fillE ls x ≠ 0) :
    Calls Try.prog 89 #[.slice A n c, .agg #[.int .i64 x.dev, .int .i64 x.page, .int .i64 x.at_, .bool x.rd, .bool x.wr]] w fun e w' => e = .returned (.tuple #[.slice none 0 0, .int .i64 (fillE ls x)]) ∧ Below w.heap.size w w' := by
  have HL := Lib.hid hl
  have HE := Lib.hid hE
  clear hl hE
  by_cases h0 : ckC ls = 0
  · have t0 : (ckC ls != 0) = false := by rw [bne_eq_false_iff_eq]; exact h0
    by_cases h1 : lineE x = 0
    · have t1 : (lineE x != 0) = false := by rw [bne_eq_false_iff_eq]; exact h1
      by_cases h2 : 0 ≤ findL ls x.dev x.page
      · rw [fillE_t h0 h1 h2]
        have t2 : decide (0 ≤ findL ls x.dev x.page) = true := by simpa using h2
        clear h0 h1 h2
        go_enter Try.func89, Try.ntmps89
        go_wp2_with fail
        refine (ref_CheckCache _ _ _ ls _ (lines_now HL.out (by (repeat (first | (with_reducible exact Below.refl _ _) | (with_reducible refine Below.drew ?_) | (with_reducible refine bdrewN ?_ _) | ((with_reducible refine Below.setCell ?_ ?_ _); rotate_left; exact (by first | (simp; done) | (simp; omega) | omega)) | ((with_reducible refine Below.alloc ?_ ?_ _); rotate_left; exact (by first | (simp; done) | (simp; omega) | omega))))))).mono ?_
        rintro e w1 ⟨rfl, hb1⟩
        have hz1 := hb1.size
        (try simp only [World.size_alloc, World.size_setCell, World.size_drew] at hz1)
        have k1_0 := fun o => (bcell hb1).1 (w.heap.size) o (by first | (simp; done) | (simp; omega) | omega)
        have l1_0 : (w.heap.size) < w1.heap.size := (by omega)
        have q1_0 := fun o => (bcell hb1).2 (w.heap.size) o (by first | (simp; done) | (simp; omega) | omega)
        simp (maxDischargeDepth := 6) [go_sem, *] at k1_0 q1_0
        have HB1 := Lib.hid hb1
        clear hb1
        go_wp2_with fail
        refine (ref_CheckCache _ _ _ [x] _ ((lines_new _ x).more (by simp))).mono ?_
        rw [ckC_one]
        rintro e w2 ⟨rfl, hb2⟩
        have hz2 := hb2.size
        (try simp only [World.size_alloc, World.size_setCell, World.size_drew] at hz2)
        have k2_0 := fun o => (bcell hb2).1 (w.heap.size) o (by first | (simp; done) | (simp; omega) | omega)
        have l2_0 : (w.heap.size) < w2.heap.size := (by omega)
        have q2_0 := fun o => (bcell hb2).2 (w.heap.size) o (by first | (simp; done) | (simp; omega) | omega)
        simp (maxDischargeDepth := 6) [go_sem, *] at k2_0 q2_0
        have HB2 := Lib.hid hb2
        clear hb2
        go_wp2_with fail
        refine (ref_LineAt _ _ _ ls _ _ _ (lines_now HL.out (by (repeat (first | (with_reducible exact Below.refl _ _) | (with_reducible refine Below.drew ?_) | (with_reducible refine bdrewN ?_ _) | ((with_reducible refine Below.setCell ?_ ?_ _); rotate_left; exact (by first | (simp; done) | (simp; omega) | omega)) | ((with_reducible refine Below.alloc ?_ ?_ _); rotate_left; exact (by first | (simp; done) | (simp; omega) | omega)) | ((with_reducible refine Below.trans ?_ (HB2.out.mono ?_)); rotate_left; exact (by first | (simp; done) | (simp; omega) | omega)) | ((with_reducible refine Below.trans ?_ (HB1.out.mono ?_)); rotate_left; exact (by first | (simp; done) | (simp; omega) | omega))))))).mono ?_
        rintro e w3 ⟨rfl, hb3⟩
        have hz3 := hb3.size
        (try simp only [World.size_alloc, World.size_setCell, World.size_drew] at hz3)
        have HB3 := Lib.hid hb3
        clear hb3
        go_wp2
        go_ret2
        exact ⟨rfl, by (repeat (first | (with_reducible exact Below.refl _ _) | (with_reducible refine Below.drew ?_) | (with_reducible refine bdrewN ?_ _) | ((with_reducible refine Below.setCell ?_ ?_ _); rotate_left; exact (by first | (simp; done) | (simp; omega) | omega)) | ((with_reducible refine Below.alloc ?_ ?_ _); rotate_left; exact (by first | (simp; done) | (simp; omega) | omega)) | ((with_reducible refine Below.trans ?_ (HB3.out.mono ?_)); rotate_left; exact (by first | (simp; done) | (simp; omega) | omega)) | ((with_reducible refine Below.trans ?_ (HB2.out.mono ?_)); rotate_left; exact (by first | (simp; done) | (simp; omega) | omega)) | ((with_reducible refine Below.trans ?_ (HB1.out.mono ?_)); rotate_left; exact (by first | (simp; done) | (simp; omega) | omega))))⟩
      · exact absurd (fillE_0 h0 h1 (by omega)) HE.out
    · rw [fillE_l h0 h1]
      have t1 : (lineE x != 0) = true := by rw [bne_iff_ne]; exact h1
      clear h0 h1
      go_enter Try.func89, Try.ntmps89
      go_wp2_with fail
      refine (ref_CheckCache _ _ _ ls _ (lines_now HL.out (by (repeat (first | (with_reducible exact Below.refl _ _) | (with_reducible refine Below.drew ?_) | (with_reducible refine bdrewN ?_ _) | ((with_reducible refine Below.setCell ?_ ?_ _); rotate_left; exact (by first | (simp; done) | (simp; omega) | omega)) | ((with_reducible refine Below.alloc ?_ ?_ _); rotate_left; exact (by first | (simp; done) | (simp; omega) | omega))))))).mono ?_
      rintro e w1 ⟨rfl, hb1⟩
      have hz1 := hb1.size
      (try simp only [World.size_alloc, World.size_setCell, World.size_drew] at hz1)
      have k1_0 := fun o => (bcell hb1).1 (w.heap.size) o (by first | (simp; done) | (simp; omega) | omega)
      have l1_0 : (w.heap.size) < w1.heap.size := (by omega)
      have q1_0 := fun o => (bcell hb1).2 (w.heap.size) o (by first | (simp; done) | (simp; omega) | omega)
      simp (maxDischargeDepth := 6) [go_sem, *] at k1_0 q1_0
      have HB1 := Lib.hid hb1
      clear hb1
      go_wp2_with fail
      refine (ref_CheckCache _ _ _ [x] _ ((lines_new _ x).more (by simp))).mono ?_
      rw [ckC_one]
      rintro e w2 ⟨rfl, hb2⟩
      have hz2 := hb2.size
      (try simp only [World.size_alloc, World.size_setCell, World.size_drew] at hz2)
      have HB2 := Lib.hid hb2
      clear hb2
      go_wp2
      go_ret2
      exact ⟨rfl, by (repeat (first | (with_reducible exact Below.refl _ _) | (with_reducible refine Below.drew ?_) | (with_reducible refine bdrewN ?_ _) | ((with_reducible refine Below.setCell ?_ ?_ _); rotate_left; exact (by first | (simp; done) | (simp; omega) | omega)) | ((with_reducible refine Below.alloc ?_ ?_ _); rotate_left; exact (by first | (simp; done) | (simp; omega) | omega)) | ((with_reducible refine Below.trans ?_ (HB2.out.mono ?_)); rotate_left; exact (by first | (simp; done) | (simp; omega) | omega)) | ((with_reducible refine Below.trans ?_ (HB1.out.mono ?_)); rotate_left; exact (by first | (simp; done) | (simp; omega) | omega))))⟩
  · rw [fillE_c h0]
    have t0 : (ckC ls != 0) = true := by rw [bne_iff_ne]; exact h0
    clear h0
    go_enter Try.func89, Try.ntmps89
    go_wp2_with fail
    refine (ref_CheckCache _ _ _ ls _ (lines_now HL.out (by (repeat (first | (with_reducible exact Below.refl _ _) | (with_reducible refine Below.drew ?_) | (with_reducible refine bdrewN ?_ _) | ((with_reducible refine Below.setCell ?_ ?_ _); rotate_left; exact (by first | (simp; done) | (simp; omega) | omega)) | ((with_reducible refine Below.alloc ?_ ?_ _); rotate_left; exact (by first | (simp; done) | (simp; omega) | omega))))))).mono ?_
    rintro e w1 ⟨rfl, hb1⟩
    have hz1 := hb1.size
    (try simp only [World.size_alloc, World.size_setCell, World.size_drew] at hz1)
    have HB1 := Lib.hid hb1
    clear hb1
    go_wp2
    go_ret2
    exact ⟨rfl, by (repeat (first | (with_reducible exact Below.refl _ _) | (with_reducible refine Below.drew ?_) | (with_reducible refine bdrewN ?_ _) | ((with_reducible refine Below.setCell ?_ ?_ _); rotate_left; exact (by first | (simp; done) | (simp; omega) | omega)) | ((with_reducible refine Below.alloc ?_ ?_ _); rotate_left; exact (by first | (simp; done) | (simp; omega) | omega)) | ((with_reducible refine Below.trans ?_ (HB1.out.mono ?_)); rotate_left; exact (by first | (simp; done) | (simp; omega) | omega))))⟩
theorem ref_filled_0 (A : Option Addr) (n c : Nat) (ls : List Line) (x : Line) (w : World) (hl : Lines w w.heap.size A n c ls) (hE : fillE ls x = 0) :
    Calls Try.prog 89 #[.slice A n c, .agg #[.int .i64 x.dev, .int .i64 x.page, .int .i64 x.at_, .bool x.rd, .bool x.wr]] w (FilledC w (fillL ls x).length (fillL ls x)) := by
  obtain ⟨h0, h1, h2⟩ := fillE_inv hE
  have hlen := hl.len
  have h6 : n ≤ 6 := by have := ((ckC_iff ls).1 h0).1; omega
  rw [fillL_0 hE]
  rcases Nat.eq_zero_or_pos n with hn | hn
  · subst hn
    have e : ls.length + 1 - 6 = 0 := by omega
    rw [e, List.drop_zero, show (ls ++ [x]).length = 0 + 1 by rw [List.length_append, hlen]; rfl]
    exact filled_z A c ls x w hl h0 h1 h2
  · obtain ⟨b, off, rfl, _, _⟩ := hl.at_ hn
    by_cases hn6 : n = 6
    · subst hn6
      have e : ls.length + 1 - 6 = 1 := by omega
      rw [e, show (ls.drop 1 ++ [x]).length = 5 + 1 by simp; omega]
      exact filled_s b off c ls x w hl h0 h1 h2
    · have e : ls.length + 1 - 6 = 0 := by omega
      rw [e, List.drop_zero, show (ls ++ [x]).length = n + 1 by simp; omega]
      exact filled_m b off n c hn (by omega) ls x w hl h0 h1 h2
theorem ref_Filled (A : Option Addr) (n c : Nat) (ls ms : List Line) (x1 x2 x3 : Int) (x4 x5 : Bool) (E : Int) (w : World) (hl : Lines w w.heap.size A n c ls) (hE : fillE ls ⟨x1, x2, x3, x4, x5⟩ = E) (hm : fillL ls ⟨x1, x2, x3, x4, x5⟩ = ms) :
    Calls Try.prog 89 #[.slice A n c, .agg #[.int .i64 x1, .int .i64 x2, .int .i64 x3, .bool x4, .bool x5]] w fun e w' => ∃ A' c', e = .returned (.tuple #[.slice A' ms.length c', .int .i64 E]) ∧ Lines w' w'.heap.size A' ms.length c' ms ∧ Below w.heap.size w w' ∧ ∀ ad, A' = some ad → w.heap.size ≤ ad.block := by
  by_cases h0 : E = 0
  · subst h0
    have := ref_filled_0 A n c ls ⟨x1, x2, x3, x4, x5⟩ w hl hE
    rw [hm] at this
    refine this.mono ?_
    rintro e w' ⟨A', c', rfl, ho, hb⟩
    exact ⟨A', c', rfl, ho.lines, hb, fun ad h => own_gel ho.2.2.2 ad.block (by rw [h]; rfl)⟩
  · have := filled_no A n c ls ⟨x1, x2, x3, x4, x5⟩ w hl (by rw [hE]; exact h0)
    rw [hE] at this
    refine this.mono ?_
    rintro e w' ⟨rfl, hb⟩
    have hz : ms = [] := by rw [← hm]; exact fillL_n hE h0
    subst hz
    exact ⟨none, 0, rfl, lines_none _ _, hb, fun _ h => by cases h⟩
end

section
theorem kept_snoc {ls : List Line} {q : Line → Bool} {j : Nat} {y : Line} (hy : ls[j]? = some y) : (ls.take (j + 1)).filter q = (ls.take j).filter q ++ (if q y = true then [y] else []) := by
  rw [List.take_add_one, hy, List.filter_append]
  congr 1
  simp only [Option.toList, List.filter_cons, List.filter_nil]

set_option maxRecDepth 100000 in
set_option maxHeartbeats 4000000 in
theorem dropped_no (A : Option Addr) (n c : Nat) (ls : List Line) (k d p : Int) (w : World) (hl : Lines w w.heap.size A n c ls) (h0 : dropE ls k ≠ 0) :
    Calls Try.prog 79 #[.slice A n c, .agg #[.int .i64 k, .int .i64 d, .int .i64 p]] w fun e w' => e = .returned (.tuple #[.slice none 0 0, .int .i64 (dropE ls k)]) ∧ Below w.heap.size w w' := by
  have HL := Lib.hid hl
  clear hl
  by_cases hc : ckC ls = 0
  · have t0 : (ckC ls != 0) = false := by rw [bne_eq_false_iff_eq]; exact hc
    have hk : ¬ (0 ≤ k ∧ k ≤ 3) := fun hk => h0 (dropE_0 hc hk)
    have i1 : inB k 0 3 = false := inB_f hk
    rw [dropE_k hc hk]
    clear hc hk h0
    go_enter Try.func79, Try.ntmps79
    go_wp2_with fail
    refine (ref_CheckCache _ _ _ ls _ (lines_now HL.out (by (repeat (first | (with_reducible exact Below.refl _ _) | (with_reducible refine Below.drew ?_) | (with_reducible refine bdrewN ?_ _) | ((with_reducible refine Below.setCell ?_ ?_ _); rotate_left; exact (by first | (simp; done) | (simp; omega) | omega)) | ((with_reducible refine Below.alloc ?_ ?_ _); rotate_left; exact (by first | (simp; done) | (simp; omega) | omega))))))).mono ?_
    rintro e w1 ⟨rfl, hb1⟩
    have hz1 := hb1.size
    (try simp only [World.size_alloc, World.size_setCell, World.size_drew] at hz1)
    have k1_0 := fun o => (bcell hb1).1 (w.heap.size) o (by first | (simp; done) | (simp; omega) | omega)
    have l1_0 : (w.heap.size) < w1.heap.size := (by omega)
    have q1_0 := fun o => (bcell hb1).2 (w.heap.size) o (by first | (simp; done) | (simp; omega) | omega)
    simp (maxDischargeDepth := 6) [go_sem, *] at k1_0 q1_0
    have HB1 := Lib.hid hb1
    clear hb1
    go_wp2_with fail
    refine (ref_in _ _ _ _).mono ?_
    rintro e w' ⟨rfl, rfl⟩
    go_wp2
    go_ret2
    exact ⟨rfl, by (repeat (first | (with_reducible exact Below.refl _ _) | (with_reducible refine Below.drew ?_) | (with_reducible refine bdrewN ?_ _) | ((with_reducible refine Below.setCell ?_ ?_ _); rotate_left; exact (by first | (simp; done) | (simp; omega) | omega)) | ((with_reducible refine Below.alloc ?_ ?_ _); rotate_left; exact (by first | (simp; done) | (simp; omega) | omega)) | ((with_reducible refine Below.trans ?_ (HB1.out.mono ?_)); rotate_left; exact (by first | (simp; done) | (simp; omega) | omega))))⟩
  · have t0 : (ckC ls != 0) = true := by rw [bne_iff_ne]; exact hc
    rw [dropE_c hc]
    clear hc h0
    go_enter Try.func79, Try.ntmps79
    go_wp2_with fail
    refine (ref_CheckCache _ _ _ ls _ (lines_now HL.out (by (repeat (first | (with_reducible exact Below.refl _ _) | (with_reducible refine Below.drew ?_) | (with_reducible refine bdrewN ?_ _) | ((with_reducible refine Below.setCell ?_ ?_ _); rotate_left; exact (by first | (simp; done) | (simp; omega) | omega)) | ((with_reducible refine Below.alloc ?_ ?_ _); rotate_left; exact (by first | (simp; done) | (simp; omega) | omega))))))).mono ?_
    rintro e w1 ⟨rfl, hb1⟩
    have hz1 := hb1.size
    (try simp only [World.size_alloc, World.size_setCell, World.size_drew] at hz1)
    have HB1 := Lib.hid hb1
    clear hb1
    go_wp2
    go_ret2
    exact ⟨rfl, by (repeat (first | (with_reducible exact Below.refl _ _) | (with_reducible refine Below.drew ?_) | (with_reducible refine bdrewN ?_ _) | ((with_reducible refine Below.setCell ?_ ?_ _); rotate_left; exact (by first | (simp; done) | (simp; omega) | omega)) | ((with_reducible refine Below.alloc ?_ ?_ _); rotate_left; exact (by first | (simp; done) | (simp; omega) | omega)) | ((with_reducible refine Below.trans ?_ (HB1.out.mono ?_)); rotate_left; exact (by first | (simp; done) | (simp; omega) | omega))))⟩

set_option maxRecDepth 100000 in
set_option maxHeartbeats 8000000 in
theorem dropped_0 (A : Option Addr) (n c : Nat) (ls : List Line) (k d p : Int) (w : World) (hl : Lines w w.heap.size A n c ls) (h0 : dropE ls k = 0) :
    Calls Try.prog 79 #[.slice A n c, .agg #[.int .i64 k, .int .i64 d, .int .i64 p]] w fun e w' => ∃ A' c', e = .returned (.tuple #[.slice A' (dropL ls k d p).length c', .int .i64 0]) ∧ OwnL w.heap.size w' A' (dropL ls k d p).length c' (dropL ls k d p) ∧ Below w.heap.size w w' := by
  obtain ⟨i0, hi, hz0, hz1, hz2⟩ := info_parts Try.infoLine
  have HI := Lib.hid hi; clear hi
  have HZ0 := Lib.hid hz0; clear hz0
  have HZ1 := Lib.hid hz1; clear hz1
  have HZ2 := Lib.hid hz2; clear hz2
  have HL := Lib.hid hl
  have hcap := hl.cap
  obtain ⟨hc, hk⟩ := dropE_inv h0
  have h6 : n ≤ 6 := by have := ((ckC_iff ls).1 hc).1; have := hl.len; omega
  have t0 : (ckC ls != 0) = false := by rw [bne_eq_false_iff_eq]; exact hc
  have t1 : inB k 0 3 = true := inB_t hk
  have HK := Lib.hid hk
  rw [dropL_0 h0]
  clear hl hc hk h0
  go_enter Try.func79, Try.ntmps79
  go_wp2_with fail
  refine (ref_CheckCache _ _ _ ls _ (lines_now HL.out (by (repeat (first | (with_reducible exact Below.refl _ _) | (with_reducible refine Below.drew ?_) | (with_reducible refine bdrewN ?_ _) | ((with_reducible refine Below.setCell ?_ ?_ _); rotate_left; exact (by first | (simp; done) | (simp; omega) | omega)) | ((with_reducible refine Below.alloc ?_ ?_ _); rotate_left; exact (by first | (simp; done) | (simp; omega) | omega))))))).mono ?_
  rintro e w1 ⟨rfl, hb1⟩
  have HS1 := Lib.hid (show Since w w1 from (by (repeat (first | (with_reducible exact Below.refl _ _) | (with_reducible refine Below.drew ?_) | (with_reducible refine bdrewN ?_ _) | ((with_reducible refine Below.setCell ?_ ?_ _); rotate_left; exact (by first | (simp; done) | (simp; omega) | omega)) | ((with_reducible refine Below.alloc ?_ ?_ _); rotate_left; exact (by first | (simp; done) | (simp; omega) | omega)))) : Below w.heap.size w _).trans (hb1.mono (by simp)))
  have hz1 := hb1.size
  (try simp only [World.size_alloc, World.size_setCell, World.size_drew] at hz1)
  have k1_0 := fun o => (bcell hb1).1 (w.heap.size) o (by first | (simp; done) | (simp; omega) | omega)
  have l1_0 : (w.heap.size) < w1.heap.size := (by omega)
  have q1_0 := fun o => (bcell hb1).2 (w.heap.size) o (by first | (simp; done) | (simp; omega) | omega)
  simp (maxDischargeDepth := 6) [go_sem, *] at k1_0 q1_0
  have HB1 := Lib.hid hb1
  clear hb1
  have o0 : w1.cell? ⟨w.heap.size, 0, none⟩ = some (.int .i64 k) := by simp [k1_0]
  have o1 : w1.cell? ⟨w.heap.size, 1, none⟩ = some (.int .i64 d) := by simp [k1_0]
  have o2 : w1.cell? ⟨w.heap.size, 2, none⟩ = some (.int .i64 p) := by simp [k1_0]
  have HR := Lib.hid (And.intro o0 (And.intro o1 o2))
  clear o1 o2 k1_0 q1_0
  go_wp2_with (go_at_call 56; refine (ref_in _ _ _ _).mono ?_; rintro e w' ⟨rfl, rfl⟩)
  clear o0
  go_loopw [7, 22] (fun s7 s22 wr => ∃ (i : Nat) (A' : Option Addr) (c' : Nat), s7 = .slice A' ((ls.take i).filter (fun x => !goes k d p x)).length c' ∧ s22 = .int .i64 i ∧ i ≤ n ∧ Hid (OwnL w1.heap.size wr A' ((ls.take i).filter (fun x => !goes k d p x)).length c' ((ls.take i).filter (fun x => !goes k d p x))) ∧ Hid (Since w1 wr)) (fun _ i _ => n - (intOf i).toNat)
  case atStart => exact ⟨0, none, 0, rfl, rfl, by omega, own_lines_nil _ _, since_refl w1⟩
  case round =>
    obtain ⟨i, A', c', rfl, rfl, hi, hO, hS⟩ := hrel
    have r0 := since_cell hS.out HR.out.1
    have r1 := since_cell hS.out HR.out.2.1
    have r2 := since_cell hS.out HR.out.2.2
    have lr : w.heap.size < wr.heap.size := cell_lt' r0
    have hKi : ((ls.take i).filter (fun x => !goes k d p x)).length ≤ i := kept_le _ _ _
    by_cases hlt : i < n
    · obtain ⟨y, hy⟩ := some_of_lt ls (k := i) (by rw [HL.out.len]; exact hlt)
      obtain ⟨b1, off1, rfl, hb1', hcc⟩ := (lines_now HL.out (HS1.out.trans (Below.mono hS.out (Below.size HS1.out)))).at_ (by omega)
      obtain ⟨d0, d1, d2, d3, d4⟩ := hcc i y hy
      have HSN := Lib.hid (kept_snoc (q := fun x => !goes k d p x) hy)
      have i0' : (0 : Int) ≤ (i : Int) := by omega
      have i1 : (i : Int) < (n : Int) := by omega
      clear hcc hy
      generalize hfil : (ls.take i).filter (fun x => !goes k d p x) = fs at *
      go_upto_region 10 with (fail)
      go_cut [10] (fun s10 wd => s10 = .bool (goes k d p y) ∧ wd = wr.alloc (.cells #[.int .i64 y.dev, .int .i64 y.page, .int .i64 y.at_, .bool y.rd, .bool y.wr] 83))
      case first =>
        rcases (show k = 0 ∨ k = 1 ∨ k = 2 ∨ k = 3 by have := HK.out; omega) with hk | hk | hk | hk
        · have q1 : (k == 1) = false := by rw [hk]; rfl
          have q2 : (k == 2) = false := by rw [hk]; rfl
          have q3 : (k == 3) = false := by rw [hk]; rfl
          have HG := Lib.hid (show false = goes k d p y by simp [goes, hk])
          clear hk
          go_wp2
          go_meet
          exact ⟨congrArg Value.bool HG.out, rfl⟩
        · have q1 : (k == 1) = true := by rw [hk]; rfl
          have HG := Lib.hid (show true = goes k d p y by simp [goes, hk])
          clear hk
          go_wp2
          go_meet
          exact ⟨congrArg Value.bool HG.out, rfl⟩
        · have q1 : (k == 1) = false := by rw [hk]; rfl
          have q2 : (k == 2) = true := by rw [hk]; rfl
          have q3 : (k == 3) = false := by rw [hk]; rfl
          have HG := Lib.hid (show (y.dev == d) = goes k d p y by simp [goes, hk])
          clear hk
          cases hd : (y.dev == d)
          · rw [hd] at HG
            go_wp2
            go_meet
            exact ⟨congrArg Value.bool HG.out, rfl⟩
          · rw [hd] at HG
            go_wp2
            go_meet
            exact ⟨congrArg Value.bool HG.out, rfl⟩
        · have q1 : (k == 1) = false := by rw [hk]; rfl
          have q2 : (k == 2) = false := by rw [hk]; rfl
          have q3 : (k == 3) = true := by rw [hk]; rfl
          have HG := Lib.hid (show (y.dev == d && y.page == p) = goes k d p y by simp [goes, hk])
          clear hk
          cases hd : (y.dev == d)
          · rw [hd] at HG
            go_wp2
            go_meet
            exact ⟨congrArg Value.bool HG.out, rfl⟩
          · cases hp : (y.page == p)
            · rw [hd, hp] at HG
              go_wp2
              go_meet
              exact ⟨congrArg Value.bool HG.out, rfl⟩
            · rw [hd, hp] at HG
              go_wp2
              go_meet
              exact ⟨congrArg Value.bool HG.out, rfl⟩
      case rest =>
        obtain ⟨rfl, rfl⟩ := hcut
        cases hg : goes k d p y
        · have HE := Lib.hid (show (ls.take (i + 1)).filter (fun x => !goes k d p x) = fs ++ [y] by rw [HSN.out]; simp [hg])
          have HV := Lib.hid hg
          clear hg
          have hO2 := Lib.hid ((hO.out.alloc (.cells #[.int .i64 y.dev, .int .i64 y.page, .int .i64 y.at_, .bool y.rd, .bool y.wr] 83)).alloc (.cells #[.int .i64 y.dev, .int .i64 y.page, .int .i64 y.at_, .bool y.rd, .bool y.wr] 83))
          have hzs := Below.size hS.out
          go_wp2_with (at_builtin; refine wpList_append_lies _ rfl (.tmp 62) (.tmp 64) 33 rfl w1.heap.size 83 i0 (.agg #[.int .i64 0, .int .i64 0, .int .i64 0, .bool false, .bool false]) 5 32 Try.underlying33 HI.out HZ0.out HZ1.out HZ2.out rfl (by decide) (.slice A' fs.length c') fs.length (lcells fs) rfl hO2.out.2.2.2 ⟨wr.heap.size + 1, 0, none⟩ 1 1 y.vals rfl rfl (news_at (news_block (wr.alloc (.cells #[.int .i64 y.dev, .int .i64 y.page, .int .i64 y.at_, .bool y.rd, .bool y.wr] 83)) y) (by simp)) (vals_one y) (by decide) (by unfold maxLen; omega) (by omega) (by simp; omega) _ rfl ?_; intro g cap w6 hown6 hgrow6 hat6 hlt6)
          have hs6 : Since w1 w6 := Below.grown (since_alloc (since_alloc hS.out _) _) hgrow6 (by simp; omega) (fun q hq => own_gel hO2.out.2.2.2 q hq)
          have HS6 := Lib.hid hs6
          have HO6 := Lib.hid (own_fill0 rfl hown6)
          clear hgrow6 hat6 hown6 hs6
          go_roundw
          case rel =>
            refine ⟨i + 1, some ⟨g, 0, none⟩, cap, ?_, by go_num, hlt, ?_, HS6.out⟩
            · rw [HE.out]; simp
            · show OwnL _ _ _ _ _ _
              rw [HE.out]
              simpa using HO6.out
          case measure => simp [intOf]; omega
        · have HE := Lib.hid (show (ls.take (i + 1)).filter (fun x => !goes k d p x) = fs by rw [HSN.out]; simp [hg])
          have HV := Lib.hid hg
          clear hg
          go_wp2
          go_roundw
          case rel =>
            refine ⟨i + 1, A', c', ?_, by go_num, hlt, ?_, since_alloc hS.out _⟩
            · rw [HE.out]
            · show OwnL _ _ _ _ _ _
              rw [HE.out]
              exact hO.out.alloc _
          case measure => simp [intOf]; omega
    · obtain rfl : i = n := by omega
      have hall : ls.take i = ls := List.take_of_length_le (by rw [HL.out.len]; omega)
      rw [hall] at hO ⊢
      go_wp2
      go_ret2
      exact ⟨A', c', rfl, hO.out.low (Below.size HS1.out), HS1.out.trans (Below.mono hS.out (Below.size HS1.out))⟩

theorem ref_Dropped (A : Option Addr) (n c : Nat) (ls ms : List Line) (k d p E : Int) (w : World) (hl : Lines w w.heap.size A n c ls) (hE : dropE ls k = E) (hm : dropL ls k d p = ms) :
    Calls Try.prog 79 #[.slice A n c, .agg #[.int .i64 k, .int .i64 d, .int .i64 p]] w fun e w' => ∃ A' c', e = .returned (.tuple #[.slice A' ms.length c', .int .i64 E]) ∧ Lines w' w'.heap.size A' ms.length c' ms ∧ Below w.heap.size w w' ∧ ∀ ad, A' = some ad → w.heap.size ≤ ad.block := by
  by_cases h0 : E = 0
  · subst h0
    have := dropped_0 A n c ls k d p w hl hE
    rw [hm] at this
    refine this.mono ?_
    rintro e w' ⟨A', c', rfl, ho, hb⟩
    exact ⟨A', c', rfl, ho.lines, hb, fun ad h => own_gel ho.2.2.2 ad.block (by rw [h]; rfl)⟩
  · have := dropped_no A n c ls k d p w hl (by rw [hE]; exact h0)
    rw [hE] at this
    refine this.mono ?_
    rintro e w' ⟨rfl, hb⟩
    have hz : ms = [] := by rw [← hm]; exact dropL_n hE h0
    subst hz
    exact ⟨none, 0, rfl, lines_none _ _, hb, fun _ h => by cases h⟩
end
end Go.Proofs.Ytbopdijnojaaiac
