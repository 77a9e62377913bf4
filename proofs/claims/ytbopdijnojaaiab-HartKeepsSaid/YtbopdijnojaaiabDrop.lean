/- The cache: the walk of the program's Drop, its map of functions and these. No statement of the seat is proved here. -/
import Derived.Test.YtbopdijnojaaiabDelF
import Derived.Test.YtbopdijnojaaiabCache
import Derived.Maps.OwnOps
import Derived.Maps.OwnSet
import Derived.Shelf.Abstract
import Derived.Deep.DeepCutAuto
namespace Go.Proofs.Ytbopdijnojaaiab
open Go.RowKit
set_option linter.unusedSimpArgs false
set_option linter.unusedVariables false
open Go.Maps

/-- a value stands for itself. -/
def heldR (v : Value) : Option (DataW Value × List MemPlace) := some (.held v, [])
/-- a literal's entry. -/
theorem wpList_insert_own {H : Type} {P : Program} (w : World) {ops : Array Oper} {rest : List Oper} {o : Oper} {a : Act} {Q : Exit → Act → World → Prop}
    (hg : o.guard = none) (m x v : Operand) (t : TypeId) (hop : o.op = Op.insert t m x v)
    (k e : TypeId) (K : Keyed P k) (ht : P.underlying t = some (.map k e)) (R : Value → Option (DataW H × List MemPlace)) (b n : Nat) (D : DataW H)
    (hm : a.eval m = .map (some b)) (hown : w.ownsMap P k R b n D) (hn : n < maxLen) (key val : Value) (kl : Lit) (hx : a.eval x = key) (hv : a.eval v = val) (hkey : keyOf P k key = some kl)
    (d : DataW H) (ps : List MemPlace) (hval : R val = some (d, ps))
    (hK : ∀ w', w'.ownsMap P k R b (n + 1) (D.put kl d) → w.grownBy w' (some b) → wpList P ops Q rest (a.put o.dst undef) w') :
    wpList P ops Q (o :: rest) a w := by
  refine wpList_plain hg fun K' hK' => ?_
  obtain ⟨w', hrun, r1, r2⟩ := hown.update K ht hn hkey hval
  unfold Oper.wp
  simp [execOp, hop, hm, hx, hv, hrun, Result.andThen]
  exact hK' _ _ (hK w' r1 r2)
/-- what is looked up, where that is known. -/
theorem wpList_lookup_held {P : Program} (w : World) {ops : Array Oper} {rest : List Oper} {o : Oper} {a : Act} {Q : Exit → Act → World → Prop}
    (hg : o.guard = none) (m x : Operand) (t : TypeId) (hop : o.op = Op.lookup t m x true)
    (k e : TypeId) (K : Keyed P k) (ht : P.underlying t = some (.map k e)) {z : Value} (hz : (zeroValue e).run P w = .ok z w) (b n : Nat) (D : DataW Value)
    (hm : a.eval m = .map (some b)) (hown : w.ownsMap P k heldR b n D) (key : Value) (kl : Lit) (hx : a.eval x = key) (hkey : keyOf P k key = some kl) (f : Value) (r : Bool) (hD : Maps.has D kl = r ∧ D.atKey kl (.held z) = .held f)
    (hK : wpList P ops Q rest (a.put o.dst (.tuple #[f, .bool r])) w) :
    wpList P ops Q (o :: rest) a w :=
  wpList_lookup_own_ok w hg m x t hop k e K ht heldR hz (.held z) [] rfl b n D hm hown key kl hx hkey (fun v ps hv => by
    unfold heldR at hv
    rw [hD.2] at hv
    simp only [Option.some.injEq, Prod.mk.injEq, DataW.held.injEq] at hv
    rw [hv.1, hD.1]
    exact hK)
theorem below_insert {w1 w w' : World} (h : Below w1.heap.size w1 w) (hg : w.grownBy w' (some w1.heap.size)) : Below w1.heap.size w1 w' := Below.grown h hg h.size (by intro k hk; cases hk; exact Nat.le_refl _)
theorem drop_below {w w1 w' : World} {o : Obj} (h1 : Below (w.alloc o).heap.size (w.alloc o) w1) (h : Below w1.heap.size w1 w') : Below w.heap.size w w' :=
  ((below_alloc w o).trans (h1.mono (by simp))).trans (h.mono (by have := h1.size; simp at this; omega))
theorem Try.keyInt : Keyed Try.prog 3 := int_keyed Try.underlying3
theorem Try.zeroHit (w : World) : (zeroValue 112).run Try.prog w = .ok .nilFunc w := by kernel_rfl

set_option maxRecDepth 100000 in
set_option maxHeartbeats 1000000 in
theorem drop_1 (x : Line) (w : World) : Calls Try.prog 73 #[.agg #[.int .i64 x.dev, .int .i64 x.page, .int .i64 x.at_, .bool x.rd, .bool x.wr]] w fun e w' => e = .returned (.bool false) ∧ Below w.heap.size w w' := by
  have HB := Lib.hid (below_alloc w)
  go_enter Try.func73, Try.ntmps73
  go_wp2
  go_ret
  first | exact ⟨rfl, Below.refl _ _⟩ | exact ⟨rfl, HB.out _⟩
set_option maxRecDepth 100000 in
set_option maxHeartbeats 1000000 in
theorem drop_2 (x : Line) (w : World) : Calls Try.prog 74 #[.agg #[.int .i64 x.dev, .int .i64 x.page, .int .i64 x.at_, .bool x.rd, .bool x.wr]] w fun e w' => e = .returned (.bool true) ∧ Below w.heap.size w w' := by
  have HB := Lib.hid (below_alloc w)
  go_enter Try.func74, Try.ntmps74
  go_wp2
  go_ret
  first | exact ⟨rfl, Below.refl _ _⟩ | exact ⟨rfl, HB.out _⟩
set_option maxRecDepth 100000 in
set_option maxHeartbeats 1000000 in
theorem drop_3 (x : Line) (g : Nat) (d : Int) (w : World) (h1 : w.cell? ⟨g, 1, none⟩ = some (.int .i64 d)) : Calls Try.prog 75 #[.agg #[.int .i64 x.dev, .int .i64 x.page, .int .i64 x.at_, .bool x.rd, .bool x.wr], .pointer (some ⟨g, 0, none⟩)] w fun e w' => e = .returned (.bool (x.dev == d)) ∧ Below w.heap.size w w' := by
  have HB := Lib.hid (below_alloc w)
  have l1 : g < w.heap.size := cell_lt' h1
  go_enter Try.func75, Try.ntmps75
  go_wp2
  go_ret
  exact ⟨rfl, HB.out _⟩
set_option maxRecDepth 100000 in
set_option maxHeartbeats 1000000 in
theorem drop_4 (x : Line) (g : Nat) (d p : Int) (w : World) (h1 : w.cell? ⟨g, 1, none⟩ = some (.int .i64 d)) (h2 : w.cell? ⟨g, 2, none⟩ = some (.int .i64 p)) : Calls Try.prog 76 #[.agg #[.int .i64 x.dev, .int .i64 x.page, .int .i64 x.at_, .bool x.rd, .bool x.wr], .pointer (some ⟨g, 0, none⟩)] w fun e w' => e = .returned (.bool (x.dev == d && x.page == p)) ∧ Below w.heap.size w w' := by
  have HB := Lib.hid (below_alloc w)
  have l1 : g < w.heap.size := cell_lt' h1
  cases hd : (x.dev == d)
  · go_enter Try.func76, Try.ntmps76
    go_wp2
    go_ret
    exact ⟨rfl, HB.out _⟩
  · go_enter Try.func76, Try.ntmps76
    go_wp2
    go_ret
    exact ⟨rfl, HB.out _⟩

theorem pred_1 (k d p : Int) (B : Nat) (w : World) (hk : k = 0) : PredL 73 #[] (goes k d p) B w := fun W x _ _ => by
  rw [show goes k d p x = false by subst hk; simp [goes]]
  exact drop_1 x W
theorem pred_2 (k d p : Int) (B : Nat) (w : World) (hk : k = 1) : PredL 74 #[] (goes k d p) B w := fun W x _ _ => by
  rw [show goes k d p x = true by subst hk; simp [goes]]
  exact drop_2 x W
theorem pred_3 (k d p : Int) (g B : Nat) (w : World) (hg : g < B) (h1 : w.cell? ⟨g, 1, none⟩ = some (.int .i64 d)) (hk : k = 2) : PredL 75 #[.pointer (some ⟨g, 0, none⟩)] (goes k d p) B w := fun W x hb _ => by
  rw [show goes k d p x = (x.dev == d) by subst hk; simp [goes]]
  exact drop_3 x g d W ((hb.cell (p := ⟨g, 1, none⟩) hg).trans h1)
theorem pred_4 (k d p : Int) (g B : Nat) (w : World) (hg : g < B) (h1 : w.cell? ⟨g, 1, none⟩ = some (.int .i64 d)) (h2 : w.cell? ⟨g, 2, none⟩ = some (.int .i64 p)) (hk : k = 3) : PredL 76 #[.pointer (some ⟨g, 0, none⟩)] (goes k d p) B w := fun W x hb _ => by
  rw [show goes k d p x = (x.dev == d && x.page == p) by subst hk; simp [goes]]
  exact drop_4 x g d p W ((hb.cell (p := ⟨g, 1, none⟩) hg).trans h1) ((hb.cell (p := ⟨g, 2, none⟩) hg).trans h2)

/-- what Drop answers. -/
def DropC (w : World) (ls : List Line) (k d p : Int) (e : Ending) (w' : World) : Prop :=
  ∃ A c, e = .returned (.tuple #[.slice A (dropL ls k d p).length c, .int .i64 (dropE ls k)]) ∧ Lines w' w'.heap.size A (dropL ls k d p).length c (dropL ls k d p) ∧ Below w.heap.size w w' ∧ ∀ ad, A = some ad → w.heap.size ≤ ad.block

set_option maxRecDepth 100000 in
set_option maxHeartbeats 4000000 in
theorem cache_Drop_c (A : Option Addr) (n c : Nat) (ls : List Line) (k d p : Int) (w : World) (hl : Lines w w.heap.size A n c ls) (h0 : ckC ls ≠ 0) :
    Calls Try.prog 28 #[.slice A n c, .agg #[.int .i64 k, .int .i64 d, .int .i64 p]] w (DropC w ls k d p) := by
  have HL := Lib.hid hl
  have t0 : (ckC ls != 0) = true := by rw [bne_iff_ne]; exact h0
  unfold DropC
  rw [dropL_n (dropE_c h0) h0, dropE_c h0]
  clear hl h0
  go_enter Try.func28, Try.ntmps28
  go_wp2_with fail
  refine (cache_Check _ _ _ ls _ (lines_now HL.out (by (repeat (first | (with_reducible exact Below.refl _ _) | (with_reducible refine Below.drew ?_) | (with_reducible refine bdrewN ?_ _) | ((with_reducible refine Below.setCell ?_ ?_ _); rotate_left; exact (by first | (simp; done) | (simp; omega) | omega)) | ((with_reducible refine Below.alloc ?_ ?_ _); rotate_left; exact (by first | (simp; done) | (simp; omega) | omega))))))).mono ?_
  rintro e w1 ⟨rfl, hb1⟩
  have hz1 := hb1.size
  (try simp only [World.size_alloc, World.size_setCell, World.size_drew] at hz1)
  have HB1 := Lib.hid hb1
  clear hb1
  go_wp2
  go_ret2
  exact ⟨none, 0, rfl, lines_none _ _, by (repeat (first | (with_reducible exact Below.refl _ _) | (with_reducible refine Below.drew ?_) | (with_reducible refine bdrewN ?_ _) | ((with_reducible refine Below.setCell ?_ ?_ _); rotate_left; exact (by first | (simp; done) | (simp; omega) | omega)) | ((with_reducible refine Below.alloc ?_ ?_ _); rotate_left; exact (by first | (simp; done) | (simp; omega) | omega)) | ((with_reducible refine Below.trans ?_ (HB1.out.mono ?_)); rotate_left; exact (by first | (simp; done) | (simp; omega) | omega)))), fun _ h => by cases h⟩

set_option maxRecDepth 100000 in
set_option maxHeartbeats 4000000 in
theorem cache_Drop_k (A : Option Addr) (n c : Nat) (ls : List Line) (k d p : Int) (w : World) (hl : Lines w w.heap.size A n c ls) (h0 : ckC ls = 0) (hk : ¬ (0 ≤ k ∧ k ≤ 3)) (hw : (Lit.int .i64 k).wf = true) :
    Calls Try.prog 28 #[.slice A n c, .agg #[.int .i64 k, .int .i64 d, .int .i64 p]] w (DropC w ls k d p) := by
  have HL := Lib.hid hl
  have HW := Lib.hid hw
  have HK := Lib.hid hk
  have t0 : (ckC ls != 0) = false := by rw [bne_eq_false_iff_eq]; exact h0
  unfold DropC
  rw [dropL_n (dropE_k h0 hk) (by decide), dropE_k h0 hk]
  clear hl h0 hk hw
  go_enter Try.func28, Try.ntmps28
  go_wp2_with fail
  refine (cache_Check _ _ _ ls _ (lines_now HL.out (by (repeat (first | (with_reducible exact Below.refl _ _) | (with_reducible refine Below.drew ?_) | (with_reducible refine bdrewN ?_ _) | ((with_reducible refine Below.setCell ?_ ?_ _); rotate_left; exact (by first | (simp; done) | (simp; omega) | omega)) | ((with_reducible refine Below.alloc ?_ ?_ _); rotate_left; exact (by first | (simp; done) | (simp; omega) | omega))))))).mono ?_
  rintro e w1 ⟨rfl, hb1⟩
  have hz1 := hb1.size
  (try simp only [World.size_alloc, World.size_setCell, World.size_drew] at hz1)
  have k1_0 := fun o => (bcell hb1).1 (w.heap.size) o (by first | (simp; done) | (simp; omega) | omega)
  have l1_0 : (w.heap.size) < w1.heap.size := (by omega)
  have q1_0 := fun o => (bcell hb1).2 (w.heap.size) o (by first | (simp; done) | (simp; omega) | omega)
  simp (maxDischargeDepth := 6) [go_sem, *] at k1_0 q1_0
  have HB1 := Lib.hid hb1
  clear hb1
  have hmm := @run_makeMap Try.prog
  have hown0 := World.ownsMap_made w1 Try.prog 3 heldR
  have hb0 : Below w1.heap.size w1 (w1.alloc (.map #[] 0)) := below_alloc w1 _
  have c10 : w1.cell? ⟨w.heap.size, 0, none⟩ = some (.int .i64 k) := by simp [k1_0]
  have c11 : w1.cell? ⟨w.heap.size, 1, none⟩ = some (.int .i64 d) := by simp [k1_0]
  have c12 : w1.cell? ⟨w.heap.size, 2, none⟩ = some (.int .i64 p) := by simp [k1_0]
  go_upto_region 5 with (first | (at_lookup; refine wpList_lookup_held _ rfl _ _ 114 rfl 3 112 Try.keyInt Try.underlying114 (Try.zeroHit _) w1.heap.size _ _ rfl (by assumption) _ _ rfl (keyOf_int_mk Try.underlying3 HW.out) (.nilFunc) false (dropD_no HK.out _) ?_) | (refine wpList_insert_own _ rfl _ _ _ 114 rfl 3 112 Try.keyInt Try.underlying114 heldR w1.heap.size _ _ rfl (by assumption) (by decide) _ _ _ rfl rfl (keyOf_int_mk Try.underlying3 (by decide)) _ [] rfl ?_; intro w' ho' hg'; have hb' := below_insert (by assumption) hg'; have c0 := ((bcell hb').1 (w.heap.size) 0 l1_0).trans c10; have c1 := ((bcell hb').1 (w.heap.size) 1 l1_0).trans c11; have c2 := ((bcell hb').1 (w.heap.size) 2 l1_0).trans c12))
  go_wp2
  go_ret2
  exact ⟨none, 0, rfl, lines_none _ _, drop_below HB1.out (by assumption), fun _ h => by cases h⟩

set_option maxRecDepth 100000 in
set_option maxHeartbeats 4000000 in
theorem cache_Drop_0 (A : Option Addr) (n c : Nat) (ls : List Line) (d p : Int) (w : World) (hl : Lines w w.heap.size A n c ls) (h0 : ckC ls = 0) :
    Calls Try.prog 28 #[.slice A n c, .agg #[.int .i64 0, .int .i64 d, .int .i64 p]] w (DropC w ls 0 d p) := by
  have HL := Lib.hid hl
  have t0 : (ckC ls != 0) = false := by rw [bne_eq_false_iff_eq]; exact h0
  have hE : dropE ls 0 = 0 := dropE_0 h0 (by decide)
  have hn6 : n ≤ 1000 := by
    have := ((ckC_iff ls).1 h0).1
    have := hl.len
    omega
  have eg : ∀ args w, (callFunc 73 args).run Try.prog w = .ok (.enter 73 args) w := enters_of Try.func73 (by kernel_rfl) rfl
  unfold DropC
  rw [dropL_0 hE, hE]
  clear hl h0 hE
  go_enter Try.func28, Try.ntmps28
  go_wp2_with fail
  refine (cache_Check _ _ _ ls _ (lines_now HL.out (by (repeat (first | (with_reducible exact Below.refl _ _) | (with_reducible refine Below.drew ?_) | (with_reducible refine bdrewN ?_ _) | ((with_reducible refine Below.setCell ?_ ?_ _); rotate_left; exact (by first | (simp; done) | (simp; omega) | omega)) | ((with_reducible refine Below.alloc ?_ ?_ _); rotate_left; exact (by first | (simp; done) | (simp; omega) | omega))))))).mono ?_
  rintro e w1 ⟨rfl, hb1⟩
  have hz1 := hb1.size
  (try simp only [World.size_alloc, World.size_setCell, World.size_drew] at hz1)
  have k1_0 := fun o => (bcell hb1).1 (w.heap.size) o (by first | (simp; done) | (simp; omega) | omega)
  have l1_0 : (w.heap.size) < w1.heap.size := (by omega)
  have q1_0 := fun o => (bcell hb1).2 (w.heap.size) o (by first | (simp; done) | (simp; omega) | omega)
  simp (maxDischargeDepth := 6) [go_sem, *] at k1_0 q1_0
  have HB1 := Lib.hid hb1
  clear hb1
  have hmm := @run_makeMap Try.prog
  have hown0 := World.ownsMap_made w1 Try.prog 3 heldR
  have hb0 : Below w1.heap.size w1 (w1.alloc (.map #[] 0)) := below_alloc w1 _
  have c10 : w1.cell? ⟨w.heap.size, 0, none⟩ = some (.int .i64 0) := by simp [k1_0]
  have c11 : w1.cell? ⟨w.heap.size, 1, none⟩ = some (.int .i64 d) := by simp [k1_0]
  have c12 : w1.cell? ⟨w.heap.size, 2, none⟩ = some (.int .i64 p) := by simp [k1_0]
  go_upto_region 5 with (first | (at_lookup; refine wpList_lookup_held _ rfl _ _ 114 rfl 3 112 Try.keyInt Try.underlying114 (Try.zeroHit _) w1.heap.size _ _ rfl (by assumption) _ _ rfl (keyOf_int_mk Try.underlying3 (by decide)) (.func (.func 73) #[] #[]) true (dropD_0 _ _ _ _ _) ?_) | (refine wpList_insert_own _ rfl _ _ _ 114 rfl 3 112 Try.keyInt Try.underlying114 heldR w1.heap.size _ _ rfl (by assumption) (by decide) _ _ _ rfl rfl (keyOf_int_mk Try.underlying3 (by decide)) _ [] rfl ?_; intro w' ho' hg'; have hb' := below_insert (by assumption) hg'; have c0 := ((bcell hb').1 (w.heap.size) 0 l1_0).trans c10; have c1 := ((bcell hb').1 (w.heap.size) 1 l1_0).trans c11; have c2 := ((bcell hb').1 (w.heap.size) 2 l1_0).trans c12))
  go_wp2_with fail
  refine (sl_CloneL _ _ _ ls _ (lines_now HL.out (drop_below HB1.out (by assumption))) hn6).mono ?_
  rintro e w6 ⟨A6, c6, rfl, ho6, hb6⟩
  have HO6 := Lib.hid ho6
  have HBD := Lib.hid (drop_below HB1.out (by assumption) |>.trans (hb6.mono (Below.size (drop_below HB1.out (by assumption)))))
  have k6 := fun o ho => (bcell hb6).1 (w.heap.size) o ho
  have HB6 := Lib.hid hb6.size
  clear hb6 ho6
  go_wp2_with fail
  refine (sl_DeleteFunc A6 n c6 _ ls (goes 0 d p) _ _ w6 HO6.out HB6.out eg (pred_1 0 d p _ _ rfl)).mono ?_
  rintro e w7 ⟨A7, c7, rfl, hl7, hb7, hs7, hn7⟩
  go_wp2
  go_ret2
  exact ⟨A7, c7, rfl, hl7, HBD.out.trans (hb7.mono (Nat.le_trans (by simp) (Below.size (drop_below HB1.out (by assumption))))), fun ad h => Nat.le_trans (Below.size (drop_below HB1.out (by assumption))) (hn7 ad h)⟩

set_option maxRecDepth 100000 in
set_option maxHeartbeats 4000000 in
theorem cache_Drop_1 (A : Option Addr) (n c : Nat) (ls : List Line) (d p : Int) (w : World) (hl : Lines w w.heap.size A n c ls) (h0 : ckC ls = 0) :
    Calls Try.prog 28 #[.slice A n c, .agg #[.int .i64 1, .int .i64 d, .int .i64 p]] w (DropC w ls 1 d p) := by
  have HL := Lib.hid hl
  have t0 : (ckC ls != 0) = false := by rw [bne_eq_false_iff_eq]; exact h0
  have hE : dropE ls 1 = 0 := dropE_0 h0 (by decide)
  have hn6 : n ≤ 1000 := by
    have := ((ckC_iff ls).1 h0).1
    have := hl.len
    omega
  have eg : ∀ args w, (callFunc 74 args).run Try.prog w = .ok (.enter 74 args) w := enters_of Try.func74 (by kernel_rfl) rfl
  unfold DropC
  rw [dropL_0 hE, hE]
  clear hl h0 hE
  go_enter Try.func28, Try.ntmps28
  go_wp2_with fail
  refine (cache_Check _ _ _ ls _ (lines_now HL.out (by (repeat (first | (with_reducible exact Below.refl _ _) | (with_reducible refine Below.drew ?_) | (with_reducible refine bdrewN ?_ _) | ((with_reducible refine Below.setCell ?_ ?_ _); rotate_left; exact (by first | (simp; done) | (simp; omega) | omega)) | ((with_reducible refine Below.alloc ?_ ?_ _); rotate_left; exact (by first | (simp; done) | (simp; omega) | omega))))))).mono ?_
  rintro e w1 ⟨rfl, hb1⟩
  have hz1 := hb1.size
  (try simp only [World.size_alloc, World.size_setCell, World.size_drew] at hz1)
  have k1_0 := fun o => (bcell hb1).1 (w.heap.size) o (by first | (simp; done) | (simp; omega) | omega)
  have l1_0 : (w.heap.size) < w1.heap.size := (by omega)
  have q1_0 := fun o => (bcell hb1).2 (w.heap.size) o (by first | (simp; done) | (simp; omega) | omega)
  simp (maxDischargeDepth := 6) [go_sem, *] at k1_0 q1_0
  have HB1 := Lib.hid hb1
  clear hb1
  have hmm := @run_makeMap Try.prog
  have hown0 := World.ownsMap_made w1 Try.prog 3 heldR
  have hb0 : Below w1.heap.size w1 (w1.alloc (.map #[] 0)) := below_alloc w1 _
  have c10 : w1.cell? ⟨w.heap.size, 0, none⟩ = some (.int .i64 1) := by simp [k1_0]
  have c11 : w1.cell? ⟨w.heap.size, 1, none⟩ = some (.int .i64 d) := by simp [k1_0]
  have c12 : w1.cell? ⟨w.heap.size, 2, none⟩ = some (.int .i64 p) := by simp [k1_0]
  go_upto_region 5 with (first | (at_lookup; refine wpList_lookup_held _ rfl _ _ 114 rfl 3 112 Try.keyInt Try.underlying114 (Try.zeroHit _) w1.heap.size _ _ rfl (by assumption) _ _ rfl (keyOf_int_mk Try.underlying3 (by decide)) (.func (.func 74) #[] #[]) true (dropD_1 _ _ _ _ _) ?_) | (refine wpList_insert_own _ rfl _ _ _ 114 rfl 3 112 Try.keyInt Try.underlying114 heldR w1.heap.size _ _ rfl (by assumption) (by decide) _ _ _ rfl rfl (keyOf_int_mk Try.underlying3 (by decide)) _ [] rfl ?_; intro w' ho' hg'; have hb' := below_insert (by assumption) hg'; have c0 := ((bcell hb').1 (w.heap.size) 0 l1_0).trans c10; have c1 := ((bcell hb').1 (w.heap.size) 1 l1_0).trans c11; have c2 := ((bcell hb').1 (w.heap.size) 2 l1_0).trans c12))
  go_wp2_with fail
  refine (sl_CloneL _ _ _ ls _ (lines_now HL.out (drop_below HB1.out (by assumption))) hn6).mono ?_
  rintro e w6 ⟨A6, c6, rfl, ho6, hb6⟩
  have HO6 := Lib.hid ho6
  have HBD := Lib.hid (drop_below HB1.out (by assumption) |>.trans (hb6.mono (Below.size (drop_below HB1.out (by assumption)))))
  have k6 := fun o ho => (bcell hb6).1 (w.heap.size) o ho
  have HB6 := Lib.hid hb6.size
  clear hb6 ho6
  go_wp2_with fail
  refine (sl_DeleteFunc A6 n c6 _ ls (goes 1 d p) _ _ w6 HO6.out HB6.out eg (pred_2 1 d p _ _ rfl)).mono ?_
  rintro e w7 ⟨A7, c7, rfl, hl7, hb7, hs7, hn7⟩
  go_wp2
  go_ret2
  exact ⟨A7, c7, rfl, hl7, HBD.out.trans (hb7.mono (Nat.le_trans (by simp) (Below.size (drop_below HB1.out (by assumption))))), fun ad h => Nat.le_trans (Below.size (drop_below HB1.out (by assumption))) (hn7 ad h)⟩

set_option maxRecDepth 100000 in
set_option maxHeartbeats 4000000 in
theorem cache_Drop_2 (A : Option Addr) (n c : Nat) (ls : List Line) (d p : Int) (w : World) (hl : Lines w w.heap.size A n c ls) (h0 : ckC ls = 0) :
    Calls Try.prog 28 #[.slice A n c, .agg #[.int .i64 2, .int .i64 d, .int .i64 p]] w (DropC w ls 2 d p) := by
  have HL := Lib.hid hl
  have t0 : (ckC ls != 0) = false := by rw [bne_eq_false_iff_eq]; exact h0
  have hE : dropE ls 2 = 0 := dropE_0 h0 (by decide)
  have hn6 : n ≤ 1000 := by
    have := ((ckC_iff ls).1 h0).1
    have := hl.len
    omega
  have eg : ∀ args w, (callFunc 75 args).run Try.prog w = .ok (.enter 75 args) w := enters_of Try.func75 (by kernel_rfl) rfl
  unfold DropC
  rw [dropL_0 hE, hE]
  clear hl h0 hE
  go_enter Try.func28, Try.ntmps28
  go_wp2_with fail
  refine (cache_Check _ _ _ ls _ (lines_now HL.out (by (repeat (first | (with_reducible exact Below.refl _ _) | (with_reducible refine Below.drew ?_) | (with_reducible refine bdrewN ?_ _) | ((with_reducible refine Below.setCell ?_ ?_ _); rotate_left; exact (by first | (simp; done) | (simp; omega) | omega)) | ((with_reducible refine Below.alloc ?_ ?_ _); rotate_left; exact (by first | (simp; done) | (simp; omega) | omega))))))).mono ?_
  rintro e w1 ⟨rfl, hb1⟩
  have hz1 := hb1.size
  (try simp only [World.size_alloc, World.size_setCell, World.size_drew] at hz1)
  have k1_0 := fun o => (bcell hb1).1 (w.heap.size) o (by first | (simp; done) | (simp; omega) | omega)
  have l1_0 : (w.heap.size) < w1.heap.size := (by omega)
  have q1_0 := fun o => (bcell hb1).2 (w.heap.size) o (by first | (simp; done) | (simp; omega) | omega)
  simp (maxDischargeDepth := 6) [go_sem, *] at k1_0 q1_0
  have HB1 := Lib.hid hb1
  clear hb1
  have hmm := @run_makeMap Try.prog
  have hown0 := World.ownsMap_made w1 Try.prog 3 heldR
  have hb0 : Below w1.heap.size w1 (w1.alloc (.map #[] 0)) := below_alloc w1 _
  have c10 : w1.cell? ⟨w.heap.size, 0, none⟩ = some (.int .i64 2) := by simp [k1_0]
  have c11 : w1.cell? ⟨w.heap.size, 1, none⟩ = some (.int .i64 d) := by simp [k1_0]
  have c12 : w1.cell? ⟨w.heap.size, 2, none⟩ = some (.int .i64 p) := by simp [k1_0]
  go_upto_region 5 with (first | (at_lookup; refine wpList_lookup_held _ rfl _ _ 114 rfl 3 112 Try.keyInt Try.underlying114 (Try.zeroHit _) w1.heap.size _ _ rfl (by assumption) _ _ rfl (keyOf_int_mk Try.underlying3 (by decide)) (.func (.func 75) #[] #[.pointer (some ⟨w.heap.size, 0, none⟩)]) true (dropD_2 _ _ _ _ _) ?_) | (refine wpList_insert_own _ rfl _ _ _ 114 rfl 3 112 Try.keyInt Try.underlying114 heldR w1.heap.size _ _ rfl (by assumption) (by decide) _ _ _ rfl rfl (keyOf_int_mk Try.underlying3 (by decide)) _ [] rfl ?_; intro w' ho' hg'; have hb' := below_insert (by assumption) hg'; have c0 := ((bcell hb').1 (w.heap.size) 0 l1_0).trans c10; have c1 := ((bcell hb').1 (w.heap.size) 1 l1_0).trans c11; have c2 := ((bcell hb').1 (w.heap.size) 2 l1_0).trans c12))
  go_wp2_with fail
  refine (sl_CloneL _ _ _ ls _ (lines_now HL.out (drop_below HB1.out (by assumption))) hn6).mono ?_
  rintro e w6 ⟨A6, c6, rfl, ho6, hb6⟩
  have HO6 := Lib.hid ho6
  have HBD := Lib.hid (drop_below HB1.out (by assumption) |>.trans (hb6.mono (Below.size (drop_below HB1.out (by assumption)))))
  have k6 := fun o ho => (bcell hb6).1 (w.heap.size) o ho
  have HB6 := Lib.hid hb6.size
  clear hb6 ho6
  go_wp2_with fail
  refine (sl_DeleteFunc A6 n c6 _ ls (goes 2 d p) _ _ w6 HO6.out HB6.out eg (pred_3 2 d p _ _ _ (Nat.lt_of_lt_of_le l1_0 (Below.size (by assumption : Below w1.heap.size w1 _))) ((k6 1 (Nat.lt_of_lt_of_le l1_0 (Below.size (by assumption : Below w1.heap.size w1 _)))).trans (by assumption)) rfl)).mono ?_
  rintro e w7 ⟨A7, c7, rfl, hl7, hb7, hs7, hn7⟩
  go_wp2
  go_ret2
  exact ⟨A7, c7, rfl, hl7, HBD.out.trans (hb7.mono (Nat.le_trans (by simp) (Below.size (drop_below HB1.out (by assumption))))), fun ad h => Nat.le_trans (Below.size (drop_below HB1.out (by assumption))) (hn7 ad h)⟩

set_option maxRecDepth 100000 in
set_option maxHeartbeats 4000000 in
theorem cache_Drop_3 (A : Option Addr) (n c : Nat) (ls : List Line) (d p : Int) (w : World) (hl : Lines w w.heap.size A n c ls) (h0 : ckC ls = 0) :
    Calls Try.prog 28 #[.slice A n c, .agg #[.int .i64 3, .int .i64 d, .int .i64 p]] w (DropC w ls 3 d p) := by
  have HL := Lib.hid hl
  have t0 : (ckC ls != 0) = false := by rw [bne_eq_false_iff_eq]; exact h0
  have hE : dropE ls 3 = 0 := dropE_0 h0 (by decide)
  have hn6 : n ≤ 1000 := by
    have := ((ckC_iff ls).1 h0).1
    have := hl.len
    omega
  have eg : ∀ args w, (callFunc 76 args).run Try.prog w = .ok (.enter 76 args) w := enters_of Try.func76 (by kernel_rfl) rfl
  unfold DropC
  rw [dropL_0 hE, hE]
  clear hl h0 hE
  go_enter Try.func28, Try.ntmps28
  go_wp2_with fail
  refine (cache_Check _ _ _ ls _ (lines_now HL.out (by (repeat (first | (with_reducible exact Below.refl _ _) | (with_reducible refine Below.drew ?_) | (with_reducible refine bdrewN ?_ _) | ((with_reducible refine Below.setCell ?_ ?_ _); rotate_left; exact (by first | (simp; done) | (simp; omega) | omega)) | ((with_reducible refine Below.alloc ?_ ?_ _); rotate_left; exact (by first | (simp; done) | (simp; omega) | omega))))))).mono ?_
  rintro e w1 ⟨rfl, hb1⟩
  have hz1 := hb1.size
  (try simp only [World.size_alloc, World.size_setCell, World.size_drew] at hz1)
  have k1_0 := fun o => (bcell hb1).1 (w.heap.size) o (by first | (simp; done) | (simp; omega) | omega)
  have l1_0 : (w.heap.size) < w1.heap.size := (by omega)
  have q1_0 := fun o => (bcell hb1).2 (w.heap.size) o (by first | (simp; done) | (simp; omega) | omega)
  simp (maxDischargeDepth := 6) [go_sem, *] at k1_0 q1_0
  have HB1 := Lib.hid hb1
  clear hb1
  have hmm := @run_makeMap Try.prog
  have hown0 := World.ownsMap_made w1 Try.prog 3 heldR
  have hb0 : Below w1.heap.size w1 (w1.alloc (.map #[] 0)) := below_alloc w1 _
  have c10 : w1.cell? ⟨w.heap.size, 0, none⟩ = some (.int .i64 3) := by simp [k1_0]
  have c11 : w1.cell? ⟨w.heap.size, 1, none⟩ = some (.int .i64 d) := by simp [k1_0]
  have c12 : w1.cell? ⟨w.heap.size, 2, none⟩ = some (.int .i64 p) := by simp [k1_0]
  go_upto_region 5 with (first | (at_lookup; refine wpList_lookup_held _ rfl _ _ 114 rfl 3 112 Try.keyInt Try.underlying114 (Try.zeroHit _) w1.heap.size _ _ rfl (by assumption) _ _ rfl (keyOf_int_mk Try.underlying3 (by decide)) (.func (.func 76) #[] #[.pointer (some ⟨w.heap.size, 0, none⟩)]) true (dropD_3 _ _ _ _ _) ?_) | (refine wpList_insert_own _ rfl _ _ _ 114 rfl 3 112 Try.keyInt Try.underlying114 heldR w1.heap.size _ _ rfl (by assumption) (by decide) _ _ _ rfl rfl (keyOf_int_mk Try.underlying3 (by decide)) _ [] rfl ?_; intro w' ho' hg'; have hb' := below_insert (by assumption) hg'; have c0 := ((bcell hb').1 (w.heap.size) 0 l1_0).trans c10; have c1 := ((bcell hb').1 (w.heap.size) 1 l1_0).trans c11; have c2 := ((bcell hb').1 (w.heap.size) 2 l1_0).trans c12))
  go_wp2_with fail
  refine (sl_CloneL _ _ _ ls _ (lines_now HL.out (drop_below HB1.out (by assumption))) hn6).mono ?_
  rintro e w6 ⟨A6, c6, rfl, ho6, hb6⟩
  have HO6 := Lib.hid ho6
  have HBD := Lib.hid (drop_below HB1.out (by assumption) |>.trans (hb6.mono (Below.size (drop_below HB1.out (by assumption)))))
  have k6 := fun o ho => (bcell hb6).1 (w.heap.size) o ho
  have HB6 := Lib.hid hb6.size
  clear hb6 ho6
  go_wp2_with fail
  refine (sl_DeleteFunc A6 n c6 _ ls (goes 3 d p) _ _ w6 HO6.out HB6.out eg (pred_4 3 d p _ _ _ (Nat.lt_of_lt_of_le l1_0 (Below.size (by assumption : Below w1.heap.size w1 _))) ((k6 1 (Nat.lt_of_lt_of_le l1_0 (Below.size (by assumption : Below w1.heap.size w1 _)))).trans (by assumption)) ((k6 2 (Nat.lt_of_lt_of_le l1_0 (Below.size (by assumption : Below w1.heap.size w1 _)))).trans (by assumption)) rfl)).mono ?_
  rintro e w7 ⟨A7, c7, rfl, hl7, hb7, hs7, hn7⟩
  go_wp2
  go_ret2
  exact ⟨A7, c7, rfl, hl7, HBD.out.trans (hb7.mono (Nat.le_trans (by simp) (Below.size (drop_below HB1.out (by assumption))))), fun ad h => Nat.le_trans (Below.size (drop_below HB1.out (by assumption))) (hn7 ad h)⟩

theorem cache_Drop (A : Option Addr) (n c : Nat) (ls : List Line) (k d p : Int) (w : World) (hl : Lines w w.heap.size A n c ls) (hw : (Lit.int .i64 k).wf = true) :
    Calls Try.prog 28 #[.slice A n c, .agg #[.int .i64 k, .int .i64 d, .int .i64 p]] w (DropC w ls k d p) := by
  by_cases h0 : ckC ls = 0
  · by_cases hk : 0 ≤ k ∧ k ≤ 3
    · rcases (show k = 0 ∨ k = 1 ∨ k = 2 ∨ k = 3 by omega) with rfl | rfl | rfl | rfl
      · exact cache_Drop_0 A n c ls d p w hl h0
      · exact cache_Drop_1 A n c ls d p w hl h0
      · exact cache_Drop_2 A n c ls d p w hl h0
      · exact cache_Drop_3 A n c ls d p w hl h0
    · exact cache_Drop_k A n c ls k d p w hl h0 hk hw
  · exact cache_Drop_c A n c ls k d p w hl h0
theorem drop_ans (A : Option Addr) (n c : Nat) (ls ms : List Line) (k d p E : Int) (w : World) (hl : Lines w w.heap.size A n c ls) (hw : (Lit.int .i64 k).wf = true) (hE : dropE ls k = E) (hm : dropL ls k d p = ms) :
    Calls Try.prog 28 #[.slice A n c, .agg #[.int .i64 k, .int .i64 d, .int .i64 p]] w fun e w' => ∃ A' c', e = .returned (.tuple #[.slice A' ms.length c', .int .i64 E]) ∧ Lines w' w'.heap.size A' ms.length c' ms ∧ Below w.heap.size w w' ∧ ∀ ad, A' = some ad → w.heap.size ≤ ad.block := by
  have := cache_Drop A n c ls k d p w hl hw
  unfold DropC at this
  rw [hE, hm] at this
  exact this
end Go.Proofs.Ytbopdijnojaaiab
