/- slices.Grow of nil and slices.Concat of two. No statement of the seat is proved here. -/
import Derived.Test.YtbopdijnojaaiabWh2
import Derived.Test.YtbopdijnojaaiabTls
import Derived.Lib.AppendZeros
namespace Go.Proofs.Ytbopdijnojaaiab
open Go.RowKit
set_option linter.unusedSimpArgs false
set_option linter.unusedVariables false
attribute [local go_sem ↓] Go.wp_at_zero Go.wp_at_succ
section
variable {P : Program} {ops : Array Oper} {rest : List Oper} {o : Oper} {a : Act} {Q : Exit → Act → World → Prop}
theorem wpList_append_any (w : World) (hgd : o.guard = none) (s x : Operand) (t : TypeId) (ho : o.op = .call { callee := .builtin .append, args := #[s, x], argTypes := #[t, t] })
    (base : Nat) (e : TypeId) (i : TypeInfo) (z : Value) (size bytes : Nat) (ht : P.underlying t = some (.slice e)) (hi : P.info? e = some i) (hz : i.zero = some z) (hsize : i.size = size) (hby : i.bytes = bytes) (hzs : z.cells.size = size) (hsz : 0 < size)
    (v : Value) (n : Nat) (xs : List Value) (hs : a.eval s = v) (hown : w.ownsRow base e size v n xs) (ao : Option Addr) (m c : Nat) (news : List Value) (hx : a.eval x = .slice ao m c) (hl : news.length = m * size)
    (hnone : ao = none → m = 0 ∧ c = 0) (hc : ∀ ad, ao = some ad → ∀ j u, news[j]? = some u → w.cell? (ad.add j) = some u) (h1 : ∀ u ∈ news, u.oneCell' = true) (h63 : n + m ≤ maxLen) (hbytes : (n + m) * bytes ≤ 140737488355328) (hbase : base ≤ w.heap.size)
    (hK : ∀ v' w', w'.ownsRow base e size v' (n + m) (xs ++ news) → w.grownBy w' v.ownBlock → wpList P ops Q rest (a.put o.dst v') w') : wpList P ops Q (o :: rest) a w := by
  refine wpList_plain hgd fun _ hK' => ?_
  cases ao with
  | some ad =>
    obtain ⟨v', w', hr, h2, h3, _⟩ := run_append_own (P := P) w base t o.type e i z size bytes ht hi hz hsize hby hzs hsz v n xs hown ad m c news hl (hc ad rfl) h1 h63 hbytes hbase
    unfold Oper.wp execOp
    simp only [ho, resolve, invoke, builtin, Sem.run_bind, Sem.run_pure, Result.andThen_ok, List.map_toArray, List.map_cons, List.map_nil, hs, hx, hr]
    exact hK' _ _ (hK v' w' h2 h3)
  | none =>
    obtain ⟨rfl, rfl⟩ := hnone rfl
    have hnews : news = [] := List.eq_nil_of_length_eq_zero (by simpa using hl)
    subst hnews
    have hr := run_append_owned_none (P := P) w base t o.type e i size ht hi v n xs hown
    unfold Oper.wp execOp
    simp only [ho, resolve, invoke, builtin, Sem.run_bind, Sem.run_pure, Result.andThen_ok, List.map_toArray, List.map_cons, List.map_nil, hs, hx, hr]
    exact hK' _ _ (hK v w (by simpa using hown) (World.grownBy.refl _ _))
end
theorem own_geC {w : World} {B size n : Nat} {e : TypeId} {v : Value} {ys : List Value} (h : w.ownsRow B e size v n ys) : ∀ k, v.ownBlock = some k → B ≤ k := by
  intro k hk
  rcases own_form h with ⟨rfl, _⟩ | ⟨g, cap, rfl, _, _, hB, _⟩
  · simp [Value.ownBlock] at hk
  · simp [Value.ownBlock] at hk; omega
theorem below_grown {w W W' : World} {B size n : Nat} {e : TypeId} {v : Value} {ys : List Value} (h : Below B w W) (hB : B ≤ W.heap.size) (ho : W.ownsRow B e size v n ys) (hg : W.grownBy W' v.ownBlock) : Below B w W' :=
  below_chg h hB (chg_grown (P := fun q => v.ownBlock = some q) (chg_refl W) hg (fun k e => Or.inl e)) (fun q hq e => by have := own_geC ho q e; omega)
theorem row_cells {w : World} {B : Nat} {A : Option Addr} {vs : List Value} (h : Row w B A vs) : ∀ ad, A = some ad → ∀ j u, vs[j]? = some u → w.cell? (ad.add j) = some u := by
  intro ad e j u hu
  obtain ⟨b, off, e', _, hc⟩ := h (by have := (List.getElem?_eq_some_iff.1 hu).1; omega)
  rw [e] at e'
  injection e' with e'
  subst e'
  rw [add_at]
  exact hc j u hu

set_option maxRecDepth 100000 in
set_option maxHeartbeats 4000000 in
theorem grow_errs (N : Int) (w : World) (h0 : 0 ≤ N) (h1 : N ≤ 2000) :
    Calls Try.prog 85 #[.slice none 0 0, .int .i64 N] w fun e w' => ∃ v, e = .returned v ∧ w'.ownsRow w.heap.size 28 1 v 0 [] ∧ Below w.heap.size w w' := by
  obtain ⟨i0, hi, hz0, hz1, hz2⟩ := info_parts Try.infoErr
  obtain ⟨n, rfl⟩ : ∃ n : Nat, N = (n : Int) := ⟨N.toNat, by omega⟩
  by_cases hn : n = 0
  · subst hn
    clear hi hz0 hz1 hz2
    go_enter Try.func85, Try.ntmps85
    go_wp2
    go_ret
    exact ⟨.slice none 0 0, rfl, World.ownsRow_nil _ _ _ _, Below.refl _ _⟩
  · have happ := Lib.run_append_nil_zeros (P := Try.prog) w 60 3 60 28 i0 (.int .i64 0) .i64 .i64 Try.underlying60 Try.underlying3 hi hz0 n (by omega) (by rw [hz1]; decide) (by omega) (by rw [hz2]; omega)
    have hge := grownCap_ge w n 0 28
    have hle := grownCap_le_maxLen w n 0 28 (by unfold maxLen; omega)
    generalize grownCap w n 0 28 = cap at happ hge hle
    generalize hC : (Builtin.zeroCells (Value.cells (.int .i64 0)) n ++ Builtin.zeroCells (Value.cells (.int .i64 0)) (cap - n)) = cells at happ
    have hcs : cells.size = cap * 1 := by rw [← hC]; simp [size_zeroCells, Value.cells]; omega
    generalize hw1 : w.drew.alloc (.cells cells 28) = w1 at happ
    have HO := Lib.hid (show w1.ownsRow w.heap.size 28 1 (.slice (some ⟨w.heap.size, 0, none⟩) 0 cap) 0 [] by rw [← hw1]; exact ⟨rfl, Or.inr ⟨w.heap.size, cap, cells, rfl, Nat.le_refl _, heap_alloc_new w.drew _, Nat.zero_le _, hle, hcs, rfl⟩⟩)
    have HB := Lib.hid (show Below w.heap.size w w1 by rw [← hw1]; exact (Below.drew (Below.refl _ _)).alloc (Nat.le_refl _) _)
    clear hC hw1 hcs hi hz0 hz1 hz2
    go_enter Try.func85, Try.ntmps85
    go_wp2_with (at_builtin; refine Lib.wpList_append_run _ rfl _ _ _ _ rfl _ _ rfl rfl _ _ happ ?_)
    go_ret
    exact ⟨_, rfl, HO.out, HB.out⟩
set_option maxRecDepth 100000 in
set_option maxHeartbeats 4000000 in
theorem cat_errs (g : Nat) (A1 A2 : Option Addr) (n1 c1 n2 c2 : Nat) (xs ys : List Value) (w : World) (hg0 : w.cell? ⟨g, 0, none⟩ = some (.slice A1 n1 c1)) (hg1 : w.cell? ⟨g, 1, none⟩ = some (.slice A2 n2 c2)) (hgl : g < w.heap.size) (h1 : Row w w.heap.size A1 xs) (h2 : Row w w.heap.size A2 ys)
    (l1 : xs.length = n1 * 1) (l2 : ys.length = n2 * 1) (z1 : A1 = none → n1 = 0 ∧ c1 = 0) (z2 : A2 = none → n2 = 0 ∧ c2 = 0) (o1 : ∀ u ∈ xs, u.oneCell' = true) (o2 : ∀ u ∈ ys, u.oneCell' = true) (m1 : n1 ≤ 1000) (m2 : n2 ≤ 1000) :
    Calls Try.prog 41 #[.slice (some ⟨g, 0, none⟩) 2 2] w fun e w' => ∃ L c, e = .returned (.slice L (n1 + n2) c) ∧ w'.ownsRow w.heap.size 28 1 (.slice L (n1 + n2) c) (n1 + n2) (xs ++ ys) ∧ Below w.heap.size w w' := by
  obtain ⟨i0, hi, hz0, hz1, hz2⟩ := info_parts Try.infoErr
  have HI := Lib.hid hi
  have HI0 := Lib.hid hz0
  have HI1 := Lib.hid hz1
  have HI2 := Lib.hid hz2
  have HR1 := Lib.hid h1
  have HR2 := Lib.hid h2
  have HL1 := Lib.hid l1
  have HL2 := Lib.hid l2
  have HZ1 := Lib.hid z1
  have HZ2 := Lib.hid z2
  have HO1 := Lib.hid o1
  have HO2 := Lib.hid o2
  have HG0 := Lib.hid hg0
  have HG1 := Lib.hid hg1
  clear hi hz0 hz1 hz2 h1 h2 l1 l2 z1 z2 o1 o2 hg0 hg1
  go_enter Try.func41, Try.ntmps41
  go_wp2
  go_loopw [11, 3] (fun s11 s3 wr => ∃ k : Nat, k ≤ 2 ∧ s11 = .int .i64 k ∧ s3 = .int .i64 (if k = 0 then 0 else if k = 1 then (n1 : Int) else (n1 : Int) + n2) ∧ Hid (wr = w)) (fun s11 _ _ => 2 - (intOf s11).toNat)
  case atStart => exact ⟨0, by omega, rfl, rfl, rfl⟩
  case round =>
    obtain ⟨k, hk, rfl, rfl, hw⟩ := hrel
    have hw := hw.out
    subst hw
    have hg0 := HG0.out
    have hg1 := HG1.out
    have hk3 : k = 0 ∨ k = 1 ∨ k = 2 := by omega
    rcases hk3 with rfl | rfl | rfl
    · go_wp2
      go_roundw
      case rel => exact ⟨1, by omega, rfl, by simp, by first | exact rfl | exact True.intro⟩
      case measure => simp [intOf]
    · go_wp2
      go_roundw
      case rel => exact ⟨2, by omega, rfl, by simp, by first | exact rfl | exact True.intro⟩
      case measure => simp [intOf]
    · obtain ⟨w0, hw0⟩ : ∃ w0, w0 = wr := ⟨_, rfl⟩
      subst hw0
      go_wp2_with fail
      refine (grow_errs _ _ (by omega) (by omega)).mono ?_
      rintro e w1 ⟨v, rfl, ho, hb⟩
      have HV := Lib.hid ho
      have HB := Lib.hid hb
      have hz1 := hb.size
      clear ho hb hg0 hg1
      go_upto_region 11 with (fail)
      go_loopw [27, 6] (fun s27 s6 wj => ∃ (k : Nat) (v : Value), k ≤ 2 ∧ s27 = .int .i64 k ∧ v = s6 ∧ Hid (wj.ownsRow w0.heap.size 28 1 v (if k = 0 then 0 else if k = 1 then n1 else n1 + n2) (if k = 0 then [] else if k = 1 then xs else xs ++ ys)) ∧ Hid (Below w0.heap.size w0 wj)) (fun s27 _ _ => 2 - (intOf s27).toNat)
      case atStart => exact ⟨0, v, by omega, rfl, rfl, HV.out, HB.out⟩
      case round =>
        clear HV HB hz1
        obtain ⟨k, v, hk, rfl, rfl, ho, hb⟩ := hrel
        have HB := Lib.hid hb.out
        have hz1 := hb.out.size
        have hg0 := (hb.out.cell (p := ⟨g, 0, none⟩) hgl).trans HG0.out
        have hg1 := (hb.out.cell (p := ⟨g, 1, none⟩) hgl).trans HG1.out
        have R1 := Lib.hid (row_cells (HR1.out.below hb.out))
        have R2 := Lib.hid (row_cells (HR2.out.below hb.out))
        have hk3 : k = 0 ∨ k = 1 ∨ k = 2 := by omega
        rcases hk3 with rfl | rfl | rfl
        · have HV : Hid (wr.ownsRow w0.heap.size 28 1 v 0 []) := ho
          have b1 : 0 + n1 ≤ maxLen := by unfold maxLen; omega
          have b2 : (0 + n1) * 8 ≤ 140737488355328 := by omega
          clear ho hb
          go_wp2_with (at_builtin; refine wpList_append_any _ rfl (.tmp 31) (.tmp 32) 60 rfl w0.heap.size 28 i0 (.int .i64 0) 1 8 Try.underlying60 HI.out HI0.out HI1.out HI2.out rfl (by decide) v 0 [] rfl HV.out A1 n1 c1 xs rfl HL1.out HZ1.out R1.out HO1.out b1 b2 hz1 ?_; intro v' w' ho' hg')
          go_roundw
          case rel => exact ⟨1, v', by omega, rfl, rfl, by simpa [Hid] using ho', below_grown HB.out hz1 HV.out hg'⟩
          case measure => simp [intOf]
        · have HV : Hid (wr.ownsRow w0.heap.size 28 1 v n1 xs) := ho
          have b1 : n1 + n2 ≤ maxLen := by unfold maxLen; omega
          have b2 : (n1 + n2) * 8 ≤ 140737488355328 := by omega
          clear ho hb
          go_wp2_with (at_builtin; refine wpList_append_any _ rfl (.tmp 31) (.tmp 32) 60 rfl w0.heap.size 28 i0 (.int .i64 0) 1 8 Try.underlying60 HI.out HI0.out HI1.out HI2.out rfl (by decide) v n1 xs rfl HV.out A2 n2 c2 ys rfl HL2.out HZ2.out R2.out HO2.out b1 b2 hz1 ?_; intro v' w' ho' hg')
          go_roundw
          case rel => exact ⟨2, v', by omega, rfl, rfl, ho', below_grown HB.out hz1 HV.out hg'⟩
          case measure => simp [intOf]
        · have HV : Hid (wr.ownsRow w0.heap.size 28 1 v (n1 + n2) (xs ++ ys)) := ho
          clear ho hb
          go_wp2
          go_ret
          rcases own_form HV.out with ⟨rfl, h0⟩ | ⟨g', cap, rfl, _⟩
          · exact ⟨none, 0, by rw [h0]; rfl, by rw [h0]; have := HV.out; rw [h0] at this; exact this, HB.out⟩
          · exact ⟨_, _, rfl, HV.out, HB.out⟩

set_option maxRecDepth 100000 in
set_option maxHeartbeats 4000000 in
theorem grow_told (N : Int) (w : World) (h0 : 0 ≤ N) (h1 : N ≤ 2000) :
    Calls Try.prog 86 #[.slice none 0 0, .int .i64 N] w fun e w' => ∃ v, e = .returned v ∧ w'.ownsRow w.heap.size 69 4 v 0 [] ∧ Below w.heap.size w w' := by
  obtain ⟨i0, hi, hz0, hz1, hz2⟩ := info_parts Try.infoTold
  obtain ⟨n, rfl⟩ : ∃ n : Nat, N = (n : Int) := ⟨N.toNat, by omega⟩
  by_cases hn : n = 0
  · subst hn
    clear hi hz0 hz1 hz2
    go_enter Try.func86, Try.ntmps86
    go_wp2
    go_ret
    exact ⟨.slice none 0 0, rfl, World.ownsRow_nil _ _ _ _, Below.refl _ _⟩
  · have happ := Lib.run_append_nil_zeros (P := Try.prog) w 59 3 59 69 i0 (.agg #[.bool false, .slice none 0 0, .int .i64 0, .slice none 0 0]) .i64 .i64 Try.underlying59 Try.underlying3 hi hz0 n (by omega) (by rw [hz1]; decide) (by omega) (by rw [hz2]; omega)
    have hge := grownCap_ge w n 0 69
    have hle := grownCap_le_maxLen w n 0 69 (by unfold maxLen; omega)
    generalize grownCap w n 0 69 = cap at happ hge hle
    generalize hC : (Builtin.zeroCells (Value.cells (.agg #[.bool false, .slice none 0 0, .int .i64 0, .slice none 0 0])) n ++ Builtin.zeroCells (Value.cells (.agg #[.bool false, .slice none 0 0, .int .i64 0, .slice none 0 0])) (cap - n)) = cells at happ
    have hcs : cells.size = cap * 4 := by rw [← hC]; simp [size_zeroCells, Value.cells]; omega
    generalize hw1 : w.drew.alloc (.cells cells 69) = w1 at happ
    have HO := Lib.hid (show w1.ownsRow w.heap.size 69 4 (.slice (some ⟨w.heap.size, 0, none⟩) 0 cap) 0 [] by rw [← hw1]; exact ⟨rfl, Or.inr ⟨w.heap.size, cap, cells, rfl, Nat.le_refl _, heap_alloc_new w.drew _, Nat.zero_le _, hle, hcs, rfl⟩⟩)
    have HB := Lib.hid (show Below w.heap.size w w1 by rw [← hw1]; exact (Below.drew (Below.refl _ _)).alloc (Nat.le_refl _) _)
    clear hC hw1 hcs hi hz0 hz1 hz2
    go_enter Try.func86, Try.ntmps86
    go_wp2_with (at_builtin; refine Lib.wpList_append_run _ rfl _ _ _ _ rfl _ _ rfl rfl _ _ happ ?_)
    go_ret
    exact ⟨_, rfl, HO.out, HB.out⟩
set_option maxRecDepth 100000 in
set_option maxHeartbeats 4000000 in
theorem cat_told (g : Nat) (A1 A2 : Option Addr) (n1 c1 n2 c2 : Nat) (xs ys : List Value) (w : World) (hg0 : w.cell? ⟨g, 0, none⟩ = some (.slice A1 n1 c1)) (hg1 : w.cell? ⟨g, 1, none⟩ = some (.slice A2 n2 c2)) (hgl : g < w.heap.size) (h1 : Row w w.heap.size A1 xs) (h2 : Row w w.heap.size A2 ys)
    (l1 : xs.length = n1 * 4) (l2 : ys.length = n2 * 4) (z1 : A1 = none → n1 = 0 ∧ c1 = 0) (z2 : A2 = none → n2 = 0 ∧ c2 = 0) (o1 : ∀ u ∈ xs, u.oneCell' = true) (o2 : ∀ u ∈ ys, u.oneCell' = true) (m1 : n1 ≤ 1000) (m2 : n2 ≤ 1000) :
    Calls Try.prog 43 #[.slice (some ⟨g, 0, none⟩) 2 2] w fun e w' => ∃ L c, e = .returned (.slice L (n1 + n2) c) ∧ w'.ownsRow w.heap.size 69 4 (.slice L (n1 + n2) c) (n1 + n2) (xs ++ ys) ∧ Below w.heap.size w w' := by
  obtain ⟨i0, hi, hz0, hz1, hz2⟩ := info_parts Try.infoTold
  have HI := Lib.hid hi
  have HI0 := Lib.hid hz0
  have HI1 := Lib.hid hz1
  have HI2 := Lib.hid hz2
  have HR1 := Lib.hid h1
  have HR2 := Lib.hid h2
  have HL1 := Lib.hid l1
  have HL2 := Lib.hid l2
  have HZ1 := Lib.hid z1
  have HZ2 := Lib.hid z2
  have HO1 := Lib.hid o1
  have HO2 := Lib.hid o2
  have HG0 := Lib.hid hg0
  have HG1 := Lib.hid hg1
  clear hi hz0 hz1 hz2 h1 h2 l1 l2 z1 z2 o1 o2 hg0 hg1
  go_enter Try.func43, Try.ntmps43
  go_wp2
  go_loopw [11, 3] (fun s11 s3 wr => ∃ k : Nat, k ≤ 2 ∧ s11 = .int .i64 k ∧ s3 = .int .i64 (if k = 0 then 0 else if k = 1 then (n1 : Int) else (n1 : Int) + n2) ∧ Hid (wr = w)) (fun s11 _ _ => 2 - (intOf s11).toNat)
  case atStart => exact ⟨0, by omega, rfl, rfl, rfl⟩
  case round =>
    obtain ⟨k, hk, rfl, rfl, hw⟩ := hrel
    have hw := hw.out
    subst hw
    have hg0 := HG0.out
    have hg1 := HG1.out
    have hk3 : k = 0 ∨ k = 1 ∨ k = 2 := by omega
    rcases hk3 with rfl | rfl | rfl
    · go_wp2
      go_roundw
      case rel => exact ⟨1, by omega, rfl, by simp, by first | exact rfl | exact True.intro⟩
      case measure => simp [intOf]
    · go_wp2
      go_roundw
      case rel => exact ⟨2, by omega, rfl, by simp, by first | exact rfl | exact True.intro⟩
      case measure => simp [intOf]
    · obtain ⟨w0, hw0⟩ : ∃ w0, w0 = wr := ⟨_, rfl⟩
      subst hw0
      go_wp2_with fail
      refine (grow_told _ _ (by omega) (by omega)).mono ?_
      rintro e w1 ⟨v, rfl, ho, hb⟩
      have HV := Lib.hid ho
      have HB := Lib.hid hb
      have hz1 := hb.size
      clear ho hb hg0 hg1
      go_upto_region 11 with (fail)
      go_loopw [27, 6] (fun s27 s6 wj => ∃ (k : Nat) (v : Value), k ≤ 2 ∧ s27 = .int .i64 k ∧ v = s6 ∧ Hid (wj.ownsRow w0.heap.size 69 4 v (if k = 0 then 0 else if k = 1 then n1 else n1 + n2) (if k = 0 then [] else if k = 1 then xs else xs ++ ys)) ∧ Hid (Below w0.heap.size w0 wj)) (fun s27 _ _ => 2 - (intOf s27).toNat)
      case atStart => exact ⟨0, v, by omega, rfl, rfl, HV.out, HB.out⟩
      case round =>
        clear HV HB hz1
        obtain ⟨k, v, hk, rfl, rfl, ho, hb⟩ := hrel
        have HB := Lib.hid hb.out
        have hz1 := hb.out.size
        have hg0 := (hb.out.cell (p := ⟨g, 0, none⟩) hgl).trans HG0.out
        have hg1 := (hb.out.cell (p := ⟨g, 1, none⟩) hgl).trans HG1.out
        have R1 := Lib.hid (row_cells (HR1.out.below hb.out))
        have R2 := Lib.hid (row_cells (HR2.out.below hb.out))
        have hk3 : k = 0 ∨ k = 1 ∨ k = 2 := by omega
        rcases hk3 with rfl | rfl | rfl
        · have HV : Hid (wr.ownsRow w0.heap.size 69 4 v 0 []) := ho
          have b1 : 0 + n1 ≤ maxLen := by unfold maxLen; omega
          have b2 : (0 + n1) * 64 ≤ 140737488355328 := by omega
          clear ho hb
          go_wp2_with (at_builtin; refine wpList_append_any _ rfl (.tmp 31) (.tmp 32) 59 rfl w0.heap.size 69 i0 (.agg #[.bool false, .slice none 0 0, .int .i64 0, .slice none 0 0]) 4 64 Try.underlying59 HI.out HI0.out HI1.out HI2.out rfl (by decide) v 0 [] rfl HV.out A1 n1 c1 xs rfl HL1.out HZ1.out R1.out HO1.out b1 b2 hz1 ?_; intro v' w' ho' hg')
          go_roundw
          case rel => exact ⟨1, v', by omega, rfl, rfl, by simpa [Hid] using ho', below_grown HB.out hz1 HV.out hg'⟩
          case measure => simp [intOf]
        · have HV : Hid (wr.ownsRow w0.heap.size 69 4 v n1 xs) := ho
          have b1 : n1 + n2 ≤ maxLen := by unfold maxLen; omega
          have b2 : (n1 + n2) * 64 ≤ 140737488355328 := by omega
          clear ho hb
          go_wp2_with (at_builtin; refine wpList_append_any _ rfl (.tmp 31) (.tmp 32) 59 rfl w0.heap.size 69 i0 (.agg #[.bool false, .slice none 0 0, .int .i64 0, .slice none 0 0]) 4 64 Try.underlying59 HI.out HI0.out HI1.out HI2.out rfl (by decide) v n1 xs rfl HV.out A2 n2 c2 ys rfl HL2.out HZ2.out R2.out HO2.out b1 b2 hz1 ?_; intro v' w' ho' hg')
          go_roundw
          case rel => exact ⟨2, v', by omega, rfl, rfl, ho', below_grown HB.out hz1 HV.out hg'⟩
          case measure => simp [intOf]
        · have HV : Hid (wr.ownsRow w0.heap.size 69 4 v (n1 + n2) (xs ++ ys)) := ho
          clear ho hb
          go_wp2
          go_ret
          rcases own_form HV.out with ⟨rfl, h0⟩ | ⟨g', cap, rfl, _⟩
          · exact ⟨none, 0, by rw [h0]; rfl, by rw [h0]; have := HV.out; rw [h0] at this; exact this, HB.out⟩
          · exact ⟨_, _, rfl, HV.out, HB.out⟩
end Go.Proofs.Ytbopdijnojaaiab
