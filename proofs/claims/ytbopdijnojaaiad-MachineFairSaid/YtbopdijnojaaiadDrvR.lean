/- The laws' closed fact 'driven': the run of its happenings. No statement of the seat is proved here. -/
import Derived.Test.YtbopdijnojaaiadDmaP
import Derived.Test.YtbopdijnojaaiadCrossed
import Derived.Test.YtbopdijnojaaiadHaps
import Derived.Test.YtbopdijnojaaiadWh2
import Derived.Test.YtbopdijnojaaiadSlices
import Derived.Test.YtbopdijnojaaiadMrun
namespace Go.Proofs.Ytbopdijnojaaiad
open Go.RowKit
set_option linter.unusedSimpArgs false
set_option linter.unusedVariables false

section
def drvM : List Int := (((tabM.set 100 4096).set 101 4632).set 102 20544).set 320 1
def drvB : Brg := ⟨2, 1, [], ⟨40, 0, 1⟩, false, 0, ⟨41, 0, 0⟩, false⟩
def drvX : Mch := ⟨drvM, ⟨100, List.replicate 8 0, false⟩, drvB⟩
def askH : Hap := ⟨3, 0, ⟨1, 1, 1, false, []⟩⟩
def stepH : Hap := ⟨1, 0, ⟨0, 0, 0, false, []⟩⟩
def ordH : Hap := ⟨2, 0, ⟨0, 0, 0, false, []⟩⟩
def drvL : List Hap := [askH, stepH, stepH, stepH, askH, ordH, askH, ordH]
theorem drv_ck : ckM drvX = 0 := by kernel_rfl
theorem drv_R : runR drvX drvL = [0, 0, 0, 0, 0, 0, 0, 6] := by kernel_rfl
theorem drv_T : (runT drvX drvL)[0]?.map Tld.done = some true ∧ (runT drvX drvL)[4]?.map Tld.done = some true ∧ (runT drvX drvL)[6]?.map Tld.fault = some 3 := ⟨by kernel_rfl, by kernel_rfl, by kernel_rfl⟩
theorem drv_S : (runS drvX drvL).m[328]? = some 11 ∧ (runS drvX drvL).b.cache = [] := ⟨by kernel_rfl, by kernel_rfl⟩
end

section
theorem own_storeI {P : Program} {ops : Array Oper} {rest : List Oper} {o : Oper} {a : Act} {w : World} {Q : Exit → Act → World → Prop} (hgd : o.guard = none) (ty : TypeId) (x y : Operand) (ho : o.op = .store ty x y) (B g k n c : Nat) (xs : List Int) (v : Int) (hx : a.eval x = .pointer (some ⟨g, k, none⟩)) (hy : a.eval y = .int .i64 v) (hg : OwnI B w (some ⟨g, 0, none⟩) n c xs) (hk : k < n)
    (hi : (P.info? ty).map (·.size) = some 1) (h : ∀ w', OwnI B w' (some ⟨g, 0, none⟩) n c (xs.set k v) → Trn g w w' → wpList P ops Q rest (a.put o.dst undef) w') : wpList P ops Q (o :: rest) a w := by
  refine wpList_plain hgd fun _ hK => ?_
  obtain ⟨g', e, h1, h2, h3, h4, _⟩ := own_cells hg (by omega)
  injection e with e; injection e with e; subst e
  obtain ⟨xk, hxk⟩ := some_of_lt xs (k := k) (by rw [hg.1]; exact hk)
  have hr : (storeVar ty ⟨g, k, none⟩ (.int .i64 v)).run P w = .ok () (w.setCell ⟨g, k, none⟩ (.int .i64 v)) := by
    have := run_storeCells_cells (P := P) g k [.int .i64 v] 0 w (fun j hj => by
        have e : j = 0 := by simpa using hj
        subst e; simp [h3 k xk hxk])
      (fun j hj => h4 _) (fun u hu => by simp at hu; subst hu; rfl)
    cases hq : P.info? ty with
    | none => simp [hq] at hi
    | some i =>
      have hs : i.size = 1 := by simpa [hq] using hi
      simp only [Nat.add_zero, World.setCells] at this
      simp [storeVar, sizeOf, typeInfo, hq, Value.cells, hs, this]
  unfold Oper.wp execOp
  simp only [ho, hx, hy, Instr.storeAt, Instr.sureAddr, Sem.run_bind, Sem.run_pure, Result.andThen_ok, hr]
  exact hK _ _ (h _ (owni_at hg hk v) (trn_set h2 _ _))
theorem wpList_buildS8 {P : Program} {ops : Array Oper} {rest : List Oper} {o : Oper} {a : Act} {w w' : World} {Q : Exit → Act → World → Prop} (hgd : o.guard = none) (s0 s1 s2 s3 s4 s5 s6 s7 : Operand) (t : TypeId) (ho : o.op = .buildSlice t 8 #[(0, s0), (1, s1), (2, s2), (3, s3), (4, s4), (5, s5), (6, s6), (7, s7)]) (v0 v1 v2 v3 v4 v5 v6 v7 : Value) (h0 : a.eval s0 = v0) (h1 : a.eval s1 = v1) (h2 : a.eval s2 = v2) (h3 : a.eval s3 = v3) (h4 : a.eval s4 = v4) (h5 : a.eval s5 = v5) (h6 : a.eval s6 = v6) (h7 : a.eval s7 = v7) (r : Value)
    (hrun : (Instr.buildSlice t 8 #[(0, v0), (1, v1), (2, v2), (3, v3), (4, v4), (5, v5), (6, v6), (7, v7)]).run P w = .ok r w') (h : wpList P ops Q rest (a.put o.dst r) w') : wpList P ops Q (o :: rest) a w := by
  refine wpList_plain hgd fun K hK => ?_
  unfold Oper.wp execOp
  simp only [ho, Sem.run_bind, Sem.run_pure, Result.andThen_ok, List.map_toArray, List.map_cons, List.map_nil, h0, h1, h2, h3, h4, h5, h6, h7, hrun]
  exact hK _ _ h
theorem wpList_build1 {P : Program} {ops : Array Oper} {rest : List Oper} {o : Oper} {a : Act} {w w' : World} {Q : Exit → Act → World → Prop} (hgd : o.guard = none) (s : Operand) (t : TypeId) (ho : o.op = .build t #[(0, s)]) (u : Value) (hs : a.eval s = u) (r : Value)
    (hrun : (Instr.build t #[(0, u)]).run P w = .ok r w') (h : wpList P ops Q rest (a.put o.dst r) w') : wpList P ops Q (o :: rest) a w := by
  refine wpList_plain hgd fun K hK => ?_
  unfold Oper.wp execOp
  simp only [ho, Sem.run_bind, Sem.run_pure, Result.andThen_ok, List.map_toArray, List.map_cons, List.map_nil, hs, hrun]
  exact hK _ _ h
set_option maxRecDepth 100000 in
theorem Try.bd1 (w : World) : (Instr.build 46 #[(0, .int .i64 2)]).run Try.prog w = .ok (.agg #[.int .i64 2, .int .i64 0, .int .i64 0, .int .i64 0, .int .i64 0, .bool false, .slice none 0 0]) w := by kernel_rfl
set_option maxRecDepth 100000 in
theorem Try.bs8 (w : World) : (Instr.buildSlice 53 8 #[(0, .agg #[.int .i64 3, .int .i64 0, .int .i64 1, .int .i64 1, .int .i64 1, .bool false, .slice none 0 0]), (1, .agg #[.int .i64 1, .int .i64 0, .int .i64 0, .int .i64 0, .int .i64 0, .bool false, .slice none 0 0]), (2, .agg #[.int .i64 1, .int .i64 0, .int .i64 0, .int .i64 0, .int .i64 0, .bool false, .slice none 0 0]), (3, .agg #[.int .i64 1, .int .i64 0, .int .i64 0, .int .i64 0, .int .i64 0, .bool false, .slice none 0 0]), (4, .agg #[.int .i64 3, .int .i64 0, .int .i64 1, .int .i64 1, .int .i64 1, .bool false, .slice none 0 0]), (5, .agg #[.int .i64 2, .int .i64 0, .int .i64 0, .int .i64 0, .int .i64 0, .bool false, .slice none 0 0]), (6, .agg #[.int .i64 3, .int .i64 0, .int .i64 1, .int .i64 1, .int .i64 1, .bool false, .slice none 0 0]), (7, .agg #[.int .i64 2, .int .i64 0, .int .i64 0, .int .i64 0, .int .i64 0, .bool false, .slice none 0 0])]).run Try.prog w = .ok (.slice (some ⟨w.heap.size, 0, none⟩) 8 8) (w.alloc (.cells #[.int .i64 3, .int .i64 0, .int .i64 1, .int .i64 1, .int .i64 1, .bool false, .slice none 0 0, .int .i64 1, .int .i64 0, .int .i64 0, .int .i64 0, .int .i64 0, .bool false, .slice none 0 0, .int .i64 1, .int .i64 0, .int .i64 0, .int .i64 0, .int .i64 0, .bool false, .slice none 0 0, .int .i64 1, .int .i64 0, .int .i64 0, .int .i64 0, .int .i64 0, .bool false, .slice none 0 0, .int .i64 3, .int .i64 0, .int .i64 1, .int .i64 1, .int .i64 1, .bool false, .slice none 0 0, .int .i64 2, .int .i64 0, .int .i64 0, .int .i64 0, .int .i64 0, .bool false, .slice none 0 0, .int .i64 3, .int .i64 0, .int .i64 1, .int .i64 1, .int .i64 1, .bool false, .slice none 0 0, .int .i64 2, .int .i64 0, .int .i64 0, .int .i64 0, .int .i64 0, .bool false, .slice none 0 0] 46)) := by kernel_rfl
theorem haps_drv {w : World} {B g : Nat} (hg : g < B) (h : Whl w g 46 #[.int .i64 3, .int .i64 0, .int .i64 1, .int .i64 1, .int .i64 1, .bool false, .slice none 0 0, .int .i64 1, .int .i64 0, .int .i64 0, .int .i64 0, .int .i64 0, .bool false, .slice none 0 0, .int .i64 1, .int .i64 0, .int .i64 0, .int .i64 0, .int .i64 0, .bool false, .slice none 0 0, .int .i64 1, .int .i64 0, .int .i64 0, .int .i64 0, .int .i64 0, .bool false, .slice none 0 0, .int .i64 3, .int .i64 0, .int .i64 1, .int .i64 1, .int .i64 1, .bool false, .slice none 0 0, .int .i64 2, .int .i64 0, .int .i64 0, .int .i64 0, .int .i64 0, .bool false, .slice none 0 0, .int .i64 3, .int .i64 0, .int .i64 1, .int .i64 1, .int .i64 1, .bool false, .slice none 0 0, .int .i64 2, .int .i64 0, .int .i64 0, .int .i64 0, .int .i64 0, .bool false, .slice none 0 0]) : Haps w B (some ⟨g, 0, none⟩) 8 8 drvL :=
  ⟨rfl, Nat.le_refl _, by unfold maxLen; omega, fun _ => ⟨g, 0, rfl, hg, fun k x hx => by
    have hc := whl_cell h
    have hn : Ints w B none 0 [] := ⟨rfl, by unfold maxLen; omega, Row.nil_⟩
    match k, hx with
    | 0, hx =>
      simp [drvL] at hx; subst hx
      exact ⟨none, 0, 0, ⟨hc 0, hc 1, hc 2, hc 3, hc 4, hc 5, hc 6⟩, hn⟩
    | 1, hx =>
      simp [drvL] at hx; subst hx
      exact ⟨none, 0, 0, ⟨hc 7, hc 8, hc 9, hc 10, hc 11, hc 12, hc 13⟩, hn⟩
    | 2, hx =>
      simp [drvL] at hx; subst hx
      exact ⟨none, 0, 0, ⟨hc 14, hc 15, hc 16, hc 17, hc 18, hc 19, hc 20⟩, hn⟩
    | 3, hx =>
      simp [drvL] at hx; subst hx
      exact ⟨none, 0, 0, ⟨hc 21, hc 22, hc 23, hc 24, hc 25, hc 26, hc 27⟩, hn⟩
    | 4, hx =>
      simp [drvL] at hx; subst hx
      exact ⟨none, 0, 0, ⟨hc 28, hc 29, hc 30, hc 31, hc 32, hc 33, hc 34⟩, hn⟩
    | 5, hx =>
      simp [drvL] at hx; subst hx
      exact ⟨none, 0, 0, ⟨hc 35, hc 36, hc 37, hc 38, hc 39, hc 40, hc 41⟩, hn⟩
    | 6, hx =>
      simp [drvL] at hx; subst hx
      exact ⟨none, 0, 0, ⟨hc 42, hc 43, hc 44, hc 45, hc 46, hc 47, hc 48⟩, hn⟩
    | 7, hx =>
      simp [drvL] at hx; subst hx
      exact ⟨none, 0, 0, ⟨hc 49, hc 50, hc 51, hc 52, hc 53, hc 54, hc 55⟩, hn⟩
    | k + 8, hx => simp [drvL] at hx⟩⟩
set_option maxRecDepth 100000 in
theorem Try.mk8 : ∀ w : World, (Instr.makeSlice 22 (.int .i64 8) (.int .i64 8)).run Try.prog w = .ok (.slice (some ⟨w.heap.size, 0, none⟩) 8 8) (w.alloc (.cells #[.int .i64 0, .int .i64 0, .int .i64 0, .int .i64 0, .int .i64 0, .int .i64 0, .int .i64 0, .int .i64 0] 3)) := fun _ => by kernel_rfl
theorem zr8 {w : World} {g : Nat} {B : Nat} (hg : g < B) (h : ∀ o, w.cell? ⟨g, o, none⟩ = ([.int .i64 0, .int .i64 0, .int .i64 0, .int .i64 0, .int .i64 0, .int .i64 0, .int .i64 0, .int .i64 0] : List Value)[o]?) : Ints w B (some ⟨g, 0, none⟩) 8 (List.replicate 8 0) :=
  Ints.of_cells rfl (by decide) hg (fun k => by rw [h k]; rfl)
theorem sx8 {w : World} {g : Nat} {B : Nat} (hg : g < B) (h : ∀ o, w.cell? ⟨g, o, none⟩ = ([.int .i64 0, .int .i64 0, .int .i64 0, .int .i64 0, .int .i64 0, .int .i64 0, .int .i64 0, .int .i64 6] : List Value)[o]?) : Ints w B (some ⟨g, 0, none⟩) 8 [0, 0, 0, 0, 0, 0, 0, 6] :=
  Ints.of_cells rfl (by decide) hg (fun k => by rw [h k]; rfl)
end

section
set_option maxRecDepth 100000 in
set_option maxHeartbeats 1000000 in
theorem sl_EqualE (A B : Option Addr) (n m c d : Nat) (xs ys : List Int) (w : World) (hx : Ints w w.heap.size A n xs) (hy : Ints w w.heap.size B m ys) :
    Calls Try.prog 26 #[.slice A n c, .slice B m d] w fun e w' => e = .returned (.bool (eqI xs ys)) ∧ Below w.heap.size w w' := by
  have hn := hx.bd
  have HX := Lib.hid hx; clear hx
  have HY := Lib.hid hy; clear hy
  by_cases hnm : n = m
  · subst hnm
    go_enter Try.func26, Try.ntmps26
    go_wp2
    go_loopw [13, 5] (fun i _ wr => ∃ k : Nat, k ≤ n ∧ i = .int .i64 k ∧ Hid (xs.take k = ys.take k) ∧ ∃ q, wr = w.drewN q) (fun i _ _ => n - (intOf i).toNat)
    case atStart => exact ⟨0, by omega, rfl, by simp [Hid], 0, rfl⟩
    case round =>
      obtain ⟨k, hk, rfl, hall, q, rfl⟩ := hrel
      by_cases hlt : k < n
      · obtain ⟨x, hxk⟩ := some_of_lt xs (k := k) (by rw [HX.out.len]; exact hlt)
        obtain ⟨y, hyk⟩ := some_of_lt ys (k := k) (by rw [HY.out.len]; exact hlt)
        obtain ⟨b, off, rfl, hb, hc⟩ := HX.out.at_ (by omega)
        obtain ⟨b', off', rfl, hb', hc'⟩ := HY.out.at_ (by omega)
        have h1 := hc k x hxk
        have h2 := hc' k y hyk
        clear hc hc'
        have HXK := Lib.hid hxk; clear hxk
        have HYK := Lib.hid hyk; clear hyk
        go_wp2
        go_quiet (fail)
        go_wp2
        · go_ret
          exact ⟨ret_bool (eqI_at HXK.out HYK.out ‹_›), bdrewN (bdrewN (Below.refl _ _) _) _⟩
        · go_roundw
          case rel => exact ⟨k + 1, by omega, by go_num, take_snoc_eq HXK.out HYK.out hall.out (by simpa using ‹(x != y) = false›), _, rfl⟩
          case measure => simp [intOf]; omega
      · go_wp2
        go_ret
        obtain rfl : k = n := by omega
        exact ⟨ret_bool (eqI_all HX.out.len HY.out.len hall.out), bdrewN (Below.refl _ _) _⟩
  · have h3 : ((n : Int) != (m : Int)) = true := by simp; omega
    go_enter Try.func26, Try.ntmps26
    go_wp2
    go_ret
    exact ⟨ret_bool (eqI_len (by rw [HX.out.len, HY.out.len]; exact hnm)), Below.refl _ _⟩
end

section
set_option maxRecDepth 100000 in
set_option maxHeartbeats 1000000 in
theorem drv_run (M R : Option Addr) (d1 c g : Nat) (w : World) (hm : Ints w w.heap.size M 512 drvM) (hr : Ints w w.heap.size R 8 (List.replicate 8 0)) (hh : Haps w w.heap.size (some ⟨g, 0, none⟩) 8 8 drvL) :
    Calls Try.prog 25 #[.agg #[.slice M 512 d1, .int .i64 100, .slice R 8 c, .bool false, .int .i64 tabB.mode, .int .i64 tabB.base, .slice none 0 0, .int .i64 tabB.orders.page, .int .i64 tabB.orders.head, .int .i64 1, .bool tabB.stopped, .int .i64 tabB.fences, .int .i64 tabB.faults.page, .int .i64 tabB.faults.head, .int .i64 tabB.faults.tail, .bool tabB.lost], .slice (some ⟨g, 0, none⟩) 8 8] w (MrunC w (runS drvX drvL) (runT drvX drvL) (runR drvX drvL) 0) := by
  have h0 := drv_ck
  have H : ∃ x, x = drvX := ⟨_, rfl⟩
  obtain ⟨x, hx⟩ := H
  have e1 : x.m = drvM := by rw [hx]; rfl
  have e2 : x.h.regs = List.replicate 8 0 := by rw [hx]; rfl
  have e3 : x.b.cache = [] := by rw [hx]; rfl
  have e4 : x.h.at_ = 100 := by rw [hx]; rfl
  have e5 : x.h.done = false := by rw [hx]; rfl
  have e6 : x.b.mode = tabB.mode := by rw [hx]; rfl
  have e7 : x.b.base = tabB.base := by rw [hx]; rfl
  have e8 : x.b.orders.page = tabB.orders.page := by rw [hx]; rfl
  have e9 : x.b.orders.head = tabB.orders.head := by rw [hx]; rfl
  have e10 : x.b.orders.tail = 1 := by rw [hx]; rfl
  have e11 : x.b.stopped = tabB.stopped := by rw [hx]; rfl
  have e12 : x.b.fences = tabB.fences := by rw [hx]; rfl
  have e13 : x.b.faults.page = tabB.faults.page := by rw [hx]; rfl
  have e14 : x.b.faults.head = tabB.faults.head := by rw [hx]; rfl
  have e15 : x.b.faults.tail = tabB.faults.tail := by rw [hx]; rfl
  have e16 : x.b.lost = tabB.lost := by rw [hx]; rfl
  rw [← hx] at h0 ⊢
  have := mrun_ok x drvL M R none (some ⟨g, 0, none⟩) 8 8 w d1 c 0 0 (by rw [e1]; exact hm) (by rw [e2]; exact hr) (by rw [e3]; exact lines_none _ _) hh h0 (by decide)
  rw [e4, e5, e6, e7, e8, e9, e10, e11, e12, e13, e14, e15, e16] at this
  exact this
/-- behind the run, as the law asks of it. -/
def DrvC (w : World) (y : Mch) (e : Ending) (w' : World) : Prop :=
  ∃ mb mo nm mc R nr rc L c tb tn tc sb sc MBX, MBX = some ⟨mb, mo, none⟩ ∧ e = .returned (.tuple #[.agg #[.slice MBX nm mc, .int .i64 y.h.at_, .slice R nr rc, .bool y.h.done, .int .i64 y.b.mode, .int .i64 y.b.base, .slice L 0 c, .int .i64 y.b.orders.page, .int .i64 y.b.orders.head, .int .i64 y.b.orders.tail, .bool y.b.stopped, .int .i64 y.b.fences, .int .i64 y.b.faults.page, .int .i64 y.b.faults.head, .int .i64 y.b.faults.tail, .bool y.b.lost], .slice (some ⟨tb, 0, none⟩) tn tc, .slice (some ⟨sb, 0, none⟩) 8 sc, .int .i64 0]) ∧
    328 < nm ∧ w'.cell? ⟨mb, mo + 328, none⟩ = some (.int .i64 11) ∧ 6 < tn ∧ w'.cell? ⟨tb, 0, none⟩ = some (.bool true) ∧ w'.cell? ⟨tb, 16, none⟩ = some (.bool true) ∧ w'.cell? ⟨tb, 26, none⟩ = some (.int .i64 3) ∧ Ints w' w'.heap.size (some ⟨sb, 0, none⟩) 8 [0, 0, 0, 0, 0, 0, 0, 6] ∧ Below w.heap.size w w'
theorem get_t {es : List Tle} {k : Nat} {α : Type} {f : Tld → α} {v : α} (h : (es.map Tle.t)[k]?.map f = some v) : ∃ e, es[k]? = some e ∧ f e.t = v := by
  rw [List.getElem?_map] at h
  cases he : es[k]? with
  | none => simp [he] at h
  | some e => simp [he] at h; exact ⟨e, rfl, h⟩
theorem drv_all : ∃ y : Mch, ∀ (M R : Option Addr) (d1 c g : Nat) (w : World) (_ : Ints w w.heap.size M 512 drvM) (_ : Ints w w.heap.size R 8 (List.replicate 8 0)) (_ : Haps w w.heap.size (some ⟨g, 0, none⟩) 8 8 drvL),
    Calls Try.prog 25 #[.agg #[.slice M 512 d1, .int .i64 100, .slice R 8 c, .bool false, .int .i64 tabB.mode, .int .i64 tabB.base, .slice none 0 0, .int .i64 tabB.orders.page, .int .i64 tabB.orders.head, .int .i64 1, .bool tabB.stopped, .int .i64 tabB.fences, .int .i64 tabB.faults.page, .int .i64 tabB.faults.head, .int .i64 tabB.faults.tail, .bool tabB.lost], .slice (some ⟨g, 0, none⟩) 8 8] w (DrvC w y) := by
  have hS := drv_S
  have hT := drv_T
  have hR := drv_R
  have H := drv_run
  rw [hR] at H
  generalize runS drvX drvL = y at hS H
  generalize runT drvX drvL = ts at hT H
  refine ⟨y, fun M R d1 c g w hm hr hh => (H M R d1 c g w hm hr hh).mono ?_⟩
  rintro e w' ⟨M5, nm, mc, R5, nr, rc, L5, n5, c5, es, TA, tn, tc, SA, sn, sc, rfl, mv, ot, rfl, os, _, hb⟩
  obtain rfl : n5 = 0 := by rw [← mv.hl.len, hS.2]; rfl
  have h1 : 328 < nm := by have := (List.getElem?_eq_some_iff.1 hS.1).1; rw [mv.hm.len] at this; exact this
  obtain ⟨mb, mo, rfl, _, hc⟩ := mv.hm.at_ (by omega)
  obtain ⟨e0, a0, b0⟩ := get_t hT.1
  obtain ⟨e4, a4, b4⟩ := get_t hT.2.1
  obtain ⟨e6, a6, b6⟩ := get_t hT.2.2
  have h6 : 6 < tn := by have := (List.getElem?_eq_some_iff.1 a6).1; rw [ot.1] at this; exact this
  obtain rfl : sn = 8 := os.1.symm
  rcases own_form ot.2.2.2 with ⟨_, h0⟩ | ⟨tb, cap, hv, _⟩
  · omega
  rcases own_form os.2.2.2 with ⟨_, h0⟩ | ⟨sb, cap', hv', _, _, _, hlt⟩
  · omega
  injection hv with hv _ _
  injection hv' with hv' _ _
  subst hv hv'
  refine ⟨mb, mo, nm, mc, R5, nr, rc, L5, c5, tb, tn, tc, sb, sc, _, rfl, rfl, h1, hc _ _ hS.1, h6, ?_, ?_, ?_, ⟨rfl, by unfold maxLen; omega, fun _ => ⟨sb, 0, rfl, hlt, fun k v hk => ?_⟩⟩, hb⟩
  · refine (ot.2.2.2.cellAt 0 (by omega)).trans ((elcells_at es 0 e0 0 a0 (by omega)).trans ?_)
    simp [Tle.vals, b0]
  · refine (ot.2.2.2.cellAt 16 (by omega)).trans ((elcells_at es 4 e4 0 a4 (by omega)).trans ?_)
    simp [Tle.vals, b4]
  · refine (ot.2.2.2.cellAt 26 (by omega)).trans ((elcells_at es 6 e6 2 a6 (by omega)).trans ?_)
    simp [Tle.vals, b6]
  · have hk8 : k < 8 := (List.getElem?_eq_some_iff.1 hk).1
    have := os.2.2.2.cellAt k (by omega)
    rw [Nat.zero_add, this]; exact hk
end
end Go.Proofs.Ytbopdijnojaaiad
