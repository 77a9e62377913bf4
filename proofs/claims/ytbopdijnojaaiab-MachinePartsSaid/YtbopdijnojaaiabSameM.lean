/- Machines held against one another, by the program and the document. No statement of the seat is proved here. -/
import Derived.Test.YtbopdijnojaaiabWh2
import Derived.Test.YtbopdijnojaaiabHart1
import Derived.Test.YtbopdijnojaaiabRefB
import Derived.Test.YtbopdijnojaaiabMem
namespace Go.Proofs.Ytbopdijnojaaiab
open Go.RowKit
set_option linter.unusedSimpArgs false
set_option linter.unusedVariables false
attribute [local go_sem ↓] Go.wp_at_zero Go.wp_at_succ
set_option maxRecDepth 100000 in
set_option maxHeartbeats 4000000 in
theorem machine_Same (a b : Mch) (M R L M' R' L' : Option Addr) (nm mc nr rc n c nm' mc' nr' rc' n' c' : Nat) (w : World) (h1 : Ints w w.heap.size M nm a.m) (h2 : Ints w w.heap.size R nr a.h.regs) (h3 : Lines w w.heap.size L n c a.b.cache) (g1 : Ints w w.heap.size M' nm' b.m) (g2 : Ints w w.heap.size R' nr' b.h.regs) (g3 : Lines w w.heap.size L' n' c' b.b.cache) :
    Calls Try.prog 39 #[.agg #[.slice M nm mc, .int .i64 a.h.at_, .slice R nr rc, .bool a.h.done, .int .i64 a.b.mode, .int .i64 a.b.base, .slice L n c, .int .i64 a.b.orders.page, .int .i64 a.b.orders.head, .int .i64 a.b.orders.tail, .bool a.b.stopped, .int .i64 a.b.fences, .int .i64 a.b.faults.page, .int .i64 a.b.faults.head, .int .i64 a.b.faults.tail, .bool a.b.lost], .agg #[.slice M' nm' mc', .int .i64 b.h.at_, .slice R' nr' rc', .bool b.h.done, .int .i64 b.b.mode, .int .i64 b.b.base, .slice L' n' c', .int .i64 b.b.orders.page, .int .i64 b.b.orders.head, .int .i64 b.b.orders.tail, .bool b.b.stopped, .int .i64 b.b.fences, .int .i64 b.b.faults.page, .int .i64 b.b.faults.head, .int .i64 b.b.faults.tail, .bool b.b.lost]] w fun e w' => e = .returned (.bool (sameM a b)) ∧ Below w.heap.size w w' := by
  have HS := Lib.hid (sameM_and a b)
  have IM := Lib.hid h1
  have IR := Lib.hid h2
  have IL := Lib.hid h3
  have JM := Lib.hid g1
  have JR := Lib.hid g2
  have JL := Lib.hid g3
  clear h1 h2 h3 g1 g2 g3
  go_enter Try.func39, Try.ntmps39
  go_upto_region 1 with (fail)
  generalize hw0 : (w.alloc (.cells #[.slice M nm mc, .int .i64 a.h.at_, .slice R nr rc, .bool a.h.done, .int .i64 a.b.mode, .int .i64 a.b.base, .slice L n c, .int .i64 a.b.orders.page, .int .i64 a.b.orders.head, .int .i64 a.b.orders.tail, .bool a.b.stopped, .int .i64 a.b.fences, .int .i64 a.b.faults.page, .int .i64 a.b.faults.head, .int .i64 a.b.faults.tail, .bool a.b.lost] 57)).alloc (.cells #[.slice M' nm' mc', .int .i64 b.h.at_, .slice R' nr' rc', .bool b.h.done, .int .i64 b.b.mode, .int .i64 b.b.base, .slice L' n' c', .int .i64 b.b.orders.page, .int .i64 b.b.orders.head, .int .i64 b.b.orders.tail, .bool b.b.stopped, .int .i64 b.b.fences, .int .i64 b.b.faults.page, .int .i64 b.b.faults.head, .int .i64 b.b.faults.tail, .bool b.b.lost] 57) = w0
  have H2 := Lib.hid (show Whl w0 w.heap.size 57 #[.slice M nm mc, .int .i64 a.h.at_, .slice R nr rc, .bool a.h.done, .int .i64 a.b.mode, .int .i64 a.b.base, .slice L n c, .int .i64 a.b.orders.page, .int .i64 a.b.orders.head, .int .i64 a.b.orders.tail, .bool a.b.stopped, .int .i64 a.b.fences, .int .i64 a.b.faults.page, .int .i64 a.b.faults.head, .int .i64 a.b.faults.tail, .bool a.b.lost] by rw [← hw0]; exact whl_alloc (whl_new _ _ _ rfl) _)
  have H3 := Lib.hid (show Whl w0 (w.heap.size + 1) 57 #[.slice M' nm' mc', .int .i64 b.h.at_, .slice R' nr' rc', .bool b.h.done, .int .i64 b.b.mode, .int .i64 b.b.base, .slice L' n' c', .int .i64 b.b.orders.page, .int .i64 b.b.orders.head, .int .i64 b.b.orders.tail, .bool b.b.stopped, .int .i64 b.b.fences, .int .i64 b.b.faults.page, .int .i64 b.b.faults.head, .int .i64 b.b.faults.tail, .bool b.b.lost] by rw [← hw0]; exact whl_new _ _ _ (by simp))
  have hb : Below w.heap.size w w0 := by rw [← hw0]; (repeat (first | (with_reducible exact Below.refl _ _) | (with_reducible refine Below.drew ?_) | (with_reducible refine bdrewN ?_ _) | ((with_reducible refine Below.setCell ?_ ?_ _); rotate_left; exact (by first | (simp; done) | (simp; omega) | omega)) | ((with_reducible refine Below.alloc ?_ ?_ _); rotate_left; exact (by first | (simp; done) | (simp; omega) | omega))))
  have HB := Lib.hid hb
  replace IM := Lib.hid (ints_now IM.out hb)
  replace IR := Lib.hid (ints_now IR.out hb)
  replace IL := Lib.hid (lines_now IL.out hb)
  replace JM := Lib.hid (ints_now JM.out hb)
  replace JR := Lib.hid (ints_now JR.out hb)
  replace JL := Lib.hid (lines_now JL.out hb)
  clear hw0 hb
  have k2 := fun o => whl_cell H2.out o
  have k3 := fun o => whl_cell H3.out o
  by_cases e1 : a.m = b.m
  rotate_left
  · have HQ := Lib.hid (show eqI a.m b.m = false by simp [eqI, e1])
    have HR := Lib.hid (show false = sameM a b by rw [HS.out]; simp [e1])
    clear e1
    go_wp2_with fail
    refine (mem_Same _ _ _ _ _ _ a.m b.m _ IM.out JM.out).mono ?_
    rw [HQ.out]
    rintro e w1 ⟨rfl, hb⟩
    replace HB := Lib.hid (HB.out.trans (hb.mono HB.out.size))
    clear hb
    go_wp2
    go_ret
    exact ⟨ret_bool HR.out, HB.out⟩
  have HQ := Lib.hid (show eqI a.m b.m = true by simp [eqI, e1])
  have HE1 := Lib.hid e1
  clear e1
  go_wp2_with fail
  refine (mem_Same _ _ _ _ _ _ a.m b.m _ IM.out JM.out).mono ?_
  rw [HQ.out]
  rintro e w1 ⟨rfl, hb⟩
  replace H2 := Lib.hid (whl_since H2.out hb)
  replace H3 := Lib.hid (whl_since H3.out hb)
  replace HB := Lib.hid (HB.out.trans (hb.mono HB.out.size))
  replace IM := Lib.hid (ints_now IM.out hb)
  replace IR := Lib.hid (ints_now IR.out hb)
  replace IL := Lib.hid (lines_now IL.out hb)
  replace JM := Lib.hid (ints_now JM.out hb)
  replace JR := Lib.hid (ints_now JR.out hb)
  replace JL := Lib.hid (lines_now JL.out hb)
  clear hb k2 k3
  have k2 := fun o => whl_cell H2.out o
  have k3 := fun o => whl_cell H3.out o
  cases e2 : sameH a.h b.h with
  | false =>
    have HQ2 := Lib.hid e2
    have HR := Lib.hid (show false = sameM a b by rw [HS.out, HQ2.out]; simp)
    clear e2
    go_wp2_with fail
    refine (hart_Same a.h b.h R R' nr rc nr' rc' _ IR.out JR.out).mono ?_
    rw [HQ2.out]
    rintro e w2 ⟨rfl, hb⟩
    replace HB := Lib.hid (HB.out.trans (hb.mono HB.out.size))
    clear hb
    go_wp2
    go_ret
    exact ⟨ret_bool HR.out, HB.out⟩
  | true =>
    have HQ2 := Lib.hid e2
    have HR := Lib.hid (show sameB a.b b.b = sameM a b by rw [HS.out, HQ2.out, decide_eq_true HE1.out]; simp)
    clear e2
    go_wp2_with fail
    refine (hart_Same a.h b.h R R' nr rc nr' rc' _ IR.out JR.out).mono ?_
    rw [HQ2.out]
    rintro e w2 ⟨rfl, hb⟩
    replace H2 := Lib.hid (whl_since H2.out hb)
    replace H3 := Lib.hid (whl_since H3.out hb)
    replace HB := Lib.hid (HB.out.trans (hb.mono HB.out.size))
    replace IM := Lib.hid (ints_now IM.out hb)
    replace IR := Lib.hid (ints_now IR.out hb)
    replace IL := Lib.hid (lines_now IL.out hb)
    replace JM := Lib.hid (ints_now JM.out hb)
    replace JR := Lib.hid (ints_now JR.out hb)
    replace JL := Lib.hid (lines_now JL.out hb)
    clear hb k2 k3
    have k2 := fun o => whl_cell H2.out o
    have k3 := fun o => whl_cell H3.out o
    go_wp2_with fail
    refine (bridge_Same a.b b.b L L' n c n' c' _ IL.out JL.out).mono ?_
    rw [HR.out]
    rintro e w3 ⟨rfl, hb⟩
    replace HB := Lib.hid (HB.out.trans (hb.mono HB.out.size))
    clear hb
    go_wp2
    go_ret
    exact ⟨rfl, HB.out⟩
end Go.Proofs.Ytbopdijnojaaiab
