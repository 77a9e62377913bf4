/- The devices: what the program's Do answers, at whatever it is asked. No statement of the seat is proved here. -/
import Derived.Test.YtbopdijnojaaiacDmaE
import Derived.Test.YtbopdijnojaaiacDmaN
namespace Go.Proofs.Ytbopdijnojaaiac
open Go.RowKit
set_option linter.unusedSimpArgs false
set_option linter.unusedVariables false
section
variable (xs : List Int) (m : Option Addr) (nm mc : Nat) (b : Brg) (A0 : Option Addr) (n0 c0 : Nat) (AD : Option Addr) (nd cd : Nat) (w : World) (hx : Ints w w.heap.size m nm xs) (hl : Lines w w.heap.size A0 n0 c0 b.cache)
theorem do_ok (m : Option Addr) (hx : Ints w w.heap.size m 512 xs) (hl : Lines w w.heap.size A0 n0 c0 b.cache) (h0 : cm xs = 0) (hb : ckB b = 0) (dv at_ ct : Int) (wr : Bool) (data : List Int) (hd : Ints w w.heap.size AD nd data) (hq : reqE ⟨dv, at_, ct, wr, data⟩ = 0) (R : List Int × Brg × Tld) (hR : dmaM xs b ⟨dv, at_, ct, wr, data⟩ = R) :
    Calls Try.prog 30 #[.agg #[.slice m 512 mc], .agg #[.int .i64 b.mode, .int .i64 b.base, .slice A0 n0 c0, .int .i64 b.orders.page, .int .i64 b.orders.head, .int .i64 b.orders.tail, .bool b.stopped, .int .i64 b.fences, .int .i64 b.faults.page, .int .i64 b.faults.head, .int .i64 b.faults.tail, .bool b.lost], .agg #[.int .i64 dv, .int .i64 at_, .int .i64 ct, .bool wr, .slice AD nd cd]] w (DoC w 512 R 0) := by
  cases wr with
  | true => exact do_w xs m mc b A0 n0 c0 dv at_ ct data AD nd cd w hx hl hd h0 hb hq R hR
  | false => exact do_r xs m mc b A0 n0 c0 dv at_ ct data AD nd cd w hx hl hd h0 hb hq R hR
include hx hl in
theorem dma_ans (a : Ask) (hd : Ints w w.heap.size AD nd a.data) (R : List Int × Brg × Tld) (E : Int) (hR : dmaA xs b a = R) (hE : dmaE xs b a = E) :
    Calls Try.prog 30 #[.agg #[.slice m nm mc], .agg #[.int .i64 b.mode, .int .i64 b.base, .slice A0 n0 c0, .int .i64 b.orders.page, .int .i64 b.orders.head, .int .i64 b.orders.tail, .bool b.stopped, .int .i64 b.fences, .int .i64 b.faults.page, .int .i64 b.faults.head, .int .i64 b.faults.tail, .bool b.lost], .agg #[.int .i64 a.dev, .int .i64 a.at_, .int .i64 a.count, .bool a.wr, .slice AD nd cd]] w (DoC w (if E = 0 then 512 else 0) R E) := by
  subst hE
  by_cases h0 : cm xs = 0
  · have hn : nm = 512 := by rw [← hx.len]; exact (cm_inv h0).1
    subst hn
    by_cases hb : ckB b = 0
    · have e : dmaE xs b a = reqE a := by unfold dmaE; rw [if_pos h0, if_pos hb]
      by_cases hq : reqE a = 0
      · rw [e, hq, if_pos rfl]
        unfold dmaA at hR
        rw [if_pos (by rw [e]; exact hq)] at hR
        exact do_ok xs mc b A0 n0 c0 AD nd cd w m hx hl h0 hb a.dev a.at_ a.count a.wr a.data hd hq R hR
      · unfold dmaA at hR
        rw [if_neg (by rw [e]; exact hq)] at hR
        subst hR
        rw [e, if_neg hq]
        exact do_no3 xs m 512 mc b A0 n0 c0 a AD nd cd w hx hl hd h0 hb hq
    · have e : dmaE xs b a = ckB b := by unfold dmaE; rw [if_pos h0, if_neg hb]
      unfold dmaA at hR
      rw [if_neg (by rw [e]; exact hb)] at hR
      subst hR
      rw [e, if_neg hb]
      exact do_no2 xs m 512 mc b A0 n0 c0 a AD nd cd w hx hl h0 hb
  · have e : dmaE xs b a = cm xs := by unfold dmaE; rw [if_neg h0]
    unfold dmaA at hR
    rw [if_neg (by rw [e]; exact h0)] at hR
    subst hR
    rw [e, if_neg h0]
    exact do_no1 xs m nm mc b A0 n0 c0 a AD nd cd w hx h0
include hx hl in
theorem dma_ok0 (a : Ask) (hd : Ints w w.heap.size AD nd a.data) (R : List Int × Brg × Tld) (hR : dmaA xs b a = R) (hE : dmaE xs b a = 0) :
    Calls Try.prog 30 #[.agg #[.slice m nm mc], .agg #[.int .i64 b.mode, .int .i64 b.base, .slice A0 n0 c0, .int .i64 b.orders.page, .int .i64 b.orders.head, .int .i64 b.orders.tail, .bool b.stopped, .int .i64 b.fences, .int .i64 b.faults.page, .int .i64 b.faults.head, .int .i64 b.faults.tail, .bool b.lost], .agg #[.int .i64 a.dev, .int .i64 a.at_, .int .i64 a.count, .bool a.wr, .slice AD nd cd]] w (DoC w 512 R 0) := by
  have h := dma_ans xs m nm mc b A0 n0 c0 AD nd cd w hx hl a hd R 0 hR hE
  rw [if_pos rfl] at h
  exact h
end
end Go.Proofs.Ytbopdijnojaaiac
