/- A slice literal of many cells: its run as a fact, handed to the walk. No statement of the seat is proved here. -/
import Derived.Test.YtbopdijnojaaiadProg
import Derived.Test.YtbopdijnojaaiadBase
namespace Go.Proofs.Ytbopdijnojaaiad
open Go.RowKit
set_option linter.unusedSimpArgs false
set_option linter.unusedVariables false
section
variable {P : Program} {ops : Array Oper} {rest : List Oper} {o : Oper} {a : Act} {w w' : World} {Q : Exit → Act → World → Prop}
theorem wpList_buildS1 (hgd : o.guard = none) (s : Operand) (t : TypeId) (ho : o.op = .buildSlice t 1 #[(0, s)]) (u : Value) (hs : a.eval s = u) (r : Value)
    (hrun : (Instr.buildSlice t 1 #[(0, u)]).run P w = .ok r w') (h : wpList P ops Q rest (a.put o.dst r) w') : wpList P ops Q (o :: rest) a w := by
  refine wpList_plain hgd fun K hK => ?_
  unfold Oper.wp execOp
  simp only [ho, Sem.run_bind, Sem.run_pure, Result.andThen_ok, List.map_toArray, List.map_cons, List.map_nil, hs, hrun]
  exact hK _ _ h
theorem wpList_buildS2 (hgd : o.guard = none) (s x : Operand) (t : TypeId) (ho : o.op = .buildSlice t 2 #[(0, s), (1, x)]) (u v : Value) (hs : a.eval s = u) (hx : a.eval x = v) (r : Value)
    (hrun : (Instr.buildSlice t 2 #[(0, u), (1, v)]).run P w = .ok r w') (h : wpList P ops Q rest (a.put o.dst r) w') : wpList P ops Q (o :: rest) a w := by
  refine wpList_plain hgd fun K hK => ?_
  unfold Oper.wp execOp
  simp only [ho, Sem.run_bind, Sem.run_pure, Result.andThen_ok, List.map_toArray, List.map_cons, List.map_nil, hs, hx, hrun]
  exact hK _ _ h
end
set_option maxRecDepth 100000 in
theorem Try.bs1 {x1 x3 x7 : Option Addr} {xn1 xc1 xn3 xc3 xn7 xc7 : Nat} {x2 x5 x6 x8 x9 xa xd xe xf xg : Int} {x4 xb xh : Bool} (w : World) : (Instr.buildSlice 51 1 #[(0, .agg #[.slice x1 xn1 xc1, .int .i64 x2, .slice x3 xn3 xc3, .bool x4, .int .i64 x5, .int .i64 x6, .slice x7 xn7 xc7, .int .i64 x8, .int .i64 x9, .int .i64 xa, .bool xb, .int .i64 xd, .int .i64 xe, .int .i64 xf, .int .i64 xg, .bool xh])]).run Try.prog w = .ok (.slice (some ⟨w.heap.size, 0, none⟩) 1 1) (w.alloc (.cells #[.slice x1 xn1 xc1, .int .i64 x2, .slice x3 xn3 xc3, .bool x4, .int .i64 x5, .int .i64 x6, .slice x7 xn7 xc7, .int .i64 x8, .int .i64 x9, .int .i64 xa, .bool xb, .int .i64 xd, .int .i64 xe, .int .i64 xf, .int .i64 xg, .bool xh] 33)) := by kernel_rfl
set_option maxRecDepth 100000 in
theorem Try.bs2 {x1 x3 x7 : Option Addr} {xn1 xc1 xn3 xc3 xn7 xc7 : Nat} {x2 x5 x6 x8 x9 xa xd xe xf xg : Int} {x4 xb xh : Bool} {y1 y3 y7 : Option Addr} {yn1 yc1 yn3 yc3 yn7 yc7 : Nat} {y2 y5 y6 y8 y9 ya yd ye yf yg : Int} {y4 yb yh : Bool} (w : World) : (Instr.buildSlice 51 2 #[(0, .agg #[.slice x1 xn1 xc1, .int .i64 x2, .slice x3 xn3 xc3, .bool x4, .int .i64 x5, .int .i64 x6, .slice x7 xn7 xc7, .int .i64 x8, .int .i64 x9, .int .i64 xa, .bool xb, .int .i64 xd, .int .i64 xe, .int .i64 xf, .int .i64 xg, .bool xh]), (1, .agg #[.slice y1 yn1 yc1, .int .i64 y2, .slice y3 yn3 yc3, .bool y4, .int .i64 y5, .int .i64 y6, .slice y7 yn7 yc7, .int .i64 y8, .int .i64 y9, .int .i64 ya, .bool yb, .int .i64 yd, .int .i64 ye, .int .i64 yf, .int .i64 yg, .bool yh])]).run Try.prog w = .ok (.slice (some ⟨w.heap.size, 0, none⟩) 2 2) (w.alloc (.cells #[.slice x1 xn1 xc1, .int .i64 x2, .slice x3 xn3 xc3, .bool x4, .int .i64 x5, .int .i64 x6, .slice x7 xn7 xc7, .int .i64 x8, .int .i64 x9, .int .i64 xa, .bool xb, .int .i64 xd, .int .i64 xe, .int .i64 xf, .int .i64 xg, .bool xh, .slice y1 yn1 yc1, .int .i64 y2, .slice y3 yn3 yc3, .bool y4, .int .i64 y5, .int .i64 y6, .slice y7 yn7 yc7, .int .i64 y8, .int .i64 y9, .int .i64 ya, .bool yb, .int .i64 yd, .int .i64 ye, .int .i64 yf, .int .i64 yg, .bool yh] 33)) := by kernel_rfl
end Go.Proofs.Ytbopdijnojaaiad
