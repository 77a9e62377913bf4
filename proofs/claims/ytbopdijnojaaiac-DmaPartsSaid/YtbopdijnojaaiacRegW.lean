/- Steps of regions that draw their order: whole blocks loaded, made, stored; calls. No statement of the seat is proved here. -/
import Derived.Test.YtbopdijnojaaiacWh2
import Derived.Deep.RegionHeld3
import Derived.Deep.MidRow
namespace Go.Proofs.Ytbopdijnojaaiac
open Go.RowKit
set_option linter.unusedSimpArgs false
set_option linter.unusedVariables false
theorem take_atR {P : Program} {ops : Array Oper} {Q : Exit → Act → World → Prop} {md : Region.Mode} {S : World → Prop} {i : Nat} {d : Tmp} {oi : Oper} {v : Value} {fuel : Nat} {listed : Array Bool} {a : Act} {w : World} (hi : ops[i]? = some oi) (hd : oi.dst = some d)
    (hs : Region.noSelect ops = true) (hf : Region.free md ops listed i = true) (hr : (Region.ready md ops listed).contains i = true)
    (hQ : ∀ c a w, Q (.panic c) (a.put oi.dst v) w → Q (.panic c) a w) (hy : YieldsIf P ops S oi v a) (hS : S w)
    (h : wpAnyH P md ops Q S fuel (listed.setIfInBounds i true) (a.put (some d) v) w) : wpAnyH P md ops Q S (fuel + 1) listed a w := by
  rw [← hd] at h
  exact wpAnyH_take hi hs hf hr hQ hy hS h
theorem yld_whl {P : Program} {S : World → Prop} {op : Oper} {a : Act} (ty : TypeId) (x : Operand) (g : Nat) (t : TypeId) (cs : Array Value) (ho : op.op = .load ty x) (hx : a.eval x = .pointer (some ⟨g, 0, none⟩)) (hS : ∀ W, S W → Whl W g t cs) (d : TypeDesc) (hu : P.underlying ty = some d) (hd : d.isRow = true) (hi : (P.info? ty).map (·.size) = some cs.size) :
    ∀ W, S W → (execOp a.eval op).run P W = .ok (.value (.agg cs)) W := fun W hW => by
  have h1 : W.rangeAt g 0 cs.toList := fun j v hv => by
    rw [whl_cell (hS W hW), Nat.zero_add]; simpa using hv
  have h2 := run_loadVar_mid (P := P) W g 0 ty cs.toList d h1 hu hd (by rw [hi, Array.length_toList])
  rw [Array.toArray_toList] at h2
  unfold execOp
  simp only [ho, hx, Instr.loadAt, Instr.sureAddr, Sem.run_bind, Sem.run_pure, Result.andThen_ok, h2]
theorem wp_storeR {P : Program} {o : Oper} {a : Act} {w : World} {K : Act → World → Prop} {Q : Exit → Act → World → Prop} (ty : TypeId) (x y : Operand) (ho : o.op = .store ty x y) (g : Nat) (t : TypeId) (old cells : Array Value) (hx : a.eval x = .pointer (some ⟨g, 0, none⟩)) (hy : a.eval y = .agg cells) (hg : Whl w g t old)
    (hi : (P.info? ty).map (·.size) = some cells.size) (hold : old.size = cells.size) (h1 : cells.toList.all (·.oneCell') = true) (hn : setL old 0 cells.toList = cells) (hd : o.dst = none) (h : ∀ w', Whl w' g t cells → Trn g w w' → K a w') : Oper.wp P o a w K Q :=
  wp_store_mid ty x y ho g 0 cells hx hy (whl_there hg (by omega)) hi (by rw [← Array.all_toList]; exact h1) (by rw [hd]; exact h _ (by have h2 := whl_cells cells.toList 0 w old hg; rw [hn] at h2; exact h2) (trn_cells cells.toList 0 w (whl_lt hg)))
end Go.Proofs.Ytbopdijnojaaiac
