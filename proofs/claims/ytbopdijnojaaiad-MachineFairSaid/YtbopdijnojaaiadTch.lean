/- Slices of touches in memory, and the library's Equal at them. No statement of the seat is proved here. -/
import Derived.Test.YtbopdijnojaaiadSlices
import Derived.Test.YtbopdijnojaaiadDmaP
namespace Go.Proofs.Ytbopdijnojaaiad
open Go.RowKit
set_option linter.unusedSimpArgs false
set_option linter.unusedVariables false

def tcells (ls : List Tch) : List Value := ls.flatMap Tch.vals
theorem tcells_len : ∀ ls : List Tch, (tcells ls).length = ls.length * 5
  | [] => rfl
  | x :: r => by unfold tcells; rw [List.flatMap_cons, List.length_append]; have := tcells_len r; unfold tcells at this; rw [this]; simp [Tch.vals]; omega
theorem tcells_at : ∀ (ls : List Tch) (k : Nat) (x : Tch) (j : Nat), ls[k]? = some x → j < 5 → (tcells ls)[k * 5 + j]? = x.vals[j]?
  | [], k, x, j, h, _ => by simp at h
  | y :: r, 0, x, j, h, hj => by
    simp at h; subst h
    unfold tcells
    rw [List.flatMap_cons, List.getElem?_append_left (by simp [Tch.vals]; omega)]
    simp
  | y :: r, k + 1, x, j, h, hj => by
    simp at h
    unfold tcells
    rw [List.flatMap_cons, List.getElem?_append_right (by simp [Tch.vals]; omega)]
    have := tcells_at r k x j h hj
    unfold tcells at this
    rw [← this]; congr 1; simp [Tch.vals]; omega
theorem tcells_append (xs ys : List Tch) : tcells (xs ++ ys) = tcells xs ++ tcells ys := by unfold tcells; rw [List.flatMap_append]
/-- A slice of lines that reads as ls. -/
def Tchs (w : World) (B : Nat) (A : Option Addr) (n c : Nat) (ls : List Tch) : Prop :=
  ls.length = n ∧ n ≤ c ∧ c ≤ maxLen ∧ (A = none → c = 0) ∧ Row w B A (tcells ls)
/-- the five cells of a line. -/
def TchAt (w : World) (b o : Nat) (x : Tch) : Prop :=
  w.cell? ⟨b, o, none⟩ = some (.int .i64 x.dev) ∧ w.cell? ⟨b, o + 1, none⟩ = some (.int .i64 x.seen) ∧ w.cell? ⟨b, o + 2, none⟩ = some (.int .i64 x.at_) ∧ w.cell? ⟨b, o + 3, none⟩ = some (.bool x.wr) ∧ w.cell? ⟨b, o + 4, none⟩ = some (.int .i64 x.value)

section
variable {w w' : World} {B B' n c : Nat} {A : Option Addr} {ls : List Tch}
theorem Tchs.len (h : Tchs w B A n c ls) : ls.length = n := h.1
theorem Tchs.cap (h : Tchs w B A n c ls) : n ≤ c ∧ c ≤ 9223372036854775807 := ⟨h.2.1, by have := h.2.2.1; unfold maxLen at this; omega⟩
theorem Tchs.at_ (h : Tchs w B A n c ls) (hn : 0 < n) : ∃ b off, A = some ⟨b, off, none⟩ ∧ b < B ∧ ∀ k x, ls[k]? = some x → TchAt w b (off + k * 5) x := by
  obtain ⟨b, off, e, hb, hc⟩ := h.2.2.2.2 (by rw [tcells_len, h.1]; omega)
  refine ⟨b, off, e, hb, fun k x hx => ?_⟩
  have := fun j hj => tcells_at ls k x j hx hj
  refine ⟨?_, ?_, ?_, ?_, ?_⟩
  · exact hc (k * 5) _ ((this 0 (by omega)).trans rfl)
  · rw [Nat.add_assoc]; exact hc (k * 5 + 1) _ ((this 1 (by omega)).trans rfl)
  · rw [Nat.add_assoc]; exact hc (k * 5 + 2) _ ((this 2 (by omega)).trans rfl)
  · rw [Nat.add_assoc]; exact hc (k * 5 + 3) _ ((this 3 (by omega)).trans rfl)
  · rw [Nat.add_assoc]; exact hc (k * 5 + 4) _ ((this 4 (by omega)).trans rfl)
theorem Tchs.more (h : Tchs w B A n c ls) (hB : B ≤ B') : Tchs w B' A n c ls := ⟨h.1, h.2.1, h.2.2.1, h.2.2.2.1, h.2.2.2.2.more hB⟩
theorem Tchs.below (h : Tchs w B A n c ls) (hb : Below B w w') : Tchs w' B A n c ls := ⟨h.1, h.2.1, h.2.2.1, h.2.2.2.1, h.2.2.2.2.below hb⟩
theorem Tchs.drew (h : Tchs w B A n c ls) : Tchs w.drew B A n c ls := h
theorem Tchs.alloc (h : Tchs w B A n c ls) (hB : B ≤ w.heap.size) (o : Obj) : Tchs (w.alloc o) B A n c ls := ⟨h.1, h.2.1, h.2.2.1, h.2.2.2.1, h.2.2.2.2.alloc hB o⟩
theorem Tchs.setCell (h : Tchs w B A n c ls) {p : Addr} (hB : B ≤ p.block) (u : Value) : Tchs (w.setCell p u) B A n c ls := ⟨h.1, h.2.1, h.2.2.1, h.2.2.2.1, h.2.2.2.2.setCell hB u⟩
theorem tchs_none (w : World) (B : Nat) : Tchs w B none 0 0 [] := ⟨rfl, Nat.le_refl _, Nat.zero_le _, fun _ => rfl, Row.nil_⟩
end
def OwnT (B : Nat) (w' : World) (A : Option Addr) (n c : Nat) (ls : List Tch) : Prop := ls.length = n ∧ n ≤ c ∧ c ≤ maxLen ∧ w'.ownsRow B 48 5 (.slice A n c) n (tcells ls)
section
variable {B B' : Nat} {w w' : World} {A : Option Addr} {n c : Nat} {ls : List Tch}
theorem OwnT.low (h : OwnT B w A n c ls) (hB : B' ≤ B) : OwnT B' w A n c ls := ⟨h.1, h.2.1, h.2.2.1, own_low h.2.2.2 hB⟩
theorem OwnT.set (h : OwnT B w A n c ls) {p : Addr} (hp : p.block < B) (u : Value) : OwnT B (w.setCell p u) A n c ls := ⟨h.1, h.2.1, h.2.2.1, ownsRow_setCell_below h.2.2.2 hp u⟩
theorem OwnT.below (h : OwnT B w A n c ls) (hb : Below w.heap.size w w') : OwnT B w' A n c ls := ⟨h.1, h.2.1, h.2.2.1, own_below h.2.2.2 hb⟩
theorem OwnT.alloc (h : OwnT B w A n c ls) (o : Obj) : OwnT B (w.alloc o) A n c ls := h.below ((Below.refl _ _).alloc (Nat.le_refl _) o)
theorem OwnT.drew (h : OwnT B w A n c ls) : OwnT B w.drew A n c ls := h
theorem OwnT.tchs (h : OwnT B w A n c ls) : Tchs w w.heap.size A n c ls := ⟨h.1, h.2.1, h.2.2.1, (fun e => by
  subst e
  rcases own_form h.2.2.2 with ⟨hv, _⟩ | ⟨g, cap, hv, _⟩
  · injection hv
  · injection hv with e1; cases e1), Row.of_own h.2.2.2⟩
theorem own_tchs_nil (w : World) (B : Nat) : OwnT B w none 0 0 [] := ⟨rfl, Nat.le_refl _, Nat.zero_le _, World.ownsRow_nil _ _ _ _⟩
end
theorem Try.infoTch : (Try.prog.info? 48).map (fun i => (i.zero, i.size, i.bytes)) = some (some (.agg #[.int .i64 0, .int .i64 0, .int .i64 0, .bool false, .int .i64 0]), 5, 40) := by kernel_rfl
theorem tchs_now {w W : World} {A : Option Addr} {n c : Nat} {ls : List Tch} (hx : Tchs w w.heap.size A n c ls) (h : Below w.heap.size w W) : Tchs W W.heap.size A n c ls := (hx.below h).more h.size
end Go.Proofs.Ytbopdijnojaaiad
