/- Blocks that are known whole, the worlds left opaque: stores and loads of parts, and a machine's rows. No statement of the seat is proved here. -/
import Derived.Test.YtbopdijnojaaiacWhole
import Derived.Test.YtbopdijnojaaiacDmaI
import Derived.Great.BuildSlice
namespace Go.Proofs.Ytbopdijnojaaiac
open Go.RowKit
set_option linter.unusedSimpArgs false
set_option linter.unusedVariables false

theorem Try.sizeMem : (Try.prog.info? 30).map (·.size) = some 1 := by kernel_rfl
theorem Try.sizeBrg : (Try.prog.info? 37).map (·.size) = some 12 := by kernel_rfl
theorem Try.sizeAsk : (Try.prog.info? 62).map (·.size) = some 5 := by kernel_rfl
theorem Try.sizeTold : (Try.prog.info? 65).map (·.size) = some 4 := by kernel_rfl
theorem Try.sizeInt : (Try.prog.info? 3).map (·.size) = some 1 := by kernel_rfl
/-- block g has turned, nothing else. -/
def Trn (g : Nat) (w w' : World) : Prop := Chg (fun q => q = g) w w' ∧ w'.heap.size = w.heap.size
section
variable {w w' W : World} {g g' B : Nat} {t : TypeId} {cs : Array Value}
theorem Trn.size (h : Trn g w w') : w'.heap.size = w.heap.size := h.2
theorem trn_block (h : Trn g w w') {q : Nat} (hq : q < w.heap.size) (hn : q ≠ g) : w'.heap[q]? = w.heap[q]? := h.1.2 q hq hn
theorem whl_trn (h : Whl w g' t cs) (ht : Trn g w w') (hn : g' ≠ g) : Whl w' g' t cs := (trn_block ht (whl_lt h) hn).trans h
theorem below_trn (h : Below B W w) (hB : B ≤ w.heap.size) (ht : Trn g w w') (hg : B ≤ g) : Below B W w' := chg_below h hB ht.1 (fun q hq e => by omega)
theorem below_chg {P : Nat → Prop} (h : Below B W w) (hB : B ≤ w.heap.size) (hC : Chg P w w') (hP : ∀ q, q < B → ¬ P q) : Below B W w' := chg_below h hB hC hP
theorem trn_set (hs : g < w.heap.size) (o : Nat) (u : Value) : Trn g w (w.setCell ⟨g, o, none⟩ u) := ⟨chg_set (P := fun q => q = g) (chg_refl w) (p := ⟨g, o, none⟩) (Or.inl rfl) u, by simp⟩
theorem trn_cells : ∀ (vs : List Value) (o : Nat) (w : World), g < w.heap.size → Trn g w (w.setCells g o vs)
  | [], _, w, _ => ⟨chg_refl w, rfl⟩
  | v :: r, o, w, h => by
    have h1 := trn_set (w := w) (g := g) h o v
    have h2 := trn_cells r (o + 1) (w.setCell ⟨g, o, none⟩ v) (by simpa using h)
    rw [World.setCells]
    exact ⟨chg_trans h1.1 h2.1, h2.2.trans h1.2⟩
theorem trn_row {cells : Array Value} (h : Whl w g t cs) : Trn g w (w.setRow g cells) := by
  refine ⟨⟨?_, fun q hq hn => setRow_other w g q cells hn⟩, by simp [World.setRow]⟩
  exact ⟨rfl, rfl, rfl, by simp [World.setRow], fun k hk => absurd hk (Nat.not_lt_zero k)⟩
/-- some cells of a row are new. -/
def setL : Array Value → Nat → List Value → Array Value
  | cs, _, [] => cs
  | cs, o, v :: r => setL (cs.setIfInBounds o v) (o + 1) r
theorem whl_cells : ∀ (vs : List Value) (o : Nat) (w : World) (cs : Array Value), Whl w g t cs → Whl (w.setCells g o vs) g t (setL cs o vs)
  | [], _, _, _, h => h
  | v :: r, o, w, cs, h => by
    rw [World.setCells]
    exact whl_cells r (o + 1) _ _ (whl_field h o v _ rfl)
theorem whl_there (h : Whl w g t cs) {o n : Nat} (hn : o + n ≤ cs.size) : w.there g o n := fun j hj =>
  ⟨by rw [whl_cell h]; simp; omega, whl_frozen h _⟩
end
section
variable {P : Program} {ops : Array Oper} {rest : List Oper} {o : Oper} {a : Act} {w : World} {Q : Exit → Act → World → Prop}
theorem wpList_store_all (hgd : o.guard = none) (ty : TypeId) (x y : Operand) (ho : o.op = .store ty x y) (g : Nat) (t : TypeId) (old cells : Array Value) (hx : a.eval x = .pointer (some ⟨g, 0, none⟩)) (hy : a.eval y = .agg cells) (hg : Whl w g t old)
    (hi : (P.info? ty).map (·.size) = some cells.size) (hold : old.size = cells.size) (h1 : cells.toList.all (·.oneCell') = true)
    (h : ∀ w', Whl w' g t cells → Trn g w w' → wpList P ops Q rest (a.put o.dst undef) w') : wpList P ops Q (o :: rest) a w :=
  wpList_store_whl hgd ty x y ho g t old cells hx hy hg hi hold (by rw [← Array.all_toList]; exact h1) (h _ (whl_same hg cells) (trn_row hg))
end
theorem run_whl {P : Program} {w : World} {g : Nat} {t ty : TypeId} {cs : Array Value} (h : Whl w g t cs) (d : TypeDesc) (hu : P.underlying ty = some d) (hd : (match d with | .struct _ | .array _ _ => true | _ => false) = true) (hi : (P.info? ty).map (·.size) = some cs.size) : (loadVar ty ⟨g, 0, none⟩).run P w = .ok (.agg cs) w := run_loadVar_row w g t ty cs (0, 0) d h hu hd hi
/-- a slice's row lies in blocks of Av. -/
def RowIn (Av : Nat → Prop) (A : Option Addr) (n : Nat) : Prop := 0 < n → ∀ ad, A = some ad → Av ad.block
section
variable {P Av Av' : Nat → Prop} {w w' : World} {A : Option Addr} {n c k : Nat}
theorem RowIn.mono (h : RowIn Av A n) (ha : ∀ q, Av q → Av' q) : RowIn Av' A n := fun h0 ad e => ha _ (h h0 ad e)
theorem rowIn_ints {xs : List Int} (h : Ints w w.heap.size A n xs) : RowIn (fun q => q < w.heap.size) A n := fun h0 ad e => by
  obtain ⟨b, off, e', hb, _⟩ := h.2.2 (by rw [List.length_map, h.1]; exact h0)
  rw [e] at e'; injection e' with e'; subst e'; exact hb
theorem rowIn_lines {ls : List Line} (h : Lines w w.heap.size A n c ls) : RowIn (fun q => q < w.heap.size) A n := fun h0 ad e => by
  obtain ⟨b, off, e', hb, _⟩ := h.at_ h0
  rw [e] at e'; injection e' with e'; subst e'; exact hb
theorem rowIn_tchs {ts : List Tch} (h : Tchs w w.heap.size A n c ts) : RowIn (fun q => q < w.heap.size) A n := fun h0 ad e => by
  obtain ⟨b, off, e', hb, _⟩ := h.at_ h0
  rw [e] at e'; injection e' with e'; subst e'; exact hb
theorem chg_ints0 {ys : List Int} (hx : Ints w w.heap.size A k ys) (h : Chg P w w') (hA : RowIn Av A k) (hn : ∀ q, P q → ¬ Av q) : Ints w' w'.heap.size A k ys := by
  by_cases h0 : 0 < k
  · exact chg_ints hx h (fun ad e hp => hn _ hp (hA h0 ad e))
  · exact ⟨hx.1, hx.2.1, fun hh => by rw [List.length_map, hx.1] at hh; omega⟩
theorem chg_lines0 {ls : List Line} (hx : Lines w w.heap.size A n c ls) (h : Chg P w w') (hA : RowIn Av A n) (hn : ∀ q, P q → ¬ Av q) : Lines w' w'.heap.size A n c ls :=
  chg_lines hx h (fun h0 ad e hp => hn _ hp (hA h0 ad e))
theorem chg_tchs0 {ts : List Tch} (hx : Tchs w w.heap.size A n c ts) (h : Chg P w w') (hA : RowIn Av A n) (hn : ∀ q, P q → ¬ Av q) : Tchs w' w'.heap.size A n c ts := by
  by_cases h0 : 0 < n
  · exact chg_tchs hx h (fun ad e hp => hn _ hp (hA h0 ad e))
  · obtain ⟨h1, h2, h3, h4, _⟩ := hx
    refine ⟨h1, h2, h3, h4, fun hh => ?_⟩
    exfalso
    have : n = 0 := by omega
    rw [this] at h1
    have : ts = [] := List.eq_nil_of_length_eq_zero h1
    subst this
    simp [tcells] at hh
end
/-- the rows of a machine, in blocks of Av. -/
structure MachV (w : World) (Av : Nat → Prop) (x : Mch) (M : Option Addr) (nm : Nat) (R : Option Addr) (nr : Nat) (L : Option Addr) (n c : Nat) : Prop where
  hm : Ints w w.heap.size M nm x.m
  hr : Ints w w.heap.size R nr x.h.regs
  hl : Lines w w.heap.size L n c x.b.cache
  am : RowIn Av M nm
  ar : RowIn Av R nr
  al : RowIn Av L n
section
variable {w w' : World} {Av Av' P : Nat → Prop} {x : Mch} {M R L : Option Addr} {nm nr n c : Nat}
theorem MachV.since (h : MachV w Av x M nm R nr L n c) (hs : Below w.heap.size w w') : MachV w' Av x M nm R nr L n c := ⟨ints_now h.hm hs, ints_now h.hr hs, lines_now h.hl hs, h.am, h.ar, h.al⟩
theorem MachV.chg (h : MachV w Av x M nm R nr L n c) (hC : Chg P w w') (hP : ∀ q, P q → ¬ Av q) : MachV w' Av x M nm R nr L n c :=
  ⟨chg_ints0 h.hm hC h.am hP, chg_ints0 h.hr hC h.ar hP, chg_lines0 h.hl hC h.al hP, h.am, h.ar, h.al⟩
end
/-- the rows of what is told. -/
structure TldV (w : World) (Av : Nat → Prop) (t : Tld) (D : Option Addr) (dn : Nat) (T : Option Addr) (tn tc : Nat) : Prop where
  hd : Ints w w.heap.size D dn t.data
  ht : Tchs w w.heap.size T tn tc t.touched
  ad : RowIn Av D dn
  at_ : RowIn Av T tn
section
variable {w w' : World} {Av Av' P : Nat → Prop} {t : Tld} {D T : Option Addr} {dn tn tc : Nat}
theorem TldV.since (h : TldV w Av t D dn T tn tc) (hs : Below w.heap.size w w') : TldV w' Av t D dn T tn tc := ⟨ints_now h.hd hs, tchs_now h.ht hs, h.ad, h.at_⟩
theorem TldV.chg (h : TldV w Av t D dn T tn tc) (hC : Chg P w w') (hP : ∀ q, P q → ¬ Av q) : TldV w' Av t D dn T tn tc := ⟨chg_ints0 h.hd hC h.ad hP, chg_tchs0 h.ht hC h.at_ hP, h.ad, h.at_⟩
end
end Go.Proofs.Ytbopdijnojaaiac
