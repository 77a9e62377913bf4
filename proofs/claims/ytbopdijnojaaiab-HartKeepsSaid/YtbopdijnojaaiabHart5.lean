/- The hart: what an instruction leaves in memory (laws), for the walk of does. No statement of the seat is proved here. -/
import Derived.Test.YtbopdijnojaaiabHart4
import Derived.Test.YtbopdijnojaaiabHart2
import Derived.Test.YtbopdijnojaaiabMemX
namespace Go.Proofs.Ytbopdijnojaaiab
open Go.RowKit
set_option linter.unusedSimpArgs false
set_option linter.unusedVariables false

/-- memory, a hart, a bridge in boxes of their own. -/
structure Crd (w : World) (gm gh gb : Nat) (M : Option Addr) (mc : Nat) (R : Option Addr) (rc : Nat) (L : Option Addr) (n c : Nat) (xs : List Int) (h : Hrt) (b : Brg) : Prop where
  m0 : w.cell? ⟨gm, 0, none⟩ = some (.slice M 512 mc)
  h0 : w.cell? ⟨gh, 0, none⟩ = some (.int .i64 h.at_)
  h1 : w.cell? ⟨gh, 1, none⟩ = some (.slice R 8 rc)
  h2 : w.cell? ⟨gh, 2, none⟩ = some (.bool h.done)
  b0 : BrgAt w gb b L n c
  im : Ints w w.heap.size M 512 xs
  ir : Ints w w.heap.size R 8 h.regs
  lb : Lines w w.heap.size L n c b.cache
/-- slices apart. -/
def Apt (A A' : Option Addr) : Prop := ∀ ad ad', A = some ad → A' = some ad' → ad.block ≠ ad'.block
/-- a slice apart from a block. -/
def Far (A : Option Addr) (g : Nat) : Prop := ∀ ad, A = some ad → ad.block ≠ g
structure Sep (gm gh gb : Nat) (M R L : Option Addr) : Prop where
  mh : gm ≠ gh
  mb : gm ≠ gb
  hb : gh ≠ gb
  m1 : Far M gm
  m2 : Far M gh
  m3 : Far M gb
  r1 : Far R gm
  r2 : Far R gh
  r3 : Far R gb
  l1 : Far L gm
  l2 : Far L gh
  l3 : Far L gb
  mr : Apt M R
  lm : Apt L M
  lr : Apt L R
section
variable {w w' : World} {gm gh gb g : Nat} {M R L : Option Addr} {mc rc n c : Nat} {xs : List Int} {h : Hrt} {b : Brg}
theorem ints_only {k : Nat} {A : Option Addr} {ys : List Int} (hx : Ints w w.heap.size A k ys) (ho : Only g w w') (hf : Far A g) : Ints w' w'.heap.size A k ys := by
  refine ⟨hx.1, hx.2.1, fun hn => ?_⟩
  obtain ⟨b, off, e, hb, hc⟩ := hx.2.2 hn
  exact ⟨b, off, e, Nat.lt_of_lt_of_le hb ho.2.1, fun j v hv => (ho.2.2.1 b _ (hf _ e) hb).trans (hc j v hv)⟩
theorem lines_only {k d : Nat} {A : Option Addr} {ls : List Line} (hx : Lines w w.heap.size A k d ls) (ho : Only g w w') (hf : Far A g) : Lines w' w'.heap.size A k d ls := by
  obtain ⟨h1, h2, h3, h4, h5⟩ := hx
  refine ⟨h1, h2, h3, h4, fun h0 => ?_⟩
  obtain ⟨b, off, e, hb, hc⟩ := h5 h0
  exact ⟨b, off, e, Nat.lt_of_lt_of_le hb ho.2.1, fun j v hv => (ho.2.2.1 b _ (hf _ e) hb).trans (hc j v hv)⟩
theorem brg_only {g' : Nat} (hb : BrgAt w g' b L n c) (ho : Only g w w') (hf : g' ≠ g) : BrgAt w' g' b L n c := by
  have hl := brg_lt hb
  obtain ⟨h0, h1, h2, h3, h4, h5, h6, h7, h8, h9, h10, h11⟩ := hb
  have e := fun o => ho.2.2.1 g' o hf hl
  exact ⟨(e _).trans h0, (e _).trans h1, (e _).trans h2, (e _).trans h3, (e _).trans h4, (e _).trans h5, (e _).trans h6, (e _).trans h7, (e _).trans h8, (e _).trans h9, (e _).trans h10, (e _).trans h11⟩
theorem cell_only {g' o : Nat} {v : Value} (hc : w.cell? ⟨g', o, none⟩ = some v) (ho : Only g w w') (hf : g' ≠ g) : w'.cell? ⟨g', o, none⟩ = some v := (ho.2.2.1 g' o hf (cell_lt' hc)).trans hc
theorem Crd.since (hC : Crd w gm gh gb M mc R rc L n c xs h b) (hs : Since w w') : Crd w' gm gh gb M mc R rc L n c xs h b :=
  ⟨since_cell hs hC.m0, since_cell hs hC.h0, since_cell hs hC.h1, since_cell hs hC.h2, brg_since hC.b0 hs, ints_snc hC.im hs, ints_snc hC.ir hs, lines_snc hC.lb hs⟩
theorem Crd.brg (hC : Crd w gm gh gb M mc R rc L n c xs h b) (hS : Sep gm gh gb M R L) (ho : Only gb w w') {b' : Brg} (h1 : BrgAt w' gb b' L n c) (h2 : Lines w' w'.heap.size L n c b'.cache) : Crd w' gm gh gb M mc R rc L n c xs h b' :=
  ⟨cell_only hC.m0 ho hS.mb, cell_only hC.h0 ho hS.hb, cell_only hC.h1 ho hS.hb, cell_only hC.h2 ho hS.hb, h1, ints_only hC.im ho hS.m3, ints_only hC.ir ho hS.r3, h2⟩
theorem far_of {A : Option Addr} (hA : A = some ⟨g, 0, none⟩) {gx : Nat} (hf : Far A gx) : gx ≠ g := fun e => hf _ hA e.symm
theorem far_apt {A A' : Option Addr} (hA : A' = some ⟨g, 0, none⟩) (hp : Apt A A') : Far A g := fun _ e => hp _ _ e hA
theorem apt_sym {A A' : Option Addr} (hp : Apt A A') : Apt A' A := fun _ _ e e' h => hp _ _ e' e h.symm
theorem Crd.reg (hC : Crd w gm gh gb M mc R rc L n c xs h b) (hS : Sep gm gh gb M R L) {gR : Nat} (hR : R = some ⟨gR, 0, none⟩) (ho : Only gR w w') {ys : List Int} (h1 : Ints w' w'.heap.size R 8 ys) : Crd w' gm gh gb M mc R rc L n c xs ⟨h.at_, ys, h.done⟩ b :=
  ⟨cell_only hC.m0 ho (far_of hR hS.r1), cell_only hC.h0 ho (far_of hR hS.r2), cell_only hC.h1 ho (far_of hR hS.r2), cell_only hC.h2 ho (far_of hR hS.r2), brg_only hC.b0 ho (far_of hR hS.r3), ints_only hC.im ho (far_apt hR hS.mr), h1, lines_only hC.lb ho (far_apt hR hS.lr)⟩
theorem Crd.mem (hC : Crd w gm gh gb M mc R rc L n c xs h b) (hS : Sep gm gh gb M R L) {gM : Nat} (hM : M = some ⟨gM, 0, none⟩) (ho : Only gM w w') {ys : List Int} (h1 : Ints w' w'.heap.size M 512 ys) : Crd w' gm gh gb M mc R rc L n c ys h b :=
  ⟨cell_only hC.m0 ho (far_of hM hS.m1), cell_only hC.h0 ho (far_of hM hS.m2), cell_only hC.h1 ho (far_of hM hS.m2), cell_only hC.h2 ho (far_of hM hS.m2), brg_only hC.b0 ho (far_of hM hS.m3), h1, ints_only hC.ir ho (far_apt hM (apt_sym hS.mr)), lines_only hC.lb ho (far_apt hM hS.lm)⟩
theorem Crd.at_ (hC : Crd w gm gh gb M mc R rc L n c xs h b) (hS : Sep gm gh gb M R L) {v : Int} (hs : Since w w') : Crd (w'.setCell ⟨gh, 0, none⟩ (.int .i64 v)) gm gh gb M mc R rc L n c xs ⟨v, h.regs, h.done⟩ b :=
  have ho : Only gh w (w'.setCell ⟨gh, 0, none⟩ (.int .i64 v)) := only_set (cell_lt' hC.h0) hs _
  ⟨cell_only hC.m0 ho hS.mh, by have := since_cell hs hC.h0; simp [go_sem, this], by have := since_cell hs hC.h1; simp [go_sem, this], by have := since_cell hs hC.h2; simp [go_sem, this], brg_only hC.b0 ho (Ne.symm hS.hb), ints_only hC.im ho hS.m2, ints_only hC.ir ho hS.r2, lines_only hC.lb ho hS.l2⟩
/-- what an instruction leaves. -/
def DoesC (w : World) (gm gh gb : Nat) (M : Option Addr) (mc : Nat) (R : Option Addr) (rc : Nat) (L : Option Addr) (n c : Nat) (r : List Int × Hrt × Brg × Bool) (e : Ending) (w' : World) : Prop :=
  e = .returned (.bool r.2.2.2) ∧ Crd w' gm gh gb M mc R rc L n c r.1 r.2.1 r.2.2.1 ∧ ∃ g, (M = some ⟨g, 0, none⟩ ∨ R = some ⟨g, 0, none⟩ ∨ g = gh ∨ g = gb) ∧ Only g w w'
theorem own_put {B k m j : Nat} {A : Option Addr} {ys : List Int} (ho : OwnI B w A k m ys) (hk : k ≤ 9223372036854775807) {gA : Nat} (hA : A = some ⟨gA, 0, none⟩) (hs : Since w w') (hj : j < k) (v : Int) : Ints (w'.setCell ⟨gA, j, none⟩ (.int .i64 v)) (w'.setCell ⟨gA, j, none⟩ (.int .i64 v)).heap.size A k (ys.set j v) := by
  obtain ⟨g, e, _, _, _, _, hp⟩ := own_cells (ho.below hs) (by omega)
  rw [hA] at e
  injection e with e
  injection e with e
  subst e
  exact (hp j v hj).ints hk
theorem does_reg (hC : Crd w gm gh gb M mc R rc L n c xs h b) (hS : Sep gm gh gb M R L) {B : Nat} (hown : OwnI B w R 8 rc h.regs) {gR : Nat} (hR : R = some ⟨gR, 0, none⟩) (hl : gR < w.heap.size) (hs : Since w w') {a v : Int} (ha : 0 ≤ a) (ha' : a < 8) :
    DoesC w gm gh gb M mc R rc L n c (xs, h.setR a v, b, true) (.returned (.bool true)) (w'.setCell ⟨gR, a.toNat, none⟩ (.int .i64 v)) :=
  have ho := only_set (o := a.toNat) hl hs (.int .i64 v)
  ⟨rfl, hC.reg hS hR ho (own_put hown (by decide) hR hs (by omega) v), gR, Or.inr (Or.inl hR), ho⟩
theorem does_mem (hC : Crd w gm gh gb M mc R rc L n c xs h b) (hS : Sep gm gh gb M R L) {B : Nat} (hown : OwnI B w M 512 mc xs) {gM : Nat} (hM : M = some ⟨gM, 0, none⟩) (hl : gM < w.heap.size) (hs : Since w w') {a v : Int} (ha : 0 ≤ a) (ha' : a < 512) :
    DoesC w gm gh gb M mc R rc L n c (xs.set a.toNat v, h, b, true) (.returned (.bool true)) (w'.setCell ⟨gM, a.toNat, none⟩ (.int .i64 v)) :=
  have ho := only_set (o := a.toNat) hl hs (.int .i64 v)
  ⟨rfl, hC.mem hS hM ho (own_put hown (by decide) hM hs (by omega) v), gM, Or.inl hM, ho⟩
theorem does_at (hC : Crd w gm gh gb M mc R rc L n c xs h b) (hS : Sep gm gh gb M R L) (hs : Since w w') (v : Int) :
    DoesC w gm gh gb M mc R rc L n c (xs, { h with at_ := v }, b, true) (.returned (.bool true)) (w'.setCell ⟨gh, 0, none⟩ (.int .i64 v)) :=
  ⟨rfl, hC.at_ hS hs, gh, Or.inr (Or.inr (Or.inl rfl)), only_set (cell_lt' hC.h0) hs _⟩
theorem does_not (hC : Crd w gm gh gb M mc R rc L n c xs h b) (hs : Since w w') (ok : Bool) : DoesC w gm gh gb M mc R rc L n c (xs, h, b, ok) (.returned (.bool ok)) w' :=
  ⟨rfl, hC.since hs, gh, Or.inr (Or.inr (Or.inl rfl)), only_since (cell_lt' hC.h0) hs⟩
end
/-- what does asks. -/
structure DoesP (w : World) (gm gh gb : Nat) (M : Option Addr) (mc : Nat) (R : Option Addr) (rc : Nat) (L : Option Addr) (n c : Nat) (xs : List Int) (h : Hrt) (b : Brg) (gM gR : Nat) : Prop where
  crd : Crd w gm gh gb M mc R rc L n c xs h b
  sep : Sep gm gh gb M R L
  om : ∃ B, OwnI B w M 512 mc xs
  or : ∃ B, OwnI B w R 8 rc h.regs
  eM : M = some ⟨gM, 0, none⟩
  eR : R = some ⟨gR, 0, none⟩
  cM : ∀ (k : Nat) (x : Int), xs[k]? = some x → w.cell? ⟨gM, k, none⟩ = some (.int .i64 x)
  cR : ∀ (k : Nat) (x : Int), h.regs[k]? = some x → w.cell? ⟨gR, k, none⟩ = some (.int .i64 x)
  fM : ∀ o, w.frozen? ⟨gM, o, none⟩ = false
  fR : ∀ o, w.frozen? ⟨gR, o, none⟩ = false
  fh : ∀ o, w.frozen? ⟨gh, o, none⟩ = false
  fb : ∀ o, w.frozen? ⟨gb, o, none⟩ = false
  lM : gM < w.heap.size
  lR : gR < w.heap.size
  ck : ckH h = 0
  cm : cm xs = 0
theorem does_ok {w : World} {gm gh gb : Nat} {M : Option Addr} {mc : Nat} {R : Option Addr} {rc : Nat} {L : Option Addr} {n c : Nat} {xs : List Int} {h : Hrt} {b : Brg} {B B' : Nat}
    (crd : Crd w gm gh gb M mc R rc L n c xs h b) (sep : Sep gm gh gb M R L) (om : OwnI B w M 512 mc xs) (or : OwnI B' w R 8 rc h.regs) (fh : ∀ o, w.frozen? ⟨gh, o, none⟩ = false) (fb : ∀ o, w.frozen? ⟨gb, o, none⟩ = false) (hc : ckH h = 0) (h0 : cm xs = 0) :
    ∃ gM gR, DoesP w gm gh gb M mc R rc L n c xs h b gM gR := by
  obtain ⟨gM, e1, _, l1, c1, f1, _⟩ := own_cells om (by decide)
  obtain ⟨gR, e2, _, l2, c2, f2, _⟩ := own_cells or (by decide)
  exact ⟨gM, gR, crd, sep, ⟨_, om⟩, ⟨_, or⟩, e1, e2, c1, c2, f1, f2, fh, fb, l1, l2, hc, h0⟩
theorem rd_some {xs : List Int} {k : Int} {n : Nat} (hl : xs.length = n) (h0 : 0 ≤ k) (h1 : k < n) : xs[k.toNat]? = some (rd xs k) := by
  unfold rd
  rw [List.getElem?_eq_getElem (by omega)]
  rfl
theorem rd_rng {xs : List Int} {k : Int} (hx : ∀ (j : Nat) (x : Int), xs[j]? = some x → 0 ≤ x ∧ x ≤ 65535) : 0 ≤ rd xs k ∧ rd xs k ≤ 65535 := by
  unfold rd
  cases e : xs[k.toNat]?
  · simp
  · exact hx _ _ e
end Go.Proofs.Ytbopdijnojaaiab
