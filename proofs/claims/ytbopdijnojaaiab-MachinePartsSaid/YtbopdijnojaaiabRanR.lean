/- What a run of a script leaves: its rows, and the machine in a box. No statement of the seat is proved here. -/
import Derived.Test.YtbopdijnojaaiabMrun
import Derived.Test.YtbopdijnojaaiabEqF
namespace Go.Proofs.Ytbopdijnojaaiab
open Go.RowKit
set_option linter.unusedSimpArgs false
set_option linter.unusedVariables false
/-- what a run leaves: a machine in a box, what is told, what is said. -/
structure RanR (w0 : World) (z : Mch) (ts : List Tld) (rs : List Int) (g : Nat) (M : Option Addr) (nm mc : Nat) (R : Option Addr) (nr rc : Nat) (L : Option Addr) (n c : Nat) (es : List Tle) (TA : Option Addr) (tn tc : Nat) (SA : Option Addr) (sn sc : Nat) (W : World) : Prop where
  m : Whl W g 57 (#[.slice M nm mc, .int .i64 z.h.at_, .slice R nr rc, .bool z.h.done, .int .i64 z.b.mode, .int .i64 z.b.base, .slice L n c, .int .i64 z.b.orders.page, .int .i64 z.b.orders.head, .int .i64 z.b.orders.tail, .bool z.b.stopped, .int .i64 z.b.fences, .int .i64 z.b.faults.page, .int .i64 z.b.faults.head, .int .i64 z.b.faults.tail, .bool z.b.lost])
  lo : w0.heap.size ≤ g
  mv : MachV W (fun q => w0.heap.size ≤ q ∧ q ≠ g) z M nm R nr L n c
  ts : es.map Tle.t = ts
  tl : TelS W TA tn tc es
  tr : Row W W.heap.size TA (elcells es)
  tz : TA = none → tn = 0 ∧ tc = 0
  ir : Ints W W.heap.size SA sn rs
  iz : SA = none → sn = 0 ∧ sc = 0
  sb : Below w0.heap.size w0 W
section
variable {w0 w1 W1 W2 W3 : World} {z : Mch} {ts : List Tld} {rs : List Int} {g : Nat} {M R L TA SA : Option Addr} {nm mc nr rc n c tn tc sn sc : Nat} {es : List Tle}
theorem RanR.since (h : RanR w0 z ts rs g M nm mc R nr rc L n c es TA tn tc SA sn sc W1) (hb : Below W1.heap.size W1 W2) : RanR w0 z ts rs g M nm mc R nr rc L n c es TA tn tc SA sn sc W2 :=
  ⟨whl_since h.m hb, h.lo, h.mv.since hb, h.ts, h.tl.since hb, (h.tr.below hb).more hb.size, h.tz, ints_now h.ir hb, h.iz, h.sb.trans (hb.mono h.sb.size)⟩
theorem own_noneR {e : TypeId} {B s n m c : Nat} {w : World} {xs : List Value} (h : w.ownsRow B e s (.slice none m c) n xs) : m = 0 ∧ c = 0 := by
  rcases own_form h with ⟨hv, h0⟩ | ⟨g, cap, hv, _⟩
  · injection hv with _ h2 h3; exact ⟨h2, h3⟩
  · injection hv with h1; cases h1
/-- what comes of a call, and of the machine's store into a box that is there. -/
theorem RanR.mk' (hb0 : Below w0.heap.size w0 w1) (hb1 : Below w1.heap.size w1 W1) (hv : MachV W1 (fun q => w1.heap.size ≤ q) z M nm R nr L n c) (ho : OwnS w1.heap.size W1 TA tn tc es) (ht : es.map Tle.t = ts) (hs : OwnE w1.heap.size W1 SA sn sc rs) (hl : ∀ e ∈ es, TldV W1 (fun q => w1.heap.size ≤ q) e.t e.D e.dn e.X e.tn e.tc)
    (hal : Below W1.heap.size W1 W2) (hw : Whl W3 g 57 (#[.slice M nm mc, .int .i64 z.h.at_, .slice R nr rc, .bool z.h.done, .int .i64 z.b.mode, .int .i64 z.b.base, .slice L n c, .int .i64 z.b.orders.page, .int .i64 z.b.orders.head, .int .i64 z.b.orders.tail, .bool z.b.stopped, .int .i64 z.b.fences, .int .i64 z.b.faults.page, .int .i64 z.b.faults.head, .int .i64 z.b.faults.tail, .bool z.b.lost])) (htr : Trn g W2 W3) (hg : w0.heap.size ≤ g) (hgn : g < w1.heap.size ∨ W1.heap.size ≤ g) : RanR w0 z ts rs g M nm mc R nr rc L n c es TA tn tc SA sn sc W3 := by
  have hz0 := hb0.size
  have hz1 := hb1.size
  have hne : ∀ q, w1.heap.size ≤ q ∧ q < W1.heap.size → q ≠ g := fun q hq e => by omega
  have ho2 := (ho.below hal).chg htr.1 (fun ad e hp => by
    have := own_blk ho.2.2.2 ad e
    omega)
  have hs2 := (hs.below hal).chg htr.1 (fun ad e hp => by
    have := own_blk hs.2.2.2 ad e
    omega)
  have hl2 : ∀ e ∈ es, TldV W3 (fun q => w1.heap.size ≤ q ∧ q < W1.heap.size) e.t e.D e.dn e.X e.tn e.tc := fun e he => ((hl e he).lt.since hal).trn htr (fun hq => hne _ hq rfl)
  refine ⟨hw, hg, ((hv.lt.since hal).trn htr (fun hq => hne _ hq rfl)).av (fun q hq => ⟨by omega, hne q hq⟩), ht, telS_own ho2 hl2, Row.of_own ho2.2.2.2, fun e => by subst e; exact own_noneR ho2.2.2.2, ⟨hs2.1, Nat.le_trans hs2.2.1 hs2.2.2.1, Row.of_own hs2.2.2.2⟩, fun e => by subst e; exact own_noneR hs2.2.2.2, ?_⟩
  exact below_trn (hb0.trans ((hb1.trans (hal.mono hz1)).mono hz0)) (by have := hal.size; omega) htr hg
end
end Go.Proofs.Ytbopdijnojaaiab
