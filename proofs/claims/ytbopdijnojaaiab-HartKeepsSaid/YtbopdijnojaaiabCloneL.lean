/- The library's Clone at lines. No statement of the seat is proved here. -/
import Derived.Test.YtbopdijnojaaiabFind
import Derived.Test.YtbopdijnojaaiabClone
namespace Go.Proofs.Ytbopdijnojaaiab
open Go.RowKit
set_option linter.unusedSimpArgs false
set_option linter.unusedVariables false

theorem Try.infoLine : (Try.prog.info? 42).map (fun i => (i.zero, i.size, i.bytes)) = some (some (.agg #[.int .i64 0, .int .i64 0, .int .i64 0, .bool false, .bool false]), 5, 32) := by kernel_rfl

/-- a slice of lines in memory of the call's own, from block B on. -/
def OwnL (B : Nat) (w' : World) (A : Option Addr) (n c : Nat) (ls : List Line) : Prop := ls.length = n ∧ n ≤ c ∧ c ≤ maxLen ∧ w'.ownsRow B 42 5 (.slice A n c) n (lcells ls)
theorem lines_one (ls : List Line) : ∀ u ∈ lcells ls, u.oneCell' = true := by
  intro u hu
  unfold lcells at hu
  rw [List.mem_flatMap] at hu
  obtain ⟨x, _, hu⟩ := hu
  simp [Line.vals] at hu
  rcases hu with rfl | rfl | rfl | rfl | rfl <;> rfl
theorem own_form {B : Nat} {w : World} {e : TypeId} {size : Nat} {v : Value} {n : Nat} {ys : List Value} (h : w.ownsRow B e size v n ys) : (v = .slice none 0 0 ∧ n = 0) ∨ ∃ g cap, v = .slice (some ⟨g, 0, none⟩) n cap ∧ n ≤ cap ∧ cap ≤ maxLen ∧ B ≤ g ∧ g < w.heap.size := by
  obtain ⟨_, h2⟩ := h
  rcases h2 with ⟨h2, h3⟩ | ⟨g, cap, cur, hv, hg, hh, hnc, hcm, _⟩
  · exact Or.inl ⟨h2, h3⟩
  · refine Or.inr ⟨g, cap, hv, hnc, hcm, hg, ?_⟩
    rcases Nat.lt_or_ge g w.heap.size with hlt | hge
    · exact hlt
    · rw [Array.getElem?_eq_none hge] at hh; cases hh
def CloneL (w : World) (n : Nat) (ls : List Line) (e : Ending) (w' : World) : Prop := ∃ A c, e = .returned (.slice A n c) ∧ OwnL w.heap.size w' A n c ls ∧ Below w.heap.size w w'
theorem row_at_ {w : World} {B : Nat} {A : Option Addr} {vs : List Value} (h : Row w B A vs) {b off : Nat} (hA : A = some ⟨b, off, none⟩) (hb : b < B) : ∀ j u, vs[j]? = some u → w.cell? ⟨b, off + j, none⟩ = some u := by
  intro j u hu
  have hp : 0 < vs.length := by have := (List.getElem?_eq_some_iff.1 hu).1; omega
  obtain ⟨b', off', e, _, hc⟩ := h hp
  rw [hA] at e
  simp only [Option.some.injEq, Addr.mk.injEq, and_true] at e
  obtain ⟨rfl, rfl⟩ := e
  exact hc j u hu

set_option maxRecDepth 100000 in
set_option maxHeartbeats 2000000 in
theorem clone_lines (ad : Addr) (n c : Nat) (ls : List Line) (w : World) (hlen : ls.length = n) (hc : ∀ j u, (lcells ls)[j]? = some u → w.cell? (ad.add j) = some u ∧ (ad.add j).block < w.heap.size) (hn : n ≤ 1000) :
    Calls Try.prog 72 #[.slice (some ad) n c] w (CloneL w n ls) := by
  obtain ⟨i0, hi, hz0, hz1, hz2⟩ := info_parts Try.infoLine
  have HC := Lib.hid hc; clear hc
  have HN := Lib.hid hlen
  have HI := Lib.hid hi; clear hi
  have HZ0 := Lib.hid hz0; clear hz0
  have HZ1 := Lib.hid hz1; clear hz1
  have HZ2 := Lib.hid hz2; clear hz2
  have heq := fun (w : World) (a : Option Addr) (n c : Nat) => Lib.run_eql_slice_nil (P := Try.prog) w 40 42 a n c 0 0 Try.underlying40
  have hnew := Lib.hid (own_empty w 42 5)
  have hone := Lib.hid (lines_one ls)
  have C1 : Hid ((lcells ls).length = n * 5) := by show _ = _; rw [lcells_len, hlen]
  have C2 : Hid (∀ j u, (lcells ls)[j]? = some u → (w.alloc (.cells #[] 42)).cell? (ad.add j) = some u) := by
    intro j u hu
    obtain ⟨h1, h2⟩ := HC.out j u hu
    rw [World.cell?_alloc_lt _ _ _ h2]; exact h1
  have C3 : Hid (0 + n ≤ maxLen) := by show _ ≤ _; unfold maxLen; omega
  have C4 : Hid ((0 + n) * 32 ≤ 140737488355328) := by show _ ≤ _; omega
  have C5 : Hid (w.heap.size ≤ (w.alloc (.cells #[] 42)).heap.size) := by show _ ≤ _; simp
  clear hlen
  go_enter Try.func72, Try.ntmps72
  go_wp2_with (at_builtin; refine wpList_append_own _ rfl (.tmp 5) (.tmp 6) 40 rfl w.heap.size 42 i0 (.agg #[.int .i64 0, .int .i64 0, .int .i64 0, .bool false, .bool false]) 5 32 Try.underlying40 HI.out HZ0.out HZ1.out HZ2.out rfl (by decide) (.slice (some ⟨w.heap.size, 0, none⟩) 0 0) 0 [] rfl hnew.out ad n c (lcells ls) rfl C1.out C2.out hone.out C3.out C4.out C5.out ?_; intro v1 w1 hown1 hg1 hnil1)
  have hbw : Below w.heap.size w w1 := ((Below.refl _ _).alloc (Nat.le_refl _) _).grown hg1 (by simp) (by intro k hk; simp [Value.ownBlock] at hk; omega)
  have hown : w1.ownsRow w.heap.size 42 5 v1 n (lcells ls) := by simpa using hown1
  have HO := Lib.hid hown
  have HBW := Lib.hid hbw
  rcases own_form hown with ⟨hv, hn0⟩ | ⟨g, cap, hv, hnc, hcm, _, _⟩
  · subst hn0
    clear hown1 hg1 hnil1 hown hbw
    subst hv
    go_wp2
    go_ret
    exact ⟨_, _, rfl, ⟨HN.out, by omega, by unfold maxLen; omega, HO.out⟩, HBW.out⟩
  · have HQ := Lib.hid (And.intro hnc hcm)
    clear hown1 hg1 hnil1 hown hbw hnc hcm
    subst hv
    go_wp2
    go_ret
    exact ⟨_, _, rfl, ⟨HN.out, HQ.out.1, HQ.out.2, HO.out⟩, HBW.out⟩

set_option maxRecDepth 100000 in
set_option maxHeartbeats 1000000 in
theorem sl_CloneL (A : Option Addr) (n c : Nat) (ls : List Line) (w : World) (hl : Lines w w.heap.size A n c ls) (hn : n ≤ 1000) :
    Calls Try.prog 72 #[.slice A n c] w (CloneL w n ls) := by
  cases A with
  | some ad =>
    refine clone_lines ad n c ls w hl.len (fun j u hu => ?_) hn
    have hp : 0 < (lcells ls).length := by have := (List.getElem?_eq_some_iff.1 hu).1; omega
    obtain ⟨b, off, e, hb, hc⟩ := hl.2.2.2.2 hp
    simp only [Option.some.injEq] at e
    subst e
    rw [add_at]
    exact ⟨hc j u hu, hb⟩
  | none =>
    have hn0 : n = 0 := by
      rcases Nat.eq_zero_or_pos n with h | h
      · exact h
      · obtain ⟨b, off, e, _⟩ := hl.at_ h; cases e
    subst hn0
    have hc0 := hl.2.2.2.1 rfl
    subst hc0
    have hz : ls = [] := by have := hl.len; exact List.length_eq_zero_iff.1 this
    subst hz
    clear hl hn
    have heq := fun (w : World) (a : Option Addr) (n c : Nat) => Lib.run_eql_slice_nil (P := Try.prog) w 40 42 a n c 0 0 Try.underlying40
    go_enter Try.func72, Try.ntmps72
    go_wp2
    go_ret
    exact ⟨none, 0, rfl, ⟨rfl, Nat.le_refl _, Nat.zero_le _, World.ownsRow_nil _ _ _ _⟩, Below.refl _ _⟩

section
variable {B B' : Nat} {w w' : World} {A : Option Addr} {n c : Nat} {ls : List Line}
theorem OwnL.low (h : OwnL B w A n c ls) (hB : B' ≤ B) : OwnL B' w A n c ls := ⟨h.1, h.2.1, h.2.2.1, own_low h.2.2.2 hB⟩
theorem OwnL.set (h : OwnL B w A n c ls) {p : Addr} (hp : p.block < B) (u : Value) : OwnL B (w.setCell p u) A n c ls := ⟨h.1, h.2.1, h.2.2.1, ownsRow_setCell_below h.2.2.2 hp u⟩
theorem OwnL.below (h : OwnL B w A n c ls) (hb : Below w.heap.size w w') : OwnL B w' A n c ls := ⟨h.1, h.2.1, h.2.2.1, own_below h.2.2.2 hb⟩
theorem OwnL.alloc (h : OwnL B w A n c ls) (o : Obj) : OwnL B (w.alloc o) A n c ls := h.below ((Below.refl _ _).alloc (Nat.le_refl _) o)
theorem OwnL.drew (h : OwnL B w A n c ls) : OwnL B w.drew A n c ls := h
theorem OwnL.lines (h : OwnL B w A n c ls) : Lines w w.heap.size A n c ls := ⟨h.1, h.2.1, h.2.2.1, (fun e => by
  subst e
  rcases own_form h.2.2.2 with ⟨hv, _⟩ | ⟨g, cap, hv, _⟩
  · injection hv
  · injection hv with e1; cases e1), Row.of_own h.2.2.2⟩
theorem own_lines_nil (w : World) (B : Nat) : OwnL B w none 0 0 [] := ⟨rfl, Nat.le_refl _, Nat.zero_le _, World.ownsRow_nil _ _ _ _⟩
end
end Go.Proofs.Ytbopdijnojaaiab
