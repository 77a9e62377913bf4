/- The library's Clone at ints. No statement of the seat is proved here. -/
import Derived.Test.YtbopdijnojaaiabSlices
namespace Go.Proofs.Ytbopdijnojaaiab
open Go.RowKit
set_option linter.unusedSimpArgs false
set_option linter.unusedVariables false

theorem Try.infoInt : (Try.prog.info? 3).map (fun i => (i.zero, i.size, i.bytes)) = some (some (.int .i64 0), 1, 8) := by kernel_rfl

/-- a slice of ints in memory of the call's own, from block B on. -/
def OwnI (B : Nat) (w' : World) (A : Option Addr) (n c : Nat) (xs : List Int) : Prop := xs.length = n ∧ w'.ownsRow B 3 1 (.slice A n c) n (xs.map (Value.int .i64))
def CloneI (w : World) (n : Nat) (xs : List Int) (e : Ending) (w' : World) : Prop := ∃ A c, e = .returned (.slice A n c) ∧ OwnI w.heap.size w' A n c xs ∧ Below w.heap.size w w'

theorem own_empty (w : World) (e : TypeId) (size : Nat) : (w.alloc (.cells #[] e)).ownsRow w.heap.size e size (.slice (some ⟨w.heap.size, 0, none⟩) 0 0) 0 [] :=
  ⟨by simp, Or.inr ⟨w.heap.size, 0, #[], rfl, Nat.le_refl _, heap_alloc_new w _, Nat.le_refl _, Nat.zero_le _, by simp, by simp⟩⟩
theorem ints_one (xs : List Int) : ∀ u ∈ xs.map (Value.int .i64), u.oneCell' = true := by
  intro u hu; obtain ⟨x, _, rfl⟩ := List.mem_map.1 hu; rfl
theorem add_at (b off j : Nat) : (⟨b, off, none⟩ : Addr).add j = ⟨b, off + j, none⟩ := by
  unfold Addr.add; by_cases h : j = 0 <;> simp [h]
set_option maxRecDepth 100000 in
set_option maxHeartbeats 1000000 in
theorem sl_Clone (A : Option Addr) (n c : Nat) (xs : List Int) (w : World) (hx : Ints w w.heap.size A n xs) (h0 : 0 < n) (hn : n ≤ 1000) :
    Calls Try.prog 92 #[.slice A n c] w (CloneI w n xs) := by
  obtain ⟨i0, hi, hz0, hz1, hz2⟩ := info_parts Try.infoInt
  have HX := Lib.hid hx
  obtain ⟨b, off, rfl, hb, hc⟩ := hx.at_ h0
  have HC := Lib.hid hc; clear hc hx
  have HI := Lib.hid hi; clear hi
  have HZ0 := Lib.hid hz0; clear hz0
  have HZ1 := Lib.hid hz1; clear hz1
  have HZ2 := Lib.hid hz2; clear hz2
  have heq := fun (w : World) (a : Option Addr) (n c : Nat) => Lib.run_eql_slice_nil (P := Try.prog) w 22 3 a n c 0 0 Try.underlying22
  have hnew := Lib.hid (own_empty w 3 1)
  have hone := Lib.hid (ints_one xs)
  have C1 : Hid ((xs.map (Value.int .i64)).length = n * 1) := by show _ = _; rw [List.length_map, HX.out.len, Nat.mul_one]
  have C2 : Hid (∀ j u, (xs.map (Value.int .i64))[j]? = some u → (w.alloc (.cells #[] 3)).cell? ((⟨b, off, none⟩ : Addr).add j) = some u) := by
    intro j u hu
    rw [List.getElem?_map, Option.map_eq_some_iff] at hu
    obtain ⟨x, hx, rfl⟩ := hu
    rw [add_at, World.cell?_alloc_lt _ _ _ (by exact hb)]
    exact HC.out j x hx
  have C3 : Hid (0 + n ≤ maxLen) := by show _ ≤ _; unfold maxLen; omega
  have C4 : Hid ((0 + n) * 8 ≤ 140737488355328) := by show _ ≤ _; omega
  have C5 : Hid (w.heap.size ≤ (w.alloc (.cells #[] 3)).heap.size) := by show _ ≤ _; simp
  go_enter Try.func92, Try.ntmps92
  go_wp2_with (at_builtin; refine wpList_append_own _ rfl (.tmp 5) (.tmp 6) 22 rfl w.heap.size 3 i0 (.int .i64 0) 1 8 Try.underlying22 HI.out HZ0.out HZ1.out HZ2.out rfl (by decide) (.slice (some ⟨w.heap.size, 0, none⟩) 0 0) 0 [] rfl hnew.out ⟨b, off, none⟩ n c (xs.map (Value.int .i64)) rfl C1.out C2.out hone.out C3.out C4.out C5.out ?_; intro v1 w1 hown1 hg1 hnil1)
  have hbw : Below w.heap.size w w1 := ((Below.refl _ _).alloc (Nat.le_refl _) _).grown hg1 (by simp) (by intro k hk; simp [Value.ownBlock] at hk; omega)
  have hown : w1.ownsRow w.heap.size 3 1 v1 n (xs.map (Value.int .i64)) := by simpa using hown1
  have HO := Lib.hid hown
  have HBW := Lib.hid hbw
  obtain ⟨g, cap, hv, _, _⟩ := hown.form h0
  clear hown1 hg1 hnil1 hown hbw
  subst hv
  go_wp2
  go_ret
  exact ⟨_, _, rfl, ⟨HX.out.len, HO.out⟩, HBW.out⟩

section
variable {B B' : Nat} {w w' : World} {A : Option Addr} {n c : Nat} {xs : List Int}
theorem own_low {e : TypeId} {size : Nat} {v : Value} {ys : List Value} (h : w.ownsRow B e size v n ys) (hB : B' ≤ B) : w.ownsRow B' e size v n ys := by
  obtain ⟨h1, h2⟩ := h
  refine ⟨h1, ?_⟩
  rcases h2 with h2 | ⟨g, cap, cur, hv, hg, r⟩
  · exact Or.inl h2
  · exact Or.inr ⟨g, cap, cur, hv, Nat.le_trans hB hg, r⟩
theorem own_below {e : TypeId} {size : Nat} {v : Value} {ys : List Value} (h : w.ownsRow B e size v n ys) (hb : Below w.heap.size w w') : w'.ownsRow B e size v n ys := by
  obtain ⟨h1, h2⟩ := h
  refine ⟨h1, ?_⟩
  rcases h2 with h2 | ⟨g, cap, cur, hv, hg, hh, r⟩
  · exact Or.inl h2
  · have hlt : g < w.heap.size := by
      rcases Nat.lt_or_ge g w.heap.size with hlt | hge
      · exact hlt
      · rw [Array.getElem?_eq_none hge] at hh; cases hh
    exact Or.inr ⟨g, cap, cur, hv, hg, (hb.block g hlt).trans hh, r⟩
theorem OwnI.low (h : OwnI B w A n c xs) (hB : B' ≤ B) : OwnI B' w A n c xs := ⟨h.1, own_low h.2 hB⟩
theorem OwnI.set (h : OwnI B w A n c xs) {p : Addr} (hp : p.block < B) (u : Value) : OwnI B (w.setCell p u) A n c xs := ⟨h.1, ownsRow_setCell_below h.2 hp u⟩
theorem OwnI.below (h : OwnI B w A n c xs) (hb : Below w.heap.size w w') : OwnI B w' A n c xs := ⟨h.1, own_below h.2 hb⟩
theorem OwnI.alloc (h : OwnI B w A n c xs) (o : Obj) : OwnI B (w.alloc o) A n c xs := h.below ((Below.refl _ _).alloc (Nat.le_refl _) o)
theorem OwnI.ints (h : OwnI B w A n c xs) (hn : n ≤ 9223372036854775807) : Ints w w.heap.size A n xs := ⟨h.1, by unfold maxLen; omega, Row.of_own h.2⟩
end

end Go.Proofs.Ytbopdijnojaaiab
