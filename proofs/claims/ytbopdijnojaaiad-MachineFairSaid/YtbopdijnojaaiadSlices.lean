/- The library's Equal at lines. No statement of the seat is proved here. -/
import Derived.Test.YtbopdijnojaaiadProg
import Derived.Test.YtbopdijnojaaiadBase
namespace Go.Proofs.Ytbopdijnojaaiad
open Go.RowKit
set_option linter.unusedSimpArgs false
set_option linter.unusedVariables false

section
end

section
def eqI (xs ys : List Int) : Bool := xs == ys
theorem eqI_len {xs ys : List Int} (h : xs.length ≠ ys.length) : false = eqI xs ys := by
  symm; unfold eqI; rw [beq_eq_false_iff_ne]; intro e; exact h (by rw [e])
theorem eqI_at {xs ys : List Int} {k : Nat} {x y : Int} (hx : xs[k]? = some x) (hy : ys[k]? = some y) (h : (x != y) = true) : false = eqI xs ys := by
  symm; unfold eqI; rw [beq_eq_false_iff_ne]; intro e; subst e; rw [hx] at hy; simp at hy h; exact h hy
theorem eqI_all {xs ys : List Int} {k : Nat} (hx : xs.length = k) (hy : ys.length = k) (h : xs.take k = ys.take k) : true = eqI xs ys := by
  rw [List.take_of_length_le (by omega), List.take_of_length_le (by omega)] at h; simp [eqI, h]
theorem take_snoc_eq {α : Type} {xs ys : List α} {k : Nat} {x y : α} (hx : xs[k]? = some x) (hy : ys[k]? = some y) (h : xs.take k = ys.take k) (e : x = y) : xs.take (k + 1) = ys.take (k + 1) := by
  rw [List.take_add_one, List.take_add_one, hx, hy, h, e]

end

section
theorem Try.infoInt : (Try.prog.info? 3).map (fun i => (i.zero, i.size, i.bytes)) = some (some (.int .i64 0), 1, 8) := by kernel_rfl

/-- a slice of ints in memory of the call's own, from block B on. -/
def OwnI (B : Nat) (w' : World) (A : Option Addr) (n c : Nat) (xs : List Int) : Prop := xs.length = n ∧ w'.ownsRow B 3 1 (.slice A n c) n (xs.map (Value.int .i64))
def CloneI (w : World) (n : Nat) (xs : List Int) (e : Ending) (w' : World) : Prop := ∃ A c, e = .returned (.slice A n c) ∧ OwnI w.heap.size w' A n c xs ∧ Below w.heap.size w w'

theorem own_empty (w : World) (e : TypeId) (size : Nat) : (w.alloc (.cells #[] e)).ownsRow w.heap.size e size (.slice (some ⟨w.heap.size, 0, none⟩) 0 0) 0 [] :=
  ⟨by simp, Or.inr ⟨w.heap.size, 0, #[], rfl, Nat.le_refl _, heap_alloc_new w _, Nat.le_refl _, Nat.zero_le _, by simp, by simp⟩⟩
theorem ints_one (xs : List Int) : ∀ u ∈ xs.map (Value.int .i64), u.oneCell' = true := by
  intro u hu; obtain ⟨x, _, rfl⟩ := List.mem_map.1 hu; rfl
theorem add_at (b off j : Nat) : (⟨b, off, none⟩ : Addr).add j = ⟨b, off + j, none⟩ := by
  unfold Addr.add; by_cases h : j = 0 <;> simp [h]
set_option maxRecDepth 100000 in
set_option maxHeartbeats 1000000 in
theorem sl_Clone (A : Option Addr) (n c : Nat) (xs : List Int) (w : World) (hx : Ints w w.heap.size A n xs) (h0 : 0 < n) (hn : n ≤ 1000) :
    Calls Try.prog 36 #[.slice A n c] w (CloneI w n xs) := by
  obtain ⟨i0, hi, hz0, hz1, hz2⟩ := info_parts Try.infoInt
  have HX := Lib.hid hx
  obtain ⟨b, off, rfl, hb, hc⟩ := hx.at_ h0
  have HC := Lib.hid hc; clear hc hx
  have HI := Lib.hid hi; clear hi
  have HZ0 := Lib.hid hz0; clear hz0
  have HZ1 := Lib.hid hz1; clear hz1
  have HZ2 := Lib.hid hz2; clear hz2
  have heq := fun (w : World) (a : Option Addr) (n c : Nat) => Lib.run_eql_slice_nil (P := Try.prog) w 22 3 a n c 0 0 Try.underlying22
  have hnew := Lib.hid (own_empty w 3 1)
  have hone := Lib.hid (ints_one xs)
  have C1 : Hid ((xs.map (Value.int .i64)).length = n * 1) := by show _ = _; rw [List.length_map, HX.out.len, Nat.mul_one]
  have C2 : Hid (∀ j u, (xs.map (Value.int .i64))[j]? = some u → (w.alloc (.cells #[] 3)).cell? ((⟨b, off, none⟩ : Addr).add j) = some u) := by
    intro j u hu
    rw [List.getElem?_map, Option.map_eq_some_iff] at hu
    obtain ⟨x, hx, rfl⟩ := hu
    rw [add_at, World.cell?_alloc_lt _ _ _ (by exact hb)]
    exact HC.out j x hx
  have C3 : Hid (0 + n ≤ maxLen) := by show _ ≤ _; unfold maxLen; omega
  have C4 : Hid ((0 + n) * 8 ≤ 140737488355328) := by show _ ≤ _; omega
  have C5 : Hid (w.heap.size ≤ (w.alloc (.cells #[] 3)).heap.size) := by show _ ≤ _; simp
  go_enter Try.func36, Try.ntmps36
  go_wp2_with (at_builtin; refine wpList_append_own _ rfl (.tmp 5) (.tmp 6) 22 rfl w.heap.size 3 i0 (.int .i64 0) 1 8 Try.underlying22 HI.out HZ0.out HZ1.out HZ2.out rfl (by decide) (.slice (some ⟨w.heap.size, 0, none⟩) 0 0) 0 [] rfl hnew.out ⟨b, off, none⟩ n c (xs.map (Value.int .i64)) rfl C1.out C2.out hone.out C3.out C4.out C5.out ?_; intro v1 w1 hown1 hg1 hnil1)
  have hbw : Below w.heap.size w w1 := ((Below.refl _ _).alloc (Nat.le_refl _) _).grown hg1 (by simp) (by intro k hk; simp [Value.ownBlock] at hk; omega)
  have hown : w1.ownsRow w.heap.size 3 1 v1 n (xs.map (Value.int .i64)) := by simpa using hown1
  have HO := Lib.hid hown
  have HBW := Lib.hid hbw
  obtain ⟨g, cap, hv, _, _⟩ := hown.form h0
  clear hown1 hg1 hnil1 hown hbw
  subst hv
  go_wp2
  go_ret
  exact ⟨_, _, rfl, ⟨HX.out.len, HO.out⟩, HBW.out⟩

section
variable {B B' : Nat} {w w' : World} {A : Option Addr} {n c : Nat} {xs : List Int}
theorem own_low {e : TypeId} {size : Nat} {v : Value} {ys : List Value} (h : w.ownsRow B e size v n ys) (hB : B' ≤ B) : w.ownsRow B' e size v n ys := by
  obtain ⟨h1, h2⟩ := h
  refine ⟨h1, ?_⟩
  rcases h2 with h2 | ⟨g, cap, cur, hv, hg, r⟩
  · exact Or.inl h2
  · exact Or.inr ⟨g, cap, cur, hv, Nat.le_trans hB hg, r⟩
theorem own_below {e : TypeId} {size : Nat} {v : Value} {ys : List Value} (h : w.ownsRow B e size v n ys) (hb : Below w.heap.size w w') : w'.ownsRow B e size v n ys := by
  obtain ⟨h1, h2⟩ := h
  refine ⟨h1, ?_⟩
  rcases h2 with h2 | ⟨g, cap, cur, hv, hg, hh, r⟩
  · exact Or.inl h2
  · have hlt : g < w.heap.size := by
      rcases Nat.lt_or_ge g w.heap.size with hlt | hge
      · exact hlt
      · rw [Array.getElem?_eq_none hge] at hh; cases hh
    exact Or.inr ⟨g, cap, cur, hv, hg, (hb.block g hlt).trans hh, r⟩
theorem OwnI.low (h : OwnI B w A n c xs) (hB : B' ≤ B) : OwnI B' w A n c xs := ⟨h.1, own_low h.2 hB⟩
theorem OwnI.set (h : OwnI B w A n c xs) {p : Addr} (hp : p.block < B) (u : Value) : OwnI B (w.setCell p u) A n c xs := ⟨h.1, ownsRow_setCell_below h.2 hp u⟩
theorem OwnI.below (h : OwnI B w A n c xs) (hb : Below w.heap.size w w') : OwnI B w' A n c xs := ⟨h.1, own_below h.2 hb⟩
theorem OwnI.alloc (h : OwnI B w A n c xs) (o : Obj) : OwnI B (w.alloc o) A n c xs := h.below ((Below.refl _ _).alloc (Nat.le_refl _) o)
theorem OwnI.ints (h : OwnI B w A n c xs) (hn : n ≤ 9223372036854775807) : Ints w w.heap.size A n xs := ⟨h.1, by unfold maxLen; omega, Row.of_own h.2⟩
end
end

section
set_option maxRecDepth 100000 in
set_option maxHeartbeats 1000000 in
theorem find_1 (x : Line) (d p : Int) (b1 b2 : Nat) (w : World) (h1 : w.cell? ⟨b1, 0, none⟩ = some (.int .i64 d)) (h2 : w.cell? ⟨b2, 0, none⟩ = some (.int .i64 p)) :
    Calls Try.prog 60 #[.agg #[.int .i64 x.dev, .int .i64 x.page, .int .i64 x.at_, .bool x.rd, .bool x.wr], .pointer (some ⟨b1, 0, none⟩), .pointer (some ⟨b2, 0, none⟩)] w fun e w' => e = .returned (.bool (hitL d p x)) ∧ Below w.heap.size w w' := by
  have HB := Lib.hid (below_alloc w)
  have l1 : b1 < w.heap.size := cell_lt' h1
  have l2 : b2 < w.heap.size := cell_lt' h2
  by_cases hd : x.dev = d
  · by_cases hp : x.page = p
    · have H := Lib.hid (show true = hitL d p x by simp [hitL, hd, hp])
      have t1 : (x.dev == d) = true := by rw [beq_iff_eq]; exact hd
      have t2 : (x.page == p) = true := by rw [beq_iff_eq]; exact hp
      clear hd hp
      go_enter Try.func60, Try.ntmps60
      go_wp2
      go_ret
      exact ⟨ret_bool H.out, HB.out _⟩
    · have H := Lib.hid (show false = hitL d p x by simp [hitL, hp])
      have t1 : (x.dev == d) = true := by rw [beq_iff_eq]; exact hd
      have t2 : (x.page == p) = false := by rw [beq_eq_false_iff_ne]; exact hp
      clear hd hp
      go_enter Try.func60, Try.ntmps60
      go_wp2
      go_ret
      exact ⟨ret_bool H.out, HB.out _⟩
  · have H := Lib.hid (show false = hitL d p x by simp [hitL, hd])
    have t1 : (x.dev == d) = false := by rw [beq_eq_false_iff_ne]; exact hd
    clear hd
    go_enter Try.func60, Try.ntmps60
    go_wp2
    go_ret
    exact ⟨ret_bool H.out, HB.out _⟩

theorem find_upto {ls : List Line} {q : Line → Bool} {k : Nat} {x : Line} (hx : ls[k]? = some x) (h : ∀ y ∈ ls.take k, q y = false) (hq : q x = false) : ∀ y ∈ ls.take (k + 1), q y = false := by
  intro y hy
  rw [List.take_add_one, hx, List.mem_append] at hy
  rcases hy with hy | hy
  · exact h y hy
  · simp at hy; subst hy; exact hq

set_option maxRecDepth 100000 in
set_option maxHeartbeats 4000000 in
theorem index_find (A : Option Addr) (n c : Nat) (ls : List Line) (d p : Int) (b1 b2 : Nat) (w : World) (hl : Lines w w.heap.size A n c ls) (h1 : w.cell? ⟨b1, 0, none⟩ = some (.int .i64 d)) (h2 : w.cell? ⟨b2, 0, none⟩ = some (.int .i64 p)) :
    Calls Try.prog 59 #[.slice A n c, .func (.func 60) #[] #[.pointer (some ⟨b1, 0, none⟩), .pointer (some ⟨b2, 0, none⟩)]] w fun e w' => e = .returned (.int .i64 (findL ls d p)) ∧ Below w.heap.size w w' := by
  have HL := Lib.hid hl
  have hn := hl.cap
  have H1 := Lib.hid h1
  have H2 := Lib.hid h2
  clear hl h1 h2
  obtain ⟨hn1, hn2⟩ := hn
  go_enter Try.func59, Try.ntmps59
  go_wp2
  go_loopw [8] (fun i wr => ∃ k : Nat, k ≤ n ∧ i = .int .i64 k ∧ Hid (∀ y ∈ ls.take k, hitL d p y = false) ∧ Hid (Since w wr)) (fun i _ => n - (intOf i).toNat)
  case atStart => exact ⟨0, by omega, rfl, (fun y hy => by simp at hy), since_refl w⟩
  case round =>
    obtain ⟨k, hk, rfl, hno, hs⟩ := hrel
    by_cases hlt : k < n
    · obtain ⟨x, hx⟩ := some_of_lt ls (k := k) (by rw [HL.out.len]; exact hlt)
      have HX := Lib.hid hx
      obtain ⟨b, off, rfl, hb, hc⟩ := (HL.out.below hs.out).at_ (by omega)
      obtain ⟨e0, e1, e2, e3, e4⟩ := hc k x hx
      have d1 := since_cell hs.out H1.out
      have d2 := since_cell hs.out H2.out
      have HS := Lib.hid hs.out
      clear hc hx hs
      cases hq : hitL d p x
      · have HQ := Lib.hid hq
        go_wp2_with fail
        refine (find_1 x d p b1 b2 _ d1 d2).mono ?_
        rw [HQ.out]
        clear hq
        rintro e w1 ⟨rfl, hb1⟩
        have hz1 := hb1.size
        (try simp only [World.size_alloc, World.size_setCell, World.size_drew] at hz1)
        have HB1 := Lib.hid hb1
        clear hb1
        go_wp2_with fail
        go_roundw
        case rel => exact ⟨k + 1, by omega, by go_num, find_upto HX.out hno.out HQ.out, since_step HB1.out HS.out⟩
        case measure => simp [intOf]; omega
      · have HQ := Lib.hid hq
        go_wp2_with fail
        refine (find_1 x d p b1 b2 _ d1 d2).mono ?_
        rw [HQ.out]
        clear hq
        rintro e w1 ⟨rfl, hb1⟩
        have hz1 := hb1.size
        (try simp only [World.size_alloc, World.size_setCell, World.size_drew] at hz1)
        have HB1 := Lib.hid hb1
        clear hb1
        go_wp2_with fail
        go_ret
        exact ⟨ret_int (findL_some HX.out HQ.out hno.out).symm, since_step HB1.out HS.out⟩
    · obtain rfl : k = n := by omega
      go_wp2
      go_ret
      exact ⟨ret_int (findL_none (fun y hy => hno.out y (by rw [List.take_of_length_le (by rw [HL.out.len]; omega)]; exact hy))).symm, hs.out⟩

set_option maxRecDepth 100000 in
set_option maxHeartbeats 1000000 in
theorem cache_Find (A : Option Addr) (n c : Nat) (ls : List Line) (d p : Int) (w : World) (hl : Lines w w.heap.size A n c ls) :
    Calls Try.prog 52 #[.slice A n c, .int .i64 d, .int .i64 p] w fun e w' => e = .returned (.int .i64 (findL ls d p)) ∧ Below w.heap.size w w' := by
  have HL := Lib.hid hl; clear hl
  go_enter Try.func52, Try.ntmps52
  go_wp2_with fail
  refine (index_find _ _ _ ls d p _ _ _ ((HL.out.alloc (Nat.le_refl _) _ |>.alloc (by simp) _).more (by simp; omega)) (by simp [go_sem]) (by simp [go_sem])).mono ?_
  rintro e w1 ⟨rfl, hb1⟩
  have hz1 := hb1.size
  (try simp only [World.size_alloc, World.size_setCell, World.size_drew] at hz1)
  have HB1 := Lib.hid hb1
  clear hb1
  go_wp2
  go_ret
  exact ⟨rfl, by (repeat (first | (with_reducible exact Below.refl _ _) | (with_reducible refine Below.drew ?_) | (with_reducible refine bdrewN ?_ _) | ((with_reducible refine Below.setCell ?_ ?_ _); rotate_left; exact (by first | (simp; done) | (simp; omega) | omega)) | ((with_reducible refine Below.alloc ?_ ?_ _); rotate_left; exact (by first | (simp; done) | (simp; omega) | omega)) | ((with_reducible refine Below.trans ?_ (HB1.out.mono ?_)); rotate_left; exact (by first | (simp; done) | (simp; omega) | omega))))⟩
end

section
theorem Try.infoLine : (Try.prog.info? 77).map (fun i => (i.zero, i.size, i.bytes)) = some (some (.agg #[.int .i64 0, .int .i64 0, .int .i64 0, .bool false, .bool false]), 5, 32) := by kernel_rfl

/-- a slice of lines in memory of the call's own, from block B on. -/
def OwnL (B : Nat) (w' : World) (A : Option Addr) (n c : Nat) (ls : List Line) : Prop := ls.length = n ∧ n ≤ c ∧ c ≤ maxLen ∧ w'.ownsRow B 77 5 (.slice A n c) n (lcells ls)
theorem lines_one (ls : List Line) : ∀ u ∈ lcells ls, u.oneCell' = true := by
  intro u hu
  unfold lcells at hu
  rw [List.mem_flatMap] at hu
  obtain ⟨x, _, hu⟩ := hu
  simp [Line.vals] at hu
  rcases hu with rfl | rfl | rfl | rfl | rfl <;> rfl
theorem own_form {B : Nat} {w : World} {e : TypeId} {size : Nat} {v : Value} {n : Nat} {ys : List Value} (h : w.ownsRow B e size v n ys) : (v = .slice none 0 0 ∧ n = 0) ∨ ∃ g cap, v = .slice (some ⟨g, 0, none⟩) n cap ∧ n ≤ cap ∧ cap ≤ maxLen ∧ B ≤ g ∧ g < w.heap.size := by
  obtain ⟨_, h2⟩ := h
  rcases h2 with ⟨h2, h3⟩ | ⟨g, cap, cur, hv, hg, hh, hnc, hcm, _⟩
  · exact Or.inl ⟨h2, h3⟩
  · refine Or.inr ⟨g, cap, hv, hnc, hcm, hg, ?_⟩
    rcases Nat.lt_or_ge g w.heap.size with hlt | hge
    · exact hlt
    · rw [Array.getElem?_eq_none hge] at hh; cases hh
def CloneL (w : World) (n : Nat) (ls : List Line) (e : Ending) (w' : World) : Prop := ∃ A c, e = .returned (.slice A n c) ∧ OwnL w.heap.size w' A n c ls ∧ Below w.heap.size w w'
set_option maxRecDepth 100000 in
set_option maxHeartbeats 2000000 in
theorem clone_lines (ad : Addr) (n c : Nat) (ls : List Line) (w : World) (hlen : ls.length = n) (hc : ∀ j u, (lcells ls)[j]? = some u → w.cell? (ad.add j) = some u ∧ (ad.add j).block < w.heap.size) (hn : n ≤ 1000) :
    Calls Try.prog 51 #[.slice (some ad) n c] w (CloneL w n ls) := by
  obtain ⟨i0, hi, hz0, hz1, hz2⟩ := info_parts Try.infoLine
  have HC := Lib.hid hc; clear hc
  have HN := Lib.hid hlen
  have HI := Lib.hid hi; clear hi
  have HZ0 := Lib.hid hz0; clear hz0
  have HZ1 := Lib.hid hz1; clear hz1
  have HZ2 := Lib.hid hz2; clear hz2
  have heq := fun (w : World) (a : Option Addr) (n c : Nat) => Lib.run_eql_slice_nil (P := Try.prog) w 27 77 a n c 0 0 Try.underlying27
  have hnew := Lib.hid (own_empty w 77 5)
  have hone := Lib.hid (lines_one ls)
  have C1 : Hid ((lcells ls).length = n * 5) := by show _ = _; rw [lcells_len, hlen]
  have C2 : Hid (∀ j u, (lcells ls)[j]? = some u → (w.alloc (.cells #[] 77)).cell? (ad.add j) = some u) := by
    intro j u hu
    obtain ⟨h1, h2⟩ := HC.out j u hu
    rw [World.cell?_alloc_lt _ _ _ h2]; exact h1
  have C3 : Hid (0 + n ≤ maxLen) := by show _ ≤ _; unfold maxLen; omega
  have C4 : Hid ((0 + n) * 32 ≤ 140737488355328) := by show _ ≤ _; omega
  have C5 : Hid (w.heap.size ≤ (w.alloc (.cells #[] 77)).heap.size) := by show _ ≤ _; simp
  clear hlen
  go_enter Try.func51, Try.ntmps51
  go_wp2_with (at_builtin; refine wpList_append_own _ rfl (.tmp 5) (.tmp 6) 27 rfl w.heap.size 77 i0 (.agg #[.int .i64 0, .int .i64 0, .int .i64 0, .bool false, .bool false]) 5 32 Try.underlying27 HI.out HZ0.out HZ1.out HZ2.out rfl (by decide) (.slice (some ⟨w.heap.size, 0, none⟩) 0 0) 0 [] rfl hnew.out ad n c (lcells ls) rfl C1.out C2.out hone.out C3.out C4.out C5.out ?_; intro v1 w1 hown1 hg1 hnil1)
  have hbw : Below w.heap.size w w1 := ((Below.refl _ _).alloc (Nat.le_refl _) _).grown hg1 (by simp) (by intro k hk; simp [Value.ownBlock] at hk; omega)
  have hown : w1.ownsRow w.heap.size 77 5 v1 n (lcells ls) := by simpa using hown1
  have HO := Lib.hid hown
  have HBW := Lib.hid hbw
  rcases own_form hown with ⟨hv, hn0⟩ | ⟨g, cap, hv, hnc, hcm, _, _⟩
  · subst hn0
    clear hown1 hg1 hnil1 hown hbw
    subst hv
    go_wp2
    go_ret
    exact ⟨_, _, rfl, ⟨HN.out, by omega, by unfold maxLen; omega, HO.out⟩, HBW.out⟩
  · have HQ := Lib.hid (And.intro hnc hcm)
    clear hown1 hg1 hnil1 hown hbw hnc hcm
    subst hv
    go_wp2
    go_ret
    exact ⟨_, _, rfl, ⟨HN.out, HQ.out.1, HQ.out.2, HO.out⟩, HBW.out⟩

set_option maxRecDepth 100000 in
set_option maxHeartbeats 1000000 in
theorem sl_CloneL (A : Option Addr) (n c : Nat) (ls : List Line) (w : World) (hl : Lines w w.heap.size A n c ls) (hn : n ≤ 1000) :
    Calls Try.prog 51 #[.slice A n c] w (CloneL w n ls) := by
  cases A with
  | some ad =>
    refine clone_lines ad n c ls w hl.len (fun j u hu => ?_) hn
    have hp : 0 < (lcells ls).length := by have := (List.getElem?_eq_some_iff.1 hu).1; omega
    obtain ⟨b, off, e, hb, hc⟩ := hl.2.2.2.2 hp
    simp only [Option.some.injEq] at e
    subst e
    rw [add_at]
    exact ⟨hc j u hu, hb⟩
  | none =>
    have hn0 : n = 0 := by
      rcases Nat.eq_zero_or_pos n with h | h
      · exact h
      · obtain ⟨b, off, e, _⟩ := hl.at_ h; cases e
    subst hn0
    have hc0 := hl.2.2.2.1 rfl
    subst hc0
    have hz : ls = [] := by have := hl.len; exact List.length_eq_zero_iff.1 this
    subst hz
    clear hl hn
    have heq := fun (w : World) (a : Option Addr) (n c : Nat) => Lib.run_eql_slice_nil (P := Try.prog) w 27 77 a n c 0 0 Try.underlying27
    go_enter Try.func51, Try.ntmps51
    go_wp2
    go_ret
    exact ⟨none, 0, rfl, ⟨rfl, Nat.le_refl _, Nat.zero_le _, World.ownsRow_nil _ _ _ _⟩, Below.refl _ _⟩

section
variable {B B' : Nat} {w w' : World} {A : Option Addr} {n c : Nat} {ls : List Line}
theorem OwnL.low (h : OwnL B w A n c ls) (hB : B' ≤ B) : OwnL B' w A n c ls := ⟨h.1, h.2.1, h.2.2.1, own_low h.2.2.2 hB⟩
theorem OwnL.set (h : OwnL B w A n c ls) {p : Addr} (hp : p.block < B) (u : Value) : OwnL B (w.setCell p u) A n c ls := ⟨h.1, h.2.1, h.2.2.1, ownsRow_setCell_below h.2.2.2 hp u⟩
theorem OwnL.below (h : OwnL B w A n c ls) (hb : Below w.heap.size w w') : OwnL B w' A n c ls := ⟨h.1, h.2.1, h.2.2.1, own_below h.2.2.2 hb⟩
theorem OwnL.alloc (h : OwnL B w A n c ls) (o : Obj) : OwnL B (w.alloc o) A n c ls := h.below ((Below.refl _ _).alloc (Nat.le_refl _) o)
theorem OwnL.drew (h : OwnL B w A n c ls) : OwnL B w.drew A n c ls := h
theorem OwnL.lines (h : OwnL B w A n c ls) : Lines w w.heap.size A n c ls := ⟨h.1, h.2.1, h.2.2.1, (fun e => by
  subst e
  rcases own_form h.2.2.2 with ⟨hv, _⟩ | ⟨g, cap, hv, _⟩
  · injection hv
  · injection hv with e1; cases e1), Row.of_own h.2.2.2⟩
end
end

section
end
end Go.Proofs.Ytbopdijnojaaiad
