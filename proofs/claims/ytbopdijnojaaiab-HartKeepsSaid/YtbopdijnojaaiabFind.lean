/- The cache: the walks of the program's Find, with the library's IndexFunc. No statement of the seat is proved here. -/
import Derived.Test.YtbopdijnojaaiabLines
import Derived.Test.YtbopdijnojaaiabSince
import Derived.Test.YtbopdijnojaaiabProg
namespace Go.Proofs.Ytbopdijnojaaiab
open Go.RowKit
set_option linter.unusedSimpArgs false
set_option linter.unusedVariables false

set_option maxRecDepth 100000 in
set_option maxHeartbeats 1000000 in
theorem find_1 (x : Line) (d p : Int) (b1 b2 : Nat) (w : World) (h1 : w.cell? ⟨b1, 0, none⟩ = some (.int .i64 d)) (h2 : w.cell? ⟨b2, 0, none⟩ = some (.int .i64 p)) :
    Calls Try.prog 79 #[.agg #[.int .i64 x.dev, .int .i64 x.page, .int .i64 x.at_, .bool x.rd, .bool x.wr], .pointer (some ⟨b1, 0, none⟩), .pointer (some ⟨b2, 0, none⟩)] w fun e w' => e = .returned (.bool (hitL d p x)) ∧ Below w.heap.size w w' := by
  have HB := Lib.hid (below_alloc w)
  have l1 : b1 < w.heap.size := cell_lt' h1
  have l2 : b2 < w.heap.size := cell_lt' h2
  by_cases hd : x.dev = d
  · by_cases hp : x.page = p
    · have H := Lib.hid (show true = hitL d p x by simp [hitL, hd, hp])
      have t1 : (x.dev == d) = true := by rw [beq_iff_eq]; exact hd
      have t2 : (x.page == p) = true := by rw [beq_iff_eq]; exact hp
      clear hd hp
      go_enter Try.func79, Try.ntmps79
      go_wp2
      go_ret
      exact ⟨ret_bool H.out, HB.out _⟩
    · have H := Lib.hid (show false = hitL d p x by simp [hitL, hp])
      have t1 : (x.dev == d) = true := by rw [beq_iff_eq]; exact hd
      have t2 : (x.page == p) = false := by rw [beq_eq_false_iff_ne]; exact hp
      clear hd hp
      go_enter Try.func79, Try.ntmps79
      go_wp2
      go_ret
      exact ⟨ret_bool H.out, HB.out _⟩
  · have H := Lib.hid (show false = hitL d p x by simp [hitL, hd])
    have t1 : (x.dev == d) = false := by rw [beq_eq_false_iff_ne]; exact hd
    clear hd
    go_enter Try.func79, Try.ntmps79
    go_wp2
    go_ret
    exact ⟨ret_bool H.out, HB.out _⟩

theorem find_upto {ls : List Line} {q : Line → Bool} {k : Nat} {x : Line} (hx : ls[k]? = some x) (h : ∀ y ∈ ls.take k, q y = false) (hq : q x = false) : ∀ y ∈ ls.take (k + 1), q y = false := by
  intro y hy
  rw [List.take_add_one, hx, List.mem_append] at hy
  rcases hy with hy | hy
  · exact h y hy
  · simp at hy; subst hy; exact hq

set_option maxRecDepth 100000 in
set_option maxHeartbeats 4000000 in
theorem index_find (A : Option Addr) (n c : Nat) (ls : List Line) (d p : Int) (b1 b2 : Nat) (w : World) (hl : Lines w w.heap.size A n c ls) (h1 : w.cell? ⟨b1, 0, none⟩ = some (.int .i64 d)) (h2 : w.cell? ⟨b2, 0, none⟩ = some (.int .i64 p)) :
    Calls Try.prog 78 #[.slice A n c, .func (.func 79) #[] #[.pointer (some ⟨b1, 0, none⟩), .pointer (some ⟨b2, 0, none⟩)]] w fun e w' => e = .returned (.int .i64 (findL ls d p)) ∧ Below w.heap.size w w' := by
  have HL := Lib.hid hl
  have hn := hl.cap
  have H1 := Lib.hid h1
  have H2 := Lib.hid h2
  clear hl h1 h2
  obtain ⟨hn1, hn2⟩ := hn
  go_enter Try.func78, Try.ntmps78
  go_wp2
  go_loopw [8] (fun i wr => ∃ k : Nat, k ≤ n ∧ i = .int .i64 k ∧ Hid (∀ y ∈ ls.take k, hitL d p y = false) ∧ Hid (Since w wr)) (fun i _ => n - (intOf i).toNat)
  case atStart => exact ⟨0, by omega, rfl, (fun y hy => by simp at hy), since_refl w⟩
  case round =>
    obtain ⟨k, hk, rfl, hno, hs⟩ := hrel
    by_cases hlt : k < n
    · obtain ⟨x, hx⟩ := some_of_lt ls (k := k) (by rw [HL.out.len]; exact hlt)
      have HX := Lib.hid hx
      obtain ⟨b, off, rfl, hb, hc⟩ := (HL.out.below hs.out).at_ (by omega)
      obtain ⟨e0, e1, e2, e3, e4⟩ := hc k x hx
      have d1 := since_cell hs.out H1.out
      have d2 := since_cell hs.out H2.out
      have HS := Lib.hid hs.out
      clear hc hx hs
      cases hq : hitL d p x
      · have HQ := Lib.hid hq
        go_wp2_with fail
        refine (find_1 x d p b1 b2 _ d1 d2).mono ?_
        rw [HQ.out]
        clear hq
        rintro e w1 ⟨rfl, hb1⟩
        have hz1 := hb1.size
        (try simp only [World.size_alloc, World.size_setCell, World.size_drew] at hz1)
        have HB1 := Lib.hid hb1
        clear hb1
        go_wp2_with fail
        go_roundw
        case rel => exact ⟨k + 1, by omega, by go_num, find_upto HX.out hno.out HQ.out, since_step HB1.out HS.out⟩
        case measure => simp [intOf]; omega
      · have HQ := Lib.hid hq
        go_wp2_with fail
        refine (find_1 x d p b1 b2 _ d1 d2).mono ?_
        rw [HQ.out]
        clear hq
        rintro e w1 ⟨rfl, hb1⟩
        have hz1 := hb1.size
        (try simp only [World.size_alloc, World.size_setCell, World.size_drew] at hz1)
        have HB1 := Lib.hid hb1
        clear hb1
        go_wp2_with fail
        go_ret
        exact ⟨ret_int (findL_some HX.out HQ.out hno.out).symm, since_step HB1.out HS.out⟩
    · obtain rfl : k = n := by omega
      go_wp2
      go_ret
      exact ⟨ret_int (findL_none (fun y hy => hno.out y (by rw [List.take_of_length_le (by rw [HL.out.len]; omega)]; exact hy))).symm, hs.out⟩

set_option maxRecDepth 100000 in
set_option maxHeartbeats 1000000 in
theorem cache_Find (A : Option Addr) (n c : Nat) (ls : List Line) (d p : Int) (w : World) (hl : Lines w w.heap.size A n c ls) :
    Calls Try.prog 34 #[.slice A n c, .int .i64 d, .int .i64 p] w fun e w' => e = .returned (.int .i64 (findL ls d p)) ∧ Below w.heap.size w w' := by
  have HL := Lib.hid hl; clear hl
  go_enter Try.func34, Try.ntmps34
  go_wp2_with fail
  refine (index_find _ _ _ ls d p _ _ _ ((HL.out.alloc (Nat.le_refl _) _ |>.alloc (by simp) _).more (by simp; omega)) (by simp [go_sem]) (by simp [go_sem])).mono ?_
  rintro e w1 ⟨rfl, hb1⟩
  have hz1 := hb1.size
  (try simp only [World.size_alloc, World.size_setCell, World.size_drew] at hz1)
  have HB1 := Lib.hid hb1
  clear hb1
  go_wp2
  go_ret
  exact ⟨rfl, by (repeat (first | (with_reducible exact Below.refl _ _) | (with_reducible refine Below.drew ?_) | (with_reducible refine bdrewN ?_ _) | ((with_reducible refine Below.setCell ?_ ?_ _); rotate_left; exact (by first | (simp; done) | (simp; omega) | omega)) | ((with_reducible refine Below.alloc ?_ ?_ _); rotate_left; exact (by first | (simp; done) | (simp; omega) | omega)) | ((with_reducible refine Below.trans ?_ (HB1.out.mono ?_)); rotate_left; exact (by first | (simp; done) | (simp; omega) | omega))))⟩
end Go.Proofs.Ytbopdijnojaaiab
