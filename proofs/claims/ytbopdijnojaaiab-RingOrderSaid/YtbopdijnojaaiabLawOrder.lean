/- The walk of the law RingOrder: what is pushed comes in order, behind what is there; none is lost, none comes twice; where there is no room nothing is pushed. -/
import Derived.Test.YtbopdijnojaaiabRingO
import Derived.Test.YtbopdijnojaaiabTurned
import Derived.Deep.RegionHeld3
import Derived.Deep.DrawnRows
import Derived.Deep.DeepCutAuto
namespace Go.Proofs.Ytbopdijnojaaiab
open Go.RowKit
set_option linter.unusedSimpArgs false
set_option linter.unusedVariables false
attribute [local go_sem ↓] Go.wp_at_zero Go.wp_at_succ

theorem news_one (w : World) (k : Nat) (v : Int) (hk : w.heap.size = k) : ∀ j u, ([Value.int .i64 v] : List Value)[j]? = some u → (w.alloc (.cells #[.int .i64 v] 3)).cell? ((⟨k, 0, none⟩ : Addr).add j) = some u := by
  subst hk
  intro j u hu
  rw [Go.WideShapes.add_plain, Nat.zero_add, World.cell?_alloc_new]
  simpa using hu
theorem one_one (v : Int) : ∀ u ∈ ([Value.int .i64 v] : List Value), u.oneCell' = true := by intro u hu; simp at hu; subst hu; rfl
theorem far_own {w : World} {B : Nat} {A : Option Addr} {n c : Nat} {xs : List Int} (h : OwnI B w A n c xs) (q : Nat) (hq : w.heap.size ≤ q) : some q ≠ (Value.slice A n c).ownBlock := by
  intro e
  rcases own_form h.2 with ⟨hv, _⟩ | ⟨g, cap, hv, _, _, _, hg⟩
  · rw [hv] at e; cases e
  · rw [hv] at e; simp [Value.ownBlock] at e; omega
theorem ints_snc {w W : World} {A : Option Addr} {n : Nat} {xs : List Int} (hx : Ints w w.heap.size A n xs) (h : Since w W) : Ints W W.heap.size A n xs := ints_now hx h
theorem ints_set {w : World} {B n : Nat} {A : Option Addr} {xs : List Int} (h : Ints w B A n xs) {p : Addr} (hp : ∀ ad, A = some ad → ad.block ≠ p.block) (u : Value) : Ints (w.setCell p u) B A n xs := by
  refine ⟨h.1, h.2.1, fun hn => ?_⟩
  obtain ⟨b, off, e, hb, hc⟩ := h.2.2 hn
  exact ⟨b, off, e, hb, fun j v hv => (World.cell?_setCell_other _ _ _ _ (fun e' => hp _ e (by have := congrArg Addr.block e'; simpa using this.symm))).trans (hc j v hv)⟩
theorem ints_grown {w w' : World} {row : Option Nat} {n : Nat} {A : Option Addr} {xs : List Int} (h : Ints w w.heap.size A n xs) (hg : w.grownBy w' row) (hne : ∀ ad, A = some ad → some ad.block ≠ row) : Ints w' w'.heap.size A n xs := by
  refine ⟨h.1, h.2.1, fun hn => ?_⟩
  obtain ⟨b, off, e, hb, hc⟩ := h.2.2 hn
  exact ⟨b, off, e, Nat.lt_of_lt_of_le hb hg.size, fun j v hv => (hg.cell_far ⟨b, off + j, none⟩ hb (show some b ≠ row from hne _ e)).trans (hc j v hv)⟩
set_option maxRecDepth 100000 in
theorem slice_hiI (A : Option Addr) (n c k : Nat) (hk : k ≤ c) (hc : n ≤ c) :
    ∀ w, (Instr.slice 22 (.slice A n c) none (some (.int .i64 (k : Int))) none).run Try.prog w = .ok (.slice A k c) w := by
  intro w
  have h1 : (0 : Int) ≤ (k : Int) := by omega
  have h2 : (k : Int) ≤ (c : Int) := by omega
  simp [go_sem, h1, h2]
/-- memory lies apart from the boxes and from what is wanted. -/
def Off (g9 g10 : Nat) (A9 A8 : Option Addr) : Prop := ∀ ad, A9 = some ad → ad.block ≠ g9 ∧ ad.block ≠ g10 ∧ ∀ ad', A8 = some ad' → ad.block ≠ ad'.block
theorem own_blk {w : World} {B : Nat} {A : Option Addr} {n c : Nat} {xs : List Int} (h : OwnI B w A n c xs) : ∀ ad, A = some ad → B ≤ ad.block ∧ ad.block < w.heap.size := by
  intro ad e
  subst e
  rcases own_form h.2 with ⟨hv, _⟩ | ⟨g, cap, hv, _, _, h1, h2⟩
  · injection hv with e1; cases e1
  · injection hv with e1 e2 e3
    simp only [Option.some.injEq] at e1
    subst e1
    exact ⟨h1, h2⟩
set_option maxRecDepth 100000 in
set_option maxHeartbeats 4000000 in
theorem order_c (A : Option Addr) (n c : Nat) (xs : List Int) (p h t : Int) (L : Option Addr) (nl lc : Nat) (w : World) (hx : Ints w w.heap.size A n xs) (h0 : cm xs ≠ 0) :
    Calls Try.prog 3 #[.agg #[.slice A n c], .agg #[.int .i64 p, .int .i64 h, .int .i64 t], .slice L nl lc] w fun e w' => e = .returned (.bool true) ∧ Below w.heap.size w w' := by
  have HX := Lib.hid hx
  have t0 : (cm xs != 0) = true := by rw [bne_iff_ne]; exact h0
  clear hx h0
  go_enter Try.func3, Try.ntmps3
  go_wp2_with fail
  refine (law_turned _).mono ?_
  rintro e w1 ⟨rfl, hb1⟩
  have hz1 := hb1.size
  (try simp only [World.size_alloc, World.size_setCell, World.size_drew] at hz1)
  have k1_0 := fun o => (bcell hb1).1 (w.heap.size) o (by first | (simp; done) | (simp; omega) | omega)
  have l1_0 : (w.heap.size) < w1.heap.size := (by omega)
  have q1_0 := fun o => (bcell hb1).2 (w.heap.size) o (by first | (simp; done) | (simp; omega) | omega)
  simp (maxDischargeDepth := 6) [go_sem, *] at k1_0 q1_0
  have HB1 := Lib.hid hb1
  clear hb1
  go_wp2_with fail
  refine (mem_Check _ _ _ xs _ (ints_now HX.out (by (repeat (first | (with_reducible exact Below.refl _ _) | (with_reducible refine Below.drew ?_) | (with_reducible refine bdrewN ?_ _) | ((with_reducible refine Below.setCell ?_ ?_ _); rotate_left; exact (by first | (simp; done) | (simp; omega) | omega)) | ((with_reducible refine Below.alloc ?_ ?_ _); rotate_left; exact (by first | (simp; done) | (simp; omega) | omega)) | ((with_reducible refine Below.trans ?_ (HB1.out.mono ?_)); rotate_left; exact (by first | (simp; done) | (simp; omega) | omega))))))).mono ?_
  rintro e w2 ⟨rfl, hb2⟩
  have hz2 := hb2.size
  (try simp only [World.size_alloc, World.size_setCell, World.size_drew] at hz2)
  have HB2 := Lib.hid hb2
  clear hb2
  go_wp2_with fail
  refine (law_turned _).mono ?_
  rintro e w3 ⟨rfl, hb3⟩
  have hz3 := hb3.size
  (try simp only [World.size_alloc, World.size_setCell, World.size_drew] at hz3)
  have HB3 := Lib.hid hb3
  clear hb3
  go_wp2
  go_ret
  exact ⟨rfl, by (repeat (first | (with_reducible exact Below.refl _ _) | (with_reducible refine Below.drew ?_) | (with_reducible refine bdrewN ?_ _) | ((with_reducible refine Below.setCell ?_ ?_ _); rotate_left; exact (by first | (simp; done) | (simp; omega) | omega)) | ((with_reducible refine Below.alloc ?_ ?_ _); rotate_left; exact (by first | (simp; done) | (simp; omega) | omega)) | ((with_reducible refine Below.trans ?_ (HB3.out.mono ?_)); rotate_left; exact (by first | (simp; done) | (simp; omega) | omega)) | ((with_reducible refine Below.trans ?_ (HB2.out.mono ?_)); rotate_left; exact (by first | (simp; done) | (simp; omega) | omega)) | ((with_reducible refine Below.trans ?_ (HB1.out.mono ?_)); rotate_left; exact (by first | (simp; done) | (simp; omega) | omega))))⟩
set_option maxRecDepth 100000 in
set_option maxHeartbeats 4000000 in
theorem order_r (A : Option Addr) (n c : Nat) (xs : List Int) (r : Ring) (L : Option Addr) (nl lc : Nat) (w : World) (hx : Ints w w.heap.size A n xs) (h0 : cm xs = 0) (hr : ¬ ringR r) :
    Calls Try.prog 3 #[.agg #[.slice A n c], .agg #[.int .i64 r.page, .int .i64 r.head, .int .i64 r.tail], .slice L nl lc] w fun e w' => e = .returned (.bool true) ∧ Below w.heap.size w w' := by
  have HX := Lib.hid hx
  have H0 := Lib.hid h0
  have HR := Lib.hid (show ckR ⟨r.page, r.head, r.tail⟩ = 2 from ckR_2 hr)
  clear hx h0 hr
  go_enter Try.func3, Try.ntmps3
  go_wp2_with fail
  refine (law_turned _).mono ?_
  rintro e w1 ⟨rfl, hb1⟩
  have hz1 := hb1.size
  (try simp only [World.size_alloc, World.size_setCell, World.size_drew] at hz1)
  have k1_0 := fun o => (bcell hb1).1 (w.heap.size) o (by first | (simp; done) | (simp; omega) | omega)
  have l1_0 : (w.heap.size) < w1.heap.size := (by omega)
  have q1_0 := fun o => (bcell hb1).2 (w.heap.size) o (by first | (simp; done) | (simp; omega) | omega)
  have k1_1 := fun o => (bcell hb1).1 (w.heap.size + 1) o (by first | (simp; done) | (simp; omega) | omega)
  have l1_1 : (w.heap.size + 1) < w1.heap.size := (by omega)
  have q1_1 := fun o => (bcell hb1).2 (w.heap.size + 1) o (by first | (simp; done) | (simp; omega) | omega)
  simp (maxDischargeDepth := 6) [go_sem, *] at k1_0 q1_0 k1_1 q1_1
  have HB1 := Lib.hid hb1
  clear hb1
  go_wp2_with fail
  refine (mem_Check _ _ _ xs _ (ints_now HX.out (by (repeat (first | (with_reducible exact Below.refl _ _) | (with_reducible refine Below.drew ?_) | (with_reducible refine bdrewN ?_ _) | ((with_reducible refine Below.setCell ?_ ?_ _); rotate_left; exact (by first | (simp; done) | (simp; omega) | omega)) | ((with_reducible refine Below.alloc ?_ ?_ _); rotate_left; exact (by first | (simp; done) | (simp; omega) | omega)) | ((with_reducible refine Below.trans ?_ (HB1.out.mono ?_)); rotate_left; exact (by first | (simp; done) | (simp; omega) | omega))))))).mono ?_
  rw [H0.out]
  rintro e w2 ⟨rfl, hb2⟩
  have hz2 := hb2.size
  (try simp only [World.size_alloc, World.size_setCell, World.size_drew] at hz2)
  have k2_0 := fun o => (bcell hb2).1 (w.heap.size + 1) o (by first | (simp; done) | (simp; omega) | omega)
  have l2_0 : (w.heap.size + 1) < w2.heap.size := (by omega)
  have q2_0 := fun o => (bcell hb2).2 (w.heap.size + 1) o (by first | (simp; done) | (simp; omega) | omega)
  simp (maxDischargeDepth := 6) [go_sem, *] at k2_0 q2_0
  have HB2 := Lib.hid hb2
  clear hb2
  go_wp2_with fail
  refine (ring_Check _ _ _ _).mono ?_
  rw [HR.out]
  rintro e w3 ⟨rfl, hb3⟩
  have hz3 := hb3.size
  (try simp only [World.size_alloc, World.size_setCell, World.size_drew] at hz3)
  have HB3 := Lib.hid hb3
  clear hb3
  go_wp2_with fail
  refine (law_turned _).mono ?_
  rintro e w4 ⟨rfl, hb4⟩
  have hz4 := hb4.size
  (try simp only [World.size_alloc, World.size_setCell, World.size_drew] at hz4)
  have HB4 := Lib.hid hb4
  clear hb4
  go_wp2
  go_ret
  exact ⟨rfl, by (repeat (first | (with_reducible exact Below.refl _ _) | (with_reducible refine Below.drew ?_) | (with_reducible refine bdrewN ?_ _) | ((with_reducible refine Below.setCell ?_ ?_ _); rotate_left; exact (by first | (simp; done) | (simp; omega) | omega)) | ((with_reducible refine Below.alloc ?_ ?_ _); rotate_left; exact (by first | (simp; done) | (simp; omega) | omega)) | ((with_reducible refine Below.trans ?_ (HB4.out.mono ?_)); rotate_left; exact (by first | (simp; done) | (simp; omega) | omega)) | ((with_reducible refine Below.trans ?_ (HB3.out.mono ?_)); rotate_left; exact (by first | (simp; done) | (simp; omega) | omega)) | ((with_reducible refine Below.trans ?_ (HB2.out.mono ?_)); rotate_left; exact (by first | (simp; done) | (simp; omega) | omega)) | ((with_reducible refine Below.trans ?_ (HB1.out.mono ?_)); rotate_left; exact (by first | (simp; done) | (simp; omega) | omega))))⟩

set_option maxRecDepth 100000 in
set_option maxHeartbeats 16000000 in
theorem order_0 (A : Option Addr) (c : Nat) (xs : List Int) (r : Ring) (l : Nat) (L : Option Addr) (nl lc : Nat) (vs : List Int) (w : World) (hx : Ints w w.heap.size A 512 xs) (hl : Ints w w.heap.size L nl vs) (hcap : nl ≤ lc) (h0 : cm xs = 0) (hr : ringR r) (hlen : lenR r = l) :
    Calls Try.prog 3 #[.agg #[.slice A 512 c], .agg #[.int .i64 r.page, .int .i64 r.head, .int .i64 r.tail], .slice L nl lc] w fun e w' => e = .returned (.bool true) ∧ Below w.heap.size w w' := by
  obtain ⟨i0, hi, hz0, hz1, hz2⟩ := info_parts Try.infoInt
  have HI := Lib.hid hi; clear hi
  have HZ0 := Lib.hid hz0; clear hz0
  have HZ1 := Lib.hid hz1; clear hz1
  have HZ2 := Lib.hid hz2; clear hz2
  have HX := Lib.hid hx
  have HL := Lib.hid hl
  have H0 := Lib.hid h0
  have HR := Lib.hid hr
  have HLEN := Lib.hid (show lenR ⟨r.page, r.head, r.tail⟩ = (l : Int) from hlen)
  have HLN := Lib.hid hlen
  have HCK := Lib.hid (show ckR ⟨r.page, r.head, r.tail⟩ = 0 from ckR_0 hr)
  have l7 : l ≤ 7 := by have := lenR_bd r; omega
  clear hx hl h0 hr hlen
  go_enter Try.func3, Try.ntmps3
  go_wp2_with fail
  refine (law_turned _).mono ?_
  rintro e w1 ⟨rfl, hb1⟩
  have hz1 := hb1.size
  (try simp only [World.size_alloc, World.size_setCell, World.size_drew] at hz1)
  have k1_0 := fun o => (bcell hb1).1 (w.heap.size) o (by first | (simp; done) | (simp; omega) | omega)
  have l1_0 : (w.heap.size) < w1.heap.size := (by omega)
  have q1_0 := fun o => (bcell hb1).2 (w.heap.size) o (by first | (simp; done) | (simp; omega) | omega)
  have k1_1 := fun o => (bcell hb1).1 (w.heap.size + 1) o (by first | (simp; done) | (simp; omega) | omega)
  have l1_1 : (w.heap.size + 1) < w1.heap.size := (by omega)
  have q1_1 := fun o => (bcell hb1).2 (w.heap.size + 1) o (by first | (simp; done) | (simp; omega) | omega)
  simp (maxDischargeDepth := 6) [go_sem, *] at k1_0 q1_0 k1_1 q1_1
  have HB1 := Lib.hid hb1
  clear hb1
  go_wp2_with fail
  refine (mem_Check _ _ _ xs _ (ints_now HX.out (by (repeat (first | (with_reducible exact Below.refl _ _) | (with_reducible refine Below.drew ?_) | (with_reducible refine bdrewN ?_ _) | ((with_reducible refine Below.setCell ?_ ?_ _); rotate_left; exact (by first | (simp; done) | (simp; omega) | omega)) | ((with_reducible refine Below.alloc ?_ ?_ _); rotate_left; exact (by first | (simp; done) | (simp; omega) | omega)) | ((with_reducible refine Below.trans ?_ (HB1.out.mono ?_)); rotate_left; exact (by first | (simp; done) | (simp; omega) | omega))))))).mono ?_
  rw [H0.out]
  rintro e w2 ⟨rfl, hb2⟩
  have hz2 := hb2.size
  (try simp only [World.size_alloc, World.size_setCell, World.size_drew] at hz2)
  have k2_0 := fun o => (bcell hb2).1 (w.heap.size) o (by first | (simp; done) | (simp; omega) | omega)
  have l2_0 : (w.heap.size) < w2.heap.size := (by omega)
  have q2_0 := fun o => (bcell hb2).2 (w.heap.size) o (by first | (simp; done) | (simp; omega) | omega)
  have k2_1 := fun o => (bcell hb2).1 (w.heap.size + 1) o (by first | (simp; done) | (simp; omega) | omega)
  have l2_1 : (w.heap.size + 1) < w2.heap.size := (by omega)
  have q2_1 := fun o => (bcell hb2).2 (w.heap.size + 1) o (by first | (simp; done) | (simp; omega) | omega)
  simp (maxDischargeDepth := 6) [go_sem, *] at k2_0 q2_0 k2_1 q2_1
  have HB2 := Lib.hid hb2
  clear hb2
  go_wp2_with fail
  refine (ring_Check _ _ _ _).mono ?_
  rw [HCK.out]
  rintro e w3 ⟨rfl, hb3⟩
  have hz3 := hb3.size
  (try simp only [World.size_alloc, World.size_setCell, World.size_drew] at hz3)
  have k3_0 := fun o => (bcell hb3).1 (w.heap.size) o (by first | (simp; done) | (simp; omega) | omega)
  have l3_0 : (w.heap.size) < w3.heap.size := (by omega)
  have q3_0 := fun o => (bcell hb3).2 (w.heap.size) o (by first | (simp; done) | (simp; omega) | omega)
  have k3_1 := fun o => (bcell hb3).1 (w.heap.size + 1) o (by first | (simp; done) | (simp; omega) | omega)
  have l3_1 : (w.heap.size + 1) < w3.heap.size := (by omega)
  have q3_1 := fun o => (bcell hb3).2 (w.heap.size + 1) o (by first | (simp; done) | (simp; omega) | omega)
  simp (maxDischargeDepth := 6) [go_sem, *] at k3_0 q3_0 k3_1 q3_1
  have HB3 := Lib.hid hb3
  clear hb3
  go_wp2_with fail
  refine (ring_Length _ _ _ HR.out _).mono ?_
  rw [HLEN.out]
  rintro e w4 ⟨rfl, hb4⟩
  have HW4 := Lib.hid ((by (repeat (first | (with_reducible exact Below.refl _ _) | (with_reducible refine Below.drew ?_) | (with_reducible refine bdrewN ?_ _) | ((with_reducible refine Below.setCell ?_ ?_ _); rotate_left; exact (by first | (simp; done) | (simp; omega) | omega)) | ((with_reducible refine Below.alloc ?_ ?_ _); rotate_left; exact (by first | (simp; done) | (simp; omega) | omega)) | ((with_reducible refine Below.trans ?_ (HB3.out.mono ?_)); rotate_left; exact (by first | (simp; done) | (simp; omega) | omega)) | ((with_reducible refine Below.trans ?_ (HB2.out.mono ?_)); rotate_left; exact (by first | (simp; done) | (simp; omega) | omega)) | ((with_reducible refine Below.trans ?_ (HB1.out.mono ?_)); rotate_left; exact (by first | (simp; done) | (simp; omega) | omega)))) : Below w.heap.size w w3).trans (hb4.mono (by omega)))
  have hz4 := hb4.size
  (try simp only [World.size_alloc, World.size_setCell, World.size_drew] at hz4)
  have k4_0 := fun o => (bcell hb4).1 (w.heap.size) o (by first | (simp; done) | (simp; omega) | omega)
  have l4_0 : (w.heap.size) < w4.heap.size := (by omega)
  have q4_0 := fun o => (bcell hb4).2 (w.heap.size) o (by first | (simp; done) | (simp; omega) | omega)
  have k4_1 := fun o => (bcell hb4).1 (w.heap.size + 1) o (by first | (simp; done) | (simp; omega) | omega)
  have l4_1 : (w.heap.size + 1) < w4.heap.size := (by omega)
  have q4_1 := fun o => (bcell hb4).2 (w.heap.size + 1) o (by first | (simp; done) | (simp; omega) | omega)
  simp (maxDischargeDepth := 6) [go_sem, *] at k4_0 q4_0 k4_1 q4_1
  have HB4 := Lib.hid hb4
  clear hb4
  have A4 := Lib.hid (show w4.cell? ⟨w.heap.size + 1, 0, none⟩ = some (.int .i64 r.page) ∧ w4.cell? ⟨w.heap.size + 1, 1, none⟩ = some (.int .i64 r.head) ∧ w4.cell? ⟨w.heap.size + 1, 2, none⟩ = some (.int .i64 r.tail) by simp [k4_1])
  go_upto_region 5 with (fail)
  go_cut [9, 10] (fun s9 s10 wd => ∃ g9 g10, s9 = .pointer (some ⟨g9, 0, none⟩) ∧ s10 = .pointer (some ⟨g10, 0, none⟩) ∧ Hid (Lie w4 wd.heap.size g9 g10) ∧ Hid (∀ B, B = wd.heap.size → St w4 B g9 g10 wd A c r none 0 0 []))
  case first =>
    go_region_with (fail)
    all_goals
      go_wp2
      go_meet
      refine ⟨_, _, rfl, rfl, ?_, ?_⟩
      · exact ⟨(by first | (simp; done) | (simp; omega) | omega), (by first | (simp; done) | (simp; omega) | omega), (by first | (simp; done) | (simp; omega) | omega), (by first | (simp; done) | (simp; omega) | omega), (by first | (simp; done) | (simp; omega) | omega)⟩
      · intro B hB
        subst hB
        refine ⟨?_, Nat.le_refl _, ?_, ?_, ?_, ?_, fun o => ?_, fun o => ?_, ⟨rfl, World.ownsRow_nil _ _ _ _⟩⟩
        · (repeat (first | (with_reducible exact Below.refl _ _) | (with_reducible refine Below.drew ?_) | (with_reducible refine bdrewN ?_ _) | ((with_reducible refine Below.setCell ?_ ?_ _); rotate_left; exact (by first | (simp; done) | (simp; omega) | omega)) | ((with_reducible refine Below.alloc ?_ ?_ _); rotate_left; exact (by first | (simp; done) | (simp; omega) | omega))))
        all_goals simp (maxDischargeDepth := 8) [go_sem]
  case rest =>
    obtain ⟨g9, g10, rfl, rfl, hlie, hst⟩ := hcut
    have HST := Lib.hid (hst.out _ rfl)
    clear hst
    obtain ⟨B, hB⟩ : ∃ B, B = wc.heap.size := ⟨_, rfl⟩
    rw [← hB] at HST hlie
    clear hB
    go_wp2
    go_loopw [8, 45] (fun s8 s45 wr => ∃ (k : Nat) (A8 : Option Addr) (c8 : Nat), s8 = .slice A8 k c8 ∧ s45 = .int .i64 k ∧ k ≤ l ∧ Hid (St w4 B g9 g10 wr A c (popN k r) A8 k c8 (inRing xs k r))) (fun _ i _ => l - (intOf i).toNat)
    case atStart => exact ⟨0, none, 0, rfl, rfl, by omega, by rw [popN_0 HR.out]; exact HST.out⟩
    case round =>
      obtain ⟨k, A8, c8, rfl, rfl, hk, hS⟩ := hrel
      have HSW := Lib.hid (show Below w.heap.size w wr from HW4.out.trans (hS.out.base.mono HW4.out.size))
      have m0 := hS.out.m
      have r0 := hS.out.r0
      have r1 := hS.out.r1
      have r2 := hS.out.r2
      have lg9 : g9 < wr.heap.size := Nat.lt_of_lt_of_le hlie.out.b hS.out.sz
      have lg10 : g10 < wr.heap.size := Nat.lt_of_lt_of_le hlie.out.d hS.out.sz
      by_cases hlt : k < l
      · have HPG := Lib.hid (pop_good H0.out HR.out HLN.out hlt)
        go_wp2_with fail
        refine (pop_ans _ _ _ xs (popN k r) (popN (k + 1) r) _ 0 _ (ints_now HX.out HSW.out) HPG.out).mono ?_
        rintro e w6 ⟨rfl, hb6⟩
        have H6 := Lib.hid (hS.out.since hlie.out (show Since wr w6 from hb6))
        have lg96 : g9 < w6.heap.size := Nat.lt_of_lt_of_le hlie.out.b H6.out.sz
        have lg106 : g10 < w6.heap.size := Nat.lt_of_lt_of_le hlie.out.d H6.out.sz
        have zB : B ≤ w6.heap.size := H6.out.sz
        clear m0 r0 r1 r2 hb6
        obtain ⟨v, hv⟩ : ∃ v, popV xs (popN k r) = v := ⟨_, rfl⟩
        have HV := Lib.hid hv
        rw [hv]
        clear hv
        obtain ⟨q, hq⟩ : ∃ q, popN (k + 1) r = q := ⟨_, rfl⟩
        have HQ := Lib.hid hq
        rw [hq]
        clear hq
        go_upto_region 11 with (fail)
        have H7 := Lib.hid (H6.out.since hlie.out (since_alloc (since_drew (since_alloc (since_refl w6) (.cells #[.int .i64 q.page, .int .i64 q.head, .int .i64 q.tail] 26))) (.cells #[.int .i64 v] 3)))
        have ne1 : ¬ g10 = w6.heap.size := by omega
        have ne2 : ¬ w6.heap.size = g10 := by omega
        go_region_held3 (fun W => W.cell? ⟨w6.heap.size, 0, none⟩ = some (.int .i64 q.page) ∧ W.cell? ⟨w6.heap.size, 1, none⟩ = some (.int .i64 q.head) ∧ W.cell? ⟨w6.heap.size, 2, none⟩ = some (.int .i64 q.tail))
          (first | (refine ⟨?_, ?_, ?_⟩ <;> (simp (maxDischargeDepth := 8) [go_sem]; done)) | (exact ⟨t0, t1, t2⟩) | (refine ⟨?_, ?_, ?_⟩ <;> (simp (maxDischargeDepth := 8) [go_sem, ne1, ne2, t0, t1, t2]; done)))
          (first
          | (refine step_append_lies _ (by rfl) (.tmp 56) (.tmp 58) 22 (by rfl) B 3 i0 (.int .i64 0) 1 8 Try.underlying22 HI.out HZ0.out HZ1.out HZ2.out (by rfl) (by decide) (.slice A8 k c8) k ((inRing xs k r).map (Value.int .i64)) (by rfl) H7.out.own.2 ⟨w6.heap.size + 1, 0, none⟩ 1 1 [.int .i64 v] (by rfl) (by rfl) (news_one (w6.alloc (.cells #[.int .i64 q.page, .int .i64 q.head, .int .i64 q.tail] 26)).drew _ v (by simp)) (one_one v) (by decide) (by unfold maxLen; omega) (by omega) (by simp; omega) _ rfl ?_; intro g cap w7 hown7 hgrow7 hat7 hlt7; have H8 := Lib.hid (H7.out.grow hlie.out hown7 hgrow7); have e0 := H8.out.r0; have e1 := H8.out.r1; have e2 := H8.out.r2; have f10 := H8.out.f10; have t0 := (hgrow7.cell_far ⟨w6.heap.size, 0, none⟩ (by simp; omega) (far_own H6.out.own w6.heap.size (Nat.le_refl _))); have t1 := (hgrow7.cell_far ⟨w6.heap.size, 1, none⟩ (by simp; omega) (far_own H6.out.own w6.heap.size (Nat.le_refl _))); have t2 := (hgrow7.cell_far ⟨w6.heap.size, 2, none⟩ (by simp; omega) (far_own H6.out.own w6.heap.size (Nat.le_refl _))); simp (maxDischargeDepth := 8) [go_sem] at t0 t1 t2; clear hown7 hgrow7 hat7))
        all_goals
          go_wp2
          go_roundw
          case rel =>
            refine ⟨k + 1, _, _, rfl, by go_num, hlt, ?_⟩
            show St _ _ _ _ _ _ _ _ _ _ _ _
            rw [HQ.out, inRing_succ k HR.out, HV.out]
            exact H8.out.ring hlie.out q
          case measure => simp [intOf]; omega
      · obtain rfl : k = l := by omega
        have HPE := Lib.hid (pop_end H0.out HR.out HLN.out)
        go_wp2_with fail
        refine (pop_ans _ _ _ xs (popN k r) .no 0 6 _ (ints_now HX.out HSW.out) HPE.out).mono ?_
        rintro e w6 ⟨rfl, hb6⟩
        have H6 := Lib.hid (hS.out.since hlie.out (show Since wr w6 from hb6))
        have b0 := Below.cell (p := ⟨w.heap.size + 1, 0, none⟩) H6.out.base l4_1
        have b1 := Below.cell (p := ⟨w.heap.size + 1, 1, none⟩) H6.out.base l4_1
        have b2 := Below.cell (p := ⟨w.heap.size + 1, 2, none⟩) H6.out.base l4_1
        rw [A4.out.1] at b0
        rw [A4.out.2.1] at b1
        rw [A4.out.2.2] at b2
        have lb6 : w.heap.size + 1 < w6.heap.size := cell_lt' b0
        have lg96 : g9 < w6.heap.size := Nat.lt_of_lt_of_le hlie.out.b H6.out.sz
        have lg106 : g10 < w6.heap.size := Nat.lt_of_lt_of_le hlie.out.d H6.out.sz
        have zB : B ≤ w6.heap.size := H6.out.sz
        have n0 := H6.out.r0
        have n1 := H6.out.r1
        have n2 := H6.out.r2
        have f10 := H6.out.f10
        obtain ⟨nn, hnn⟩ : ∃ nn, nn = min nl 12 := ⟨_, rfl⟩
        have hmin : min (nl : Int) 12 = (nn : Int) := by omega
        have hsl := slice_hiI L nl lc nn (by omega) hcap
        have hnl : nn ≤ nl := by omega
        have h12 : nn ≤ 12 := by omega
        have HSX := Lib.hid ((H6.out.ring hlie.out r).since hlie.out (since_alloc (since_refl _) (.cells #[.int .i64 (Ring.no).page, .int .i64 (Ring.no).head, .int .i64 (Ring.no).tail] 26)))
        have HOF : Hid (Off g9 g10 A A8) := by
          intro ad e
          obtain ⟨b, off, e', hb, _⟩ := HX.out.at_ (by decide)
          rw [e] at e'
          simp only [Option.some.injEq] at e'
          subst e'
          have z4 := HW4.out.size
          have a1 := hlie.out.a
          have a2 := hlie.out.c
          have a3 := hlie.out.b
          refine ⟨?_, ?_, fun ad' e'' => ?_⟩
          · show b ≠ g9; omega
          · show b ≠ g10; omega
          · have := (own_blk H6.out.own ad' e'').1
            show b ≠ ad'.block; omega
        clear m0 r0 r1 r2 hb6
        have HNN := Lib.hid hnn
        clear hnn
        go_upto_region 17 with (fail)
        go_cut [76, 77, 78] (fun s76 s77 s78 wd => s76 = .slice L nn lc ∧ s77 = .int .i64 nn ∧ s78 = .int .i64 0 ∧ Hid (St w4 B g9 g10 wd A c r A8 k c8 (inRing xs k r)))
        case first =>
          rcases Nat.lt_or_ge 12 nl with hm | hm
          · have q1 : ¬ ((nl : Int) ≤ 12) := by omega
            have q2 : (12 : Int) = (nn : Int) := by have := HNN.out; omega
            have q3 := hsl
            rw [← q2] at q3
            have hn12 : nn = 12 := by have := HNN.out; omega
            have HN12 := Lib.hid hn12
            clear hmin hsl q2 hn12 hnl h12
            go_wp2
            go_meet
            exact ⟨by rw [HN12.out], by rw [HN12.out], rfl, HSX.out⟩
          · have q1 : (nl : Int) ≤ 12 := by omega
            have hn12 : nn = nl := by have := HNN.out; omega
            have HN12 := Lib.hid hn12
            rw [hn12] at hsl
            clear hmin hn12 hnl h12
            go_wp2
            go_meet
            exact ⟨by rw [HN12.out], by rw [HN12.out], rfl, HSX.out⟩
        case rest =>
          obtain ⟨rfl, rfl, rfl, hsx⟩ := hcut
          have HSX := hsx
          have HIX := Lib.hid (ints_now HX.out (HW4.out.trans (HSX.out.base.mono HW4.out.size)))
          clear hsx
          go_wp2
          go_loopw [8, 78] (fun s8 s78 wq => ∃ (i kk : Nat) (A8 : Option Addr) (c8 : Nat) (A9 : Option Addr) (c9 : Nat) (ys : List Int) (q : Ring), s8 = .slice A8 kk c8 ∧ s78 = .int .i64 i ∧ i ≤ nn ∧ Hid (cm ys = 0 ∧ ringR q ∧ lenR q = (kk : Int)) ∧ Hid (St w4 B g9 g10 wq A9 c9 q A8 kk c8 (inRing ys kk q)) ∧ Hid (Ints wq wq.heap.size A9 512 ys) ∧ Hid (Off g9 g10 A9 A8)) (fun _ i _ => nn - (intOf i).toNat)
          case atStart => exact ⟨0, k, A8, c8, A, c, xs, r, rfl, rfl, by omega, ⟨H0.out, HR.out, HLN.out⟩, HSX.out, HIX.out, HOF.out⟩
          case round =>
            clear b0 b1 b2 n0 n1 n2 f10
            obtain ⟨i, kk, A8, c8, A9, c9, ys, q, rfl, rfl, hi, hP, hS, hI, hO⟩ := hrel
            obtain ⟨P1, P2, P3⟩ := hP.out
            have HP1 := Lib.hid P1
            have HP2 := Lib.hid P2
            have HP3 := Lib.hid P3
            have k7 : kk ≤ 7 := by have := lenR_bd q; omega
            clear P1 P2 P3
            have HSQ := Lib.hid (show Below w.heap.size w wr from HW4.out.trans (hS.out.base.mono HW4.out.size))
            have m0 := hS.out.m
            have r0 := hS.out.r0
            have r1 := hS.out.r1
            have r2 := hS.out.r2
            have lq9 : g9 < wr.heap.size := Nat.lt_of_lt_of_le hlie.out.b hS.out.sz
            have lq10 : g10 < wr.heap.size := Nat.lt_of_lt_of_le hlie.out.d hS.out.sz
            by_cases hlt2 : i < nn
            · obtain ⟨v0, hv0⟩ := some_of_lt vs (k := i) (by rw [HL.out.len]; omega)
              obtain ⟨bl, ofl, rfl, hbl, hcl⟩ := (ints_now HL.out HSQ.out).at_ (by omega)
              have cv := hcl i v0 hv0
              have i1 : (0 : Int) ≤ (i : Int) := by omega
              have i2 : (i : Int) < (nn : Int) := by omega
              clear hcl hv0
              obtain ⟨v, hv⟩ : ∃ v, v0 % 65536 = v := ⟨_, rfl⟩
              have HV := Lib.hid hv
              have v1 : 0 ≤ v ∧ v ≤ 65535 := by omega
              have HV1 := Lib.hid v1
              clear hv v1
              go_wp2_with fail
              refine (law_at _ _ (by decide) _).mono ?_
              rw [HV.out]
              rintro e w' ⟨rfl, rfl⟩
              by_cases hk7 : kk = 7
              · have HPE2 := Lib.hid (show pushE ys ⟨q.page, q.head, q.tail⟩ v = 1 from pushE_m (bothE_0 HP1.out HP2.out) HV1.out (by rw [HP3.out, hk7]; rfl))
                have t7 : ¬ ((kk : Int) < 7) := by omega
                clear hk7
                go_wp2_with fail
                refine (ring_Push_no _ _ _ ys q.page q.head q.tail v _ hI.out (by rw [HPE2.out]; decide)).mono ?_
                rw [HPE2.out]
                rintro e w7 ⟨rfl, hb7⟩
                have S7 := Lib.hid (since_alloc (since_alloc (show Since wr w7 from hb7) (.cells #[.slice none 0 0] 24)) (.cells #[.int .i64 0, .int .i64 0, .int .i64 0] 26))
                clear m0 r0 r1 r2 cv hb7
                go_wp2
                go_roundw
                case rel => exact ⟨i + 1, kk, A8, c8, A9, c9, ys, q, rfl, by go_num, hlt2, hP.out, hS.out.since hlie.out S7.out, ints_snc hI.out S7.out, hO.out⟩
                case measure => simp [intOf]; omega
              · have HPE2 := Lib.hid (show pushE ys ⟨q.page, q.head, q.tail⟩ v = 0 from pushE_0 (bothE_0 HP1.out HP2.out) HV1.out (by rw [HP3.out]; omega))
                have t7 : (kk : Int) < 7 := by omega
                go_wp2_with fail
                refine (ring_Push _ _ _ ys q.page q.head q.tail v _ hI.out HPE2.out).mono ?_
                rintro e w7 ⟨A', c', rfl, ho, hb7⟩
                clear hk7
                have H7 := Lib.hid (hS.out.since hlie.out (show Since wr w7 from hb7))
                have hz7 := hb7.size
                have lg97 : g9 < w7.heap.size := Nat.lt_of_lt_of_le hlie.out.b H7.out.sz
                have lg107 : g10 < w7.heap.size := Nat.lt_of_lt_of_le hlie.out.d H7.out.sz
                have zB7 : B ≤ w7.heap.size := H7.out.sz
                have HO7 := Lib.hid ho
                have OB7 := Lib.hid (own_blk ho)
                have O8 := Lib.hid (own_blk hS.out.own)
                have PIN := Lib.hid (push_in (v := v) (cm_inv HP1.out).1 HP2.out (show lenR q ≠ 7 by rw [HP3.out]; omega))
                have PCM := Lib.hid (push_cm (r := q) HP1.out HV1.out)
                have PRG := Lib.hid (push_ring HP2.out)
                have PLN := Lib.hid (push_len HP2.out (show lenR q ≠ 7 by rw [HP3.out]; omega))
                clear m0 r0 r1 r2 cv hb7 ho
                go_upto_region 25 with (fail)
                have SW := Lib.hid (since_alloc (since_drew (since_alloc (since_alloc (since_refl w7) (.cells #[.slice A' 512 c'] 24)) (.cells #[.int .i64 q.page, .int .i64 q.head, .int .i64 ((q.tail + 1) % 8)] 26))) (.cells #[.int .i64 v] 3))
                have H9 := Lib.hid (H7.out.since hlie.out SW.out)
                have OA9 := Lib.hid (HO7.out.below SW.out)
                have ne1 : ¬ g10 = w7.heap.size := by omega
                have ne2 : ¬ w7.heap.size = g10 := by omega
                have ne3 : ¬ g10 = w7.heap.size + 1 := by omega
                have ne4 : ¬ w7.heap.size + 1 = g10 := by omega
                have ne5 : ¬ g9 = w7.heap.size := by omega
                have ne6 : ¬ w7.heap.size = g9 := by omega
                have ne7 : ¬ g9 = w7.heap.size + 1 := by omega
                have ne8 : ¬ w7.heap.size + 1 = g9 := by omega
                have ne9 : ¬ g9 = g10 := hlie.out.e
                have ne10 : ¬ g10 = g9 := fun e => hlie.out.e e.symm
                go_region_held3 (fun W => W.cell? ⟨w7.heap.size, 0, none⟩ = some (.slice A' 512 c') ∧ W.cell? ⟨w7.heap.size + 1, 0, none⟩ = some (.int .i64 q.page) ∧ W.cell? ⟨w7.heap.size + 1, 1, none⟩ = some (.int .i64 q.head) ∧ W.cell? ⟨w7.heap.size + 1, 2, none⟩ = some (.int .i64 ((q.tail + 1) % 8)))
                  (first | (refine ⟨?_, ?_, ?_, ?_⟩ <;> (simp (maxDischargeDepth := 8) [go_sem]; done)) | (exact ⟨tm, t0, t1, t2⟩) | (refine ⟨?_, ?_, ?_, ?_⟩ <;> (simp (maxDischargeDepth := 8) [go_sem, ne1, ne2, ne3, ne4, ne5, ne6, ne7, ne8, tm, t0, t1, t2]; done)))
                  (first
                  | (refine step_append_lies _ (by rfl) (.tmp 102) (.tmp 104) 22 (by rfl) B 3 i0 (.int .i64 0) 1 8 Try.underlying22 HI.out HZ0.out HZ1.out HZ2.out (by rfl) (by decide) (.slice A8 kk c8) kk ((inRing ys kk q).map (Value.int .i64)) (by rfl) H9.out.own.2 ⟨w7.heap.size + 1 + 1, 0, none⟩ 1 1 [.int .i64 v] (by rfl) (by rfl) (news_one ((w7.alloc (.cells #[.slice A' 512 c'] 24)).alloc (.cells #[.int .i64 q.page, .int .i64 q.head, .int .i64 ((q.tail + 1) % 8)] 26)).drew _ v (by simp)) (one_one v) (by decide) (by unfold maxLen; omega) (by omega) (by simp; omega) _ rfl ?_; intro g cap w8 hown8 hgrow8 hat8 hlt8; have H8 := Lib.hid (H9.out.grow hlie.out hown8 hgrow8); have em := H8.out.m; have e0 := H8.out.r0; have e1 := H8.out.r1; have e2 := H8.out.r2; have f10 := H8.out.f10; have f9 := H8.out.f9; have tm := (hgrow8.cell_far ⟨w7.heap.size, 0, none⟩ (by simp; omega) (far_own H7.out.own w7.heap.size (Nat.le_refl _))); have t0 := (hgrow8.cell_far ⟨w7.heap.size + 1, 0, none⟩ (by first | (simp; done) | (simp; omega)) (far_own H7.out.own (w7.heap.size + 1) (by omega))); have t1 := (hgrow8.cell_far ⟨w7.heap.size + 1, 1, none⟩ (by first | (simp; done) | (simp; omega)) (far_own H7.out.own (w7.heap.size + 1) (by omega))); have t2 := (hgrow8.cell_far ⟨w7.heap.size + 1, 2, none⟩ (by first | (simp; done) | (simp; omega)) (far_own H7.out.own (w7.heap.size + 1) (by omega))); simp (maxDischargeDepth := 8) [go_sem] at tm t0 t1 t2; have GR := Lib.hid hgrow8; have AT := Lib.hid hat8; clear hown8 hgrow8 hat8))
                all_goals
                  go_wp2
                  go_roundw
                  case rel =>
                    have hA' : ∀ ad, A' = some ad → ad.block ≠ g9 ∧ ad.block ≠ g10 ∧ some ad.block ≠ (Value.slice A8 kk c8).ownBlock ∧ ad.block ≠ g := by
                      intro ad e
                      have h1 := OB7.out ad e
                      refine ⟨by omega, by omega, ?_, ?_⟩
                      · intro e'
                        cases A8 with
                        | none => cases e'
                        | some a8 =>
                          have h2 := O8.out a8 rfl
                          have h3 : ad.block = a8.block := by simpa [Value.ownBlock] using e'
                          omega
                      · rcases AT.out with e' | e'
                        · cases A8 with
                          | none => cases e'
                          | some a8 =>
                            have h2 := O8.out a8 rfl
                            have h3 : a8.block = g := by simpa [Value.ownBlock] using e'
                            omega
                        · simp at e'
                          omega
                    have IN8 := ints_grown (OA9.out.ints (by decide)) GR.out (fun ad e => (hA' ad e).2.2.1)
                    refine ⟨i + 1, kk + 1, some ⟨g, 0, none⟩, cap, A', c', pushX ys q v, pushR q, rfl, by go_num, hlt2, ⟨PCM.out, PRG.out, ?_⟩, ?_, ?_, ?_⟩
                    · rw [PLN.out, HP3.out]; rfl
                    · show St _ _ _ _ _ _ _ _ _ _ _ _
                      have hp := PIN.out
                      rw [HP3.out] at hp
                      have q1 : ((kk : Int) + 1).toNat = kk + 1 := by omega
                      have q2 : ((kk : Int)).toNat = kk := by omega
                      rw [q1, q2] at hp
                      rw [hp]
                      first | exact (H8.out.mem hlie.out A' c').ring hlie.out (pushR q) | exact (H8.out.ring hlie.out (pushR q)).mem hlie.out A' c'
                    · show Ints _ _ _ _ _
                      refine Ints.more (B := w8.heap.size) ?_ (by simp)
                      have hq9 : ∀ ad, A' = some ad → ad.block ≠ g9 := fun ad e => (hA' ad e).1
                      have hq10 : ∀ ad, A' = some ad → ad.block ≠ g10 := fun ad e => (hA' ad e).2.1
                      repeat (first | (with_reducible exact IN8) | ((with_reducible refine ints_set ?_ ?_ _); rotate_left; (first | exact hq9 | exact hq10)))
                    · intro ad e
                      refine ⟨(hA' ad e).1, (hA' ad e).2.1, fun ad' e' => ?_⟩
                      simp only [Option.some.injEq] at e'
                      subst e'
                      exact (hA' ad e).2.2.2
                  case measure => simp [intOf]; omega
            · obtain rfl : i = nn := by omega
              have HO3 := Lib.hid (fun ad e => ((hO.out ad e).2.1 : ad.block ≠ g10))
              have HOW := Lib.hid hS.out.own
              have HI3 := hI
              have HS3 := hS
              clear m0 r0 r1 r2
              go_wp2
              go_loopw [109] (fun s109 wr => ∃ (j : Nat), s109 = .int .i64 j ∧ j ≤ kk ∧ Hid (St w4 B g9 g10 wr A9 c9 (popN j q) A8 kk c8 (inRing ys kk q)) ∧ Hid (Ints wr wr.heap.size A9 512 ys)) (fun i _ => kk - (intOf i).toNat)
              case atStart => exact ⟨0, rfl, by omega, by rw [popN_0 HP2.out]; exact HS3.out, HI3.out⟩
              case round =>
                obtain ⟨j, rfl, hj, hSj, hIj⟩ := hrel
                have m0 := hSj.out.m
                have r0 := hSj.out.r0
                have r1 := hSj.out.r1
                have r2 := hSj.out.r2
                have lj9 : g9 < wr.heap.size := Nat.lt_of_lt_of_le hlie.out.b hSj.out.sz
                have lj10 : g10 < wr.heap.size := Nat.lt_of_lt_of_le hlie.out.d hSj.out.sz
                by_cases hlt3 : j < kk
                · have HPG := Lib.hid (pop_good HP1.out HP2.out HP3.out hlt3)
                  obtain ⟨bw, ofw, hA8, hbw, hcw⟩ := (hSj.out.own.ints (by omega)).at_ (by omega)
                  subst hA8
                  have cw := hcw j _ (inRing_get HP2.out kk j hlt3)
                  have j1 : (0 : Int) ≤ (j : Int) := by omega
                  have j2 : (j : Int) < (kk : Int) := by omega
                  clear hcw
                  obtain ⟨v, hv⟩ : ∃ v, popV ys (popN j q) = v := ⟨_, rfl⟩
                  rw [hv] at cw HPG
                  obtain ⟨s, hs⟩ : ∃ s, popN (j + 1) q = s := ⟨_, rfl⟩
                  have HSS := Lib.hid hs
                  rw [hs] at HPG
                  clear hv hs
                  go_wp2_with fail
                  refine (pop_ans _ _ _ ys (popN j q) s v 0 _ hIj.out HPG.out).mono ?_
                  rintro e w7 ⟨rfl, hb7⟩
                  have H7 := Lib.hid (hSj.out.since hlie.out (show Since wr w7 from hb7))
                  have HI7 := Lib.hid (ints_snc hIj.out (show Since wr w7 from hb7))
                  have lg97 : g9 < w7.heap.size := Nat.lt_of_lt_of_le hlie.out.b H7.out.sz
                  have lg107 : g10 < w7.heap.size := Nat.lt_of_lt_of_le hlie.out.d H7.out.sz
                  have e0 := H7.out.r0
                  have e1 := H7.out.r1
                  have e2 := H7.out.r2
                  have f10 := H7.out.f10
                  clear m0 r0 r1 r2 cw hb7
                  go_wp2
                  go_roundw
                  case rel =>
                    refine ⟨j + 1, by go_num, hlt3, ?_, ?_⟩
                    · show St _ _ _ _ _ _ _ _ _ _ _ _
                      rw [HSS.out]
                      first | exact (H7.out.ring hlie.out s).since hlie.out (since_alloc (since_refl _) _) | exact (H7.out.since hlie.out (since_alloc (since_refl _) _)).ring hlie.out s
                    · show Ints _ _ _ _ _
                      refine Ints.more (B := w7.heap.size) ?_ (by simp)
                      repeat (first | (with_reducible exact HI7.out) | ((with_reducible refine ints_set ?_ ?_ _); rotate_left; exact HO3.out) | ((with_reducible refine Ints.alloc ?_ ?_ _); rotate_left; exact (by simp)))
                  case measure => simp [intOf]; omega
                · obtain rfl : j = kk := by omega
                  have HRL := Lib.hid (show lenR ⟨q.page, (q.head + (j : Int)) % 8, q.tail⟩ = 0 from (popN_len HP2.out HP3.out (Nat.le_refl _)).trans (by omega))
                  have HRR := Lib.hid (show ringR ⟨q.page, (q.head + (j : Int)) % 8, q.tail⟩ from popN_ring j HP2.out)
                  go_wp2_with fail
                  refine (ring_Length _ _ _ HRR.out _).mono ?_
                  rw [HRL.out]
                  rintro e w7 ⟨rfl, hb7⟩
                  have HB7 := Lib.hid hb7
                  clear hb7 m0 r0 r1 r2
                  go_wp2
                  go_ret
                  exact ⟨rfl, HW4.out.trans (((hSj.out.base).trans (HB7.out.mono hSj.out.base.size)).mono HW4.out.size)⟩
theorem law_RingOrder (A : Option Addr) (n c : Nat) (xs : List Int) (r : Ring) (L : Option Addr) (nl lc : Nat) (vs : List Int) (w : World) (hx : Ints w w.heap.size A n xs) (hl : Ints w w.heap.size L nl vs) (hcap : nl ≤ lc) :
    Calls Try.prog 3 #[.agg #[.slice A n c], .agg #[.int .i64 r.page, .int .i64 r.head, .int .i64 r.tail], .slice L nl lc] w fun e w' => e = .returned (.bool true) ∧ Below w.heap.size w w' := by
  by_cases h0 : cm xs = 0
  · by_cases hr : ringR r
    · have hn : n = 512 := by rw [← hx.len]; exact (cm_inv h0).1
      subst hn
      obtain ⟨l, hlen⟩ := Int.eq_ofNat_of_zero_le (lenR_bd r).1
      exact order_0 A c xs r l L nl lc vs w hx hl hcap h0 hr hlen
    · exact order_r A n c xs r L nl lc w hx h0 hr
  · exact order_c A n c xs r.page r.head r.tail L nl lc w hx h0
end Go.Proofs.Ytbopdijnojaaiab
