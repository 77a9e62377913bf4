/- The document's bridge: the walk of GoesTo. No statement of the seat is proved here. -/
import Derived.Test.YtbopdijnojaaiacRefB
import Derived.Test.YtbopdijnojaaiacRefD
import Derived.Test.YtbopdijnojaaiacWalkR
import Derived.Test.YtbopdijnojaaiacBase
import Derived.Test.YtbopdijnojaaiacEntryF
namespace Go.Proofs.Ytbopdijnojaaiac
open Go.RowKit
set_option linter.unusedSimpArgs false
set_option linter.unusedVariables false
attribute [local go_sem ↓] Go.wp_at_zero Go.wp_at_succ

theorem rctx_bad (x : Int) (w : World) (h : cxK x = false) : Calls Try.prog 87 #[.int .i64 x] w fun e w' => e = .returned (.tuple #[.agg #[.bool false, .bool false, .int .i64 0], .bool false]) ∧ Below w.heap.size w w' :=
  (ref_ContextOf x w).mono fun e w' ⟨he, hb⟩ => ⟨by
    have hg : cxG x = false := by
      cases h' : cxG x with
      | false => rfl
      | true => rw [cxG_K h'] at h; cases h
    rw [he, cxV_eq, hg, h]; simp [cxR, hg], hb⟩
theorem rctx_off (x : Int) (w : World) (h : cxK x = true) (hg : cxG x = false) : Calls Try.prog 87 #[.int .i64 x] w fun e w' => e = .returned (.tuple #[.agg #[.bool false, .bool false, .int .i64 0], .bool true]) ∧ Below w.heap.size w w' :=
  (ref_ContextOf x w).mono fun e w' ⟨he, hb⟩ => ⟨by rw [he, cxV_eq, hg, h]; simp [cxR, hg], hb⟩
theorem rctx_on (x : Int) (s : Bool) (r : Int) (w : World) (hg : cxG x = true) (hs : bitI x 1 = s) (hr : cxR x = r) : Calls Try.prog 87 #[.int .i64 x] w fun e w' => e = .returned (.tuple #[.agg #[.bool true, .bool s, .int .i64 r], .bool true]) ∧ Below w.heap.size w w' :=
  (ref_ContextOf x w).mono fun e w' ⟨he, hb⟩ => ⟨by rw [he, cxV_eq, hg, cxG_K hg, hs, hr]; simp, hb⟩
theorem rwalk_at (A : Option Addr) (c : Nat) (xs : List Int) (root page : Int) (wr : Bool) (v r u l : Bool) (p f : Int) (w : World) (h : Ints w w.heap.size A 512 xs) (h0 : cm xs = 0) (hin : inP root page) (hq : walkM xs root page wr = (⟨v, r, u, l, p⟩, f)) :
    Calls Try.prog 88 #[.agg #[.slice A 512 c], .int .i64 root, .int .i64 page, .bool wr] w fun e' w' => e' = .returned (.tuple #[.agg #[.bool v, .bool r, .bool u, .bool l, .int .i64 p], .int .i64 f, .int .i64 0]) ∧ Below w.heap.size w w' := by
  have := ref_Walked A c xs root page wr w h h0 hin
  rw [hq] at this
  exact this

/-- what GoesTo answers. -/
def GoesC (w : World) (rb : Brg) (ra rf : Int) (e : Ending) (w' : World) : Prop :=
  ∃ A n c, e = .returned (.tuple #[.agg #[.int .i64 rb.mode, .int .i64 rb.base, .slice A n c, .int .i64 rb.orders.page, .int .i64 rb.orders.head, .int .i64 rb.orders.tail, .bool rb.stopped, .int .i64 rb.fences, .int .i64 rb.faults.page, .int .i64 rb.faults.head, .int .i64 rb.faults.tail, .bool rb.lost], .int .i64 ra, .int .i64 rf]) ∧ Lines w' w'.heap.size A n c rb.cache ∧ Below w.heap.size w w'
/-- a slice that was, or one that lies in memory made since. -/
def NewN (w : World) (A0 : Option Addr) (n0 : Nat) (A : Option Addr) (n : Nat) : Prop := (A = A0 ∧ n = n0) ∨ ∀ ad, A = some ad → w.heap.size ≤ ad.block
theorem newn_same (w : World) (A : Option Addr) (n : Nat) : NewN w A n A n := Or.inl ⟨rfl, rfl⟩
/-- the same, and where the lines lie. -/
def GoesD (w : World) (A0 : Option Addr) (n0 : Nat) (rb : Brg) (ra rf : Int) (e : Ending) (w' : World) : Prop :=
  ∃ A n c, e = .returned (.tuple #[.agg #[.int .i64 rb.mode, .int .i64 rb.base, .slice A n c, .int .i64 rb.orders.page, .int .i64 rb.orders.head, .int .i64 rb.orders.tail, .bool rb.stopped, .int .i64 rb.fences, .int .i64 rb.faults.page, .int .i64 rb.faults.head, .int .i64 rb.faults.tail, .bool rb.lost], .int .i64 ra, .int .i64 rf]) ∧ Lines w' w'.heap.size A n c rb.cache ∧ Below w.heap.size w w' ∧ NewN w A0 n0 A n
theorem GoesD.c {w w' : World} {A0 : Option Addr} {n0 : Nat} {rb : Brg} {ra rf : Int} {e : Ending} (h : GoesD w A0 n0 rb ra rf e w') : GoesC w rb ra rf e w' := by
  obtain ⟨A, n, c, h1, h2, h3, _⟩ := h
  exact ⟨A, n, c, h1, h2, h3⟩

set_option maxRecDepth 100000 in
set_option maxHeartbeats 4000000 in
theorem goesD_shut (m : Option Addr) (nm cm' : Nat) (b : Brg) (A : Option Addr) (n c : Nat) (d p : Int) (wr : Bool) (w : World) (hl : Lines w w.heap.size A n c b.cache) (hm : b.mode = 0) :
    Calls Try.prog 58 #[.agg #[.slice m nm cm'], .agg #[.int .i64 b.mode, .int .i64 b.base, .slice A n c, .int .i64 b.orders.page, .int .i64 b.orders.head, .int .i64 b.orders.tail, .bool b.stopped, .int .i64 b.fences, .int .i64 b.faults.page, .int .i64 b.faults.head, .int .i64 b.faults.tail, .bool b.lost], .int .i64 d, .int .i64 p, .bool wr] w (GoesD w A n b 0 1) := by
  have HL := Lib.hid hl
  have m0 : (b.mode == 0) = true := by rw [hm]; rfl
  clear hl hm
  go_enter Try.func58, Try.ntmps58
  go_wp2
  refine bodyPost_ret (v := .tuple #[.agg #[.int .i64 b.mode, .int .i64 b.base, .slice A n c, .int .i64 b.orders.page, .int .i64 b.orders.head, .int .i64 b.orders.tail, .bool b.stopped, .int .i64 b.fences, .int .i64 b.faults.page, .int .i64 b.faults.head, .int .i64 b.faults.tail, .bool b.lost], .int .i64 0, .int .i64 1]) ?_ rfl ⟨A, n, c, rfl, lines_now HL.out ?_, ?_, newn_same _ _ _⟩
  · simp (maxDischargeDepth := 8) [results, Try.results58, go_sem, *]
  · (repeat (first | (with_reducible exact Below.refl _ _) | (with_reducible refine Below.drew ?_) | (with_reducible refine bdrewN ?_ _) | ((with_reducible refine Below.setCell ?_ ?_ _); rotate_left; exact (by first | (simp; done) | (simp; omega) | omega)) | ((with_reducible refine Below.alloc ?_ ?_ _); rotate_left; exact (by first | (simp; done) | (simp; omega) | omega))))
  · (repeat (first | (with_reducible exact Below.refl _ _) | (with_reducible refine Below.drew ?_) | (with_reducible refine bdrewN ?_ _) | ((with_reducible refine Below.setCell ?_ ?_ _); rotate_left; exact (by first | (simp; done) | (simp; omega) | omega)) | ((with_reducible refine Below.alloc ?_ ?_ _); rotate_left; exact (by first | (simp; done) | (simp; omega) | omega))))
set_option maxRecDepth 100000 in
set_option maxHeartbeats 4000000 in
theorem goesD_bare (m : Option Addr) (nm cm' : Nat) (b : Brg) (A : Option Addr) (n c : Nat) (d p : Int) (wr : Bool) (w : World) (hl : Lines w w.heap.size A n c b.cache) (hm : b.mode = 1) :
    Calls Try.prog 58 #[.agg #[.slice m nm cm'], .agg #[.int .i64 b.mode, .int .i64 b.base, .slice A n c, .int .i64 b.orders.page, .int .i64 b.orders.head, .int .i64 b.orders.tail, .bool b.stopped, .int .i64 b.fences, .int .i64 b.faults.page, .int .i64 b.faults.head, .int .i64 b.faults.tail, .bool b.lost], .int .i64 d, .int .i64 p, .bool wr] w (GoesD w A n b p 0) := by
  have HL := Lib.hid hl
  have m0 : (b.mode == 0) = false := by rw [hm]; rfl
  have m1 : (b.mode == 1) = true := by rw [hm]; rfl
  clear hl hm
  go_enter Try.func58, Try.ntmps58
  go_wp2
  refine bodyPost_ret (v := .tuple #[.agg #[.int .i64 b.mode, .int .i64 b.base, .slice A n c, .int .i64 b.orders.page, .int .i64 b.orders.head, .int .i64 b.orders.tail, .bool b.stopped, .int .i64 b.fences, .int .i64 b.faults.page, .int .i64 b.faults.head, .int .i64 b.faults.tail, .bool b.lost], .int .i64 p, .int .i64 0]) ?_ rfl ⟨A, n, c, rfl, lines_now HL.out ?_, ?_, newn_same _ _ _⟩
  · simp (maxDischargeDepth := 8) [results, Try.results58, go_sem, *]
  · (repeat (first | (with_reducible exact Below.refl _ _) | (with_reducible refine Below.drew ?_) | (with_reducible refine bdrewN ?_ _) | ((with_reducible refine Below.setCell ?_ ?_ _); rotate_left; exact (by first | (simp; done) | (simp; omega) | omega)) | ((with_reducible refine Below.alloc ?_ ?_ _); rotate_left; exact (by first | (simp; done) | (simp; omega) | omega))))
  · (repeat (first | (with_reducible exact Below.refl _ _) | (with_reducible refine Below.drew ?_) | (with_reducible refine bdrewN ?_ _) | ((with_reducible refine Below.setCell ?_ ?_ _); rotate_left; exact (by first | (simp; done) | (simp; omega) | omega)) | ((with_reducible refine Below.alloc ?_ ?_ _); rotate_left; exact (by first | (simp; done) | (simp; omega) | omega))))

theorem find_at {ls : List Line} {d p : Int} {k : Nat} {x : Line} (hk : ls[k]? = some x) (hx : hitL d p x = true) (h : ∀ y ∈ ls.take k, hitL d p y = false) : ls.find? (hitL d p) = some x := by
  have e : ls = ls.take k ++ x :: ls.drop (k + 1) := by
    have hlt := (List.getElem?_eq_some_iff.1 hk).1
    have hx' := (List.getElem?_eq_some_iff.1 hk).2
    conv => lhs; rw [← List.take_append_drop k ls, List.drop_eq_getElem_cons hlt, hx']
  rw [e, List.find?_append, List.find?_eq_none.2 (fun y hy => by simp [h y hy]), List.find?_cons, hx]
  rfl
theorem find_none_neg {ls : List Line} {d p : Int} (h : ls.find? (hitL d p) = none) : findL ls d p < 0 := by rw [find_find h]; decide
set_option maxRecDepth 100000 in
set_option maxHeartbeats 8000000 in
theorem goesD_on (xs : List Int) (m : Option Addr) (cm' : Nat) (b : Brg) (A : Option Addr) (n c : Nat) (d p : Int) (wb : Bool) (rb : Brg) (ra rf : Int) (w : World) (hx : Ints w w.heap.size m 512 xs) (hl : Lines w w.heap.size A n c b.cache) (h0 : cm xs = 0) (hck : ckB b = 0) (hin : inD d p) (hm : b.mode = 2) (hr : thruM xs b d p wb = (rb, ra, rf)) :
    Calls Try.prog 58 #[.agg #[.slice m 512 cm'], .agg #[.int .i64 b.mode, .int .i64 b.base, .slice A n c, .int .i64 b.orders.page, .int .i64 b.orders.head, .int .i64 b.orders.tail, .bool b.stopped, .int .i64 b.fences, .int .i64 b.faults.page, .int .i64 b.faults.head, .int .i64 b.faults.tail, .bool b.lost], .int .i64 d, .int .i64 p, .bool wb] w (GoesD w A n rb ra rf) := by
  have HX := Lib.hid hx
  have HL := Lib.hid hl
  have H0 := Lib.hid h0
  have HCK := Lib.hid hck
  have HIN := Lib.hid hin
  have HM := Lib.hid hm
  have HR := Lib.hid hr
  have hcap := hl.cap
  have m0 : (b.mode == 0) = false := by rw [hm]; rfl
  have m1 : (b.mode == 1) = false := by rw [hm]; rfl
  have hW0 := Lib.hid (show Below w.heap.size w (((w.alloc (.cells #[.slice m 512 cm'] 30)).alloc (.cells #[.int .i64 b.mode, .int .i64 b.base, .slice A n c, .int .i64 b.orders.page, .int .i64 b.orders.head, .int .i64 b.orders.tail, .bool b.stopped, .int .i64 b.fences, .int .i64 b.faults.page, .int .i64 b.faults.head, .int .i64 b.faults.tail, .bool b.lost] 37)).alloc (.cells #[.int .i64 Brg.no.mode, .int .i64 Brg.no.base, .slice none 0 0, .int .i64 Brg.no.orders.page, .int .i64 Brg.no.orders.head, .int .i64 Brg.no.orders.tail, .bool Brg.no.stopped, .int .i64 Brg.no.fences, .int .i64 Brg.no.faults.page, .int .i64 Brg.no.faults.head, .int .i64 Brg.no.faults.tail, .bool Brg.no.lost] 37)) by (repeat (first | (with_reducible exact Below.refl _ _) | (with_reducible refine Below.drew ?_) | (with_reducible refine bdrewN ?_ _) | ((with_reducible refine Below.setCell ?_ ?_ _); rotate_left; exact (by first | (simp; done) | (simp; omega) | omega)) | ((with_reducible refine Below.alloc ?_ ?_ _); rotate_left; exact (by first | (simp; done) | (simp; omega) | omega)))))
  obtain ⟨W0, hW⟩ : ∃ W0, W0 = ((w.alloc (.cells #[.slice m 512 cm'] 30)).alloc (.cells #[.int .i64 b.mode, .int .i64 b.base, .slice A n c, .int .i64 b.orders.page, .int .i64 b.orders.head, .int .i64 b.orders.tail, .bool b.stopped, .int .i64 b.fences, .int .i64 b.faults.page, .int .i64 b.faults.head, .int .i64 b.faults.tail, .bool b.lost] 37)).alloc (.cells #[.int .i64 Brg.no.mode, .int .i64 Brg.no.base, .slice none 0 0, .int .i64 Brg.no.orders.page, .int .i64 Brg.no.orders.head, .int .i64 Brg.no.orders.tail, .bool Brg.no.stopped, .int .i64 Brg.no.fences, .int .i64 Brg.no.faults.page, .int .i64 Brg.no.faults.head, .int .i64 Brg.no.faults.tail, .bool Brg.no.lost] 37) := ⟨_, rfl⟩
  have hz0 : W0.heap.size = w.heap.size + 1 + 1 + 1 := by rw [hW]; simp
  have HZ0 := Lib.hid hz0
  have c5 : W0.cell? ⟨w.heap.size, 0, none⟩ = some (.slice m 512 cm') := by rw [hW]; simp (maxDischargeDepth := 8) [go_sem]
  have c6 : BrgAt W0 (w.heap.size + 1) b A n c := by rw [hW]; unfold BrgAt; simp (maxDischargeDepth := 8) [go_sem]
  have c10 : BrgAt W0 (w.heap.size + 1 + 1) Brg.no none 0 0 := by rw [hW]; unfold BrgAt; simp (maxDischargeDepth := 8) [go_sem]
  have f10 : ∀ o, W0.frozen? ⟨w.heap.size + 1 + 1, o, none⟩ = false := by intro o; rw [hW]; simp (maxDischargeDepth := 8) [go_sem]
  have f6 : ∀ o, W0.frozen? ⟨w.heap.size + 1, o, none⟩ = false := by intro o; rw [hW]; simp (maxDischargeDepth := 8) [go_sem]
  have C5 := Lib.hid c5
  have C6 := Lib.hid c6
  have C10 := Lib.hid c10
  have F10 := Lib.hid f10
  have F6 := Lib.hid f6
  have HW := Lib.hid hW
  rw [← hW] at hW0
  clear hx hl h0 hck hin hm hr c5 c6 c10 f10 f6 hW
  go_enter Try.func58, Try.ntmps58
  go_wp2
  go_loopw [32] (fun s32 wr' => ∃ i : Nat, s32 = .int .i64 i ∧ i ≤ n ∧ Hid (∀ y ∈ b.cache.take i, hitL d p y = false) ∧ Hid (Since W0 wr')) (fun i _ => n - (intOf i).toNat)
  case atStart => exact ⟨0, rfl, by omega, (fun y hy => by simp at hy), by rw [HW.out]; exact since_refl _⟩
  case round =>
    obtain ⟨i, rfl, hi, hno, hS⟩ := hrel
    have HSW := Lib.hid (show Below w.heap.size w wr from hW0.out.trans (Below.mono hS.out (Below.size hW0.out)))
    have hzr := Below.size hS.out
    obtain ⟨g0, g1, g2, g3, g4, g5, g6, g7, g8, g9, g10, g11⟩ := brg_since C6.out hS.out
    obtain ⟨z0, z1, z2, z3, z4, z5, z6, z7, z8, z9, z10, z11⟩ := brg_since C10.out hS.out
    have zf := fun o => (Below.frozen (p := ⟨w.heap.size + 1 + 1, o, none⟩) hS.out (by simp only []; have := HZ0.out; omega)).trans (F10.out o)
    have gf := fun o => (Below.frozen (p := ⟨w.heap.size + 1, o, none⟩) hS.out (by simp only []; have := HZ0.out; omega)).trans (F6.out o)
    have gm := since_cell hS.out C5.out
    have l5 : w.heap.size < wr.heap.size := by have := HZ0.out; omega
    have l6 : w.heap.size + 1 < wr.heap.size := by have := HZ0.out; omega
    have l10 : w.heap.size + 1 + 1 < wr.heap.size := by have := HZ0.out; omega
    by_cases hlt : i < n
    · obtain ⟨y, hy⟩ := some_of_lt b.cache (k := i) (by rw [HL.out.len]; exact hlt)
      obtain ⟨b1, off1, rfl, hb1', hcc⟩ := (lines_now HL.out HSW.out).at_ (by omega)
      obtain ⟨d0, d1, d2, d3, d4⟩ := hcc i y hy
      have HY := Lib.hid hy
      have n1 : (0 : Int) ≤ (i : Int) := by omega
      have n2 : (i : Int) < (n : Int) := by omega
      clear hcc hy
      have HH := Lib.hid (show hitL d p y = (y.dev == d && y.page == p) from rfl)
      cases h1 : (y.dev == d)
      · have HQ := Lib.hid (show hitL d p y = false by rw [HH.out, h1]; rfl)
        clear g0 g1 g2 g3 g4 g5 g6 g7 g8 g9 g10 g11 z0 z1 z2 z3 z4 z5 z6 z7 z8 z9 z10 z11 zf gf gm
        go_wp2
        go_roundw
        case rel => exact ⟨i + 1, by go_num, by omega, find_upto HY.out hno.out HQ.out, since_alloc hS.out _⟩
        case measure => simp [intOf]; omega
      · cases h2 : (y.page == p)
        · have HQ := Lib.hid (show hitL d p y = false by rw [HH.out, h1, h2]; rfl)
          clear g0 g1 g2 g3 g4 g5 g6 g7 g8 g9 g10 g11 z0 z1 z2 z3 z4 z5 z6 z7 z8 z9 z10 z11 zf gf gm
          go_wp2
          go_roundw
          case rel => exact ⟨i + 1, by go_num, by omega, find_upto HY.out hno.out HQ.out, since_alloc hS.out _⟩
          case measure => simp [intOf]; omega
        · have hq : hitL d p y = true := by rw [HH.out, h1, h2]; rfl
          have hfind := find_at HY.out hq hno.out
          have e : thruM xs b d p wb = if wb && !y.wr then (b, 0, 5) else (b, y.at_, 0) := by unfold thruM; rw [if_neg (by have := HM.out; omega), if_neg (by have := HM.out; omega), hfind]
          rw [e] at HR
          clear e hfind hq
          cases wb with
          | false =>
            have hr := HR.out
            simp only [Bool.false_and, Bool.false_eq_true, if_false, Prod.mk.injEq] at hr
            obtain ⟨rfl, rfl, rfl⟩ := hr
            go_wp2_with fail
            go_region_with (fail)
            all_goals
              go_wp2
              refine bodyPost_ret (v := .tuple #[.agg #[.int .i64 b.mode, .int .i64 b.base, .slice (some ⟨b1, off1, none⟩) n c, .int .i64 b.orders.page, .int .i64 b.orders.head, .int .i64 b.orders.tail, .bool b.stopped, .int .i64 b.fences, .int .i64 b.faults.page, .int .i64 b.faults.head, .int .i64 b.faults.tail, .bool b.lost], .int .i64 y.at_, .int .i64 0]) ?_ rfl ⟨some ⟨b1, off1, none⟩, n, c, rfl, ?_, ?_, newn_same _ _ _⟩
              · simp (maxDischargeDepth := 8) [results, Try.results58, go_sem, *]
              · (refine lines_now HL.out ?_; ((repeat (first | (with_reducible exact Below.refl _ _) | (with_reducible refine Below.drew ?_) | (with_reducible refine bdrewN ?_ _) | ((with_reducible refine Below.setCell ?_ ?_ _); rotate_left; exact (by first | (simp; done) | (simp; omega) | omega)) | ((with_reducible refine Below.alloc ?_ ?_ _); rotate_left; exact (by first | (simp; done) | (simp; omega) | omega))))); exact HSW.out)
              · (repeat (first | (with_reducible exact Below.refl _ _) | (with_reducible refine Below.drew ?_) | (with_reducible refine bdrewN ?_ _) | ((with_reducible refine Below.setCell ?_ ?_ _); rotate_left; exact (by first | (simp; done) | (simp; omega) | omega)) | ((with_reducible refine Below.alloc ?_ ?_ _); rotate_left; exact (by first | (simp; done) | (simp; omega) | omega))))
                exact HSW.out
          | true =>
            cases hw : y.wr with
            | false =>
              have hr := HR.out
              rw [hw] at hr d4
              simp only [Bool.not_false, Bool.and_self, if_true, Prod.mk.injEq] at hr
              obtain ⟨rfl, rfl, rfl⟩ := hr
              clear hw
              go_wp2
              refine bodyPost_ret (v := .tuple #[.agg #[.int .i64 b.mode, .int .i64 b.base, .slice (some ⟨b1, off1, none⟩) n c, .int .i64 b.orders.page, .int .i64 b.orders.head, .int .i64 b.orders.tail, .bool b.stopped, .int .i64 b.fences, .int .i64 b.faults.page, .int .i64 b.faults.head, .int .i64 b.faults.tail, .bool b.lost], .int .i64 0, .int .i64 5]) ?_ rfl ⟨some ⟨b1, off1, none⟩, n, c, rfl, ?_, ?_, newn_same _ _ _⟩
              · simp (maxDischargeDepth := 8) [results, Try.results58, go_sem, *]
              · (refine lines_now HL.out ?_; ((repeat (first | (with_reducible exact Below.refl _ _) | (with_reducible refine Below.drew ?_) | (with_reducible refine bdrewN ?_ _) | ((with_reducible refine Below.setCell ?_ ?_ _); rotate_left; exact (by first | (simp; done) | (simp; omega) | omega)) | ((with_reducible refine Below.alloc ?_ ?_ _); rotate_left; exact (by first | (simp; done) | (simp; omega) | omega))))); exact HSW.out)
              · (repeat (first | (with_reducible exact Below.refl _ _) | (with_reducible refine Below.drew ?_) | (with_reducible refine bdrewN ?_ _) | ((with_reducible refine Below.setCell ?_ ?_ _); rotate_left; exact (by first | (simp; done) | (simp; omega) | omega)) | ((with_reducible refine Below.alloc ?_ ?_ _); rotate_left; exact (by first | (simp; done) | (simp; omega) | omega))))
                exact HSW.out
            | true =>
              have hr := HR.out
              rw [hw] at hr d4
              simp only [Bool.not_true, Bool.and_false, Bool.false_eq_true, if_false, Prod.mk.injEq] at hr
              obtain ⟨rfl, rfl, rfl⟩ := hr
              clear hw
              go_wp2_with fail
              go_region_with (fail)
              all_goals
                go_wp2
                refine bodyPost_ret (v := .tuple #[.agg #[.int .i64 b.mode, .int .i64 b.base, .slice (some ⟨b1, off1, none⟩) n c, .int .i64 b.orders.page, .int .i64 b.orders.head, .int .i64 b.orders.tail, .bool b.stopped, .int .i64 b.fences, .int .i64 b.faults.page, .int .i64 b.faults.head, .int .i64 b.faults.tail, .bool b.lost], .int .i64 y.at_, .int .i64 0]) ?_ rfl ⟨some ⟨b1, off1, none⟩, n, c, rfl, ?_, ?_, newn_same _ _ _⟩
                · simp (maxDischargeDepth := 8) [results, Try.results58, go_sem, *]
                · (refine lines_now HL.out ?_; ((repeat (first | (with_reducible exact Below.refl _ _) | (with_reducible refine Below.drew ?_) | (with_reducible refine bdrewN ?_ _) | ((with_reducible refine Below.setCell ?_ ?_ _); rotate_left; exact (by first | (simp; done) | (simp; omega) | omega)) | ((with_reducible refine Below.alloc ?_ ?_ _); rotate_left; exact (by first | (simp; done) | (simp; omega) | omega))))); exact HSW.out)
                · (repeat (first | (with_reducible exact Below.refl _ _) | (with_reducible refine Below.drew ?_) | (with_reducible refine bdrewN ?_ _) | ((with_reducible refine Below.setCell ?_ ?_ _); rotate_left; exact (by first | (simp; done) | (simp; omega) | omega)) | ((with_reducible refine Below.alloc ?_ ?_ _); rotate_left; exact (by first | (simp; done) | (simp; omega) | omega))))
                  exact HSW.out
    · obtain rfl : i = n := by omega
      have hnone : b.cache.find? (hitL d p) = none := find_none' (by rw [findL_none (fun y hy => hno.out y (by rw [List.take_of_length_le (by rw [HL.out.len]; omega)]; exact hy))]; decide)
      have e : thruM xs b d p wb = ((if (freshM xs b d p wb).2.1 then { b with cache := fillL b.cache (freshM xs b d p wb).1 } else b), (freshM xs b d p wb).1.at_, (freshM xs b d p wb).2.2) := by
        unfold thruM; rw [if_neg (by have := HM.out; omega), if_neg (by have := HM.out; omega), hnone]
      have hin := HIN.out
      unfold inD at hin
      obtain ⟨⟨q1, q2⟩, q3, q4⟩ := hin
      have hbs := ((ckB_iff b).1 HCK.out).1.2.1
      obtain ⟨mb, moff, rfl, hmb, hmc⟩ := (ints_now HX.out HSW.out).at_ (by decide)
      have hcx := hmc _ _ (rd_at (i := b.base * 8 + d) (cm_inv H0.out).1 (by omega))
      have e8 : b.base * 8 + d = 8 * b.base + d := by omega
      rw [e8] at hcx
      have m8 : IntKind.i64.wrap (8 * b.base) = 8 * b.base := IntWalk.i64_in _ (by omega)
      have m9 : IntKind.i64.wrap (8 * b.base + d) = 8 * b.base + d := IntWalk.i64_in _ (by omega)
      have x1 : (0 : Int) ≤ 8 * b.base + d := by omega
      have x2 : 8 * b.base + d < 512 := by omega
      obtain ⟨x, hxx⟩ : ∃ x, rd xs (8 * b.base + d) = x := ⟨_, rfl⟩
      rw [hxx] at hcx
      have HXX := Lib.hid (show rd xs (b.base * 8 + d) = x by rw [e8]; exact hxx)
      have HFL := Lib.hid (find_none_neg hnone)
      have HE := Lib.hid e
      clear hmc hmb hxx hnone e e8 hbs
      cases hK : cxK x with
      | false =>
        have hG : cxG x = false := by
          cases h' : cxG x with
          | false => rfl
          | true => rw [cxG_K h'] at hK; cases hK
        have ef : freshM xs b d p wb = (.no, false, 2) := by unfold freshM; simp only [HXX.out, hG]; rfl
        have hr := HR.out
        rw [HE.out, ef] at hr
        simp only [Line.no, Bool.false_eq_true, if_false, Prod.mk.injEq] at hr
        obtain ⟨rfl, rfl, rfl⟩ := hr
        have HK := Lib.hid hK
        clear hK hG ef
        go_wp2_with fail
        refine (rctx_bad _ _ HK.out).mono ?_
        rintro e w1 ⟨rfl, hb1⟩
        have hz1 := hb1.size
        (try simp only [World.size_alloc, World.size_setCell, World.size_drew] at hz1)
        have k1_0 := fun o => (bcell hb1).1 (w.heap.size + 1) o (by first | (simp; done) | (simp; omega) | omega)
        have l1_0 : (w.heap.size + 1) < w1.heap.size := (by omega)
        have q1_0 := fun o => (bcell hb1).2 (w.heap.size + 1) o (by first | (simp; done) | (simp; omega) | omega)
        have k1_1 := fun o => (bcell hb1).1 (w.heap.size + 1 + 1) o (by first | (simp; done) | (simp; omega) | omega)
        have l1_1 : (w.heap.size + 1 + 1) < w1.heap.size := (by omega)
        have q1_1 := fun o => (bcell hb1).2 (w.heap.size + 1 + 1) o (by first | (simp; done) | (simp; omega) | omega)
        simp (maxDischargeDepth := 6) [go_sem, *] at k1_0 q1_0 k1_1 q1_1
        have HB1 := Lib.hid hb1
        clear hb1
        go_wp2
        refine bodyPost_ret (v := .tuple #[.agg #[.int .i64 b.mode, .int .i64 b.base, .slice A i c, .int .i64 b.orders.page, .int .i64 b.orders.head, .int .i64 b.orders.tail, .bool b.stopped, .int .i64 b.fences, .int .i64 b.faults.page, .int .i64 b.faults.head, .int .i64 b.faults.tail, .bool b.lost], .int .i64 0, .int .i64 2]) ?_ rfl ⟨A, i, c, rfl, ?_, ?_, newn_same _ _ _⟩
        · simp (maxDischargeDepth := 8) [results, Try.results58, go_sem, *]
        · (refine lines_now HL.out ?_; ((repeat (first | (with_reducible exact Below.refl _ _) | (with_reducible refine Below.drew ?_) | (with_reducible refine bdrewN ?_ _) | ((with_reducible refine Below.setCell ?_ ?_ _); rotate_left; exact (by first | (simp; done) | (simp; omega) | omega)) | ((with_reducible refine Below.alloc ?_ ?_ _); rotate_left; exact (by first | (simp; done) | (simp; omega) | omega)) | ((with_reducible refine Below.trans ?_ (HB1.out.mono ?_)); rotate_left; exact (by first | (simp; done) | (simp; omega) | omega))))); exact HSW.out)
        · (repeat (first | (with_reducible exact Below.refl _ _) | (with_reducible refine Below.drew ?_) | (with_reducible refine bdrewN ?_ _) | ((with_reducible refine Below.setCell ?_ ?_ _); rotate_left; exact (by first | (simp; done) | (simp; omega) | omega)) | ((with_reducible refine Below.alloc ?_ ?_ _); rotate_left; exact (by first | (simp; done) | (simp; omega) | omega)) | ((with_reducible refine Below.trans ?_ (HB1.out.mono ?_)); rotate_left; exact (by first | (simp; done) | (simp; omega) | omega))))
          exact HSW.out
      | true =>
        cases hG : cxG x with
        | false =>
          have ef : freshM xs b d p wb = (.no, false, 2) := by unfold freshM; simp only [HXX.out, hG]; rfl
          have hr := HR.out
          rw [HE.out, ef] at hr
          simp only [Line.no, Bool.false_eq_true, if_false, Prod.mk.injEq] at hr
          obtain ⟨rfl, rfl, rfl⟩ := hr
          have HK := Lib.hid hK
          have HG := Lib.hid hG
          clear hK hG ef
          go_wp2_with fail
          refine (rctx_off _ _ HK.out HG.out).mono ?_
          rintro e w1 ⟨rfl, hb1⟩
          have hz1 := hb1.size
          (try simp only [World.size_alloc, World.size_setCell, World.size_drew] at hz1)
          have k1_0 := fun o => (bcell hb1).1 (w.heap.size + 1) o (by first | (simp; done) | (simp; omega) | omega)
          have l1_0 : (w.heap.size + 1) < w1.heap.size := (by omega)
          have q1_0 := fun o => (bcell hb1).2 (w.heap.size + 1) o (by first | (simp; done) | (simp; omega) | omega)
          have k1_1 := fun o => (bcell hb1).1 (w.heap.size + 1 + 1) o (by first | (simp; done) | (simp; omega) | omega)
          have l1_1 : (w.heap.size + 1 + 1) < w1.heap.size := (by omega)
          have q1_1 := fun o => (bcell hb1).2 (w.heap.size + 1 + 1) o (by first | (simp; done) | (simp; omega) | omega)
          simp (maxDischargeDepth := 6) [go_sem, *] at k1_0 q1_0 k1_1 q1_1
          have HB1 := Lib.hid hb1
          clear hb1
          go_wp2
          refine bodyPost_ret (v := .tuple #[.agg #[.int .i64 b.mode, .int .i64 b.base, .slice A i c, .int .i64 b.orders.page, .int .i64 b.orders.head, .int .i64 b.orders.tail, .bool b.stopped, .int .i64 b.fences, .int .i64 b.faults.page, .int .i64 b.faults.head, .int .i64 b.faults.tail, .bool b.lost], .int .i64 0, .int .i64 2]) ?_ rfl ⟨A, i, c, rfl, ?_, ?_, newn_same _ _ _⟩
          · simp (maxDischargeDepth := 8) [results, Try.results58, go_sem, *]
          · (refine lines_now HL.out ?_; ((repeat (first | (with_reducible exact Below.refl _ _) | (with_reducible refine Below.drew ?_) | (with_reducible refine bdrewN ?_ _) | ((with_reducible refine Below.setCell ?_ ?_ _); rotate_left; exact (by first | (simp; done) | (simp; omega) | omega)) | ((with_reducible refine Below.alloc ?_ ?_ _); rotate_left; exact (by first | (simp; done) | (simp; omega) | omega)) | ((with_reducible refine Below.trans ?_ (HB1.out.mono ?_)); rotate_left; exact (by first | (simp; done) | (simp; omega) | omega))))); exact HSW.out)
          · (repeat (first | (with_reducible exact Below.refl _ _) | (with_reducible refine Below.drew ?_) | (with_reducible refine bdrewN ?_ _) | ((with_reducible refine Below.setCell ?_ ?_ _); rotate_left; exact (by first | (simp; done) | (simp; omega) | omega)) | ((with_reducible refine Below.alloc ?_ ?_ _); rotate_left; exact (by first | (simp; done) | (simp; omega) | omega)) | ((with_reducible refine Below.trans ?_ (HB1.out.mono ?_)); rotate_left; exact (by first | (simp; done) | (simp; omega) | omega))))
            exact HSW.out
        | true =>
          cases hs : bitI x 1 with
          | true =>
            have ef : freshM xs b d p wb = (⟨d, p, p, true, true⟩, false, 0) := by unfold freshM; simp only [HXX.out, hG, hs, if_true]
            have hr := HR.out
            rw [HE.out, ef] at hr
            simp only [Bool.false_eq_true, if_false, Prod.mk.injEq] at hr
            obtain ⟨rfl, rfl, rfl⟩ := hr
            have HG := Lib.hid hG
            have HSS := Lib.hid hs
            clear hK hG hs ef
            go_wp2_with fail
            refine (rctx_on _ _ _ _ HG.out HSS.out rfl).mono ?_
            rintro e w1 ⟨rfl, hb1⟩
            have hz1 := hb1.size
            (try simp only [World.size_alloc, World.size_setCell, World.size_drew] at hz1)
            have k1_0 := fun o => (bcell hb1).1 (w.heap.size + 1) o (by first | (simp; done) | (simp; omega) | omega)
            have l1_0 : (w.heap.size + 1) < w1.heap.size := (by omega)
            have q1_0 := fun o => (bcell hb1).2 (w.heap.size + 1) o (by first | (simp; done) | (simp; omega) | omega)
            have k1_1 := fun o => (bcell hb1).1 (w.heap.size + 1 + 1) o (by first | (simp; done) | (simp; omega) | omega)
            have l1_1 : (w.heap.size + 1 + 1) < w1.heap.size := (by omega)
            have q1_1 := fun o => (bcell hb1).2 (w.heap.size + 1 + 1) o (by first | (simp; done) | (simp; omega) | omega)
            simp (maxDischargeDepth := 6) [go_sem, *] at k1_0 q1_0 k1_1 q1_1
            have HB1 := Lib.hid hb1
            clear hb1
            go_wp2
            refine bodyPost_ret (v := .tuple #[.agg #[.int .i64 b.mode, .int .i64 b.base, .slice A i c, .int .i64 b.orders.page, .int .i64 b.orders.head, .int .i64 b.orders.tail, .bool b.stopped, .int .i64 b.fences, .int .i64 b.faults.page, .int .i64 b.faults.head, .int .i64 b.faults.tail, .bool b.lost], .int .i64 p, .int .i64 0]) ?_ rfl ⟨A, i, c, rfl, ?_, ?_, newn_same _ _ _⟩
            · simp (maxDischargeDepth := 8) [results, Try.results58, go_sem, *]
            · (refine lines_now HL.out ?_; ((repeat (first | (with_reducible exact Below.refl _ _) | (with_reducible refine Below.drew ?_) | (with_reducible refine bdrewN ?_ _) | ((with_reducible refine Below.setCell ?_ ?_ _); rotate_left; exact (by first | (simp; done) | (simp; omega) | omega)) | ((with_reducible refine Below.alloc ?_ ?_ _); rotate_left; exact (by first | (simp; done) | (simp; omega) | omega)) | ((with_reducible refine Below.trans ?_ (HB1.out.mono ?_)); rotate_left; exact (by first | (simp; done) | (simp; omega) | omega))))); exact HSW.out)
            · (repeat (first | (with_reducible exact Below.refl _ _) | (with_reducible refine Below.drew ?_) | (with_reducible refine bdrewN ?_ _) | ((with_reducible refine Below.setCell ?_ ?_ _); rotate_left; exact (by first | (simp; done) | (simp; omega) | omega)) | ((with_reducible refine Below.alloc ?_ ?_ _); rotate_left; exact (by first | (simp; done) | (simp; omega) | omega)) | ((with_reducible refine Below.trans ?_ (HB1.out.mono ?_)); rotate_left; exact (by first | (simp; done) | (simp; omega) | omega))))
              exact HSW.out
          | false =>
            obtain ⟨rt, hrt⟩ : ∃ r, cxR x = r := ⟨_, rfl⟩
            have hin' : inP rt p := by have := cxR_bd x; rw [hrt] at this; unfold inP; omega
            have ef : freshM xs b d p wb = if (walkM xs rt p wb).2 = 0 then (⟨d, p, (walkM xs rt p wb).1.p, true, (walkM xs rt p wb).1.u⟩, true, 0) else (.no, false, (walkM xs rt p wb).2) := by
              unfold freshM; simp only [HXX.out, hG, hs, hrt, if_true]; rfl
            have hno2 := walkM_no (xs := xs) (root := rt) (page := p) (wr := wb)
            have hfl := fresh_line (xs := xs) (b := b) (wr := wb) HIN.out
            generalize hq : walkM xs rt p wb = qq at ef hno2
            obtain ⟨⟨v, r', u, l, pp⟩, f⟩ := qq
            dsimp only at ef hno2
            have HG := Lib.hid hG
            have HSS := Lib.hid hs
            have HRT := Lib.hid hrt
            have HQ := Lib.hid hq
            have HIN' := Lib.hid hin'
            by_cases hf : f = 0
            · subst hf
              rw [if_pos rfl] at ef
              rw [ef] at hfl
              have hr := HR.out
              rw [HE.out, ef] at hr
              simp only [if_true, Prod.mk.injEq] at hr
              obtain ⟨ms, hms⟩ : ∃ ms, fillL b.cache ⟨d, p, pp, true, u⟩ = ms := ⟨_, rfl⟩
              have HMS := Lib.hid hms
              rw [hms] at hr
              obtain ⟨rfl, rfl, rfl⟩ := hr
              have HFE := Lib.hid (fillE_0 ((ckB_iff b).1 HCK.out).2.1 (hfl rfl).1 HFL.out)
              clear hK hG hs ef hrt hq hin' hfl hno2 hms
              go_wp2_with fail
              refine (rctx_on _ _ _ _ HG.out HSS.out HRT.out).mono ?_
              rintro e w1 ⟨rfl, hb1⟩
              have hz1 := hb1.size
              (try simp only [World.size_alloc, World.size_setCell, World.size_drew] at hz1)
              have k1_0 := fun o => (bcell hb1).1 (w.heap.size) o (by first | (simp; done) | (simp; omega) | omega)
              have l1_0 : (w.heap.size) < w1.heap.size := (by omega)
              have q1_0 := fun o => (bcell hb1).2 (w.heap.size) o (by first | (simp; done) | (simp; omega) | omega)
              have k1_1 := fun o => (bcell hb1).1 (w.heap.size + 1) o (by first | (simp; done) | (simp; omega) | omega)
              have l1_1 : (w.heap.size + 1) < w1.heap.size := (by omega)
              have q1_1 := fun o => (bcell hb1).2 (w.heap.size + 1) o (by first | (simp; done) | (simp; omega) | omega)
              have k1_2 := fun o => (bcell hb1).1 (w.heap.size + 1 + 1) o (by first | (simp; done) | (simp; omega) | omega)
              have l1_2 : (w.heap.size + 1 + 1) < w1.heap.size := (by omega)
              have q1_2 := fun o => (bcell hb1).2 (w.heap.size + 1 + 1) o (by first | (simp; done) | (simp; omega) | omega)
              simp (maxDischargeDepth := 6) [go_sem, *] at k1_0 q1_0 k1_1 q1_1 k1_2 q1_2
              have HB1 := Lib.hid hb1
              clear hb1
              go_wp2_with fail
              refine (rwalk_at _ _ xs _ _ _ v r' u l pp 0 _ (ints_now HX.out (by (repeat (first | (with_reducible exact Below.refl _ _) | (with_reducible refine Below.drew ?_) | (with_reducible refine bdrewN ?_ _) | ((with_reducible refine Below.setCell ?_ ?_ _); rotate_left; exact (by first | (simp; done) | (simp; omega) | omega)) | ((with_reducible refine Below.alloc ?_ ?_ _); rotate_left; exact (by first | (simp; done) | (simp; omega) | omega)) | ((with_reducible refine Below.trans ?_ (HB1.out.mono ?_)); rotate_left; exact (by first | (simp; done) | (simp; omega) | omega)))); exact HSW.out)) H0.out HIN'.out HQ.out).mono ?_
              rintro e w2 ⟨rfl, hb2⟩
              have hz2 := hb2.size
              (try simp only [World.size_alloc, World.size_setCell, World.size_drew] at hz2)
              have k2_0 := fun o => (bcell hb2).1 (w.heap.size + 1) o (by first | (simp; done) | (simp; omega) | omega)
              have l2_0 : (w.heap.size + 1) < w2.heap.size := (by omega)
              have q2_0 := fun o => (bcell hb2).2 (w.heap.size + 1) o (by first | (simp; done) | (simp; omega) | omega)
              have k2_1 := fun o => (bcell hb2).1 (w.heap.size + 1 + 1) o (by first | (simp; done) | (simp; omega) | omega)
              have l2_1 : (w.heap.size + 1 + 1) < w2.heap.size := (by omega)
              have q2_1 := fun o => (bcell hb2).2 (w.heap.size + 1 + 1) o (by first | (simp; done) | (simp; omega) | omega)
              simp (maxDischargeDepth := 6) [go_sem, *] at k2_0 q2_0 k2_1 q2_1
              have HB2 := Lib.hid hb2
              clear hb2
              go_wp2_with fail
              refine (ref_Filled _ _ _ b.cache ms d p pp true u 0 _ (lines_now HL.out (by (repeat (first | (with_reducible exact Below.refl _ _) | (with_reducible refine Below.drew ?_) | (with_reducible refine bdrewN ?_ _) | ((with_reducible refine Below.setCell ?_ ?_ _); rotate_left; exact (by first | (simp; done) | (simp; omega) | omega)) | ((with_reducible refine Below.alloc ?_ ?_ _); rotate_left; exact (by first | (simp; done) | (simp; omega) | omega)) | ((with_reducible refine Below.trans ?_ (HB2.out.mono ?_)); rotate_left; exact (by first | (simp; done) | (simp; omega) | omega)) | ((with_reducible refine Below.trans ?_ (HB1.out.mono ?_)); rotate_left; exact (by first | (simp; done) | (simp; omega) | omega)))); exact HSW.out)) HFE.out HMS.out).mono ?_
              rintro e w3 ⟨A3, c3, rfl, hl3, hb3, hn3⟩
              have hz3 := hb3.size
              (try simp only [World.size_alloc, World.size_setCell, World.size_drew] at hz3 hn3)
              have HL3 := Lib.hid hl3
              have HN3 := Lib.hid (show ∀ ad, A3 = some ad → w.heap.size + 1 + 1 < ad.block from fun ad h => by have := hn3 ad h; omega)
              clear hl3 hn3
              have hz3 := hb3.size
              (try simp only [World.size_alloc, World.size_setCell, World.size_drew] at hz3)
              have k3_0 := fun o => (bcell hb3).1 (w.heap.size + 1) o (by first | (simp; done) | (simp; omega) | omega)
              have l3_0 : (w.heap.size + 1) < w3.heap.size := (by omega)
              have q3_0 := fun o => (bcell hb3).2 (w.heap.size + 1) o (by first | (simp; done) | (simp; omega) | omega)
              have k3_1 := fun o => (bcell hb3).1 (w.heap.size + 1 + 1) o (by first | (simp; done) | (simp; omega) | omega)
              have l3_1 : (w.heap.size + 1 + 1) < w3.heap.size := (by omega)
              have q3_1 := fun o => (bcell hb3).2 (w.heap.size + 1 + 1) o (by first | (simp; done) | (simp; omega) | omega)
              have k3_2 := fun o => (bcell hb3).1 (w2.heap.size) o (by first | (simp; done) | (simp; omega) | omega)
              have l3_2 : (w2.heap.size) < w3.heap.size := (by omega)
              have q3_2 := fun o => (bcell hb3).2 (w2.heap.size) o (by first | (simp; done) | (simp; omega) | omega)
              simp (maxDischargeDepth := 6) [go_sem, *] at k3_0 q3_0 k3_1 q3_1 k3_2 q3_2
              have HB3 := Lib.hid hb3
              clear hb3
              go_wp2_with fail
              go_region_with (fail)
              all_goals
                go_wp2
                refine bodyPost_ret (v := .tuple #[.agg #[.int .i64 b.mode, .int .i64 b.base, .slice A3 ms.length c3, .int .i64 b.orders.page, .int .i64 b.orders.head, .int .i64 b.orders.tail, .bool b.stopped, .int .i64 b.fences, .int .i64 b.faults.page, .int .i64 b.faults.head, .int .i64 b.faults.tail, .bool b.lost], .int .i64 pp, .int .i64 0]) ?_ rfl ⟨A3, ms.length, c3, rfl, ?_, ?_, Or.inr (fun ad h => by have := HN3.out ad h; omega)⟩
                · simp (maxDischargeDepth := 8) [results, Try.results58, go_sem, *]
                · (have hq : ∀ ad, A3 = some ad → ad.block ≠ w.heap.size + 1 + 1 := fun ad h => by have := HN3.out ad h; omega); (have hq2 : ∀ ad, A3 = some ad → ad.block ≠ w.heap.size + 1 := fun ad h => by have := HN3.out ad h; omega); (refine Lines.more (B := w3.heap.size) ?_ (by simp)); (repeat (first | (with_reducible exact HL3.out) | (with_reducible refine Lines.drew ?_) | ((with_reducible refine lines_off ?_ ?_ _); rotate_left; (first | exact hq | exact hq2))))
                · (repeat (first | (with_reducible exact Below.refl _ _) | (with_reducible refine Below.drew ?_) | (with_reducible refine bdrewN ?_ _) | ((with_reducible refine Below.setCell ?_ ?_ _); rotate_left; exact (by first | (simp; done) | (simp; omega) | omega)) | ((with_reducible refine Below.alloc ?_ ?_ _); rotate_left; exact (by first | (simp; done) | (simp; omega) | omega)) | ((with_reducible refine Below.trans ?_ (HB3.out.mono ?_)); rotate_left; exact (by first | (simp; done) | (simp; omega) | omega)) | ((with_reducible refine Below.trans ?_ (HB2.out.mono ?_)); rotate_left; exact (by first | (simp; done) | (simp; omega) | omega)) | ((with_reducible refine Below.trans ?_ (HB1.out.mono ?_)); rotate_left; exact (by first | (simp; done) | (simp; omega) | omega))))
                  exact HSW.out
            · rw [if_neg hf] at ef
              have hpp : pp = 0 := by have := (hno2 hf).1; injection this
              subst hpp
              have hr := HR.out
              rw [HE.out, ef] at hr
              simp only [Line.no, Bool.false_eq_true, if_false, Prod.mk.injEq] at hr
              obtain ⟨rfl, rfl, rfl⟩ := hr
              have tf : (f == 0) = false := beq_eq_false_iff_ne.2 hf
              clear hK hG hs ef hrt hq hin' hfl hno2 hf
              go_wp2_with fail
              refine (rctx_on _ _ _ _ HG.out HSS.out HRT.out).mono ?_
              rintro e w1 ⟨rfl, hb1⟩
              have hz1 := hb1.size
              (try simp only [World.size_alloc, World.size_setCell, World.size_drew] at hz1)
              have k1_0 := fun o => (bcell hb1).1 (w.heap.size) o (by first | (simp; done) | (simp; omega) | omega)
              have l1_0 : (w.heap.size) < w1.heap.size := (by omega)
              have q1_0 := fun o => (bcell hb1).2 (w.heap.size) o (by first | (simp; done) | (simp; omega) | omega)
              have k1_1 := fun o => (bcell hb1).1 (w.heap.size + 1) o (by first | (simp; done) | (simp; omega) | omega)
              have l1_1 : (w.heap.size + 1) < w1.heap.size := (by omega)
              have q1_1 := fun o => (bcell hb1).2 (w.heap.size + 1) o (by first | (simp; done) | (simp; omega) | omega)
              have k1_2 := fun o => (bcell hb1).1 (w.heap.size + 1 + 1) o (by first | (simp; done) | (simp; omega) | omega)
              have l1_2 : (w.heap.size + 1 + 1) < w1.heap.size := (by omega)
              have q1_2 := fun o => (bcell hb1).2 (w.heap.size + 1 + 1) o (by first | (simp; done) | (simp; omega) | omega)
              simp (maxDischargeDepth := 6) [go_sem, *] at k1_0 q1_0 k1_1 q1_1 k1_2 q1_2
              have HB1 := Lib.hid hb1
              clear hb1
              go_wp2_with fail
              refine (rwalk_at _ _ xs _ _ _ v r' u l 0 f _ (ints_now HX.out (by (repeat (first | (with_reducible exact Below.refl _ _) | (with_reducible refine Below.drew ?_) | (with_reducible refine bdrewN ?_ _) | ((with_reducible refine Below.setCell ?_ ?_ _); rotate_left; exact (by first | (simp; done) | (simp; omega) | omega)) | ((with_reducible refine Below.alloc ?_ ?_ _); rotate_left; exact (by first | (simp; done) | (simp; omega) | omega)) | ((with_reducible refine Below.trans ?_ (HB1.out.mono ?_)); rotate_left; exact (by first | (simp; done) | (simp; omega) | omega)))); exact HSW.out)) H0.out HIN'.out HQ.out).mono ?_
              rintro e w2 ⟨rfl, hb2⟩
              have hz2 := hb2.size
              (try simp only [World.size_alloc, World.size_setCell, World.size_drew] at hz2)
              have k2_0 := fun o => (bcell hb2).1 (w.heap.size + 1) o (by first | (simp; done) | (simp; omega) | omega)
              have l2_0 : (w.heap.size + 1) < w2.heap.size := (by omega)
              have q2_0 := fun o => (bcell hb2).2 (w.heap.size + 1) o (by first | (simp; done) | (simp; omega) | omega)
              have k2_1 := fun o => (bcell hb2).1 (w.heap.size + 1 + 1) o (by first | (simp; done) | (simp; omega) | omega)
              have l2_1 : (w.heap.size + 1 + 1) < w2.heap.size := (by omega)
              have q2_1 := fun o => (bcell hb2).2 (w.heap.size + 1 + 1) o (by first | (simp; done) | (simp; omega) | omega)
              simp (maxDischargeDepth := 6) [go_sem, *] at k2_0 q2_0 k2_1 q2_1
              have HB2 := Lib.hid hb2
              clear hb2
              go_wp2_with fail
              go_region_with (fail)
              all_goals
                go_wp2
                refine bodyPost_ret (v := .tuple #[.agg #[.int .i64 b.mode, .int .i64 b.base, .slice A i c, .int .i64 b.orders.page, .int .i64 b.orders.head, .int .i64 b.orders.tail, .bool b.stopped, .int .i64 b.fences, .int .i64 b.faults.page, .int .i64 b.faults.head, .int .i64 b.faults.tail, .bool b.lost], .int .i64 0, .int .i64 f]) ?_ rfl ⟨A, i, c, rfl, ?_, ?_, newn_same _ _ _⟩
                · simp (maxDischargeDepth := 8) [results, Try.results58, go_sem, *]
                · (refine lines_now HL.out ?_; ((repeat (first | (with_reducible exact Below.refl _ _) | (with_reducible refine Below.drew ?_) | (with_reducible refine bdrewN ?_ _) | ((with_reducible refine Below.setCell ?_ ?_ _); rotate_left; exact (by first | (simp; done) | (simp; omega) | omega)) | ((with_reducible refine Below.alloc ?_ ?_ _); rotate_left; exact (by first | (simp; done) | (simp; omega) | omega)) | ((with_reducible refine Below.trans ?_ (HB2.out.mono ?_)); rotate_left; exact (by first | (simp; done) | (simp; omega) | omega)) | ((with_reducible refine Below.trans ?_ (HB1.out.mono ?_)); rotate_left; exact (by first | (simp; done) | (simp; omega) | omega))))); exact HSW.out)
                · (repeat (first | (with_reducible exact Below.refl _ _) | (with_reducible refine Below.drew ?_) | (with_reducible refine bdrewN ?_ _) | ((with_reducible refine Below.setCell ?_ ?_ _); rotate_left; exact (by first | (simp; done) | (simp; omega) | omega)) | ((with_reducible refine Below.alloc ?_ ?_ _); rotate_left; exact (by first | (simp; done) | (simp; omega) | omega)) | ((with_reducible refine Below.trans ?_ (HB2.out.mono ?_)); rotate_left; exact (by first | (simp; done) | (simp; omega) | omega)) | ((with_reducible refine Below.trans ?_ (HB1.out.mono ?_)); rotate_left; exact (by first | (simp; done) | (simp; omega) | omega))))
                  exact HSW.out
theorem goes_shut (m : Option Addr) (nm cm' : Nat) (b : Brg) (A : Option Addr) (n c : Nat) (d p : Int) (wr : Bool) (w : World) (hl : Lines w w.heap.size A n c b.cache) (hm : b.mode = 0) :
    Calls Try.prog 58 #[.agg #[.slice m nm cm'], .agg #[.int .i64 b.mode, .int .i64 b.base, .slice A n c, .int .i64 b.orders.page, .int .i64 b.orders.head, .int .i64 b.orders.tail, .bool b.stopped, .int .i64 b.fences, .int .i64 b.faults.page, .int .i64 b.faults.head, .int .i64 b.faults.tail, .bool b.lost], .int .i64 d, .int .i64 p, .bool wr] w (GoesC w b 0 1) := (goesD_shut m nm cm' b A n c d p wr w hl hm).mono fun _ _ h => h.c
theorem goes_bare (m : Option Addr) (nm cm' : Nat) (b : Brg) (A : Option Addr) (n c : Nat) (d p : Int) (wr : Bool) (w : World) (hl : Lines w w.heap.size A n c b.cache) (hm : b.mode = 1) :
    Calls Try.prog 58 #[.agg #[.slice m nm cm'], .agg #[.int .i64 b.mode, .int .i64 b.base, .slice A n c, .int .i64 b.orders.page, .int .i64 b.orders.head, .int .i64 b.orders.tail, .bool b.stopped, .int .i64 b.fences, .int .i64 b.faults.page, .int .i64 b.faults.head, .int .i64 b.faults.tail, .bool b.lost], .int .i64 d, .int .i64 p, .bool wr] w (GoesC w b p 0) := (goesD_bare m nm cm' b A n c d p wr w hl hm).mono fun _ _ h => h.c
theorem goes_on (xs : List Int) (m : Option Addr) (cm' : Nat) (b : Brg) (A : Option Addr) (n c : Nat) (d p : Int) (wb : Bool) (rb : Brg) (ra rf : Int) (w : World) (hx : Ints w w.heap.size m 512 xs) (hl : Lines w w.heap.size A n c b.cache) (h0 : cm xs = 0) (hck : ckB b = 0) (hin : inD d p) (hm : b.mode = 2) (hr : thruM xs b d p wb = (rb, ra, rf)) :
    Calls Try.prog 58 #[.agg #[.slice m 512 cm'], .agg #[.int .i64 b.mode, .int .i64 b.base, .slice A n c, .int .i64 b.orders.page, .int .i64 b.orders.head, .int .i64 b.orders.tail, .bool b.stopped, .int .i64 b.fences, .int .i64 b.faults.page, .int .i64 b.faults.head, .int .i64 b.faults.tail, .bool b.lost], .int .i64 d, .int .i64 p, .bool wb] w (GoesC w rb ra rf) := (goesD_on xs m cm' b A n c d p wb rb ra rf w hx hl h0 hck hin hm hr).mono fun _ _ h => h.c
theorem goesD_ans (xs : List Int) (m : Option Addr) (cm' : Nat) (b : Brg) (A : Option Addr) (n c : Nat) (d p : Int) (wb : Bool) (rb : Brg) (ra rf : Int) (w : World) (hx : Ints w w.heap.size m 512 xs) (hl : Lines w w.heap.size A n c b.cache) (h0 : cm xs = 0) (hck : ckB b = 0) (hin : inD d p) (hr : thruM xs b d p wb = (rb, ra, rf)) :
    Calls Try.prog 58 #[.agg #[.slice m 512 cm'], .agg #[.int .i64 b.mode, .int .i64 b.base, .slice A n c, .int .i64 b.orders.page, .int .i64 b.orders.head, .int .i64 b.orders.tail, .bool b.stopped, .int .i64 b.fences, .int .i64 b.faults.page, .int .i64 b.faults.head, .int .i64 b.faults.tail, .bool b.lost], .int .i64 d, .int .i64 p, .bool wb] w (GoesD w A n rb ra rf) := by
  by_cases hm0 : b.mode = 0
  · rw [show thruM xs b d p wb = (b, 0, 1) by unfold thruM; rw [if_pos hm0]] at hr
    simp only [Prod.mk.injEq] at hr
    obtain ⟨rfl, rfl, rfl⟩ := hr
    exact goesD_shut m 512 cm' b A n c d p wb w hl hm0
  · by_cases hm1 : b.mode = 1
    · rw [show thruM xs b d p wb = (b, p, 0) by unfold thruM; rw [if_neg hm0, if_pos hm1]] at hr
      simp only [Prod.mk.injEq] at hr
      obtain ⟨rfl, rfl, rfl⟩ := hr
      exact goesD_bare m 512 cm' b A n c d p wb w hl hm1
    · have hm2 : b.mode = 2 := by have := ((ckB_iff b).1 hck).1.1; omega
      exact goesD_on xs m cm' b A n c d p wb rb ra rf w hx hl h0 hck hin hm2 hr
end Go.Proofs.Ytbopdijnojaaiac
