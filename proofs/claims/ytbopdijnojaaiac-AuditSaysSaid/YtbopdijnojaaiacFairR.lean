/- The audit: the walk of the document's FairBy. No statement of the seat is proved here. -/
import Derived.Test.YtbopdijnojaaiacFair
import Derived.Test.YtbopdijnojaaiacRefG
namespace Go.Proofs.Ytbopdijnojaaiac
open Go.RowKit
set_option linter.unusedSimpArgs false
set_option linter.unusedVariables false

theorem goes_ans (xs : List Int) (m : Option Addr) (cm' : Nat) (b : Brg) (A : Option Addr) (n c : Nat) (d p : Int) (wb : Bool) (rb : Brg) (ra rf : Int) (w : World) (hx : Ints w w.heap.size m 512 xs) (hl : Lines w w.heap.size A n c b.cache) (h0 : cm xs = 0) (hck : ckB b = 0) (hin : inD d p) (hr : thruM xs b d p wb = (rb, ra, rf)) :
    Calls Try.prog 58 #[.agg #[.slice m 512 cm'], .agg #[.int .i64 b.mode, .int .i64 b.base, .slice A n c, .int .i64 b.orders.page, .int .i64 b.orders.head, .int .i64 b.orders.tail, .bool b.stopped, .int .i64 b.fences, .int .i64 b.faults.page, .int .i64 b.faults.head, .int .i64 b.faults.tail, .bool b.lost], .int .i64 d, .int .i64 p, .bool wb] w fun e w' => ∃ A' n' c', e = .returned (.tuple #[.agg #[.int .i64 rb.mode, .int .i64 rb.base, .slice A' n' c', .int .i64 rb.orders.page, .int .i64 rb.orders.head, .int .i64 rb.orders.tail, .bool rb.stopped, .int .i64 rb.fences, .int .i64 rb.faults.page, .int .i64 rb.faults.head, .int .i64 rb.faults.tail, .bool rb.lost], .int .i64 ra, .int .i64 rf]) ∧ Lines w' w'.heap.size A' n' c' rb.cache ∧ Below w.heap.size w w' := by
  have hmd := ((ckB_iff b).1 hck).1.1
  by_cases hm0 : b.mode = 0
  · have e : thruM xs b d p wb = (b, 0, 1) := by unfold thruM; rw [if_pos hm0]
    rw [e] at hr
    simp only [Prod.mk.injEq] at hr
    obtain ⟨rfl, rfl, rfl⟩ := hr
    exact goes_shut m 512 cm' b A n c d p wb w hl hm0
  · by_cases hm1 : b.mode = 1
    · have e : thruM xs b d p wb = (b, p, 0) := by unfold thruM; rw [if_neg hm0, if_pos hm1]
      rw [e] at hr
      simp only [Prod.mk.injEq] at hr
      obtain ⟨rfl, rfl, rfl⟩ := hr
      exact goes_bare m 512 cm' b A n c d p wb w hl hm1
    · exact goes_on xs m cm' b A n c d p wb rb ra rf w hx hl h0 hck hin (by omega) hr

set_option maxRecDepth 100000 in
set_option maxHeartbeats 4000000 in
theorem ref_FairBy (A : Option Addr) (n c : Nat) (ms : List Mch) (t : Tch) (w : World) (hx : Machs w w.heap.size A n c ms) (hck : ckK ms n = 0) (hte : tchE t = 0) :
    Calls Try.prog 20 #[.slice A n c, .agg #[.int .i64 t.dev, .int .i64 t.seen, .int .i64 t.at_, .bool t.wr, .int .i64 t.value]] w fun e w' => e = .returned (.int .i64 (fairK ms t n)) ∧ Below w.heap.size w w' := by
  have hcap := hx.cap
  have HX := Lib.hid hx
  have HLN := Lib.hid hx.len
  have HCK := Lib.hid hck
  have HTE := Lib.hid hte
  have HIN := Lib.hid (hit_in hte)
  obtain ⟨hc1, hc2⟩ := hcap
  have hR := tchE_inv hte
  unfold tchR at hR
  obtain ⟨_, ⟨s1, s2⟩, ⟨a1, a2⟩⟩ := hR
  have e1 : t.seen.tdiv 8 = t.seen / 8 := Int.tdiv_eq_ediv_of_nonneg s1
  have e2 : t.at_.tdiv 8 = t.at_ / 8 := Int.tdiv_eq_ediv_of_nonneg a1
  clear hx hck hte
  go_enter Try.func20, Try.ntmps20
  go_wp2
  go_loopw [13, 5, 6, 7] (fun i l _ _ wr => ∃ k : Nat, k ≤ n ∧ i = .int .i64 k ∧ l = .int .i64 (fairK ms t k) ∧ Hid (Below w.heap.size w wr) ∧ Hid (∀ o, wr.cell? ⟨w.heap.size, o, none⟩ = ([.int .i64 t.dev, .int .i64 t.seen, .int .i64 t.at_, .bool t.wr, .int .i64 t.value] : List Value)[o]?) ∧ Hid (w.heap.size < wr.heap.size)) (fun i _ _ _ _ => n - (intOf i).toNat)
  case atStart =>
    refine ⟨0, by omega, rfl, rfl, ?_, ?_, ?_⟩
    · exact (Below.refl _ _).alloc (Nat.le_refl _) _
    · show ∀ o, _ = _
      intro o; simp [go_sem]
    · show _ < _
      simp
  case round =>
    obtain ⟨k, hk, rfl, rfl, HW, HC, HZ⟩ := hrel
    have hz := HZ.out
    have hz2 := HW.out.size
    have hc := HC.out
    by_cases hlt : k < n
    · obtain ⟨x, hxk⟩ := some_of_lt ms (k := k) (by rw [HLN.out]; exact hlt)
      obtain ⟨b, off, rfl, hb, hcc⟩ := (machs_now HX.out HW.out).at_ (by omega)
      obtain ⟨M, nm, mc, R, nr, rc, L, n', c', ⟨c0, c1, c2, c3, c4, c5, c6, c7, c8, c9, c10, c11, c12, c13, c14, c15⟩, h1, h2, h3⟩ := hcc k x hxk
      have hckx := ckK_all HCK.out k x hlt hxk
      obtain ⟨x1, _, x3⟩ := (ckM_iff x).1 hckx
      have hn : nm = 512 := by rw [← h1.len]; exact (cm_inv x1).1
      subst hn
      have H1 := Lib.hid h1
      have X1 := Lib.hid x1
      have X3 := Lib.hid (show ckB { x.b with cache := [] } = 0 by rw [ckB_iff] at x3 ⊢; exact ⟨x3.1, ckC_nil, x3.2.2⟩)
      obtain ⟨⟨rb, ra, rf⟩, hr⟩ : ∃ r, thruM x.m { x.b with cache := [] } t.dev (t.seen / 8) t.wr = r := ⟨_, rfl⟩
      have HR := Lib.hid hr
      have HHT := Lib.hid (hit_eq hr)
      have HXK := Lib.hid hxk
      clear hcc h1 h2 h3 hxk hckx x1 x3 hr
      have l1 : w.heap.size < wr.heap.size + 1 := by omega
      have l2 : ¬ w.heap.size = wr.heap.size := by omega
      have l3 : ¬ wr.heap.size = w.heap.size := by omega
      go_wp2_with fail
      refine (goes_ans x.m M mc { x.b with cache := [] } none 0 0 t.dev (t.seen / 8) t.wr rb ra rf _ (ints_now H1.out (by (repeat (first | (with_reducible exact Below.refl _ _) | (with_reducible refine Below.drew ?_) | (with_reducible refine bdrewN ?_ _) | ((with_reducible refine Below.setCell ?_ ?_ _); rotate_left; exact (by first | (simp; done) | (simp; omega) | omega)) | ((with_reducible refine Below.alloc ?_ ?_ _); rotate_left; exact (by first | (simp; done) | (simp; omega) | omega)))))) (lines_none _ _) X1.out X3.out HIN.out HR.out).mono ?_
      rintro e w1 ⟨A1, n1, c1', rfl, hl1, hb1⟩
      clear hl1
      have hz1 := hb1.size
      (try simp only [World.size_alloc, World.size_setCell, World.size_drew] at hz1)
      have k1_0 := fun o => (bcell hb1).1 (w.heap.size) o (by first | (simp; done) | (simp; omega) | omega)
      have l1_0 : (w.heap.size) < w1.heap.size := (by omega)
      have q1_0 := fun o => (bcell hb1).2 (w.heap.size) o (by first | (simp; done) | (simp; omega) | omega)
      simp (maxDischargeDepth := 6) [go_sem, *] at k1_0 q1_0
      have HB1 := Lib.hid hb1
      clear hb1
      clear c0 c1 c2 c3 c4 c5 c6 c7 c8 c9 c10 c11 c12 c13 c14 c15 hc
      by_cases hr0 : rf = 0
      · have t1 : (rf == 0) = true := by rw [beq_iff_eq]; exact hr0
        by_cases ha0 : ra = t.at_ / 8
        · have t2 : (ra == t.at_ / 8) = true := by rw [beq_iff_eq]; exact ha0
          have HNX := Lib.hid (show fairK ms t (k + 1) = (k : Int) from fairK_hit HXK.out (by rw [HHT.out, t1, t2]; rfl))
          clear hr0 ha0
          go_wp2
          go_roundw
          case rel =>
            refine ⟨k + 1, by omega, by go_num, ?_, ?_, ?_, ?_⟩
            · rw [HNX.out]
            · show Below _ _ _
              (repeat (first | (with_reducible exact Below.refl _ _) | (with_reducible refine Below.drew ?_) | (with_reducible refine bdrewN ?_ _) | ((with_reducible refine Below.setCell ?_ ?_ _); rotate_left; exact (by first | (simp; done) | (simp; omega) | omega)) | ((with_reducible refine Below.alloc ?_ ?_ _); rotate_left; exact (by first | (simp; done) | (simp; omega) | omega)) | ((with_reducible refine Below.trans ?_ (HB1.out.mono ?_)); rotate_left; exact (by first | (simp; done) | (simp; omega) | omega))))
              exact HW.out
            · show ∀ o, _ = _
              intro o
              simp (maxDischargeDepth := 8) [go_sem, k1_0, l1_0]
            · show _ < _
              simp; omega
          case measure => simp [intOf]; omega
        · have t2 : (ra == t.at_ / 8) = false := beq_eq_false_iff_ne.2 ha0
          have HNX := Lib.hid (show fairK ms t (k + 1) = fairK ms t k from fairK_not HXK.out (by rw [HHT.out, t1, t2]; rfl))
          clear hr0 ha0
          go_wp2
          go_roundw
          case rel =>
            refine ⟨k + 1, by omega, by go_num, ?_, ?_, ?_, ?_⟩
            · rw [HNX.out]
            · show Below _ _ _
              (repeat (first | (with_reducible exact Below.refl _ _) | (with_reducible refine Below.drew ?_) | (with_reducible refine bdrewN ?_ _) | ((with_reducible refine Below.setCell ?_ ?_ _); rotate_left; exact (by first | (simp; done) | (simp; omega) | omega)) | ((with_reducible refine Below.alloc ?_ ?_ _); rotate_left; exact (by first | (simp; done) | (simp; omega) | omega)) | ((with_reducible refine Below.trans ?_ (HB1.out.mono ?_)); rotate_left; exact (by first | (simp; done) | (simp; omega) | omega))))
              exact HW.out
            · show ∀ o, _ = _
              intro o
              simp (maxDischargeDepth := 8) [go_sem, k1_0, l1_0]
            · show _ < _
              simp; omega
          case measure => simp [intOf]; omega
      · have t1 : (rf == 0) = false := beq_eq_false_iff_ne.2 hr0
        have HNX := Lib.hid (show fairK ms t (k + 1) = fairK ms t k from fairK_not HXK.out (by rw [HHT.out, t1]; rfl))
        clear hr0
        go_wp2
        go_roundw
        case rel =>
          refine ⟨k + 1, by omega, by go_num, ?_, ?_, ?_, ?_⟩
          · rw [HNX.out]
          · show Below _ _ _
            (repeat (first | (with_reducible exact Below.refl _ _) | (with_reducible refine Below.drew ?_) | (with_reducible refine bdrewN ?_ _) | ((with_reducible refine Below.setCell ?_ ?_ _); rotate_left; exact (by first | (simp; done) | (simp; omega) | omega)) | ((with_reducible refine Below.alloc ?_ ?_ _); rotate_left; exact (by first | (simp; done) | (simp; omega) | omega)) | ((with_reducible refine Below.trans ?_ (HB1.out.mono ?_)); rotate_left; exact (by first | (simp; done) | (simp; omega) | omega))))
            exact HW.out
          · show ∀ o, _ = _
            intro o
            simp (maxDischargeDepth := 8) [go_sem, k1_0, l1_0]
          · show _ < _
            simp; omega
        case measure => simp [intOf]; omega
    · obtain rfl : k = n := by omega
      go_wp2
      go_ret
      exact ⟨rfl, HW.out⟩
end Go.Proofs.Ytbopdijnojaaiac
