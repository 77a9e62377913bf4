/- The walk of the law CacheKeeps: a cache stays one; what is filled in is there, last; what is dropped is there no more, all else in its order. -/
import Derived.Test.YtbopdijnojaaiabKept
import Derived.Test.YtbopdijnojaaiabLinesEq
import Derived.Deep.RegionHeld3
import Derived.Deep.DrawnRows
import Derived.Deep.DeepCutAuto
namespace Go.Proofs.Ytbopdijnojaaiab
open Go.RowKit
set_option linter.unusedSimpArgs false
set_option linter.unusedVariables false
attribute [local go_sem ↓] Go.wp_at_zero Go.wp_at_succ

theorem keep10 {w1 W : World} {p0 : Addr} {p1 : Addr} {p2 : Addr} {p3 : Addr} {p4 : Addr} {p5 : Addr} {p6 : Addr} {p7 : Addr} {p8 : Addr} {p9 : Addr} {v0 v1 v2 v3 v4 v5 v6 v7 v8 v9 : Value} (h : Since w1 W) (h0 : w1.cell? p0 = some v0) (h1 : w1.cell? p1 = some v1) (h2 : w1.cell? p2 = some v2) (h3 : w1.cell? p3 = some v3) (h4 : w1.cell? p4 = some v4) (h5 : w1.cell? p5 = some v5) (h6 : w1.cell? p6 = some v6) (h7 : w1.cell? p7 = some v7) (h8 : w1.cell? p8 = some v8) (h9 : w1.cell? p9 = some v9) : W.cell? p0 = some v0 ∧ W.cell? p1 = some v1 ∧ W.cell? p2 = some v2 ∧ W.cell? p3 = some v3 ∧ W.cell? p4 = some v4 ∧ W.cell? p5 = some v5 ∧ W.cell? p6 = some v6 ∧ W.cell? p7 = some v7 ∧ W.cell? p8 = some v8 ∧ W.cell? p9 = some v9 ∧ Hid (Since w1 W) :=
  ⟨since_cell h h0, since_cell h h1, since_cell h h2, since_cell h h3, since_cell h h4, since_cell h h5, since_cell h h6, since_cell h h7, since_cell h h8, since_cell h h9, h⟩
theorem since_10 {w1 W : World} {c0 c1 c2 c3 c4 c5 c6 c7 c8 c9 : Prop} (h : c0 ∧ c1 ∧ c2 ∧ c3 ∧ c4 ∧ c5 ∧ c6 ∧ c7 ∧ c8 ∧ c9 ∧ Hid (Since w1 W)) : Since w1 W := h.2.2.2.2.2.2.2.2.2.2
theorem lines_snc' {w W : World} {A : Option Addr} {n c : Nat} {ls : List Line} (hx : Lines w w.heap.size A n c ls) (h : Since w W) : Lines W W.heap.size A n c ls := lines_now hx h
theorem fill_last {ls : List Line} {x : Line} (h : fillE ls x = 0) : ∃ k j : Nat, (fillL ls x).length = k + 1 ∧ j + k = ls.length ∧ (fillL ls x)[k]? = some x ∧ (fillL ls x).take k = ls.drop j ∧ ckC (fillL ls x) = 0 ∧ findL (fillL ls x) x.dev x.page = (k : Int) ∧ k + 1 = min (ls.length + 1) 6 ∧ ls.length ≤ 6 := by
  have h6 : ls.length ≤ 6 := ((ckC_iff ls).1 (fillE_inv h).1).1
  have hf := fill_find h
  have hc := fill_ck h
  rw [fillL_0 h] at hf hc ⊢
  have hl : (ls.drop (ls.length + 1 - 6)).length = ls.length - (ls.length + 1 - 6) := by simp
  refine ⟨ls.length - (ls.length + 1 - 6), ls.length + 1 - 6, by simp, by omega, ?_, ?_, hc, ?_, by omega, h6⟩
  · rw [← hl]; simp
  · rw [← hl]; simp
  · rw [hf]; simp

set_option maxRecDepth 100000 in
set_option maxHeartbeats 8000000 in
theorem law_CacheKeeps_a (A : Option Addr) (n c : Nat) (ls : List Line) (x1 x2 x3 : Int) (x4 x5 : Bool) (k d p : Int) (w : World) (hl : Lines w w.heap.size A n c ls) (hw : (Lit.int .i64 k).wf = true) :
    Calls Try.prog 7 #[.slice A n c, .agg #[.int .i64 x1, .int .i64 x2, .int .i64 x3, .bool x4, .bool x5], .agg #[.int .i64 k, .int .i64 d, .int .i64 p]] w fun e w' => e = .returned (.bool true) ∧ Below w.heap.size w w' := by
  have HL := Lib.hid hl
  have HW := Lib.hid hw
  obtain ⟨E, hE⟩ : ∃ E, fillE ls ⟨x1, x2, x3, x4, x5⟩ = E := ⟨_, rfl⟩
  obtain ⟨ms, hm⟩ : ∃ ms, fillL ls ⟨x1, x2, x3, x4, x5⟩ = ms := ⟨_, rfl⟩
  have HE := Lib.hid hE
  have HM := Lib.hid hm
  clear hl hw hE hm
  go_enter Try.func7, Try.ntmps7
  go_wp2_with fail
  refine (fill_ans A n c ls ms x1 x2 x3 x4 x5 E _ (lines_now HL.out (by (repeat (first | (with_reducible exact Below.refl _ _) | (with_reducible refine Below.drew ?_) | (with_reducible refine bdrewN ?_ _) | ((with_reducible refine Below.setCell ?_ ?_ _); rotate_left; exact (by first | (simp; done) | (simp; omega) | omega)) | ((with_reducible refine Below.alloc ?_ ?_ _); rotate_left; exact (by first | (simp; done) | (simp; omega) | omega)))))) HE.out HM.out).mono ?_
  rintro e w1 ⟨A1, c1, rfl, hl1, hb1, _⟩
  have HL1 := Lib.hid hl1
  clear hl1
  have HS1 := Lib.hid (show Since w w1 from (by (repeat (first | (with_reducible exact Below.refl _ _) | (with_reducible refine Below.drew ?_) | (with_reducible refine bdrewN ?_ _) | ((with_reducible refine Below.setCell ?_ ?_ _); rotate_left; exact (by first | (simp; done) | (simp; omega) | omega)) | ((with_reducible refine Below.alloc ?_ ?_ _); rotate_left; exact (by first | (simp; done) | (simp; omega) | omega)))) : Below w.heap.size w _).trans (hb1.mono (by simp; omega)))
  have hz1 := hb1.size
  (try simp only [World.size_alloc, World.size_setCell, World.size_drew] at hz1)
  have k1_0 := fun o => (bcell hb1).1 (w.heap.size) o (by first | (simp; done) | (simp; omega) | omega)
  have l1_0 : (w.heap.size) < w1.heap.size := (by omega)
  have q1_0 := fun o => (bcell hb1).2 (w.heap.size) o (by first | (simp; done) | (simp; omega) | omega)
  have k1_1 := fun o => (bcell hb1).1 (w.heap.size + 1) o (by first | (simp; done) | (simp; omega) | omega)
  have l1_1 : (w.heap.size + 1) < w1.heap.size := (by omega)
  have q1_1 := fun o => (bcell hb1).2 (w.heap.size + 1) o (by first | (simp; done) | (simp; omega) | omega)
  simp (maxDischargeDepth := 6) [go_sem, *] at k1_0 q1_0 k1_1 q1_1
  have HB1 := Lib.hid hb1
  clear hb1
  have c0 : w1.cell? ⟨w.heap.size, 0, none⟩ = some (.int .i64 x1) := by simp [k1_0]
  have c1' : w1.cell? ⟨w.heap.size, 1, none⟩ = some (.int .i64 x2) := by simp [k1_0]
  have c2 : w1.cell? ⟨w.heap.size, 2, none⟩ = some (.int .i64 x3) := by simp [k1_0]
  have c3 : w1.cell? ⟨w.heap.size, 3, none⟩ = some (.bool x4) := by simp [k1_0]
  have c4 : w1.cell? ⟨w.heap.size, 4, none⟩ = some (.bool x5) := by simp [k1_0]
  have o0 : w1.cell? ⟨w.heap.size + 1, 0, none⟩ = some (.int .i64 k) := by simp [k1_1]
  have o1 : w1.cell? ⟨w.heap.size + 1, 1, none⟩ = some (.int .i64 d) := by simp [k1_1]
  have o2 : w1.cell? ⟨w.heap.size + 1, 2, none⟩ = some (.int .i64 p) := by simp [k1_1]
  clear k1_0 k1_1 q1_0 q1_1
  go_upto_if 23 with (fail)
  go_cut [7] (fun _ wd => Hid (Since w1 wd))
  case first =>
    by_cases h0 : E = 0
    · subst h0
      obtain ⟨kk, j, g1, g2, g3, g4, g5, g6, g7, g8⟩ := fill_last HE.out
      rw [HM.out] at g1 g3 g4 g5 g6
      rw [HL.out.len] at g2 g7 g8
      have HCK := Lib.hid g5
      have HFI := Lib.hid g6
      have HTK := Lib.hid g4
      have hcap := HL.out.cap
      have hcap1 := HL1.out.cap
      rw [g1] at hcap1
      obtain ⟨A', hlo, hlo2⟩ := slice_lo A n c j (by omega) hcap.1
      have hhi := slice_hi A1 (kk + 1) c1 kk (by omega) hcap1.1
      rw [g1] at HL1 ⊢
      obtain ⟨b1, off1, rfl, hb1', hcc⟩ := HL1.out.at_ (by omega)
      obtain ⟨d0, d1, d2, d3, d4⟩ := hcc kk _ g3
      have HCS := Lib.hid (And.intro c0 (And.intro c1' (And.intro c2 (And.intro c3 (And.intro c4 (And.intro d0 (And.intro d1 (And.intro d2 (And.intro d3 d4)))))))))
      have HLO := Lib.hid (hlo2 w1 w1.heap.size ls (lines_now HL.out HS1.out))
      have HHI := Lib.hid ((HL1.out.take (k := kk) (by omega)))
      have HNJ : n - j = kk := by omega
      rw [HTK.out] at HHI
      rw [HNJ] at HLO hlo
      have i0 : (0 : Int) ≤ (kk : Int) := by omega
      have i1 : (kk : Int) < (kk : Int) + 1 := by omega
      have i2 : ¬ (kk : Int) < 0 := by omega
      have e60 : IntKind.i64.wrap ((n : Int) - (kk : Int)) = (j : Int) := (congrArg IntKind.i64.wrap (show (n : Int) - (kk : Int) = (j : Int) by omega)).trans (IntWalk.i64_in _ (by omega))
      have e70 : IntKind.i64.wrap ((n : Int) + 1) = (n : Int) + 1 := IntWalk.i64_in _ (by omega)
      have e9 : IntKind.i64.wrap (kk : Int) = (kk : Int) := IntWalk.i64_in _ (by omega)
      have e72 : ¬ ((kk : Int) + 1 < min ((n : Int) + 1) 6) := by omega
      clear hcc g1 g3 g4 g5 g6 g7 g8 hlo2 hb1' HNJ
      go_wp2_with fail
      go_region_held3 (fun W => W.cell? ⟨w.heap.size, 0, none⟩ = some (.int .i64 x1) ∧ W.cell? ⟨w.heap.size, 1, none⟩ = some (.int .i64 x2) ∧ W.cell? ⟨w.heap.size, 2, none⟩ = some (.int .i64 x3) ∧ W.cell? ⟨w.heap.size, 3, none⟩ = some (.bool x4) ∧ W.cell? ⟨w.heap.size, 4, none⟩ = some (.bool x5) ∧ W.cell? ⟨b1, off1 + kk * 5, none⟩ = some (.int .i64 x1) ∧ W.cell? ⟨b1, off1 + kk * 5 + 1, none⟩ = some (.int .i64 x2) ∧ W.cell? ⟨b1, off1 + kk * 5 + 2, none⟩ = some (.int .i64 x3) ∧ W.cell? ⟨b1, off1 + kk * 5 + 3, none⟩ = some (.bool x4) ∧ W.cell? ⟨b1, off1 + kk * 5 + 4, none⟩ = some (.bool x5) ∧ Hid (Since w1 W))
        (((with_reducible refine keep10 ?_ HCS.out.1 HCS.out.2.1 HCS.out.2.2.1 HCS.out.2.2.2.1 HCS.out.2.2.2.2.1 HCS.out.2.2.2.2.2.1 HCS.out.2.2.2.2.2.2.1 HCS.out.2.2.2.2.2.2.2.1 HCS.out.2.2.2.2.2.2.2.2.1 HCS.out.2.2.2.2.2.2.2.2.2); (repeat (first | (with_reducible assumption) | (with_reducible exact since_refl _) | (with_reducible exact since_10 (by assumption)) | (with_reducible exact since_step (by assumption) (since_10 (by assumption))) | (with_reducible refine since_drew ?_) | (with_reducible refine since_alloc ?_ _) | ((with_reducible refine since_set ?_ ?_ _); rotate_left; exact (by first | (simp; done) | (simp; omega) | omega)))); done))
        (first
          | (go_at_call 32; refine (cache_Check _ _ _ ms _ ?_).mono ?_; (with_reducible exact lines_snc' HL1.out (since_10 (by assumption))); rw [HCK.out]; rintro e w2 ⟨rfl, hb2⟩)
          | (go_at_call 34; refine (cache_Find _ _ _ ms _ _ _ ?_).mono ?_; (with_reducible exact lines_snc' HL1.out (since_10 (by assumption))); rw [HFI.out]; rintro e w2 ⟨rfl, hb2⟩)
          | (go_at_call 36; refine (sl_EqualL _ _ _ _ _ _ (ls.drop j) (ls.drop j) _ ?_ ?_).mono ?_; (with_reducible exact lines_snc' HHI.out (since_10 (by assumption))); (with_reducible exact lines_snc' HLO.out (since_10 (by assumption))); rw [show eqL (ls.drop j) (ls.drop j) = true by simp [eqL]]; rintro e w2 ⟨rfl, hb2⟩))
      all_goals
        rename_i hHeld
        have HS := Lib.hid (since_10 hHeld)
        clear hHeld
        go_wp2
        all_goals first | (exfalso; omega) | (go_meet; exact HS.out)
    · have t0 : (E == 0) = false := beq_eq_false_iff_ne.2 h0
      go_wp2
      go_meet
      exact since_refl w1
  case rest =>
    have p0 := since_cell hcut.out o0
    have p1 := since_cell hcut.out o1
    have p2 := since_cell hcut.out o2
    have l2 : w.heap.size + 1 < wc.heap.size := cell_lt' p0
    have HSW := Lib.hid (show Below w.heap.size w wc from Below.trans HS1.out (Below.mono hcut.out (Below.size HS1.out)))
    have HLC := Lib.hid (lines_now HL.out HSW.out)
    clear c0 c1' c2 c3 c4 o0 o1 o2 hcut
    obtain ⟨DE, hDE⟩ : ∃ E, dropE ls k = E := ⟨_, rfl⟩
    obtain ⟨bs, hbs⟩ : ∃ bs, dropL ls k d p = bs := ⟨_, rfl⟩
    have HDE := Lib.hid hDE
    have HBS := Lib.hid hbs
    clear hDE hbs
    go_wp2_with fail
    refine (drop_ans _ _ _ ls bs k d p DE _ HLC.out HW.out HDE.out HBS.out).mono ?_
    rintro e w3 ⟨A3, c3, rfl, hl3, hb3, _⟩
    have HL3 := Lib.hid hl3
    clear hl3
    have m0 := ((bcell hb3).1 (w.heap.size + 1) 0 l2).trans p0
    have m1 := ((bcell hb3).1 (w.heap.size + 1) 1 l2).trans p1
    have m2 := ((bcell hb3).1 (w.heap.size + 1) 2 l2).trans p2
    have HB3 := Lib.hid hb3
    have l3 : w.heap.size + 1 < w3.heap.size := cell_lt' m0
    clear p0 p1 p2 hb3
    go_wp2_with fail
    refine (law_kept _).mono ?_
    rintro e w4 ⟨rfl, hb4⟩
    have r0 := ((bcell hb4).1 (w.heap.size + 1) 0 l3).trans m0
    have r1 := ((bcell hb4).1 (w.heap.size + 1) 1 l3).trans m1
    have r2 := ((bcell hb4).1 (w.heap.size + 1) 2 l3).trans m2
    have HB4 := Lib.hid hb4
    have HR := Lib.hid (And.intro r0 (And.intro r1 r2))
    clear m0 m1 m2 hb4
    by_cases h0 : DE = 0
    · subst h0
      have HK := Lib.hid (dropE_inv HDE.out).2
      have HL4 := Lib.hid (lines_now HLC.out (HB3.out.trans (HB4.out.mono HB3.out.size)))
      have HM4 := Lib.hid (lines_now HL3.out HB4.out)
      have hcap := HL.out.cap
      clear r0 r1 r2
      go_wp2
      go_loopw [12, 89] (fun s12 s89 wr => ∃ K i : Nat, s12 = .int .i64 K ∧ s89 = .int .i64 i ∧ i ≤ n ∧ Hid (K = ((ls.take i).filter (fun x => !goes k d p x)).length) ∧ Hid (Since w4 wr)) (fun _ i _ => n - (intOf i).toNat)
      case atStart => exact ⟨0, 0, rfl, rfl, by omega, (by simp : (0 : Nat) = _), since_refl w4⟩
      case round =>
        obtain ⟨K, i, rfl, rfl, hi, hK, hS⟩ := hrel
        have r0 := since_cell hS.out HR.out.1
        have r1 := since_cell hS.out HR.out.2.1
        have r2 := since_cell hS.out HR.out.2.2
        have lr : w.heap.size + 1 < wr.heap.size := cell_lt' r0
        have hKi : K ≤ i := by rw [hK.out]; exact kept_le _ _ _
        by_cases hlt : i < n
        · obtain ⟨y, hy⟩ := some_of_lt ls (k := i) (by rw [HL.out.len]; exact hlt)
          obtain ⟨b1, off1, rfl, hb1', hcc⟩ := (lines_now HL4.out hS.out).at_ (by omega)
          obtain ⟨d0, d1, d2, d3, d4⟩ := hcc i y hy
          have HY := Lib.hid hy
          have i0 : (0 : Int) ≤ (i : Int) := by omega
          have i1 : (i : Int) < (n : Int) := by omega
          clear hcc hy
          go_upto_region 13 with (fail)
          go_cut [15] (fun s15 wd => s15 = .bool (goes k d p y) ∧ wd = wr.alloc (.cells #[.int .i64 y.dev, .int .i64 y.page, .int .i64 y.at_, .bool y.rd, .bool y.wr] 42))
          case first =>
            rcases (show k = 0 ∨ k = 1 ∨ k = 2 ∨ k = 3 by have := HK.out; omega) with hk | hk | hk | hk
            · have q1 : (k == 1) = false := by rw [hk]; rfl
              have q0 : (k != 0) = false := by rw [hk]; rfl
              have HG := Lib.hid (show false = goes k d p y by simp [goes, hk])
              clear hk
              go_wp2
              go_meet
              exact ⟨congrArg Value.bool HG.out, rfl⟩
            · have q1 : (k == 1) = true := by rw [hk]; rfl
              have HG := Lib.hid (show true = goes k d p y by simp [goes, hk])
              clear hk
              go_wp2
              go_meet
              exact ⟨congrArg Value.bool HG.out, rfl⟩
            · have q1 : (k == 1) = false := by rw [hk]; rfl
              have q0 : (k != 0) = true := by rw [hk]; rfl
              have q2 : (k == 2) = true := by rw [hk]; rfl
              have HG := Lib.hid (show (y.dev == d) = goes k d p y by simp [goes, hk])
              clear hk
              cases hd : (y.dev == d)
              · rw [hd] at HG
                go_wp2
                go_meet
                exact ⟨congrArg Value.bool HG.out, rfl⟩
              · rw [hd] at HG
                go_wp2
                go_meet
                exact ⟨congrArg Value.bool HG.out, rfl⟩
            · have q1 : (k == 1) = false := by rw [hk]; rfl
              have q0 : (k != 0) = true := by rw [hk]; rfl
              have q2 : (k == 2) = false := by rw [hk]; rfl
              have HG := Lib.hid (show (y.dev == d && y.page == p) = goes k d p y by simp [goes, hk])
              clear hk
              cases hd : (y.dev == d)
              · rw [hd] at HG
                go_wp2
                go_meet
                exact ⟨congrArg Value.bool HG.out, rfl⟩
              · cases hp : (y.page == p)
                · rw [hd, hp] at HG
                  go_wp2
                  go_meet
                  exact ⟨congrArg Value.bool HG.out, rfl⟩
                · rw [hd, hp] at HG
                  go_wp2
                  go_meet
                  exact ⟨congrArg Value.bool HG.out, rfl⟩
          case rest =>
            obtain ⟨rfl, rfl⟩ := hcut
            have hF := drop_find (d := d) (p := p) HDE.out (List.mem_of_getElem? HY.out)
            rw [HBS.out] at hF
            have hKs := kept_succ (q := fun x => !goes k d p x) HY.out
            cases hg : goes k d p y
            · rw [hg] at hF
              have hat := kept_at (q := fun x => !goes k d p x) HY.out (by simp [hg])
              rw [← hK.out, ← dropL_0 HDE.out, HBS.out] at hat
              rw [← hK.out] at hKs
              have HKS := Lib.hid (show K + 1 = ((ls.take (i + 1)).filter (fun x => !goes k d p x)).length by rw [hKs]; simp [hg])
              have HF := Lib.hid hF
              clear hKs hg
              obtain ⟨b3, off3, rfl, hb3', hcc⟩ := HM4.out.at_ (by have := (List.getElem?_eq_some_iff.1 hat).1; omega)
              obtain ⟨f0, f1, f2, f3, f4⟩ := hcc K y hat
              have hKlt : K < bs.length := (List.getElem?_eq_some_iff.1 hat).1
              have f0 := since_cell hS.out f0
              have f1 := since_cell hS.out f1
              have f2 := since_cell hS.out f2
              have f3 := since_cell hS.out f3
              have f4 := since_cell hS.out f4
              have lb3 : b3 < wr.heap.size := cell_lt' f0
              have j0 : (0 : Int) ≤ (K : Int) := by omega
              have j1 : (K : Int) < (bs.length : Int) := by omega
              clear hcc hat hb3'
              go_wp2_with fail
              refine (cache_Find _ _ _ bs _ _ _ (lines_now HM4.out (since_alloc hS.out _))).mono ?_
              rintro e w5 ⟨rfl, hb5⟩
              have hz5 := hb5.size
              (try simp only [World.size_alloc, World.size_setCell, World.size_drew] at hz5)
              have k5_0 := fun o => (bcell hb5).1 (wr.heap.size) o (by first | (simp; done) | (simp; omega) | omega)
              have l5_0 : (wr.heap.size) < w5.heap.size := (by omega)
              have q5_0 := fun o => (bcell hb5).2 (wr.heap.size) o (by first | (simp; done) | (simp; omega) | omega)
              have k5_1 := fun o => (bcell hb5).1 (b3) o (by first | (simp; done) | (simp; omega) | omega)
              have l5_1 : (b3) < w5.heap.size := (by omega)
              have q5_1 := fun o => (bcell hb5).2 (b3) o (by first | (simp; done) | (simp; omega) | omega)
              simp (maxDischargeDepth := 6) [go_sem, *] at k5_0 q5_0 k5_1 q5_1
              have HB5 := Lib.hid hb5
              clear hb5
              have tF := HF.out
              go_wp2_with fail
              go_quiet (fail)
              go_wp2_with fail
              go_roundw
              case rel => exact ⟨K + 1, i + 1, by go_num, by go_num, hlt, HKS.out, bdrewN (since_step HB5.out (since_alloc hS.out _)) _⟩
              case measure => simp [intOf]; omega
            · rw [hg] at hF
              rw [← hK.out] at hKs
              have HKS := Lib.hid (show K = ((ls.take (i + 1)).filter (fun x => !goes k d p x)).length by rw [hKs]; simp [hg])
              have HF := Lib.hid hF
              clear hKs hg
              go_wp2_with fail
              refine (cache_Find _ _ _ bs _ _ _ (lines_now HM4.out (since_alloc hS.out _))).mono ?_
              rintro e w5 ⟨rfl, hb5⟩
              have hz5 := hb5.size
              (try simp only [World.size_alloc, World.size_setCell, World.size_drew] at hz5)
              have HB5 := Lib.hid hb5
              clear hb5
              have tF := HF.out
              go_wp2_with fail
              go_roundw
              case rel => exact ⟨K, i + 1, rfl, by go_num, hlt, HKS.out, since_step HB5.out (since_alloc hS.out _)⟩
              case measure => simp [intOf]; omega
        · obtain rfl : i = n := by omega
          have hfin := hK.out
          rw [List.take_of_length_le (by rw [HL.out.len]; omega), ← dropL_0 HDE.out, HBS.out] at hfin
          have hck : ckC bs = 0 := by rw [← HBS.out]; exact drop_ck ls k d p HDE.out
          have HCK := Lib.hid hck
          have tl : ((bs.length : Int) == (K : Int)) = true := by rw [beq_iff_eq]; omega
          clear hfin hck
          go_wp2_with fail
          refine (cache_Check _ _ _ bs _ (lines_now HM4.out hS.out)).mono ?_
          rw [HCK.out]
          rintro e w6 ⟨rfl, hb6⟩
          have hz6 := hb6.size
          (try simp only [World.size_alloc, World.size_setCell, World.size_drew] at hz6)
          have HB6 := Lib.hid hb6
          clear hb6
          go_wp2
          go_ret
          exact ⟨ret_bool (by first | exact tl | simp [tl] | rfl), HSW.out.trans ((HB3.out.trans ((HB4.out.trans (Below.mono (Below.trans hS.out (HB6.out.mono (Below.size hS.out))) HB4.out.size)).mono HB3.out.size)).mono HSW.out.size)⟩
    · have t0 : (DE != 0) = true := by rw [bne_iff_ne]; exact h0
      clear r0 r1 r2
      go_wp2_with fail
      refine (law_kept _).mono ?_
      rintro e w5 ⟨rfl, hb5⟩
      have HB5 := Lib.hid hb5
      clear hb5
      go_wp2
      go_ret
      exact ⟨rfl, HSW.out.trans ((HB3.out.trans ((HB4.out.trans (HB5.out.mono HB4.out.size)).mono HB3.out.size)).mono HSW.out.size)⟩
end Go.Proofs.Ytbopdijnojaaiab
