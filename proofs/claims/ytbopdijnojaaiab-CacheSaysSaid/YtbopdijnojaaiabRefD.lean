/- The document's cache: the walk of Dropped. No statement of the seat is proved here. -/
import Derived.Test.YtbopdijnojaaiabRefF
namespace Go.Proofs.Ytbopdijnojaaiab
open Go.RowKit
set_option linter.unusedSimpArgs false
set_option linter.unusedVariables false

theorem kept_snoc {ls : List Line} {q : Line → Bool} {j : Nat} {y : Line} (hy : ls[j]? = some y) : (ls.take (j + 1)).filter q = (ls.take j).filter q ++ (if q y = true then [y] else []) := by
  rw [List.take_add_one, hy, List.filter_append]
  congr 1
  simp only [Option.toList, List.filter_cons, List.filter_nil]

set_option maxRecDepth 100000 in
set_option maxHeartbeats 4000000 in
theorem dropped_no (A : Option Addr) (n c : Nat) (ls : List Line) (k d p : Int) (w : World) (hl : Lines w w.heap.size A n c ls) (h0 : dropE ls k ≠ 0) :
    Calls Try.prog 30 #[.slice A n c, .agg #[.int .i64 k, .int .i64 d, .int .i64 p]] w fun e w' => e = .returned (.tuple #[.slice none 0 0, .int .i64 (dropE ls k)]) ∧ Below w.heap.size w w' := by
  have HL := Lib.hid hl
  clear hl
  by_cases hc : ckC ls = 0
  · have t0 : (ckC ls != 0) = false := by rw [bne_eq_false_iff_eq]; exact hc
    have hk : ¬ (0 ≤ k ∧ k ≤ 3) := fun hk => h0 (dropE_0 hc hk)
    have i1 : inB k 0 3 = false := inB_f hk
    rw [dropE_k hc hk]
    clear hc hk h0
    go_enter Try.func30, Try.ntmps30
    go_wp2_with fail
    refine (ref_CheckCache _ _ _ ls _ (lines_now HL.out (by (repeat (first | (with_reducible exact Below.refl _ _) | (with_reducible refine Below.drew ?_) | (with_reducible refine bdrewN ?_ _) | ((with_reducible refine Below.setCell ?_ ?_ _); rotate_left; exact (by first | (simp; done) | (simp; omega) | omega)) | ((with_reducible refine Below.alloc ?_ ?_ _); rotate_left; exact (by first | (simp; done) | (simp; omega) | omega))))))).mono ?_
    rintro e w1 ⟨rfl, hb1⟩
    have hz1 := hb1.size
    (try simp only [World.size_alloc, World.size_setCell, World.size_drew] at hz1)
    have k1_0 := fun o => (bcell hb1).1 (w.heap.size) o (by first | (simp; done) | (simp; omega) | omega)
    have l1_0 : (w.heap.size) < w1.heap.size := (by omega)
    have q1_0 := fun o => (bcell hb1).2 (w.heap.size) o (by first | (simp; done) | (simp; omega) | omega)
    simp (maxDischargeDepth := 6) [go_sem, *] at k1_0 q1_0
    have HB1 := Lib.hid hb1
    clear hb1
    go_wp2_with fail
    refine (ref_in _ _ _ _).mono ?_
    rintro e w' ⟨rfl, rfl⟩
    go_wp2
    go_ret2
    exact ⟨rfl, by (repeat (first | (with_reducible exact Below.refl _ _) | (with_reducible refine Below.drew ?_) | (with_reducible refine bdrewN ?_ _) | ((with_reducible refine Below.setCell ?_ ?_ _); rotate_left; exact (by first | (simp; done) | (simp; omega) | omega)) | ((with_reducible refine Below.alloc ?_ ?_ _); rotate_left; exact (by first | (simp; done) | (simp; omega) | omega)) | ((with_reducible refine Below.trans ?_ (HB1.out.mono ?_)); rotate_left; exact (by first | (simp; done) | (simp; omega) | omega))))⟩
  · have t0 : (ckC ls != 0) = true := by rw [bne_iff_ne]; exact hc
    rw [dropE_c hc]
    clear hc h0
    go_enter Try.func30, Try.ntmps30
    go_wp2_with fail
    refine (ref_CheckCache _ _ _ ls _ (lines_now HL.out (by (repeat (first | (with_reducible exact Below.refl _ _) | (with_reducible refine Below.drew ?_) | (with_reducible refine bdrewN ?_ _) | ((with_reducible refine Below.setCell ?_ ?_ _); rotate_left; exact (by first | (simp; done) | (simp; omega) | omega)) | ((with_reducible refine Below.alloc ?_ ?_ _); rotate_left; exact (by first | (simp; done) | (simp; omega) | omega))))))).mono ?_
    rintro e w1 ⟨rfl, hb1⟩
    have hz1 := hb1.size
    (try simp only [World.size_alloc, World.size_setCell, World.size_drew] at hz1)
    have HB1 := Lib.hid hb1
    clear hb1
    go_wp2
    go_ret2
    exact ⟨rfl, by (repeat (first | (with_reducible exact Below.refl _ _) | (with_reducible refine Below.drew ?_) | (with_reducible refine bdrewN ?_ _) | ((with_reducible refine Below.setCell ?_ ?_ _); rotate_left; exact (by first | (simp; done) | (simp; omega) | omega)) | ((with_reducible refine Below.alloc ?_ ?_ _); rotate_left; exact (by first | (simp; done) | (simp; omega) | omega)) | ((with_reducible refine Below.trans ?_ (HB1.out.mono ?_)); rotate_left; exact (by first | (simp; done) | (simp; omega) | omega))))⟩

set_option maxRecDepth 100000 in
set_option maxHeartbeats 8000000 in
theorem dropped_0 (A : Option Addr) (n c : Nat) (ls : List Line) (k d p : Int) (w : World) (hl : Lines w w.heap.size A n c ls) (h0 : dropE ls k = 0) :
    Calls Try.prog 30 #[.slice A n c, .agg #[.int .i64 k, .int .i64 d, .int .i64 p]] w fun e w' => ∃ A' c', e = .returned (.tuple #[.slice A' (dropL ls k d p).length c', .int .i64 0]) ∧ OwnL w.heap.size w' A' (dropL ls k d p).length c' (dropL ls k d p) ∧ Below w.heap.size w w' := by
  obtain ⟨i0, hi, hz0, hz1, hz2⟩ := info_parts Try.infoLine
  have HI := Lib.hid hi; clear hi
  have HZ0 := Lib.hid hz0; clear hz0
  have HZ1 := Lib.hid hz1; clear hz1
  have HZ2 := Lib.hid hz2; clear hz2
  have HL := Lib.hid hl
  have hcap := hl.cap
  obtain ⟨hc, hk⟩ := dropE_inv h0
  have h6 : n ≤ 6 := by have := ((ckC_iff ls).1 hc).1; have := hl.len; omega
  have t0 : (ckC ls != 0) = false := by rw [bne_eq_false_iff_eq]; exact hc
  have t1 : inB k 0 3 = true := inB_t hk
  have HK := Lib.hid hk
  rw [dropL_0 h0]
  clear hl hc hk h0
  go_enter Try.func30, Try.ntmps30
  go_wp2_with fail
  refine (ref_CheckCache _ _ _ ls _ (lines_now HL.out (by (repeat (first | (with_reducible exact Below.refl _ _) | (with_reducible refine Below.drew ?_) | (with_reducible refine bdrewN ?_ _) | ((with_reducible refine Below.setCell ?_ ?_ _); rotate_left; exact (by first | (simp; done) | (simp; omega) | omega)) | ((with_reducible refine Below.alloc ?_ ?_ _); rotate_left; exact (by first | (simp; done) | (simp; omega) | omega))))))).mono ?_
  rintro e w1 ⟨rfl, hb1⟩
  have HS1 := Lib.hid (show Since w w1 from (by (repeat (first | (with_reducible exact Below.refl _ _) | (with_reducible refine Below.drew ?_) | (with_reducible refine bdrewN ?_ _) | ((with_reducible refine Below.setCell ?_ ?_ _); rotate_left; exact (by first | (simp; done) | (simp; omega) | omega)) | ((with_reducible refine Below.alloc ?_ ?_ _); rotate_left; exact (by first | (simp; done) | (simp; omega) | omega)))) : Below w.heap.size w _).trans (hb1.mono (by simp)))
  have hz1 := hb1.size
  (try simp only [World.size_alloc, World.size_setCell, World.size_drew] at hz1)
  have k1_0 := fun o => (bcell hb1).1 (w.heap.size) o (by first | (simp; done) | (simp; omega) | omega)
  have l1_0 : (w.heap.size) < w1.heap.size := (by omega)
  have q1_0 := fun o => (bcell hb1).2 (w.heap.size) o (by first | (simp; done) | (simp; omega) | omega)
  simp (maxDischargeDepth := 6) [go_sem, *] at k1_0 q1_0
  have HB1 := Lib.hid hb1
  clear hb1
  have o0 : w1.cell? ⟨w.heap.size, 0, none⟩ = some (.int .i64 k) := by simp [k1_0]
  have o1 : w1.cell? ⟨w.heap.size, 1, none⟩ = some (.int .i64 d) := by simp [k1_0]
  have o2 : w1.cell? ⟨w.heap.size, 2, none⟩ = some (.int .i64 p) := by simp [k1_0]
  have HR := Lib.hid (And.intro o0 (And.intro o1 o2))
  clear o1 o2 k1_0 q1_0
  go_wp2_with (go_at_call 70; refine (ref_in _ _ _ _).mono ?_; rintro e w' ⟨rfl, rfl⟩)
  clear o0
  go_loopw [7, 22] (fun s7 s22 wr => ∃ (i : Nat) (A' : Option Addr) (c' : Nat), s7 = .slice A' ((ls.take i).filter (fun x => !goes k d p x)).length c' ∧ s22 = .int .i64 i ∧ i ≤ n ∧ Hid (OwnL w1.heap.size wr A' ((ls.take i).filter (fun x => !goes k d p x)).length c' ((ls.take i).filter (fun x => !goes k d p x))) ∧ Hid (Since w1 wr)) (fun _ i _ => n - (intOf i).toNat)
  case atStart => exact ⟨0, none, 0, rfl, rfl, by omega, own_lines_nil _ _, since_refl w1⟩
  case round =>
    obtain ⟨i, A', c', rfl, rfl, hi, hO, hS⟩ := hrel
    have r0 := since_cell hS.out HR.out.1
    have r1 := since_cell hS.out HR.out.2.1
    have r2 := since_cell hS.out HR.out.2.2
    have lr : w.heap.size < wr.heap.size := cell_lt' r0
    have hKi : ((ls.take i).filter (fun x => !goes k d p x)).length ≤ i := kept_le _ _ _
    by_cases hlt : i < n
    · obtain ⟨y, hy⟩ := some_of_lt ls (k := i) (by rw [HL.out.len]; exact hlt)
      obtain ⟨b1, off1, rfl, hb1', hcc⟩ := (lines_now HL.out (HS1.out.trans (Below.mono hS.out (Below.size HS1.out)))).at_ (by omega)
      obtain ⟨d0, d1, d2, d3, d4⟩ := hcc i y hy
      have HSN := Lib.hid (kept_snoc (q := fun x => !goes k d p x) hy)
      have i0' : (0 : Int) ≤ (i : Int) := by omega
      have i1 : (i : Int) < (n : Int) := by omega
      clear hcc hy
      generalize hfil : (ls.take i).filter (fun x => !goes k d p x) = fs at *
      go_upto_region 10 with (fail)
      go_cut [10] (fun s10 wd => s10 = .bool (goes k d p y) ∧ wd = wr.alloc (.cells #[.int .i64 y.dev, .int .i64 y.page, .int .i64 y.at_, .bool y.rd, .bool y.wr] 42))
      case first =>
        rcases (show k = 0 ∨ k = 1 ∨ k = 2 ∨ k = 3 by have := HK.out; omega) with hk | hk | hk | hk
        · have q1 : (k == 1) = false := by rw [hk]; rfl
          have q2 : (k == 2) = false := by rw [hk]; rfl
          have q3 : (k == 3) = false := by rw [hk]; rfl
          have HG := Lib.hid (show false = goes k d p y by simp [goes, hk])
          clear hk
          go_wp2
          go_meet
          exact ⟨congrArg Value.bool HG.out, rfl⟩
        · have q1 : (k == 1) = true := by rw [hk]; rfl
          have HG := Lib.hid (show true = goes k d p y by simp [goes, hk])
          clear hk
          go_wp2
          go_meet
          exact ⟨congrArg Value.bool HG.out, rfl⟩
        · have q1 : (k == 1) = false := by rw [hk]; rfl
          have q2 : (k == 2) = true := by rw [hk]; rfl
          have q3 : (k == 3) = false := by rw [hk]; rfl
          have HG := Lib.hid (show (y.dev == d) = goes k d p y by simp [goes, hk])
          clear hk
          cases hd : (y.dev == d)
          · rw [hd] at HG
            go_wp2
            go_meet
            exact ⟨congrArg Value.bool HG.out, rfl⟩
          · rw [hd] at HG
            go_wp2
            go_meet
            exact ⟨congrArg Value.bool HG.out, rfl⟩
        · have q1 : (k == 1) = false := by rw [hk]; rfl
          have q2 : (k == 2) = false := by rw [hk]; rfl
          have q3 : (k == 3) = true := by rw [hk]; rfl
          have HG := Lib.hid (show (y.dev == d && y.page == p) = goes k d p y by simp [goes, hk])
          clear hk
          cases hd : (y.dev == d)
          · rw [hd] at HG
            go_wp2
            go_meet
            exact ⟨congrArg Value.bool HG.out, rfl⟩
          · cases hp : (y.page == p)
            · rw [hd, hp] at HG
              go_wp2
              go_meet
              exact ⟨congrArg Value.bool HG.out, rfl⟩
            · rw [hd, hp] at HG
              go_wp2
              go_meet
              exact ⟨congrArg Value.bool HG.out, rfl⟩
      case rest =>
        obtain ⟨rfl, rfl⟩ := hcut
        cases hg : goes k d p y
        · have HE := Lib.hid (show (ls.take (i + 1)).filter (fun x => !goes k d p x) = fs ++ [y] by rw [HSN.out]; simp [hg])
          have HV := Lib.hid hg
          clear hg
          have hO2 := Lib.hid ((hO.out.alloc (.cells #[.int .i64 y.dev, .int .i64 y.page, .int .i64 y.at_, .bool y.rd, .bool y.wr] 42)).alloc (.cells #[.int .i64 y.dev, .int .i64 y.page, .int .i64 y.at_, .bool y.rd, .bool y.wr] 42))
          have hzs := Below.size hS.out
          go_wp2_with (at_builtin; refine wpList_append_lies _ rfl (.tmp 62) (.tmp 64) 40 rfl w1.heap.size 42 i0 (.agg #[.int .i64 0, .int .i64 0, .int .i64 0, .bool false, .bool false]) 5 32 Try.underlying40 HI.out HZ0.out HZ1.out HZ2.out rfl (by decide) (.slice A' fs.length c') fs.length (lcells fs) rfl hO2.out.2.2.2 ⟨wr.heap.size + 1, 0, none⟩ 1 1 y.vals rfl rfl (news_at (news_block (wr.alloc (.cells #[.int .i64 y.dev, .int .i64 y.page, .int .i64 y.at_, .bool y.rd, .bool y.wr] 42)) y) (by simp)) (vals_one y) (by decide) (by unfold maxLen; omega) (by omega) (by simp; omega) _ rfl ?_; intro g cap w6 hown6 hgrow6 hat6 hlt6)
          have hs6 : Since w1 w6 := Below.grown (since_alloc (since_alloc hS.out _) _) hgrow6 (by simp; omega) (fun q hq => own_gel hO2.out.2.2.2 q hq)
          have HS6 := Lib.hid hs6
          have HO6 := Lib.hid (own_fill0 rfl hown6)
          clear hgrow6 hat6 hown6 hs6
          go_roundw
          case rel =>
            refine ⟨i + 1, some ⟨g, 0, none⟩, cap, ?_, by go_num, hlt, ?_, HS6.out⟩
            · rw [HE.out]; simp
            · show OwnL _ _ _ _ _ _
              rw [HE.out]
              simpa using HO6.out
          case measure => simp [intOf]; omega
        · have HE := Lib.hid (show (ls.take (i + 1)).filter (fun x => !goes k d p x) = fs by rw [HSN.out]; simp [hg])
          have HV := Lib.hid hg
          clear hg
          go_wp2
          go_roundw
          case rel =>
            refine ⟨i + 1, A', c', ?_, by go_num, hlt, ?_, since_alloc hS.out _⟩
            · rw [HE.out]
            · show OwnL _ _ _ _ _ _
              rw [HE.out]
              exact hO.out.alloc _
          case measure => simp [intOf]; omega
    · obtain rfl : i = n := by omega
      have hall : ls.take i = ls := List.take_of_length_le (by rw [HL.out.len]; omega)
      rw [hall] at hO ⊢
      go_wp2
      go_ret2
      exact ⟨A', c', rfl, hO.out.low (Below.size HS1.out), HS1.out.trans (Below.mono hS.out (Below.size HS1.out))⟩

theorem ref_Dropped (A : Option Addr) (n c : Nat) (ls ms : List Line) (k d p E : Int) (w : World) (hl : Lines w w.heap.size A n c ls) (hE : dropE ls k = E) (hm : dropL ls k d p = ms) :
    Calls Try.prog 30 #[.slice A n c, .agg #[.int .i64 k, .int .i64 d, .int .i64 p]] w fun e w' => ∃ A' c', e = .returned (.tuple #[.slice A' ms.length c', .int .i64 E]) ∧ Lines w' w'.heap.size A' ms.length c' ms ∧ Below w.heap.size w w' ∧ ∀ ad, A' = some ad → w.heap.size ≤ ad.block := by
  by_cases h0 : E = 0
  · subst h0
    have := dropped_0 A n c ls k d p w hl hE
    rw [hm] at this
    refine this.mono ?_
    rintro e w' ⟨A', c', rfl, ho, hb⟩
    exact ⟨A', c', rfl, ho.lines, hb, fun ad h => own_gel ho.2.2.2 ad.block (by rw [h]; rfl)⟩
  · have := dropped_no A n c ls k d p w hl (by rw [hE]; exact h0)
    rw [hE] at this
    refine this.mono ?_
    rintro e w' ⟨rfl, hb⟩
    have hz : ms = [] := by rw [← hm]; exact dropL_n hE h0
    subst hz
    exact ⟨none, 0, rfl, lines_none _ _, hb, fun _ h => by cases h⟩
end Go.Proofs.Ytbopdijnojaaiab
