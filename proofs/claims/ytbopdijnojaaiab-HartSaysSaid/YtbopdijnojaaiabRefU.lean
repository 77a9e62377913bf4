/- The hart: the document's Stepped, whatever the instruction is. No statement of the seat is proved here. -/
import Derived.Test.YtbopdijnojaaiabRefWA
import Derived.Test.YtbopdijnojaaiabRefWB
import Derived.Test.YtbopdijnojaaiabRefWC
import Derived.Test.YtbopdijnojaaiabRefWD
import Derived.Test.YtbopdijnojaaiabRefWE
namespace Go.Proofs.Ytbopdijnojaaiab
open Go.RowKit
set_option linter.unusedSimpArgs false
set_option linter.unusedVariables false

theorem ins_ofU {v : Int} (h : rdE v = 0) : (0 ≤ insK v ∧ insK v ≤ 8) ∧ (0 ≤ insA v ∧ insA v < 8) ∧ (0 ≤ insC v ∧ insC v < 8) := by
  have hv : 0 ≤ v ∧ v ≤ 65535 := by
    by_cases hv : 0 ≤ v ∧ v ≤ 65535
    · exact hv
    · rw [rdE_r hv] at h; cases h
  have hR : InsR (v / 4096) (v / 512 % 8) (v / 64 % 8) (v % 64) := by
    by_cases hR : InsR (v / 4096) (v / 512 % 8) (v / 64 % 8) (v % 64)
    · exact hR
    · rw [rdE_f hv (by rw [insE_r hR]; decide)] at h; cases h
  unfold InsR at hR
  unfold insK insA insC
  rw [rdF_0 h, rdF_0 h, rdF_0 h]
  omega
theorem dm_0 (xs : List Int) (h : Hrt) (b : Brg) (a c i : Int) : doesM xs h b 0 a c i = (xs, h, b, false) := by
  unfold doesM; rw [if_neg (by decide), if_neg (by decide), if_neg (by decide), if_neg (by decide), if_neg (by decide), if_neg (by decide), if_neg (by decide), if_neg (by decide)]
theorem dm_1 (xs : List Int) (h : Hrt) (b : Brg) (a c i : Int) : doesM xs h b 1 a c i = (xs, h.setR a i, b, true) := by
  unfold doesM; rw [if_pos rfl]
theorem dm_2 (xs : List Int) (h : Hrt) (b : Brg) (a c i : Int) : doesM xs h b 2 a c i = (xs, h.setR a ((rd h.regs a + rd h.regs c) % 65536), b, true) := by
  unfold doesM; rw [if_neg (by decide), if_pos rfl]
theorem dm_3 (xs : List Int) (h : Hrt) (b : Brg) (a c i : Int) : doesM xs h b 3 a c i = (xs, h.setR a (shM (rd h.regs a) i), b, true) := by
  unfold doesM; rw [if_neg (by decide), if_neg (by decide), if_pos rfl]
theorem dm_4 (xs : List Int) (h : Hrt) (b : Brg) (a c i : Int) : doesM xs h b 4 a c i = if rd h.regs c + i < 512 then (xs, h.setR a (rd xs (rd h.regs c + i)), b, true) else (xs, h, b, false) := by
  unfold doesM; rw [if_neg (by decide), if_neg (by decide), if_neg (by decide), if_pos rfl]
theorem dm_5 (xs : List Int) (h : Hrt) (b : Brg) (a c i : Int) : doesM xs h b 5 a c i = if rd h.regs c + i < 512 then (xs.set (rd h.regs c + i).toNat (rd h.regs a), h, b, true) else (xs, h, b, false) := by
  unfold doesM; rw [if_neg (by decide), if_neg (by decide), if_neg (by decide), if_neg (by decide), if_pos rfl]
theorem dm_6 (xs : List Int) (h : Hrt) (b : Brg) (a c i : Int) : doesM xs h b 6 a c i = if rd h.regs a = rd h.regs c then (xs, { h with at_ := i }, b, true) else (xs, h, b, true) := by
  unfold doesM; rw [if_neg (by decide), if_neg (by decide), if_neg (by decide), if_neg (by decide), if_neg (by decide), if_pos rfl]
theorem dm_7 (xs : List Int) (h : Hrt) (b : Brg) (a c i : Int) : doesM xs h b 7 a c i = (xs, h, (brgOut b i (rd h.regs a)).1, (brgOut b i (rd h.regs a)).2) := by
  unfold doesM; rw [if_neg (by decide), if_neg (by decide), if_neg (by decide), if_neg (by decide), if_neg (by decide), if_neg (by decide), if_pos rfl]
theorem dm_8 (xs : List Int) (h : Hrt) (b : Brg) (a c i : Int) : doesM xs h b 8 a c i = if i < 10 then (xs, h.setR a (brgIn b i), b, true) else (xs, h, b, false) := by
  unfold doesM; rw [if_neg (by decide), if_neg (by decide), if_neg (by decide), if_neg (by decide), if_neg (by decide), if_neg (by decide), if_neg (by decide), if_pos rfl]
theorem step_badM {xs : List Int} {at_ : Int} {rs : List Int} {b : Brg} (hE : rdE (rd xs at_) ≠ 0) : stepM xs ⟨at_, rs, false⟩ b = (xs, ⟨at_, rs, true⟩, b) := by
  unfold stepM; rw [if_neg (fun q => hE q.1)]
theorem step_yesM {xs : List Int} {at_ : Int} {rs : List Int} {b : Brg} {ys : List Int} {g : Hrt} {d : Brg} (hE : rdE (rd xs at_) = 0) (hd : doesM xs ⟨(at_ + 1) % 512, rs, false⟩ b (insK (rd xs at_)) (insA (rd xs at_)) (insC (rd xs at_)) (insI (rd xs at_)) = (ys, g, d, true)) : stepM xs ⟨at_, rs, false⟩ b = (ys, g, d) := by
  unfold stepM; dsimp only; rw [hd, if_pos ⟨hE, rfl⟩]
theorem step_noM {xs : List Int} {at_ : Int} {rs : List Int} {b : Brg} {ys : List Int} {g : Hrt} {d : Brg} (hd : doesM xs ⟨(at_ + 1) % 512, rs, false⟩ b (insK (rd xs at_)) (insA (rd xs at_)) (insC (rd xs at_)) (insI (rd xs at_)) = (ys, g, d, false)) : stepM xs ⟨at_, rs, false⟩ b = (xs, ⟨at_, rs, true⟩, b) := by
  unfold stepM; dsimp only; rw [hd, if_neg (fun q => by cases q.2)]
section
variable (xs : List Int) (at_ : Int) (rs : List Int) (b : Brg) (M R L : Option Addr) (mc rc n c : Nat) (w : World) (hm : Ints w w.heap.size M 512 xs) (hr : Ints w w.heap.size R 8 rs) (hl : Lines w w.heap.size L n c b.cache) (c1 : cm xs = 0) (c2 : ckH ⟨at_, rs, false⟩ = 0) (c3 : ckB b = 0)
include hm hr hl c1 c2 c3
theorem ref_Stepped : Calls Try.prog 66 #[.agg #[.slice M 512 mc], .agg #[.int .i64 at_, .slice R 8 rc, .bool false], .agg #[.int .i64 b.mode, .int .i64 b.base, .slice L n c, .int .i64 b.orders.page, .int .i64 b.orders.head, .int .i64 b.orders.tail, .bool b.stopped, .int .i64 b.fences, .int .i64 b.faults.page, .int .i64 b.faults.head, .int .i64 b.faults.tail, .bool b.lost]] w (StpW w M R L n c (stepM xs ⟨at_, rs, false⟩ b)) := by
  by_cases hE : rdE (rd xs at_) = 0
  · obtain ⟨iK, iA, iC⟩ := ins_ofU hE
    have iI : 0 ≤ insI (rd xs at_) ∧ insI (rd xs at_) ≤ 63 := by have := insI_rng (rd xs at_); omega
    obtain ⟨ka, ea⟩ : ∃ k : Nat, insA (rd xs at_) = (k : Int) := ⟨(insA (rd xs at_)).toNat, by omega⟩
    obtain ⟨kd, ed⟩ : ∃ k : Nat, insC (rd xs at_) = (k : Int) := ⟨(insC (rd xs at_)).toNat, by omega⟩
    obtain ⟨ki, ei⟩ : ∃ k : Nat, insI (rd xs at_) = (k : Int) := ⟨(insI (rd xs at_)).toNat, by omega⟩
    have ha : ka < 8 := by omega
    have hd : kd < 8 := by omega
    have hi : ki ≤ 63 := by omega
    have hV : ∀ k, insK (rd xs at_) = k → rdV (rd xs at_) = .tuple #[.agg #[.int .i64 k, .int .i64 ka, .int .i64 kd, .int .i64 ki], .int .i64 0] := by
      rintro k rfl; rw [← ea, ← ed, ← ei]; unfold rdV; rw [hE]; rfl
    have vb : 0 ≤ rd rs kd := (rg_rng (k := (kd : Int)) (ckH_inv c2).2.2).1
    have va : 0 ≤ rd rs ka := (rg_rng (k := (ka : Int)) (ckH_inv c2).2.2).1
    have hk : insK (rd xs at_) = 0 ∨ insK (rd xs at_) = 1 ∨ insK (rd xs at_) = 2 ∨ insK (rd xs at_) = 3 ∨ insK (rd xs at_) = 4 ∨ insK (rd xs at_) = 5 ∨ insK (rd xs at_) = 6 ∨ insK (rd xs at_) = 7 ∨ insK (rd xs at_) = 8 := by omega
    have sY : ∀ {ys : List Int} {g : Hrt} {d : Brg} {k : Int}, insK (rd xs at_) = k → doesM xs ⟨(at_ + 1) % 512, rs, false⟩ b k ka kd ki = (ys, g, d, true) → stepM xs ⟨at_, rs, false⟩ b = (ys, g, d) := fun e h => step_yesM hE (by rw [e, ea, ed, ei]; exact h)
    have sN : ∀ {ys : List Int} {g : Hrt} {d : Brg} {k : Int}, insK (rd xs at_) = k → doesM xs ⟨(at_ + 1) % 512, rs, false⟩ b k ka kd ki = (ys, g, d, false) → stepM xs ⟨at_, rs, false⟩ b = (xs, ⟨at_, rs, true⟩, b) := fun e h => step_noM (by rw [e, ea, ed, ei]; exact h)
    rcases hk with hk | hk | hk | hk | hk | hk | hk | hk | hk
    · rw [sN hk (dm_0 _ _ _ _ _ _)]; exact stp_0 xs at_ rs b M R L mc rc n c w hm hr hl c1 c2 ka kd ki (hV _ hk) ha hd hi
    · rw [sY hk (dm_1 _ _ _ _ _ _)]; exact stp_1 xs at_ rs b M R L mc rc n c w hm hr hl c1 c2 ka kd ki (hV _ hk) ha hd hi
    · rw [sY hk (dm_2 _ _ _ _ _ _)]; exact stp_2 xs at_ rs b M R L mc rc n c w hm hr hl c1 c2 ka kd ki (hV _ hk) ha hd hi
    · rw [sY hk (dm_3 _ _ _ _ _ _)]; exact stp_3 xs at_ rs b M R L mc rc n c w hm hr hl c1 c2 ka kd ki (hV _ hk) ha hd hi
    · by_cases hq : rd rs kd + ki < 512
      · rw [sY hk ((dm_4 _ _ _ _ _ _).trans (if_pos hq))]; exact stp_4y xs at_ rs b M R L mc rc n c w hm hr hl c1 c2 ka kd ki (hV _ hk) ha hd hi hq
      · rw [sN hk ((dm_4 _ _ _ _ _ _).trans (if_neg hq))]; exact stp_4n xs at_ rs b M R L mc rc n c w hm hr hl c1 c2 ka kd ki (hV _ hk) ha hd hi hq
    · by_cases hq : rd rs kd + ki < 512
      · rw [sY hk ((dm_5 _ _ _ _ _ _).trans (if_pos hq))]; exact stp_5y xs at_ rs b M R L mc rc n c w hm hr hl c1 c2 ka kd ki (hV _ hk) ha hd hi hq
      · rw [sN hk ((dm_5 _ _ _ _ _ _).trans (if_neg hq))]; exact stp_5n xs at_ rs b M R L mc rc n c w hm hr hl c1 c2 ka kd ki (hV _ hk) ha hd hi hq
    · by_cases hq : rd rs ka = rd rs kd
      · rw [sY hk ((dm_6 _ _ _ _ _ _).trans (if_pos hq))]; exact stp_6y xs at_ rs b M R L mc rc n c w hm hr hl c1 c2 ka kd ki (hV _ hk) ha hd hi hq
      · rw [sY hk ((dm_6 _ _ _ _ _ _).trans (if_neg hq))]; exact stp_6n xs at_ rs b M R L mc rc n c w hm hr hl c1 c2 ka kd ki (hV _ hk) ha hd hi hq
    · by_cases hq : rd rs ka ≤ outMost ki
      · rw [sY hk ((dm_7 _ _ _ _ _ _).trans (by show (_, _, (brgOut _ _ _).1, (brgOut _ _ _).2) = _; rw [brgOut_most c3 va, if_pos hq]))]; exact stp_7y xs at_ rs b M R L mc rc n c w hm hr hl c1 c2 ka kd ki (hV _ hk) ha hd hi hq
      · rw [sN hk ((dm_7 _ _ _ _ _ _).trans (by show (_, _, (brgOut _ _ _).1, (brgOut _ _ _).2) = _; rw [brgOut_most c3 va, if_neg hq]))]; exact stp_7n xs at_ rs b M R L mc rc n c w hm hr hl c1 c2 ka kd ki (hV _ hk) ha hd hi hq
    · by_cases hq : ki < 10
      · have hq' : (ki : Int) < 10 := by omega
        rw [sY hk ((dm_8 _ _ _ _ _ _).trans (if_pos hq'))]; exact stp_8y xs at_ rs b M R L mc rc n c w hm hr hl c1 c2 ka kd ki (hV _ hk) ha hd hi hq
      · have hq' : ¬ (ki : Int) < 10 := by omega
        rw [sN hk ((dm_8 _ _ _ _ _ _).trans (if_neg hq'))]; exact stp_8n xs at_ rs b M R L mc rc n c w hm hr hl c1 c2 ka kd ki (hV _ hk) ha hd hi hq
  · rw [step_badM hE]
    refine stp_bad xs at_ rs b M R L mc rc n c w hm hr hl c1 c2 (rdE (rd xs at_)) (by rw [bne_iff_ne]; exact hE) ?_
    unfold rdV
    rw [rdF_n rfl hE, rdF_n rfl hE, rdF_n rfl hE, rdF_n rfl hE]
end
end Go.Proofs.Ytbopdijnojaaiab
