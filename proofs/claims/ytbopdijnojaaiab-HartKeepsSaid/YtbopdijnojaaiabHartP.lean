/- The hart: what chapter 10's functions compute. No program in sight, no statement of the seat is proved here. -/
import Derived.Test.YtbopdijnojaaiabBridgeP
import Derived.Test.YtbopdijnojaaiabCode
namespace Go.Proofs.Ytbopdijnojaaiab
open Go.RowKit
set_option linter.unusedSimpArgs false
set_option linter.unusedVariables false

structure Hrt where
  at_ : Int
  regs : List Int
  done : Bool
def Hrt.no : Hrt := ⟨0, [], false⟩
theorem Hrt.ext' {x y : Hrt} (h1 : x.at_ = y.at_) (h2 : x.regs = y.regs) (h3 : x.done = y.done) : x = y := by
  cases x; cases y; simp only [] at *; subst h1; subst h2; subst h3; rfl
instance : DecidableEq Hrt := fun x y =>
  if h : x.at_ = y.at_ ∧ x.regs = y.regs ∧ x.done = y.done then isTrue (Hrt.ext' h.1 h.2.1 h.2.2) else isFalse (fun e => h (by subst e; exact ⟨rfl, rfl, rfl⟩))
def sameH (a b : Hrt) : Bool := decide (a = b)
theorem sameH_and (a b : Hrt) : sameH a b = (decide (a.at_ = b.at_) && decide (a.regs = b.regs) && decide (a.done = b.done)) := by
  unfold sameH
  rw [Bool.eq_iff_iff]
  simp only [decide_eq_true_eq, Bool.and_eq_true]
  constructor
  · rintro rfl; exact ⟨⟨rfl, rfl⟩, rfl⟩
  · rintro ⟨⟨h1, h2⟩, h3⟩; exact Hrt.ext' h1 h2 h3

/-- chapter 10's Check. -/
def ckH (h : Hrt) : Int := if h.regs.length = 8 then (if 0 ≤ h.at_ ∧ h.at_ < 512 then (if h.regs.all inWord then 0 else 2) else 2) else 3
theorem ckH_len {h : Hrt} (h1 : h.regs.length ≠ 8) : ckH h = 3 := by simp [ckH, h1]
theorem ckH_at {h : Hrt} (h1 : h.regs.length = 8) (h2 : ¬ (0 ≤ h.at_ ∧ h.at_ < 512)) : ckH h = 2 := by simp only [ckH, if_pos h1, if_neg h2]
theorem ckH_bad {h : Hrt} {k : Nat} {x : Int} (h1 : h.regs.length = 8) (h2 : 0 ≤ h.at_ ∧ h.at_ < 512) (hx : h.regs[k]? = some x) (h3 : inWord x = false) : ckH h = 2 := by
  simp only [ckH, if_pos h1, if_pos h2, all_false hx h3]; rfl
theorem ckH_ok {h : Hrt} (h1 : h.regs.length = 8) (h2 : 0 ≤ h.at_ ∧ h.at_ < 512) (h3 : (h.regs.take 8).all inWord = true) : ckH h = 0 := by
  rw [List.take_of_length_le (by omega)] at h3; simp only [ckH, if_pos h1, if_pos h2, h3]; rfl
theorem ckH_inv {h : Hrt} (e : ckH h = 0) : h.regs.length = 8 ∧ (0 ≤ h.at_ ∧ h.at_ < 512) ∧ ∀ (k : Nat) (x : Int), h.regs[k]? = some x → 0 ≤ x ∧ x ≤ 65535 := by
  unfold ckH at e
  split at e
  · rename_i hl
    split at e
    · rename_i ha
      split at e
      · rename_i hw
        refine ⟨hl, ha, fun k x hx => ?_⟩
        have := List.all_eq_true.1 hw x (List.mem_of_getElem? hx)
        simpa [inWord] using this
      · cases e
    · cases e
  · cases e
theorem ckH_mk {h : Hrt} (h1 : h.regs.length = 8) (h2 : 0 ≤ h.at_ ∧ h.at_ < 512) (h3 : ∀ (k : Nat) (x : Int), h.regs[k]? = some x → 0 ≤ x ∧ x ≤ 65535) : ckH h = 0 := by
  refine ckH_ok h1 h2 ?_
  rw [List.take_of_length_le (by omega), List.all_eq_true]
  intro x hx
  obtain ⟨k, hk⟩ := List.getElem?_of_mem hx
  simpa [inWord] using h3 k x hk

/-- the state of the bridge, as the hart sees it. -/
def stB (b : Brg) : Int := (if b.stopped then 1 else 0) + (if b.lost then 2 else 0)
/-- registers of the bridge. -/
def brgIn (b : Brg) (k : Int) : Int := rd [b.mode, b.base, b.orders.page, b.orders.tail, b.orders.head, b.faults.page, b.faults.head, b.faults.tail, b.fences, stB b] k
def brgSet (b : Brg) (k v : Int) : Brg :=
  if k = 0 then { b with mode := v } else if k = 1 then { b with base := v } else
  if k = 2 then { b with orders := ⟨v, b.orders.head, b.orders.tail⟩ } else if k = 3 then { b with orders := ⟨b.orders.page, b.orders.head, v⟩ } else
  if k = 5 then { b with faults := ⟨v, b.faults.head, b.faults.tail⟩ } else if k = 6 then { b with faults := ⟨b.faults.page, v, b.faults.tail⟩ } else b
def setsB (k : Int) : Bool := k == 0 || k == 1 || k == 2 || k == 3 || k == 5 || k == 6
/-- a register of the bridge is set. -/
def brgOut (b : Brg) (k v : Int) : Brg × Bool :=
  if k = 9 then (if v = 0 then ({ b with stopped := false, lost := false }, true) else (b, false))
  else if setsB k = true ∧ ckB (brgSet b k v) = 0 then (brgSet b k v, true) else (b, false)
def Hrt.setR (h : Hrt) (a v : Int) : Hrt := { h with regs := h.regs.set a.toNat v }
def shM (x i : Int) : Int := x * 2 ^ (min i 16).toNat % 65536
/-- what an instruction does. -/
def doesM (xs : List Int) (h : Hrt) (b : Brg) (k a c i : Int) : List Int × Hrt × Brg × Bool :=
  if k = 1 then (xs, h.setR a i, b, true)
  else if k = 2 then (xs, h.setR a ((rd h.regs a + rd h.regs c) % 65536), b, true)
  else if k = 3 then (xs, h.setR a (shM (rd h.regs a) i), b, true)
  else if k = 4 then (if rd h.regs c + i < 512 then (xs, h.setR a (rd xs (rd h.regs c + i)), b, true) else (xs, h, b, false))
  else if k = 5 then (if rd h.regs c + i < 512 then (xs.set (rd h.regs c + i).toNat (rd h.regs a), h, b, true) else (xs, h, b, false))
  else if k = 6 then (if rd h.regs a = rd h.regs c then (xs, { h with at_ := i }, b, true) else (xs, h, b, true))
  else if k = 7 then (xs, h, (brgOut b i (rd h.regs a)).1, (brgOut b i (rd h.regs a)).2)
  else if k = 8 then (if i < 10 then (xs, h.setR a (brgIn b i), b, true) else (xs, h, b, false))
  else (xs, h, b, false)
def insK (v : Int) : Int := rdF v (v / 4096)
def insA (v : Int) : Int := rdF v (v / 512 % 8)
def insC (v : Int) : Int := rdF v (v / 64 % 8)
def insI (v : Int) : Int := rdF v (v % 64)
/-- a step of right ones. -/
def stepM (xs : List Int) (h : Hrt) (b : Brg) : List Int × Hrt × Brg :=
  if rdE (rd xs h.at_) = 0 ∧ (doesM xs ⟨(h.at_ + 1) % 512, h.regs, h.done⟩ b (insK (rd xs h.at_)) (insA (rd xs h.at_)) (insC (rd xs h.at_)) (insI (rd xs h.at_))).2.2.2 = true then
    ((doesM xs ⟨(h.at_ + 1) % 512, h.regs, h.done⟩ b (insK (rd xs h.at_)) (insA (rd xs h.at_)) (insC (rd xs h.at_)) (insI (rd xs h.at_))).1,
     (doesM xs ⟨(h.at_ + 1) % 512, h.regs, h.done⟩ b (insK (rd xs h.at_)) (insA (rd xs h.at_)) (insC (rd xs h.at_)) (insI (rd xs h.at_))).2.1,
     (doesM xs ⟨(h.at_ + 1) % 512, h.regs, h.done⟩ b (insK (rd xs h.at_)) (insA (rd xs h.at_)) (insC (rd xs h.at_)) (insI (rd xs h.at_))).2.2.1)
  else (xs, { h with done := true }, b)
def stepE (xs : List Int) (h : Hrt) (b : Brg) : Int := if cm xs = 0 then (if ckH h = 0 then (if ckB b = 0 then (if h.done then 6 else 0) else ckB b) else ckH h) else cm xs
def stepA (xs : List Int) (h : Hrt) (b : Brg) : List Int × Hrt × Brg := if stepE xs h b = 0 then stepM xs h b else ([], .no, .no)
theorem stepE_inv {xs : List Int} {h : Hrt} {b : Brg} (e : stepE xs h b = 0) : cm xs = 0 ∧ ckH h = 0 ∧ ckB b = 0 ∧ h.done = false := by
  unfold stepE at e
  split at e
  · rename_i h1
    split at e
    · rename_i h2
      split at e
      · rename_i h3
        split at e
        · cases e
        · rename_i h4; exact ⟨h1, h2, h3, by simpa using h4⟩
      · rename_i h3; exact absurd e h3
    · rename_i h2; exact absurd e h2
  · rename_i h1; exact absurd e h1
end Go.Proofs.Ytbopdijnojaaiab
