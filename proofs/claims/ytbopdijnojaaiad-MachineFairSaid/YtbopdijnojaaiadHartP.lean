/- The hart: plain laws between the document's words and the program's. No program in sight, no statement of the seat is proved here. -/
import Derived.Test.YtbopdijnojaaiadBase
import Derived.Test.YtbopdijnojaaiadCode
namespace Go.Proofs.Ytbopdijnojaaiad
open Go.RowKit
set_option linter.unusedSimpArgs false
set_option linter.unusedVariables false

section
structure Hrt where
  at_ : Int
  regs : List Int
  done : Bool
def Hrt.no : Hrt := ⟨0, [], false⟩
theorem Hrt.ext' {x y : Hrt} (h1 : x.at_ = y.at_) (h2 : x.regs = y.regs) (h3 : x.done = y.done) : x = y := by
  cases x; cases y; simp only [] at *; subst h1; subst h2; subst h3; rfl
instance : DecidableEq Hrt := fun x y =>
  if h : x.at_ = y.at_ ∧ x.regs = y.regs ∧ x.done = y.done then isTrue (Hrt.ext' h.1 h.2.1 h.2.2) else isFalse (fun e => h (by subst e; exact ⟨rfl, rfl, rfl⟩))
/-- chapter 10's Check. -/
def ckH (h : Hrt) : Int := if h.regs.length = 8 then (if 0 ≤ h.at_ ∧ h.at_ < 512 then (if h.regs.all inWord then 0 else 2) else 2) else 3
theorem ckH_len {h : Hrt} (h1 : h.regs.length ≠ 8) : ckH h = 3 := by simp [ckH, h1]
theorem ckH_at {h : Hrt} (h1 : h.regs.length = 8) (h2 : ¬ (0 ≤ h.at_ ∧ h.at_ < 512)) : ckH h = 2 := by simp only [ckH, if_pos h1, if_neg h2]
theorem ckH_bad {h : Hrt} {k : Nat} {x : Int} (h1 : h.regs.length = 8) (h2 : 0 ≤ h.at_ ∧ h.at_ < 512) (hx : h.regs[k]? = some x) (h3 : inWord x = false) : ckH h = 2 := by
  simp only [ckH, if_pos h1, if_pos h2, all_false hx h3]; rfl
theorem ckH_ok {h : Hrt} (h1 : h.regs.length = 8) (h2 : 0 ≤ h.at_ ∧ h.at_ < 512) (h3 : (h.regs.take 8).all inWord = true) : ckH h = 0 := by
  rw [List.take_of_length_le (by omega)] at h3; simp only [ckH, if_pos h1, if_pos h2, h3]; rfl
theorem ckH_inv {h : Hrt} (e : ckH h = 0) : h.regs.length = 8 ∧ (0 ≤ h.at_ ∧ h.at_ < 512) ∧ ∀ (k : Nat) (x : Int), h.regs[k]? = some x → 0 ≤ x ∧ x ≤ 65535 := by
  unfold ckH at e
  split at e
  · rename_i hl
    split at e
    · rename_i ha
      split at e
      · rename_i hw
        refine ⟨hl, ha, fun k x hx => ?_⟩
        have := List.all_eq_true.1 hw x (List.mem_of_getElem? hx)
        simpa [inWord] using this
      · cases e
    · cases e
  · cases e
theorem ckH_mk {h : Hrt} (h1 : h.regs.length = 8) (h2 : 0 ≤ h.at_ ∧ h.at_ < 512) (h3 : ∀ (k : Nat) (x : Int), h.regs[k]? = some x → 0 ≤ x ∧ x ≤ 65535) : ckH h = 0 := by
  refine ckH_ok h1 h2 ?_
  rw [List.take_of_length_le (by omega), List.all_eq_true]
  intro x hx
  obtain ⟨k, hk⟩ := List.getElem?_of_mem hx
  simpa [inWord] using h3 k x hk

/-- the state of the bridge, as the hart sees it. -/
def stB (b : Brg) : Int := (if b.stopped then 1 else 0) + (if b.lost then 2 else 0)
/-- registers of the bridge. -/
def brgIn (b : Brg) (k : Int) : Int := rd [b.mode, b.base, b.orders.page, b.orders.tail, b.orders.head, b.faults.page, b.faults.head, b.faults.tail, b.fences, stB b] k
def brgSet (b : Brg) (k v : Int) : Brg :=
  if k = 0 then { b with mode := v } else if k = 1 then { b with base := v } else
  if k = 2 then { b with orders := ⟨v, b.orders.head, b.orders.tail⟩ } else if k = 3 then { b with orders := ⟨b.orders.page, b.orders.head, v⟩ } else
  if k = 5 then { b with faults := ⟨v, b.faults.head, b.faults.tail⟩ } else if k = 6 then { b with faults := ⟨b.faults.page, v, b.faults.tail⟩ } else b
def setsB (k : Int) : Bool := k == 0 || k == 1 || k == 2 || k == 3 || k == 5 || k == 6
/-- a register of the bridge is set. -/
def brgOut (b : Brg) (k v : Int) : Brg × Bool :=
  if k = 9 then (if v = 0 then ({ b with stopped := false, lost := false }, true) else (b, false))
  else if setsB k = true ∧ ckB (brgSet b k v) = 0 then (brgSet b k v, true) else (b, false)
def Hrt.setR (h : Hrt) (a v : Int) : Hrt := { h with regs := h.regs.set a.toNat v }
def shM (x i : Int) : Int := x * 2 ^ (min i 16).toNat % 65536
/-- what an instruction does. -/
def doesM (xs : List Int) (h : Hrt) (b : Brg) (k a c i : Int) : List Int × Hrt × Brg × Bool :=
  if k = 1 then (xs, h.setR a i, b, true)
  else if k = 2 then (xs, h.setR a ((rd h.regs a + rd h.regs c) % 65536), b, true)
  else if k = 3 then (xs, h.setR a (shM (rd h.regs a) i), b, true)
  else if k = 4 then (if rd h.regs c + i < 512 then (xs, h.setR a (rd xs (rd h.regs c + i)), b, true) else (xs, h, b, false))
  else if k = 5 then (if rd h.regs c + i < 512 then (xs.set (rd h.regs c + i).toNat (rd h.regs a), h, b, true) else (xs, h, b, false))
  else if k = 6 then (if rd h.regs a = rd h.regs c then (xs, { h with at_ := i }, b, true) else (xs, h, b, true))
  else if k = 7 then (xs, h, (brgOut b i (rd h.regs a)).1, (brgOut b i (rd h.regs a)).2)
  else if k = 8 then (if i < 10 then (xs, h.setR a (brgIn b i), b, true) else (xs, h, b, false))
  else (xs, h, b, false)
def insK (v : Int) : Int := rdF v (v / 4096)
def insA (v : Int) : Int := rdF v (v / 512 % 8)
def insC (v : Int) : Int := rdF v (v / 64 % 8)
def insI (v : Int) : Int := rdF v (v % 64)
/-- a step of right ones. -/
def stepM (xs : List Int) (h : Hrt) (b : Brg) : List Int × Hrt × Brg :=
  if rdE (rd xs h.at_) = 0 ∧ (doesM xs ⟨(h.at_ + 1) % 512, h.regs, h.done⟩ b (insK (rd xs h.at_)) (insA (rd xs h.at_)) (insC (rd xs h.at_)) (insI (rd xs h.at_))).2.2.2 = true then
    ((doesM xs ⟨(h.at_ + 1) % 512, h.regs, h.done⟩ b (insK (rd xs h.at_)) (insA (rd xs h.at_)) (insC (rd xs h.at_)) (insI (rd xs h.at_))).1,
     (doesM xs ⟨(h.at_ + 1) % 512, h.regs, h.done⟩ b (insK (rd xs h.at_)) (insA (rd xs h.at_)) (insC (rd xs h.at_)) (insI (rd xs h.at_))).2.1,
     (doesM xs ⟨(h.at_ + 1) % 512, h.regs, h.done⟩ b (insK (rd xs h.at_)) (insA (rd xs h.at_)) (insC (rd xs h.at_)) (insI (rd xs h.at_))).2.2.1)
  else (xs, { h with done := true }, b)
def stepE (xs : List Int) (h : Hrt) (b : Brg) : Int := if cm xs = 0 then (if ckH h = 0 then (if ckB b = 0 then (if h.done then 6 else 0) else ckB b) else ckH h) else cm xs
def stepA (xs : List Int) (h : Hrt) (b : Brg) : List Int × Hrt × Brg := if stepE xs h b = 0 then stepM xs h b else ([], .no, .no)
theorem stepE_inv {xs : List Int} {h : Hrt} {b : Brg} (e : stepE xs h b = 0) : cm xs = 0 ∧ ckH h = 0 ∧ ckB b = 0 ∧ h.done = false := by
  unfold stepE at e
  split at e
  · rename_i h1
    split at e
    · rename_i h2
      split at e
      · rename_i h3
        split at e
        · cases e
        · rename_i h4; exact ⟨h1, h2, h3, by simpa using h4⟩
      · rename_i h3; exact absurd e h3
    · rename_i h2; exact absurd e h2
  · rename_i h1; exact absurd e h1
end

section
theorem rg_rng {xs : List Int} {k : Int} (hx : ∀ (j : Nat) (x : Int), xs[j]? = some x → 0 ≤ x ∧ x ≤ 65535) : 0 ≤ rd xs k ∧ rd xs k ≤ 65535 := by
  unfold rd
  cases e : xs[k.toNat]?
  · simp
  · exact hx _ _ e
theorem ckH_set {h : Hrt} {a v : Int} (h0 : ckH h = 0) (hv : 0 ≤ v ∧ v ≤ 65535) : ckH (h.setR a v) = 0 := by
  obtain ⟨h1, h2, h3⟩ := ckH_inv h0
  refine ckH_mk (by simp [Hrt.setR, h1]) h2 (fun k x hx => ?_)
  simp only [Hrt.setR] at hx
  rw [List.getElem?_set] at hx
  split at hx
  · split at hx
    · injection hx with e; subst e; exact hv
    · cases hx
  · exact h3 k x hx
theorem ckH_at0 {h : Hrt} {v : Int} (h0 : ckH h = 0) (hv : 0 ≤ v ∧ v < 512) : ckH ⟨v, h.regs, h.done⟩ = 0 := by
  obtain ⟨h1, _, h3⟩ := ckH_inv h0
  exact ckH_mk (h := ⟨v, h.regs, h.done⟩) h1 hv h3
theorem ckH_dn {h : Hrt} {d : Bool} (h0 : ckH h = 0) : ckH { h with done := d } = 0 := by
  obtain ⟨h1, h2, h3⟩ := ckH_inv h0
  exact ckH_mk (h := { h with done := d }) h1 h2 h3
theorem brgSet_keeps (b : Brg) (k v : Int) : (brgSet b k v).cache = b.cache ∧ (brgSet b k v).fences = b.fences ∧ (brgSet b k v).orders.head = b.orders.head ∧ (brgSet b k v).faults.tail = b.faults.tail := by
  unfold brgSet
  (repeat' split) <;> exact ⟨rfl, rfl, rfl, rfl⟩
theorem brgOut_keeps (b : Brg) (k v : Int) (h0 : ckB b = 0) : ckB (brgOut b k v).1 = 0 ∧ (brgOut b k v).1.cache = b.cache ∧ (brgOut b k v).1.fences = b.fences ∧ (brgOut b k v).1.orders.head = b.orders.head ∧ (brgOut b k v).1.faults.tail = b.faults.tail := by
  unfold brgOut
  split
  · split
    · refine ⟨?_, rfl, rfl, rfl, rfl⟩
      rw [ckB_iff] at h0 ⊢; exact h0
    · exact ⟨h0, rfl, rfl, rfl, rfl⟩
  · split
    · rename_i h; exact ⟨h.2, brgSet_keeps b k v⟩
    · exact ⟨h0, rfl, rfl, rfl, rfl⟩
theorem brgOut_no (b : Brg) (k v : Int) (h : (brgOut b k v).2 = false) : (brgOut b k v).1 = b := by
  unfold brgOut at h ⊢
  split
  · rename_i h1; rw [if_pos h1] at h
    split
    · rename_i h2; rw [if_pos h2] at h; cases h
    · rfl
  · rename_i h1; rw [if_neg h1] at h
    split
    · rename_i h2; rw [if_pos h2] at h; cases h
    · rfl
/-- what an instruction keeps. -/
structure Kps (xs : List Int) (h : Hrt) (b : Brg) (r : List Int × Hrt × Brg × Bool) : Prop where
  km : cm r.1 = 0
  kh : ckH r.2.1 = 0
  kb : ckB r.2.2.1 = 0
  kd : r.2.1.done = h.done
  kc : r.2.2.1.cache = b.cache ∧ r.2.2.1.fences = b.fences ∧ r.2.2.1.orders.head = b.orders.head ∧ r.2.2.1.faults.tail = b.faults.tail
  one : (r.1 = xs ∧ r.2.1.regs = h.regs) ∨ (r.2.2.1 = b ∧ ((r.1 = xs ∧ ∃ j v, r.2.1.regs = h.regs.set j v) ∨ (r.2.1.regs = h.regs ∧ ∃ j v, r.1 = xs.set j v)))
  at_ : r.2.1.at_ = h.at_ ∨ (0 ≤ r.2.1.at_ ∧ r.2.1.at_ ≤ 63)
  no : r.2.2.2 = false → r.1 = xs ∧ r.2.1 = h ∧ r.2.2.1 = b
theorem sh_rng (u i : Int) : 0 ≤ shM u i ∧ shM u i ≤ 65535 := by unfold shM; omega
theorem in_rng {b : Brg} {k : Int} (h0 : ckB b = 0) : 0 ≤ brgIn b k ∧ brgIn b k ≤ 65535 := by
  rw [ckB_iff] at h0
  obtain ⟨h1, _, h2, h3⟩ := h0
  unfold brgR at h1; unfold ringR at h2 h3
  unfold brgIn
  refine rg_rng (fun j x hx => ?_)
  have hst : 0 ≤ stB b ∧ stB b ≤ 3 := by unfold stB; (repeat' split) <;> omega
  match j, hx with
  | 0, hx => injection hx with e; subst e; omega
  | 1, hx => injection hx with e; subst e; omega
  | 2, hx => injection hx with e; subst e; omega
  | 3, hx => injection hx with e; subst e; omega
  | 4, hx => injection hx with e; subst e; omega
  | 5, hx => injection hx with e; subst e; omega
  | 6, hx => injection hx with e; subst e; omega
  | 7, hx => injection hx with e; subst e; omega
  | 8, hx => injection hx with e; subst e; omega
  | 9, hx => injection hx with e; subst e; omega
  | n + 10, hx => simp at hx
section
variable {xs : List Int} {h : Hrt} {b : Brg}
theorem kps_reg (h0 : cm xs = 0) (h1 : ckH h = 0) (h2 : ckB b = 0) {a v : Int} (hv : 0 ≤ v ∧ v ≤ 65535) : Kps xs h b (xs, h.setR a v, b, true) :=
  ⟨h0, ckH_set h1 hv, h2, rfl, ⟨rfl, rfl, rfl, rfl⟩, Or.inr ⟨rfl, Or.inl ⟨rfl, a.toNat, v, rfl⟩⟩, Or.inl rfl, fun e => by cases e⟩
theorem kps_no (h0 : cm xs = 0) (h1 : ckH h = 0) (h2 : ckB b = 0) {k : Bool} : Kps xs h b (xs, h, b, k) :=
  ⟨h0, h1, h2, rfl, ⟨rfl, rfl, rfl, rfl⟩, Or.inl ⟨rfl, rfl⟩, Or.inl rfl, fun _ => ⟨rfl, rfl, rfl⟩⟩
theorem does_keeps (h0 : cm xs = 0) (h1 : ckH h = 0) (h2 : ckB b = 0) {k a c i : Int} (hi : 0 ≤ i ∧ i ≤ 63) : Kps xs h b (doesM xs h b k a c i) := by
  have hx := (cm_inv h0).2
  have hr := (ckH_inv h1).2.2
  unfold doesM
  split
  · exact kps_reg h0 h1 h2 (by omega)
  split
  · exact kps_reg h0 h1 h2 (by omega)
  split
  · exact kps_reg h0 h1 h2 (sh_rng _ _)
  split
  · split
    · exact kps_reg h0 h1 h2 (rg_rng hx)
    · exact kps_no h0 h1 h2
  split
  · split
    · exact ⟨cm_set h0 (rg_rng hr), h1, h2, rfl, ⟨rfl, rfl, rfl, rfl⟩, Or.inr ⟨rfl, Or.inr ⟨rfl, _, _, rfl⟩⟩, Or.inl rfl, fun e => by cases e⟩
    · exact kps_no h0 h1 h2
  split
  · split
    · exact ⟨h0, ckH_at0 h1 (by omega), h2, rfl, ⟨rfl, rfl, rfl, rfl⟩, Or.inl ⟨rfl, rfl⟩, Or.inr hi, fun e => by cases e⟩
    · exact kps_no h0 h1 h2
  split
  · have hb := brgOut_keeps b i (rd h.regs a) h2
    exact ⟨h0, h1, hb.1, rfl, hb.2, Or.inl ⟨rfl, rfl⟩, Or.inl rfl, fun e => ⟨rfl, rfl, brgOut_no _ _ _ e⟩⟩
  split
  · split
    · exact kps_reg h0 h1 h2 (in_rng h2)
    · exact kps_no h0 h1 h2
  exact kps_no h0 h1 h2
end
theorem insI_rng (v : Int) : 0 ≤ insI v ∧ insI v ≤ 63 := by unfold insI rdF; split <;> omega
/-- what a step keeps. -/
structure SKps (xs : List Int) (h : Hrt) (b : Brg) (r : List Int × Hrt × Brg) : Prop where
  km : cm r.1 = 0
  kh : ckH r.2.1 = 0
  kb : ckB r.2.2 = 0
  kc : r.2.2.cache = b.cache ∧ r.2.2.fences = b.fences ∧ r.2.2.orders.head = b.orders.head ∧ r.2.2.faults.tail = b.faults.tail
  one : (r.1 = xs ∧ r.2.1.regs = h.regs) ∨ (r.2.2 = b ∧ ((r.1 = xs ∧ ∃ j v, r.2.1.regs = h.regs.set j v) ∨ (r.2.1.regs = h.regs ∧ ∃ j v, r.1 = xs.set j v)))
  at_ : r.2.1.done = false → r.2.1.at_ = (h.at_ + 1) % 512 ∨ (0 ≤ r.2.1.at_ ∧ r.2.1.at_ ≤ 63)
  no : r.2.1.done = true → r.1 = xs ∧ r.2.1.regs = h.regs ∧ r.2.1.at_ = h.at_ ∧ r.2.2 = b
theorem step_keeps {xs : List Int} {h : Hrt} {b : Brg} (e : stepE xs h b = 0) : SKps xs h b (stepM xs h b) := by
  obtain ⟨h0, h1, h2, h3⟩ := stepE_inv e
  unfold stepM
  split
  · have k := does_keeps (h := ⟨(h.at_ + 1) % 512, h.regs, h.done⟩) h0 (ckH_at0 h1 (by omega)) h2 (k := insK (rd xs h.at_)) (a := insA (rd xs h.at_)) (c := insC (rd xs h.at_)) (insI_rng (rd xs h.at_))
    exact ⟨k.km, k.kh, k.kb, k.kc, k.one, fun _ => k.at_, fun ed => by have := k.kd; rw [ed] at this; rw [← this] at h3; cases h3⟩
  · exact ⟨h0, ckH_dn h1, h2, ⟨rfl, rfl, rfl, rfl⟩, Or.inl ⟨rfl, rfl⟩, (fun ed => by cases ed), fun _ => ⟨rfl, rfl, rfl, rfl⟩⟩
end

section
end
end Go.Proofs.Ytbopdijnojaaiad
