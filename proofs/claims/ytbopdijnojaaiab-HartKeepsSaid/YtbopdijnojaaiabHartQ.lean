/- The hart: plain laws on what a step changes. No program in sight, no statement of the seat is proved here. -/
import Derived.Test.YtbopdijnojaaiabHartP
namespace Go.Proofs.Ytbopdijnojaaiab
open Go.RowKit
set_option linter.unusedSimpArgs false
set_option linter.unusedVariables false

/-- at how many of the first k places two rows differ. -/
def cntD (a b : List Int) : Nat → Nat
  | 0 => 0
  | k + 1 => cntD a b k + (if a[k]? = b[k]? then 0 else 1)
theorem cntD_self (a : List Int) (k : Nat) : cntD a a k = 0 := by
  induction k with
  | zero => rfl
  | succ k ih => simp [cntD, ih]
theorem cntD_set (b : List Int) (j : Nat) (v : Int) (k : Nat) : cntD (b.set j v) b k ≤ (if j < k then 1 else 0) := by
  induction k with
  | zero => simp [cntD]
  | succ k ih =>
    unfold cntD
    by_cases h : j = k
    · subst h
      rw [if_neg (Nat.lt_irrefl _)] at ih
      rw [if_pos (Nat.lt_succ_self _)]
      split <;> omega
    · rw [List.getElem?_set_ne h, if_pos rfl]
      by_cases h2 : j < k
      · rw [if_pos h2] at ih; rw [if_pos (by omega)]; omega
      · rw [if_neg h2] at ih; rw [if_neg (by omega)]; omega
theorem cntD_le (a b : List Int) (k : Nat) : cntD a b k ≤ k := by
  induction k with
  | zero => exact Nat.le_refl _
  | succ k ih => unfold cntD; split <;> omega

theorem rg_rng {xs : List Int} {k : Int} (hx : ∀ (j : Nat) (x : Int), xs[j]? = some x → 0 ≤ x ∧ x ≤ 65535) : 0 ≤ rd xs k ∧ rd xs k ≤ 65535 := by
  unfold rd
  cases e : xs[k.toNat]?
  · simp
  · exact hx _ _ e
theorem ckH_set {h : Hrt} {a v : Int} (h0 : ckH h = 0) (hv : 0 ≤ v ∧ v ≤ 65535) : ckH (h.setR a v) = 0 := by
  obtain ⟨h1, h2, h3⟩ := ckH_inv h0
  refine ckH_mk (by simp [Hrt.setR, h1]) h2 (fun k x hx => ?_)
  simp only [Hrt.setR] at hx
  rw [List.getElem?_set] at hx
  split at hx
  · split at hx
    · injection hx with e; subst e; exact hv
    · cases hx
  · exact h3 k x hx
theorem ckH_at0 {h : Hrt} {v : Int} (h0 : ckH h = 0) (hv : 0 ≤ v ∧ v < 512) : ckH ⟨v, h.regs, h.done⟩ = 0 := by
  obtain ⟨h1, _, h3⟩ := ckH_inv h0
  exact ckH_mk (h := ⟨v, h.regs, h.done⟩) h1 hv h3
theorem ckH_dn {h : Hrt} {d : Bool} (h0 : ckH h = 0) : ckH { h with done := d } = 0 := by
  obtain ⟨h1, h2, h3⟩ := ckH_inv h0
  exact ckH_mk (h := { h with done := d }) h1 h2 h3
theorem brgSet_keeps (b : Brg) (k v : Int) : (brgSet b k v).cache = b.cache ∧ (brgSet b k v).fences = b.fences ∧ (brgSet b k v).orders.head = b.orders.head ∧ (brgSet b k v).faults.tail = b.faults.tail := by
  unfold brgSet
  (repeat' split) <;> exact ⟨rfl, rfl, rfl, rfl⟩
theorem brgOut_keeps (b : Brg) (k v : Int) (h0 : ckB b = 0) : ckB (brgOut b k v).1 = 0 ∧ (brgOut b k v).1.cache = b.cache ∧ (brgOut b k v).1.fences = b.fences ∧ (brgOut b k v).1.orders.head = b.orders.head ∧ (brgOut b k v).1.faults.tail = b.faults.tail := by
  unfold brgOut
  split
  · split
    · refine ⟨?_, rfl, rfl, rfl, rfl⟩
      rw [ckB_iff] at h0 ⊢; exact h0
    · exact ⟨h0, rfl, rfl, rfl, rfl⟩
  · split
    · rename_i h; exact ⟨h.2, brgSet_keeps b k v⟩
    · exact ⟨h0, rfl, rfl, rfl, rfl⟩
theorem brgOut_no (b : Brg) (k v : Int) (h : (brgOut b k v).2 = false) : (brgOut b k v).1 = b := by
  unfold brgOut at h ⊢
  split
  · rename_i h1; rw [if_pos h1] at h
    split
    · rename_i h2; rw [if_pos h2] at h; cases h
    · rfl
  · rename_i h1; rw [if_neg h1] at h
    split
    · rename_i h2; rw [if_pos h2] at h; cases h
    · rfl
/-- what an instruction keeps. -/
structure Kps (xs : List Int) (h : Hrt) (b : Brg) (r : List Int × Hrt × Brg × Bool) : Prop where
  km : cm r.1 = 0
  kh : ckH r.2.1 = 0
  kb : ckB r.2.2.1 = 0
  kd : r.2.1.done = h.done
  kc : r.2.2.1.cache = b.cache ∧ r.2.2.1.fences = b.fences ∧ r.2.2.1.orders.head = b.orders.head ∧ r.2.2.1.faults.tail = b.faults.tail
  one : (r.1 = xs ∧ r.2.1.regs = h.regs) ∨ (r.2.2.1 = b ∧ ((r.1 = xs ∧ ∃ j v, r.2.1.regs = h.regs.set j v) ∨ (r.2.1.regs = h.regs ∧ ∃ j v, r.1 = xs.set j v)))
  at_ : r.2.1.at_ = h.at_ ∨ (0 ≤ r.2.1.at_ ∧ r.2.1.at_ ≤ 63)
  no : r.2.2.2 = false → r.1 = xs ∧ r.2.1 = h ∧ r.2.2.1 = b
theorem sh_rng (u i : Int) : 0 ≤ shM u i ∧ shM u i ≤ 65535 := by unfold shM; omega
theorem in_rng {b : Brg} {k : Int} (h0 : ckB b = 0) : 0 ≤ brgIn b k ∧ brgIn b k ≤ 65535 := by
  rw [ckB_iff] at h0
  obtain ⟨h1, _, h2, h3⟩ := h0
  unfold brgR at h1; unfold ringR at h2 h3
  unfold brgIn
  refine rg_rng (fun j x hx => ?_)
  have hst : 0 ≤ stB b ∧ stB b ≤ 3 := by unfold stB; (repeat' split) <;> omega
  match j, hx with
  | 0, hx => injection hx with e; subst e; omega
  | 1, hx => injection hx with e; subst e; omega
  | 2, hx => injection hx with e; subst e; omega
  | 3, hx => injection hx with e; subst e; omega
  | 4, hx => injection hx with e; subst e; omega
  | 5, hx => injection hx with e; subst e; omega
  | 6, hx => injection hx with e; subst e; omega
  | 7, hx => injection hx with e; subst e; omega
  | 8, hx => injection hx with e; subst e; omega
  | 9, hx => injection hx with e; subst e; omega
  | n + 10, hx => simp at hx
section
variable {xs : List Int} {h : Hrt} {b : Brg}
theorem kps_reg (h0 : cm xs = 0) (h1 : ckH h = 0) (h2 : ckB b = 0) {a v : Int} (hv : 0 ≤ v ∧ v ≤ 65535) : Kps xs h b (xs, h.setR a v, b, true) :=
  ⟨h0, ckH_set h1 hv, h2, rfl, ⟨rfl, rfl, rfl, rfl⟩, Or.inr ⟨rfl, Or.inl ⟨rfl, a.toNat, v, rfl⟩⟩, Or.inl rfl, fun e => by cases e⟩
theorem kps_no (h0 : cm xs = 0) (h1 : ckH h = 0) (h2 : ckB b = 0) {k : Bool} : Kps xs h b (xs, h, b, k) :=
  ⟨h0, h1, h2, rfl, ⟨rfl, rfl, rfl, rfl⟩, Or.inl ⟨rfl, rfl⟩, Or.inl rfl, fun _ => ⟨rfl, rfl, rfl⟩⟩
theorem does_keeps (h0 : cm xs = 0) (h1 : ckH h = 0) (h2 : ckB b = 0) {k a c i : Int} (hi : 0 ≤ i ∧ i ≤ 63) : Kps xs h b (doesM xs h b k a c i) := by
  have hx := (cm_inv h0).2
  have hr := (ckH_inv h1).2.2
  unfold doesM
  split
  · exact kps_reg h0 h1 h2 (by omega)
  split
  · exact kps_reg h0 h1 h2 (by omega)
  split
  · exact kps_reg h0 h1 h2 (sh_rng _ _)
  split
  · split
    · exact kps_reg h0 h1 h2 (rg_rng hx)
    · exact kps_no h0 h1 h2
  split
  · split
    · exact ⟨cm_set h0 (rg_rng hr), h1, h2, rfl, ⟨rfl, rfl, rfl, rfl⟩, Or.inr ⟨rfl, Or.inr ⟨rfl, _, _, rfl⟩⟩, Or.inl rfl, fun e => by cases e⟩
    · exact kps_no h0 h1 h2
  split
  · split
    · exact ⟨h0, ckH_at0 h1 (by omega), h2, rfl, ⟨rfl, rfl, rfl, rfl⟩, Or.inl ⟨rfl, rfl⟩, Or.inr hi, fun e => by cases e⟩
    · exact kps_no h0 h1 h2
  split
  · have hb := brgOut_keeps b i (rd h.regs a) h2
    exact ⟨h0, h1, hb.1, rfl, hb.2, Or.inl ⟨rfl, rfl⟩, Or.inl rfl, fun e => ⟨rfl, rfl, brgOut_no _ _ _ e⟩⟩
  split
  · split
    · exact kps_reg h0 h1 h2 (in_rng h2)
    · exact kps_no h0 h1 h2
  exact kps_no h0 h1 h2
end
theorem insI_rng (v : Int) : 0 ≤ insI v ∧ insI v ≤ 63 := by unfold insI rdF; split <;> omega
/-- what a step keeps. -/
structure SKps (xs : List Int) (h : Hrt) (b : Brg) (r : List Int × Hrt × Brg) : Prop where
  km : cm r.1 = 0
  kh : ckH r.2.1 = 0
  kb : ckB r.2.2 = 0
  kc : r.2.2.cache = b.cache ∧ r.2.2.fences = b.fences ∧ r.2.2.orders.head = b.orders.head ∧ r.2.2.faults.tail = b.faults.tail
  one : (r.1 = xs ∧ r.2.1.regs = h.regs) ∨ (r.2.2 = b ∧ ((r.1 = xs ∧ ∃ j v, r.2.1.regs = h.regs.set j v) ∨ (r.2.1.regs = h.regs ∧ ∃ j v, r.1 = xs.set j v)))
  at_ : r.2.1.done = false → r.2.1.at_ = (h.at_ + 1) % 512 ∨ (0 ≤ r.2.1.at_ ∧ r.2.1.at_ ≤ 63)
  no : r.2.1.done = true → r.1 = xs ∧ r.2.1.regs = h.regs ∧ r.2.1.at_ = h.at_ ∧ r.2.2 = b
theorem step_keeps {xs : List Int} {h : Hrt} {b : Brg} (e : stepE xs h b = 0) : SKps xs h b (stepM xs h b) := by
  obtain ⟨h0, h1, h2, h3⟩ := stepE_inv e
  unfold stepM
  split
  · have k := does_keeps (h := ⟨(h.at_ + 1) % 512, h.regs, h.done⟩) h0 (ckH_at0 h1 (by omega)) h2 (k := insK (rd xs h.at_)) (a := insA (rd xs h.at_)) (c := insC (rd xs h.at_)) (insI_rng (rd xs h.at_))
    exact ⟨k.km, k.kh, k.kb, k.kc, k.one, fun _ => k.at_, fun ed => by have := k.kd; rw [ed] at this; rw [← this] at h3; cases h3⟩
  · exact ⟨h0, ckH_dn h1, h2, ⟨rfl, rfl, rfl, rfl⟩, Or.inl ⟨rfl, rfl⟩, (fun ed => by cases ed), fun _ => ⟨rfl, rfl, rfl, rfl⟩⟩
theorem skps_cnt {xs : List Int} {h : Hrt} {b : Brg} {r : List Int × Hrt × Brg} (k : SKps xs h b r) : cntD r.1 xs 512 + cntD r.2.1.regs h.regs 8 ≤ 1 ∧ (r.2.1.done = true → cntD r.1 xs 512 + cntD r.2.1.regs h.regs 8 = 0) ∧ (r.2.2 = b ∨ cntD r.1 xs 512 + cntD r.2.1.regs h.regs 8 = 0) := by
  refine ⟨?_, fun ed => ?_, ?_⟩
  · rcases k.one with ⟨e1, e2⟩ | ⟨_, ⟨e1, j, v, e2⟩ | ⟨e1, j, v, e2⟩⟩
    · rw [e1, e2, cntD_self, cntD_self]; omega
    · rw [e1, e2, cntD_self]; have := cntD_set h.regs j v 8; split at this <;> omega
    · rw [e1, e2, cntD_self]; have := cntD_set xs j v 512; split at this <;> omega
  · obtain ⟨e1, e2, _⟩ := k.no ed
    rw [e1, e2, cntD_self, cntD_self]
  · rcases k.one with ⟨e1, e2⟩ | ⟨e, _⟩
    · exact Or.inr (by rw [e1, e2, cntD_self, cntD_self])
    · exact Or.inl e
/-- behind a step. -/
theorem step_again {xs : List Int} {h : Hrt} {b : Brg} {r : List Int × Hrt × Brg} (k : SKps xs h b r) : stepE r.1 r.2.1 r.2.2 = if r.2.1.done then 6 else 0 := by
  simp only [stepE, k.km, k.kh, k.kb, if_true]
end Go.Proofs.Ytbopdijnojaaiab
