/- The machine: the plain laws of MachineShut, MachineHeld, MachinePlain, AuditOwn, MachineTold. No program in sight, no statement of the seat is proved here. -/
import Derived.Test.YtbopdijnojaaiacDmaP
namespace Go.Proofs.Ytbopdijnojaaiac
open Go.RowKit
set_option linter.unusedSimpArgs false
set_option linter.unusedVariables false

section
/-- memory behind the first k touches. -/
def wantK (a : Ask) (xs : List Int) (ts : List Tch) : Nat → List Int
  | 0 => xs
  | k + 1 => match ts[k]? with
    | some x => if x.wr = true then (wantK a xs ts k).set x.at_.toNat (rd a.data k) else wantK a xs ts k
    | none => wantK a xs ts k
theorem wantK_app {a : Ask} {xs : List Int} {ts us : List Tch} : ∀ {k : Nat}, k ≤ ts.length → wantK a xs (ts ++ us) k = wantK a xs ts k
  | 0, _ => rfl
  | k + 1, h => by
    unfold wantK
    rw [List.getElem?_append_left (by omega), wantK_app (k := k) (by omega)]
/-- each touch is as the law says. -/
structure Held (a : Ask) (xs : List Int) (ts : List Tch) (data : List Int) : Prop where
  tch : ∀ (k : Nat) (x : Tch), ts[k]? = some x → x.dev = a.dev ∧ x.seen = a.at_ + k ∧ x.wr = a.wr ∧ (0 ≤ x.at_ ∧ x.at_ < 512) ∧ x.value = rd (wantK a xs ts (k + 1)) x.at_ ∧ x.at_ % 8 = (a.at_ + k) % 8
  dat : a.wr = false → data.length = ts.length ∧ ∀ (k : Nat) (x : Tch), ts[k]? = some x → data[k]? = some x.value
  non : a.wr = true → data = []
theorem Held.start {a : Ask} {xs : List Int} : Held a xs [] [] := ⟨fun k x h => by simp at h, fun _ => ⟨rfl, fun k x h => by simp at h⟩, fun _ => rfl⟩
structure HeldS (a : Ask) (xs : List Int) (b : Brg) (i : Nat) (s : Dst) : Prop where
  ok : DOk a i s
  len : s.touched.length = i
  mem : s.xs = wantK a xs s.touched i
  flt : s.b.faults = b.faults
  held : Held a xs s.touched s.data
theorem wantK_one {a : Ask} {xs : List Int} {ts : List Tch} {x : Tch} : wantK a xs (ts ++ [x]) (ts.length + 1) = if x.wr = true then (wantK a xs ts ts.length).set x.at_.toNat (rd a.data ts.length) else wantK a xs ts ts.length := by
  show (match (ts ++ [x])[ts.length]? with | some x => _ | none => _) = _
  rw [List.getElem?_append_right (Nat.le_refl _), Nat.sub_self, wantK_app (Nat.le_refl _)]
  rfl
theorem HeldS.word {a : Ask} {xs : List Int} {b : Brg} {i : Nat} {s : Dst} (ha : reqE a = 0) (hi : (i : Int) < a.count) (hp : s.page ≠ -1) (h : HeldS a xs b i s) : HeldS a xs b (i + 1) (dWord a i s) := by
  have hlen := h.len
  have hw1 : wantK a xs (s.touched ++ [dTch a i s]) (i + 1) = dPut a i s := by
    rw [← hlen, wantK_one, hlen, ← h.mem]
    unfold dPut dTch
    simp only []
  refine ⟨h.ok.word ha hi, ?_, ?_, h.flt, ?_, ?_, ?_⟩
  · show (s.touched ++ [_]).length = _; rw [List.length_append, hlen]; rfl
  · exact hw1.symm
  · intro k x hx
    have hx' : (s.touched ++ [dTch a i s])[k]? = some x := hx
    show _ ∧ _ ∧ _ ∧ _ ∧ x.value = rd (wantK a xs (s.touched ++ [dTch a i s]) (k + 1)) x.at_ ∧ _
    by_cases hk : k < i
    · rw [List.getElem?_append_left (by omega)] at hx'
      rw [wantK_app (by omega)]
      exact h.held.tch k x hx'
    · rw [List.getElem?_append_right (by omega)] at hx'
      have hki : k = i := by
        by_cases hk2 : k - s.touched.length = 0
        · omega
        · rw [List.getElem?_eq_none (by simp; omega)] at hx'; cases hx'
      subst hki
      rw [hlen, Nat.sub_self] at hx'
      injection hx' with hx'
      subst hx'
      rw [hw1]
      refine ⟨rfl, rfl, rfl, d_at ha hi (h.ok.kp hp), rfl, ?_⟩
      show dAt a k s % 8 = _
      unfold dAt; omega
  · intro hr
    obtain ⟨h1, h2⟩ := h.held.dat hr
    have e : (dWord a i s).data = s.data ++ [rd (dPut a i s) (dAt a i s)] := by unfold dWord; simp [hr]
    rw [e]
    refine ⟨?_, ?_⟩
    · show _ = (s.touched ++ [_]).length; rw [List.length_append, List.length_append, h1]; rfl
    · intro k x hx
      have hx' : (s.touched ++ [dTch a i s])[k]? = some x := hx
      by_cases hk : k < i
      · rw [List.getElem?_append_left (by omega)] at hx'
        rw [List.getElem?_append_left (by omega)]
        exact h2 k x hx'
      · rw [List.getElem?_append_right (by omega)] at hx'
        rw [List.getElem?_append_right (by omega), h1]
        cases e2 : k - s.touched.length with
        | zero => rw [e2] at hx'; injection hx' with hx'; subst hx'; rfl
        | succ j => rw [e2] at hx'; cases hx'
  · intro hr
    have e : (dWord a i s).data = s.data := by unfold dWord; simp [hr]
    rw [e]; exact h.held.non hr
theorem thru_flt {xs : List Int} {b : Brg} {d p : Int} {w : Bool} : (thruM xs b d p w).1.faults = b.faults := by
  unfold thruM
  split
  · rfl
  · split
    · rfl
    · split
      · split <;> rfl
      · simp only []
        unfold freshM
        dsimp only
        split
        · split
          · rfl
          · split <;> rfl
        · rfl
theorem HeldS.next {a : Ask} {xs : List Int} {b : Brg} {i : Nat} {s : Dst} (ha : reqE a = 0) (hi : (i : Int) < a.count) (h : HeldS a xs b i s) : HeldS a xs b i (dNext a i s) :=
  ⟨h.ok.next ha hi, h.len, h.mem, by show (dThru a i s).1.faults = _; unfold dThru; rw [thru_flt]; exact h.flt, h.held⟩
theorem tell_held {xs : List Int} {c : Brg} {v : Int} (hr : ringR c.faults) : (tellM xs c v).1 = xs ∨ ((tellM xs c v).2.faults ≠ c.faults ∧ (tellM xs c v).1 = xs.set (c.faults.page * 8 + c.faults.tail).toNat v) := by
  unfold tellM
  split
  · exact Or.inl rfl
  · split
    · exact Or.inl rfl
    · refine Or.inr ⟨?_, rfl⟩
      show pushR c.faults ≠ _
      intro e
      have := congrArg Ring.tail e
      unfold pushR at this
      unfold ringR at hr
      simp only [] at this
      omega
/-- what DmaHeld says of what is handed back. -/
structure HeldE (a : Ask) (xs : List Int) (b : Brg) (r : List Int × Brg × Tld) : Prop where
  held : Held a xs r.2.2.touched r.2.2.data
  mem : r.1 = wantK a xs r.2.2.touched r.2.2.touched.length ∨ (r.2.2.fault ≠ 0 ∧ r.2.1.faults ≠ b.faults ∧ ∃ v, r.1 = (wantK a xs r.2.2.touched r.2.2.touched.length).set (b.faults.page * 8 + b.faults.tail).toNat v)
  don : r.2.2.done = true ↔ r.2.2.fault = 0
  all : r.2.2.done = true ↔ (r.2.2.touched.length : Int) = a.count
  flt : r.2.2.fault = 0 → r.2.1.faults = b.faults
  ck : cm r.1 = 0 ∧ ckB r.2.1 = 0
theorem dGo_held {a : Ask} {xs : List Int} {b : Brg} (ha : reqE a = 0) : ∀ (n i : Nat) (s : Dst), (i : Int) + n = a.count → HeldS a xs b i s → (s.page ≠ -1 ∨ i = 0) → HeldE a xs b (dGo a n i s) := by
  intro n
  induction n with
  | zero =>
    intro i s hi h _
    refine ⟨h.held, Or.inl ?_, ?_, ?_, fun _ => h.flt, h.ok.km, h.ok.kb⟩
    · show s.xs = wantK a xs s.touched s.touched.length
      rw [h.len]; exact h.mem
    · show true = true ↔ (0 : Int) = 0
      simp
    · show true = true ↔ (s.touched.length : Int) = a.count
      rw [h.len]; simp; omega
  | succ n ih =>
    intro i s hi h hp
    have hd := (d_in (a := a) (i := i) ha (by omega)).2
    unfold dGo
    split
    · rename_i he
      refine ih _ _ (by omega) (h.word ha (by omega) (by omega)) (Or.inl ?_)
      show s.page ≠ -1; omega
    · split
      · rename_i h0
        refine ih _ _ (by omega) ((h.next ha (by omega)).word ha (by omega) ?_) (Or.inl ?_)
        · show dPage a i ≠ -1; omega
        · show dPage a i ≠ -1; omega
      · rename_i h0
        have hck := d_stop ha (by omega) h.ok h0
        refine ⟨h.held, ?_, ?_, ?_, fun e => absurd e h0, hck⟩
        · show (tellM s.xs (dThru a i s).1 (dFlt a i s).w).1 = wantK a xs s.touched s.touched.length ∨ ((dThru a i s).2.2 ≠ 0 ∧ (tellM s.xs (dThru a i s).1 (dFlt a i s).w).2.faults ≠ b.faults ∧ ∃ v, (tellM s.xs (dThru a i s).1 (dFlt a i s).w).1 = (wantK a xs s.touched s.touched.length).set (b.faults.page * 8 + b.faults.tail).toNat v)
          rw [h.len, ← h.mem]
          have hf : (dThru a i s).1.faults = b.faults := by unfold dThru; rw [thru_flt]; exact h.flt
          have hr := ((ckB_iff _).1 (h.next ha (by omega)).ok.kb).2.2.2
          change ringR (dThru a i s).1.faults at hr
          rw [hf] at hr
          rcases tell_held (xs := s.xs) (c := (dThru a i s).1) (v := (dFlt a i s).w) (by rw [hf]; exact hr) with e | ⟨e1, e2⟩
          · exact Or.inl e
          · rw [hf] at e1 e2
            exact Or.inr ⟨h0, e1, _, e2⟩
        · show false = true ↔ (dThru a i s).2.2 = 0
          simp [h0]
        · show false = true ↔ (s.touched.length : Int) = a.count
          rw [h.len]; simp; omega
theorem dma_held {xs : List Int} {b : Brg} {a : Ask} (h : dmaE xs b a = 0) : HeldE a xs b (dmaM xs b a) := by
  obtain ⟨h1, h2, h3⟩ := dmaE_inv h
  have hc := (reqE_inv h3).1
  exact dGo_held h3 _ _ _ (by omega) ⟨dma_start h1 h2, rfl, rfl, rfl, Held.start⟩ (Or.inr rfl)
end

section
def tchR (x : Tch) : Prop := (0 ≤ x.dev ∧ x.dev < 8) ∧ (0 ≤ x.seen ∧ x.seen < 512) ∧ (0 ≤ x.at_ ∧ x.at_ < 512)
instance (x : Tch) : Decidable (tchR x) := by unfold tchR; exact inferInstance
end

section
end
end Go.Proofs.Ytbopdijnojaaiac
