/- Faults told one behind the other: plain laws. No program in sight, no statement of the seat is proved here. -/
import Derived.Test.YtbopdijnojaaiacWord
namespace Go.Proofs.Ytbopdijnojaaiac
open Go.RowKit
set_option linter.unusedSimpArgs false
set_option linter.unusedVariables false

/-- where the tellings stand: what lies in the ring is what was there, then what was told. -/
structure TellI (m : List Int) (b : Brg) (n : List Int) (c : Brg) (want : List Flt) : Prop where
  cm : cm n = 0
  ck : ckB c = 0
  len : lenR c.faults = lenR b.faults + want.length
  lie : inRing n (lenR c.faults).toNat c.faults = inRing m (lenR b.faults).toNat b.faults ++ want.map Flt.w
  ok : ∀ f ∈ want, f.e = 0
theorem TellI.start {m : List Int} {b : Brg} (h : Go.Proofs.Ytbopdijnojaaiac.cm m = 0) (h' : ckB b = 0) : TellI m b m b [] :=
  ⟨h, h', by simp, by simp, fun f hf => by cases hf⟩
theorem tell_lost {n : List Int} {c : Brg} {v : Int} : (tellM n c v).2.lost = (c.lost || lenR c.faults == 7) ∧ ((tellM n c v).2.lost = true → (tellM n c v).1 = n) := by
  unfold tellM
  split
  · rename_i h; exact ⟨by simp [h], fun _ => rfl⟩
  · rename_i h
    have h0 : c.lost = false := by simpa using h
    split
    · rename_i h7; exact ⟨by simp [h7], fun _ => rfl⟩
    · rename_i h7
      have t : (lenR c.faults == 7) = false := by rw [beq_eq_false_iff_ne]; exact h7
      exact ⟨by rw [t, h0]; rfl, fun e => by rw [show ({ c with faults := pushR c.faults } : Brg).lost = c.lost from rfl, h0] at e; cases e⟩
theorem TellI.next {m : List Int} {b : Brg} {n : List Int} {c : Brg} {want : List Flt} (h : TellI m b n c want) {f : Flt} (hf : f.e = 0) :
    TellI m b (tellM n c f.w).1 (tellM n c f.w).2 (if (tellM n c f.w).2.lost = true then want else want ++ [f]) := by
  have hv := flt_rng hf
  have hck := tell_ck (v := f.w) h.cm h.ck (by omega)
  have hr := ((ckB_iff c).1 h.ck).2.2.2
  by_cases hl : c.lost = true
  · have e : tellM n c f.w = (n, c) := by unfold tellM; rw [if_pos hl]
    rw [e, if_pos hl]; exact h
  · by_cases h7 : lenR c.faults = 7
    · have e : tellM n c f.w = (n, { c with lost := true }) := by unfold tellM; rw [if_neg hl, if_pos h7]
      rw [e] at hck ⊢
      rw [if_pos rfl]
      exact ⟨h.cm, hck.2, h.len, h.lie, h.ok⟩
    · have e : tellM n c f.w = (pushX n c.faults f.w, { c with faults := pushR c.faults }) := by unfold tellM; rw [if_neg hl, if_neg h7]
      rw [e] at hck ⊢
      rw [if_neg hl]
      refine ⟨hck.1, hck.2, ?_, ?_, ?_⟩
      · show lenR (pushR c.faults) = _
        rw [push_len hr h7, h.len, List.length_append]; simp; omega
      · show inRing (pushX n c.faults f.w) (lenR (pushR c.faults)).toNat (pushR c.faults) = _
        rw [push_len hr h7, push_in (cm_inv h.cm).1 hr h7, h.lie, List.map_append, List.append_assoc]; rfl
      · intro g hg
        rw [List.mem_append] at hg
        rcases hg with hg | hg
        · exact h.ok g hg
        · rw [List.mem_singleton] at hg; rw [hg]; exact hf
/-- popping: so many are gone. -/
structure PopI (n : List Int) (L : List Int) (k : Nat) (r : Ring) : Prop where
  rg : ringR r
  len : lenR r = (L.length : Int) - k
  lie : inRing n (L.length - k) r = L.drop k
theorem PopI.start {m : List Int} {b : Brg} {n : List Int} {c : Brg} {want : List Flt} (h : TellI m b n c want) : PopI n (inRing m (lenR b.faults).toNat b.faults ++ want.map Flt.w) 0 c.faults := by
  have hb := lenR_bd b.faults
  have hc := lenR_bd c.faults
  have e : (inRing m (lenR b.faults).toNat b.faults ++ want.map Flt.w).length = (lenR c.faults).toNat := by
    rw [List.length_append, inRing_len, List.length_map, h.len]; omega
  refine ⟨((ckB_iff c).1 h.ck).2.2.2, by rw [e]; omega, ?_⟩
  rw [e, Nat.sub_zero, List.drop_zero]; exact h.lie
theorem PopI.pop {n : List Int} {L : List Int} {k : Nat} {r : Ring} (h : PopI n L k r) (hn : cm n = 0) (hk : k < L.length) : popE n r = 0 ∧ L[k]? = some (popV n r) ∧ PopI n L (k + 1) (popR r) := by
  have hl := h.len
  have h0 : lenR r ≠ 0 := by omega
  have hi := h.lie
  rw [show L.length - k = (L.length - (k + 1)) + 1 by omega] at hi
  simp only [inRing] at hi
  refine ⟨popE_0 (bothE_0 hn h.rg) h0, ?_, pop_ring h.rg, by rw [pop_len h.rg h0, hl]; omega, ?_⟩
  · have : (L.drop k)[0]? = some (popV n r) := by rw [← hi]; rfl
    rw [List.getElem?_drop] at this; simpa using this
  · have := congrArg List.tail hi
    rw [List.tail_drop] at this
    exact this
theorem PopI.done {n : List Int} {L : List Int} {r : Ring} (h : PopI n L L.length r) : lenR r = 0 := by rw [h.len]; omega
/-- what is popped behind what was there is what was told. -/
theorem popped_flt {m : List Int} {b : Brg} {want : List Flt} {k : Nat} {v : Int} (hk : (lenR b.faults).toNat ≤ k) (hv : (inRing m (lenR b.faults).toNat b.faults ++ want.map Flt.w)[k]? = some v) : ∃ f, want[k - (lenR b.faults).toNat]? = some f ∧ v = f.w := by
  rw [List.getElem?_append_right (by rw [inRing_len]; exact hk), inRing_len, List.getElem?_map] at hv
  cases e : want[k - (lenR b.faults).toNat]? with
  | none => rw [e] at hv; cases hv
  | some f => rw [e] at hv; injection hv with hv; exact ⟨f, rfl, hv.symm⟩
end Go.Proofs.Ytbopdijnojaaiac
