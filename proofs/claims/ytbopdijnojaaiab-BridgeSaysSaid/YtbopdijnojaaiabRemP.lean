/- The bridge: plain laws on who was let through. No program in sight, no statement of the seat is proved here. -/
import Derived.Test.YtbopdijnojaaiabBridgeP
namespace Go.Proofs.Ytbopdijnojaaiab
open Go.RowKit
set_option linter.unusedSimpArgs false
set_option linter.unusedVariables false

theorem find_none' {ls : List Line} {d p : Int} (h : findL ls d p < 0) : ls.find? (hitL d p) = none := List.find?_eq_none.2 (fun x hx => by simp [find_neg h x hx])
theorem find_last {ls : List Line} {x : Line} {k : Nat} (h : ls.find? (hitL x.dev x.page) = none) : (ls.drop k ++ [x]).find? (hitL x.dev x.page) = some x := by
  rw [List.find?_append]
  have : (ls.drop k).find? (hitL x.dev x.page) = none := List.find?_eq_none.2 (fun y hy => List.find?_eq_none.1 h y (List.mem_of_mem_drop hy))
  rw [this]
  simp [hitL]
/-- but for what is remembered the bridge is as it was. -/
theorem thru_but (xs : List Int) (b : Brg) (d p : Int) (wr : Bool) : (thruM xs b d p wr).1 = { b with cache := (thruM xs b d p wr).1.cache } := by
  unfold thruM
  split
  · rfl
  · split
    · rfl
    · split
      · split <;> rfl
      · dsimp only; split <;> rfl
theorem rem_same {xs : List Int} {b : Brg} {d p : Int} {wr : Bool} (hin : inD d p) (h : (thruM xs b d p wr).2.2 ≠ 0) : (thruM xs b d p wr).1 = b := by
  unfold thruM at h ⊢
  split at h
  · rename_i h0; rw [if_pos h0]
  · rename_i h0; rw [if_neg h0]
    split at h
    · exact absurd rfl h
    · rename_i h1; rw [if_neg h1]
      split at h
      · split <;> rfl
      · dsimp only at h ⊢
        split
        · rename_i hk; exact absurd (fresh_line hin hk).2.2.2 h
        · rfl
theorem fresh_write {xs : List Int} {b : Brg} {d p : Int} {wr : Bool} (h : (freshM xs b d p wr).2.1 = true) (hw : wr = true) : (freshM xs b d p wr).1.wr = true := by
  unfold freshM at h ⊢
  dsimp only at h ⊢
  split at h
  · rename_i h1
    rw [if_pos h1]
    split at h
    · cases h
    · rename_i h2
      rw [if_neg h2]
      split at h
      · rename_i h3
        rw [if_pos h3]
        obtain ⟨e, _, _, h4⟩ := walkM_yes h3
        show (walkM xs (cxR (rd xs (b.base * 8 + d))) p wr).1.u = true
        rw [e]; exact h4 hw
      · cases h
  · cases h
theorem rem_again {xs ns : List Int} {b : Brg} {d p : Int} {wr : Bool} (hc : ckC b.cache = 0) (hin : inD d p) (hm : b.mode = 2) (hf : 0 ≤ findL (thruM xs b d p wr).1.cache d p) (h0 : (thruM xs b d p wr).2.2 = 0) :
    thruM ns (thruM xs b d p wr).1 d p wr = ((thruM xs b d p wr).1, (thruM xs b d p wr).2.1, 0) := by
  cases hq : b.cache.find? (hitL d p) with
  | some x =>
    have e : thruM xs b d p wr = if wr && !x.wr then (b, 0, 5) else (b, x.at_, 0) := by unfold thruM; rw [if_neg (by omega), if_neg (by omega), hq]
    have e' : thruM ns b d p wr = if wr && !x.wr then (b, 0, 5) else (b, x.at_, 0) := by unfold thruM; rw [if_neg (by omega), if_neg (by omega), hq]
    rw [e] at h0 ⊢
    split at h0
    · exact absurd (show (5 : Int) = 0 from h0) (by decide)
    · rename_i hw
      rw [if_neg hw]
      show thruM ns b d p wr = _
      rw [e', if_neg hw]
  | none =>
    have e : thruM xs b d p wr = ((if (freshM xs b d p wr).2.1 then { b with cache := fillL b.cache (freshM xs b d p wr).1 } else b), (freshM xs b d p wr).1.at_, (freshM xs b d p wr).2.2) := by
      unfold thruM; rw [if_neg (by omega), if_neg (by omega), hq]
    rw [e] at hf h0 ⊢
    dsimp only at hf h0 ⊢
    cases hk : (freshM xs b d p wr).2.1 with
    | false =>
      rw [hk] at hf
      simp only [Bool.false_eq_true, if_false] at hf
      rw [find_find hq] at hf
      exact absurd hf (by decide)
    | true =>
      simp only [if_true]
      obtain ⟨q1, q2, q3, q4⟩ := fresh_line hin hk
      have q5 := fresh_write (xs := xs) (b := b) (d := d) (p := p) (wr := wr) hk
      generalize (freshM xs b d p wr).1 = x at *
      subst q2 q3
      have hE : fillE b.cache x = 0 := fillE_0 hc q1 (by rw [find_find hq]; decide)
      unfold thruM
      dsimp only
      rw [if_neg (by omega), if_neg (by omega), fillL_0 hE, find_last hq]
      dsimp only
      rw [if_neg]
      cases wr with
      | false => simp
      | true => simp [q5 rfl]
theorem fresh_but {xs : List Int} {b : Brg} {ls : List Line} {d p : Int} {wr : Bool} : freshM xs { b with cache := ls } d p wr = freshM xs b d p wr := rfl
theorem drop_gone {ls : List Line} {d p : Int} (h : ckC ls = 0) : (dropL ls 3 d p).find? (hitL d p) = none := by
  rw [dropL_0 (dropE_0 h (by decide))]
  refine List.find?_eq_none.2 (fun x hx => ?_)
  rw [List.mem_filter] at hx
  have := hx.2
  simp [goes] at this
  rw [Bool.not_eq_true, hitL_f]
  exact fun hh => this.elim (fun q => q hh.1) (fun q => q hh.2)
theorem rem_drop {ns : List Int} {b : Brg} {ls : List Line} {d p : Int} {wr : Bool} (h : ckC ls = 0) :
    (thruM ns { b with cache := dropL ls 3 d p } d p wr).2 = (thruM ns { b with cache := [] } d p wr).2 := by
  unfold thruM
  dsimp only
  split
  · rfl
  · split
    · rfl
    · rw [drop_gone h, List.find?_nil]
      rfl
end Go.Proofs.Ytbopdijnojaaiab
