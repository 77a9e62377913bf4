/- The machine: what chapter 11's functions compute, and the plain laws on it. No program in sight, no statement of the seat is proved here. -/
import Derived.Test.YtbopdijnojaaiacWord
import Derived.Test.YtbopdijnojaaiacBase
import Derived.Test.YtbopdijnojaaiacHartP
namespace Go.Proofs.Ytbopdijnojaaiac
open Go.RowKit
set_option linter.unusedSimpArgs false
set_option linter.unusedVariables false

section
structure Tch where
  dev : Int
  seen : Int
  at_ : Int
  wr : Bool
  value : Int
def Tch.vals (x : Tch) : List Value := [.int .i64 x.dev, .int .i64 x.seen, .int .i64 x.at_, .bool x.wr, .int .i64 x.value]
theorem Tch.ext' {x y : Tch} (h1 : x.dev = y.dev) (h2 : x.seen = y.seen) (h3 : x.at_ = y.at_) (h4 : x.wr = y.wr) (h5 : x.value = y.value) : x = y := by
  cases x; cases y; simp only [] at *; subst h1; subst h2; subst h3; subst h4; subst h5; rfl
instance : DecidableEq Tch := fun x y =>
  if h : x.dev = y.dev ∧ x.seen = y.seen ∧ x.at_ = y.at_ ∧ x.wr = y.wr ∧ x.value = y.value then isTrue (Tch.ext' h.1 h.2.1 h.2.2.1 h.2.2.2.1 h.2.2.2.2) else isFalse (fun e => h (by subst e; exact ⟨rfl, rfl, rfl, rfl, rfl⟩))
structure Tld where
  done : Bool
  data : List Int
  fault : Int
  touched : List Tch
def Tld.no : Tld := ⟨false, [], 0, []⟩
theorem Tld.ext' {x y : Tld} (h1 : x.done = y.done) (h2 : x.data = y.data) (h3 : x.fault = y.fault) (h4 : x.touched = y.touched) : x = y := by
  cases x; cases y; simp only [] at *; subst h1; subst h2; subst h3; subst h4; rfl
instance : DecidableEq Tld := fun x y =>
  if h : x.done = y.done ∧ x.data = y.data ∧ x.fault = y.fault ∧ x.touched = y.touched then isTrue (Tld.ext' h.1 h.2.1 h.2.2.1 h.2.2.2) else isFalse (fun e => h (by subst e; exact ⟨rfl, rfl, rfl, rfl⟩))
def sameT (a b : Tld) : Bool := decide (a = b)
structure Ask where
  dev : Int
  at_ : Int
  count : Int
  wr : Bool
  data : List Int

/-- chapter 8's Check. -/
def reqR (a : Ask) : Prop := (0 ≤ a.dev ∧ a.dev < 8) ∧ 0 ≤ a.at_ ∧ a.at_ ≤ 512 - a.count
instance (a : Ask) : Decidable (reqR a) := by unfold reqR; exact inferInstance
def reqN (a : Ask) : Int := if a.wr then a.count else 0
def reqE (a : Ask) : Int := if 1 ≤ a.count ∧ a.count ≤ 20 then (if reqR a then (if (a.data.length : Int) = reqN a then (if a.data.all inWord then 0 else 2) else 3) else 4) else 1
theorem reqE_many {a : Ask} (h : ¬ (1 ≤ a.count ∧ a.count ≤ 20)) : reqE a = 1 := by unfold reqE; rw [if_neg h]
theorem reqE_who {a : Ask} (h : 1 ≤ a.count ∧ a.count ≤ 20) (h2 : ¬ reqR a) : reqE a = 4 := by unfold reqE; rw [if_pos h, if_neg h2]
theorem reqE_form {a : Ask} (h : 1 ≤ a.count ∧ a.count ≤ 20) (h2 : reqR a) (h3 : ¬ (a.data.length : Int) = reqN a) : reqE a = 3 := by unfold reqE; rw [if_pos h, if_pos h2, if_neg h3]
theorem reqE_ok {a : Ask} (h : 1 ≤ a.count ∧ a.count ≤ 20) (h2 : reqR a) (h3 : (a.data.length : Int) = reqN a) (h4 : a.data.all inWord = true) : reqE a = 0 := by
  unfold reqE; rw [if_pos h, if_pos h2, if_pos h3, h4]; rfl
theorem reqE_inv {a : Ask} (h : reqE a = 0) : (1 ≤ a.count ∧ a.count ≤ 20) ∧ reqR a ∧ (a.data.length : Int) = reqN a ∧ ∀ (k : Nat) (x : Int), a.data[k]? = some x → 0 ≤ x ∧ x ≤ 65535 := by
  unfold reqE at h
  split at h
  · rename_i h1
    split at h
    · rename_i h2
      split at h
      · rename_i h3
        split at h
        · rename_i h4
          exact ⟨h1, h2, h3, fun k x hx => by simpa [inWord] using List.all_eq_true.1 h4 x (List.mem_of_getElem? hx)⟩
        · cases h
      · cases h
    · cases h
  · cases h
def dmaE (xs : List Int) (b : Brg) (a : Ask) : Int := if cm xs = 0 then (if ckB b = 0 then reqE a else ckB b) else cm xs
theorem dmaE_inv {xs : List Int} {b : Brg} {a : Ask} (h : dmaE xs b a = 0) : cm xs = 0 ∧ ckB b = 0 ∧ reqE a = 0 := by
  unfold dmaE at h
  split at h
  · rename_i h1
    split at h
    · rename_i h2; exact ⟨h1, h2, h⟩
    · rename_i h2; exact absurd h h2
  · rename_i h1; exact absurd h h1

/-- where an ask stands. -/
structure Dst where
  xs : List Int
  b : Brg
  data : List Int
  touched : List Tch
  at_ : Int
  page : Int
def dAt (a : Ask) (i : Nat) (s : Dst) : Int := s.at_ * 8 + (a.at_ + i) % 8
def dPut (a : Ask) (i : Nat) (s : Dst) : List Int := if a.wr then s.xs.set (dAt a i s).toNat (rd a.data i) else s.xs
def dTch (a : Ask) (i : Nat) (s : Dst) : Tch := ⟨a.dev, a.at_ + i, dAt a i s, a.wr, rd (dPut a i s) (dAt a i s)⟩
/-- a word is touched. -/
def dWord (a : Ask) (i : Nat) (s : Dst) : Dst := ⟨dPut a i s, s.b, if a.wr then s.data else s.data ++ [rd (dPut a i s) (dAt a i s)], s.touched ++ [dTch a i s], s.at_, s.page⟩
def dPage (a : Ask) (i : Nat) : Int := (a.at_ + i) / 8
def dThru (a : Ask) (i : Nat) (s : Dst) : Brg × Int × Int := thruM s.xs s.b a.dev (dPage a i) a.wr
def dNext (a : Ask) (i : Nat) (s : Dst) : Dst := ⟨s.xs, (dThru a i s).1, s.data, s.touched, (dThru a i s).2.1, dPage a i⟩
def dFlt (a : Ask) (i : Nat) (s : Dst) : Flt := ⟨(dThru a i s).2.2, a.dev, dPage a i, a.wr⟩
def dStop (a : Ask) (i : Nat) (s : Dst) : List Int × Brg × Tld :=
  ((tellM s.xs (dThru a i s).1 (dFlt a i s).w).1, (tellM s.xs (dThru a i s).1 (dFlt a i s).w).2, ⟨false, s.data, (dThru a i s).2.2, s.touched⟩)
/-- n words more, from the i-th one on. -/
def dGo (a : Ask) : Nat → Nat → Dst → List Int × Brg × Tld
  | 0, _, s => (s.xs, s.b, ⟨true, s.data, 0, s.touched⟩)
  | n + 1, i, s =>
    if dPage a i = s.page then dGo a n (i + 1) (dWord a i s)
    else if (dThru a i s).2.2 = 0 then dGo a n (i + 1) (dWord a i (dNext a i s))
    else dStop a i s
def dmaM (xs : List Int) (b : Brg) (a : Ask) : List Int × Brg × Tld := dGo a a.count.toNat 0 ⟨xs, b, [], [], 0, -1⟩
def dmaA (xs : List Int) (b : Brg) (a : Ask) : List Int × Brg × Tld := if dmaE xs b a = 0 then dmaM xs b a else ([], .no, .no)

theorem rng4 {x y : Int} (h : 0 ≤ x ∧ x ≤ 63) (h' : 0 ≤ y ∧ y ≤ 5) : (0 ≤ x ∧ x ≤ 63) ∧ (0 ≤ y ∧ y ≤ 5) := ⟨h, h'⟩
/-- where Through leads. -/
theorem thru_rng {xs : List Int} {b : Brg} {d p : Int} {wr : Bool} (hb : ckB b = 0) (hd : inD d p) : (0 ≤ (thruM xs b d p wr).2.1 ∧ (thruM xs b d p wr).2.1 ≤ 63) ∧ (0 ≤ (thruM xs b d p wr).2.2 ∧ (thruM xs b d p wr).2.2 ≤ 5) := by
  have hp := hd
  unfold inD at hp
  unfold thruM
  split
  · (refine rng4 ?_ ?_ <;> (simp only []; decide))
  · split
    · exact ⟨⟨hp.2.1, by simp only []; omega⟩, by simp⟩
    · split
      · rename_i x hx
        have hl := (lineE_inv (((ckC_iff _).1 ((ckB_iff b).1 hb).2.1).2.2 x (List.mem_of_find?_eq_some hx))).1
        unfold lineR at hl
        split
        · (refine rng4 ?_ ?_ <;> (simp only []; decide))
        · exact ⟨⟨hl.2.2.1, by simp only []; omega⟩, by simp⟩
      · simp only []
        unfold freshM
        dsimp only
        split
        · split
          · exact ⟨⟨hp.2.1, by simp only []; omega⟩, by simp⟩
          · split
            · rename_i h0
              obtain ⟨e, h4, _, _⟩ := walkM_yes h0
              have := leafM_ok xs (cxR (rd xs (b.base * 8 + d))) p
              rw [e]
              unfold LeafOk at this
              rcases this with ⟨_, _, _, h5, h6⟩ | ⟨_, h5⟩
              · exact ⟨⟨h5, h6⟩, by simp⟩
              · omega
            · rename_i h0
              obtain ⟨_, h4⟩ := walkM_no h0
              (refine rng4 ?_ ?_ <;> simp only [] <;> first | decide | omega)
        · (refine rng4 ?_ ?_ <;> (simp only []; decide))
/-- how it stands is right. -/
structure DOk (a : Ask) (i : Nat) (s : Dst) : Prop where
  km : cm s.xs = 0
  kb : ckB s.b = 0
  kp : s.page ≠ -1 → 0 ≤ s.at_ ∧ s.at_ ≤ 63
section
variable {a : Ask} {i : Nat} {s : Dst}
theorem d_in (ha : reqE a = 0) (hi : (i : Int) < a.count) : inD a.dev (dPage a i) ∧ 0 ≤ dPage a i := by
  obtain ⟨h1, h2, _, _⟩ := reqE_inv ha
  unfold reqR at h2
  unfold inD dPage
  omega
theorem d_at (ha : reqE a = 0) (hi : (i : Int) < a.count) (h : 0 ≤ s.at_ ∧ s.at_ ≤ 63) : 0 ≤ dAt a i s ∧ dAt a i s < 512 := by
  obtain ⟨h1, h2, _, _⟩ := reqE_inv ha
  unfold reqR at h2
  unfold dAt
  omega
theorem d_data (ha : reqE a = 0) (hi : (i : Int) < a.count) : 0 ≤ rd a.data i ∧ rd a.data i ≤ 65535 := by
  obtain ⟨_, _, _, h4⟩ := reqE_inv ha
  unfold rd
  cases e : a.data[(i : Int).toNat]?
  · simp
  · exact h4 _ _ e
theorem d_put (ha : reqE a = 0) (hi : (i : Int) < a.count) (h : cm s.xs = 0) : cm (dPut a i s) = 0 := by
  unfold dPut
  split
  · exact cm_set h (d_data ha hi)
  · exact h
theorem DOk.word (ha : reqE a = 0) (hi : (i : Int) < a.count) (h : DOk a i s) : DOk a (i + 1) (dWord a i s) := ⟨d_put ha hi h.km, h.kb, h.kp⟩
theorem DOk.next (ha : reqE a = 0) (hi : (i : Int) < a.count) (h : DOk a i s) : DOk a i (dNext a i s) :=
  ⟨h.km, thru_ck (by unfold thruE; rw [if_pos (allE_0 h.km h.kb), if_pos (d_in ha hi).1]), fun _ => (thru_rng h.kb (d_in ha hi).1).1⟩
theorem d_flt (ha : reqE a = 0) (hi : (i : Int) < a.count) (h : DOk a i s) (hf : (dThru a i s).2.2 ≠ 0) : (dFlt a i s).e = 0 := by
  have h1 := (thru_rng (xs := s.xs) (wr := a.wr) h.kb (d_in ha hi).1).2
  have h2 := (d_in ha hi).1
  unfold inD at h2
  refine fltE_0 ?_
  unfold FltR dFlt
  unfold dThru at hf ⊢
  simp only []
  omega
theorem d_stop (ha : reqE a = 0) (hi : (i : Int) < a.count) (h : DOk a i s) (hf : (dThru a i s).2.2 ≠ 0) : cm (dStop a i s).1 = 0 ∧ ckB (dStop a i s).2.1 = 0 := by
  have hv := flt_rng (d_flt ha hi h hf)
  exact tell_ck h.km (h.next ha hi).kb (by omega)
end
theorem dma_start {xs : List Int} {b : Brg} {a : Ask} (h1 : cm xs = 0) (h2 : ckB b = 0) : DOk a 0 ⟨xs, b, [], [], 0, -1⟩ := ⟨h1, h2, fun h => absurd rfl h⟩
end

section
structure Mch where
  m : List Int
  h : Hrt
  b : Brg
def Mch.no : Mch := ⟨[], .no, .no⟩
theorem Mch.ext' {x y : Mch} (h1 : x.m = y.m) (h2 : x.h = y.h) (h3 : x.b = y.b) : x = y := by
  cases x; cases y; simp only [] at *; subst h1; subst h2; subst h3; rfl
instance : DecidableEq Mch := fun x y =>
  if h : x.m = y.m ∧ x.h = y.h ∧ x.b = y.b then isTrue (Mch.ext' h.1 h.2.1 h.2.2) else isFalse (fun e => h (by subst e; exact ⟨rfl, rfl, rfl⟩))
structure Hap where
  kind : Int
  n : Int
  a : Ask

end
end Go.Proofs.Ytbopdijnojaaiac
