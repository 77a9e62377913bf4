/- The machine: what chapter 11's functions compute, and the plain laws on it. No program in sight, no statement of the seat is proved here. -/
import Derived.Test.YtbopdijnojaaiabWord
import Derived.Test.YtbopdijnojaaiabBase
import Derived.Test.YtbopdijnojaaiabHartP
namespace Go.Proofs.Ytbopdijnojaaiab
open Go.RowKit
set_option linter.unusedSimpArgs false
set_option linter.unusedVariables false

section
structure Tch where
  dev : Int
  seen : Int
  at_ : Int
  wr : Bool
  value : Int
def Tch.vals (x : Tch) : List Value := [.int .i64 x.dev, .int .i64 x.seen, .int .i64 x.at_, .bool x.wr, .int .i64 x.value]
theorem Tch.ext' {x y : Tch} (h1 : x.dev = y.dev) (h2 : x.seen = y.seen) (h3 : x.at_ = y.at_) (h4 : x.wr = y.wr) (h5 : x.value = y.value) : x = y := by
  cases x; cases y; simp only [] at *; subst h1; subst h2; subst h3; subst h4; subst h5; rfl
instance : DecidableEq Tch := fun x y =>
  if h : x.dev = y.dev ∧ x.seen = y.seen ∧ x.at_ = y.at_ ∧ x.wr = y.wr ∧ x.value = y.value then isTrue (Tch.ext' h.1 h.2.1 h.2.2.1 h.2.2.2.1 h.2.2.2.2) else isFalse (fun e => h (by subst e; exact ⟨rfl, rfl, rfl, rfl, rfl⟩))
structure Tld where
  done : Bool
  data : List Int
  fault : Int
  touched : List Tch
def Tld.no : Tld := ⟨false, [], 0, []⟩
theorem Tld.ext' {x y : Tld} (h1 : x.done = y.done) (h2 : x.data = y.data) (h3 : x.fault = y.fault) (h4 : x.touched = y.touched) : x = y := by
  cases x; cases y; simp only [] at *; subst h1; subst h2; subst h3; subst h4; rfl
instance : DecidableEq Tld := fun x y =>
  if h : x.done = y.done ∧ x.data = y.data ∧ x.fault = y.fault ∧ x.touched = y.touched then isTrue (Tld.ext' h.1 h.2.1 h.2.2.1 h.2.2.2) else isFalse (fun e => h (by subst e; exact ⟨rfl, rfl, rfl, rfl⟩))
structure Ask where
  dev : Int
  at_ : Int
  count : Int
  wr : Bool
  data : List Int

/-- chapter 8's Check. -/
def reqR (a : Ask) : Prop := (0 ≤ a.dev ∧ a.dev < 8) ∧ 0 ≤ a.at_ ∧ a.at_ ≤ 512 - a.count
instance (a : Ask) : Decidable (reqR a) := by unfold reqR; exact inferInstance
def reqN (a : Ask) : Int := if a.wr then a.count else 0
def reqE (a : Ask) : Int := if 1 ≤ a.count ∧ a.count ≤ 20 then (if reqR a then (if (a.data.length : Int) = reqN a then (if a.data.all inWord then 0 else 2) else 3) else 4) else 1
theorem reqE_inv {a : Ask} (h : reqE a = 0) : (1 ≤ a.count ∧ a.count ≤ 20) ∧ reqR a ∧ (a.data.length : Int) = reqN a ∧ ∀ (k : Nat) (x : Int), a.data[k]? = some x → 0 ≤ x ∧ x ≤ 65535 := by
  unfold reqE at h
  split at h
  · rename_i h1
    split at h
    · rename_i h2
      split at h
      · rename_i h3
        split at h
        · rename_i h4
          exact ⟨h1, h2, h3, fun k x hx => by simpa [inWord] using List.all_eq_true.1 h4 x (List.mem_of_getElem? hx)⟩
        · cases h
      · cases h
    · cases h
  · cases h
/-- where an ask stands. -/
structure Dst where
  xs : List Int
  b : Brg
  data : List Int
  touched : List Tch
  at_ : Int
  page : Int
def dAt (a : Ask) (i : Nat) (s : Dst) : Int := s.at_ * 8 + (a.at_ + i) % 8
def dPut (a : Ask) (i : Nat) (s : Dst) : List Int := if a.wr then s.xs.set (dAt a i s).toNat (rd a.data i) else s.xs
def dTch (a : Ask) (i : Nat) (s : Dst) : Tch := ⟨a.dev, a.at_ + i, dAt a i s, a.wr, rd (dPut a i s) (dAt a i s)⟩
/-- a word is touched. -/
def dWord (a : Ask) (i : Nat) (s : Dst) : Dst := ⟨dPut a i s, s.b, if a.wr then s.data else s.data ++ [rd (dPut a i s) (dAt a i s)], s.touched ++ [dTch a i s], s.at_, s.page⟩
/-- how it stands is right. -/
structure DOk (a : Ask) (i : Nat) (s : Dst) : Prop where
  km : cm s.xs = 0
  kb : ckB s.b = 0
  kp : s.page ≠ -1 → 0 ≤ s.at_ ∧ s.at_ ≤ 63
section
variable {a : Ask} {i : Nat} {s : Dst}
theorem d_data (ha : reqE a = 0) (hi : (i : Int) < a.count) : 0 ≤ rd a.data i ∧ rd a.data i ≤ 65535 := by
  obtain ⟨_, _, _, h4⟩ := reqE_inv ha
  unfold rd
  cases e : a.data[(i : Int).toNat]?
  · simp
  · exact h4 _ _ e
theorem d_put (ha : reqE a = 0) (hi : (i : Int) < a.count) (h : cm s.xs = 0) : cm (dPut a i s) = 0 := by
  unfold dPut
  split
  · exact cm_set h (d_data ha hi)
  · exact h
theorem DOk.word (ha : reqE a = 0) (hi : (i : Int) < a.count) (h : DOk a i s) : DOk a (i + 1) (dWord a i s) := ⟨d_put ha hi h.km, h.kb, h.kp⟩
end
end

section
structure Mch where
  m : List Int
  h : Hrt
  b : Brg
def Mch.no : Mch := ⟨[], .no, .no⟩
theorem Mch.ext' {x y : Mch} (h1 : x.m = y.m) (h2 : x.h = y.h) (h3 : x.b = y.b) : x = y := by
  cases x; cases y; simp only [] at *; subst h1; subst h2; subst h3; rfl
instance : DecidableEq Mch := fun x y =>
  if h : x.m = y.m ∧ x.h = y.h ∧ x.b = y.b then isTrue (Mch.ext' h.1 h.2.1 h.2.2) else isFalse (fun e => h (by subst e; exact ⟨rfl, rfl, rfl⟩))
structure Hap where
  kind : Int
  n : Int
  a : Ask

end
end Go.Proofs.Ytbopdijnojaaiab
