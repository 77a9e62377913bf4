/- The bridge: what chapter 7's functions compute, and the plain laws on it. No program in sight, no statement of the seat is proved here. -/
import Derived.Test.YtbopdijnojaaiabCacheP
import Derived.Test.YtbopdijnojaaiabRingP
namespace Go.Proofs.Ytbopdijnojaaiab
open Go.RowKit
set_option linter.unusedSimpArgs false
set_option linter.unusedVariables false

instance : DecidableEq Ring := fun x y =>
  if h : x.page = y.page ∧ x.head = y.head ∧ x.tail = y.tail then isTrue (Ring.ext' h.1 h.2.1 h.2.2) else isFalse (fun e => h (by subst e; exact ⟨rfl, rfl, rfl⟩))
structure Brg where
  mode : Int
  base : Int
  cache : List Line
  orders : Ring
  stopped : Bool
  fences : Int
  faults : Ring
  lost : Bool
def Brg.no : Brg := ⟨0, 0, [], .no, false, 0, .no, false⟩
theorem Brg.ext' {x y : Brg} (h1 : x.mode = y.mode) (h2 : x.base = y.base) (h3 : x.cache = y.cache) (h4 : x.orders = y.orders) (h5 : x.stopped = y.stopped) (h6 : x.fences = y.fences) (h7 : x.faults = y.faults) (h8 : x.lost = y.lost) : x = y := by
  cases x; cases y; simp only [] at *; subst h1; subst h2; subst h3; subst h4; subst h5; subst h6; subst h7; subst h8; rfl
instance : DecidableEq Brg := fun x y =>
  if h : x.mode = y.mode ∧ x.base = y.base ∧ x.cache = y.cache ∧ x.orders = y.orders ∧ x.stopped = y.stopped ∧ x.fences = y.fences ∧ x.faults = y.faults ∧ x.lost = y.lost then
    isTrue (Brg.ext' h.1 h.2.1 h.2.2.1 h.2.2.2.1 h.2.2.2.2.1 h.2.2.2.2.2.1 h.2.2.2.2.2.2.1 h.2.2.2.2.2.2.2)
  else isFalse (fun e => h (by subst e; exact ⟨rfl, rfl, rfl, rfl, rfl, rfl, rfl, rfl⟩))
def sameB (a b : Brg) : Bool := decide (a = b)

/-- a line that is none. -/
def Line.no : Line := ⟨0, 0, 0, false, false⟩
def brgR (b : Brg) : Prop := (0 ≤ b.mode ∧ b.mode ≤ 2) ∧ (0 ≤ b.base ∧ b.base < 64) ∧ (0 ≤ b.fences ∧ b.fences < 1000)
instance (b : Brg) : Decidable (brgR b) := by unfold brgR; exact inferInstance
/-- chapter 7's Check. -/
def ckB (b : Brg) : Int := if brgR b then (if ckC b.cache = 0 then (if ringR b.orders then ckR b.faults else 2) else ckC b.cache) else 2
theorem ckB_iff (b : Brg) : ckB b = 0 ↔ brgR b ∧ ckC b.cache = 0 ∧ ringR b.orders ∧ ringR b.faults := by
  unfold ckB
  by_cases h1 : brgR b
  · rw [if_pos h1]
    by_cases h2 : ckC b.cache = 0
    · rw [if_pos h2]
      by_cases h3 : ringR b.orders
      · rw [if_pos h3]; exact ⟨fun h => ⟨h1, h2, h3, ckR_inv h⟩, fun h => ckR_0 h.2.2.2⟩
      · rw [if_neg h3]; exact ⟨(fun h => absurd h (by decide)), fun h => absurd h.2.2.1 h3⟩
    · rw [if_neg h2]; exact ⟨fun h => absurd h h2, fun h => absurd h.2.1 h2⟩
  · rw [if_neg h1]; exact ⟨(fun h => absurd h (by decide)), fun h => absurd h.1 h1⟩
def allE (xs : List Int) (b : Brg) : Int := if cm xs = 0 then ckB b else cm xs
theorem allE_inv {xs : List Int} {b : Brg} (h : allE xs b = 0) : cm xs = 0 ∧ ckB b = 0 := by
  unfold allE at h; split at h
  · rename_i h0; exact ⟨h0, h⟩
  · rename_i h0; exact absurd h h0

/-- where a page of a device is, by memory alone; whether that is to be remembered; a fault. -/
def freshM (xs : List Int) (b : Brg) (d p : Int) (wr : Bool) : Line × Bool × Int :=
  let c := rd xs (b.base * 8 + d)
  if cxG c then
    (if bitI c 1 then (⟨d, p, p, true, true⟩, false, 0)
     else (if (walkM xs (cxR c) p wr).2 = 0 then (⟨d, p, (walkM xs (cxR c) p wr).1.p, true, (walkM xs (cxR c) p wr).1.u⟩, true, 0) else (.no, false, (walkM xs (cxR c) p wr).2)))
  else (.no, false, 2)
/-- where a page of a device is, by the cache first; a fault. -/
def thruM (xs : List Int) (b : Brg) (d p : Int) (wr : Bool) : Brg × Int × Int :=
  if b.mode = 0 then (b, 0, 1) else if b.mode = 1 then (b, p, 0) else
  match b.cache.find? (hitL d p) with
  | some x => if wr && !x.wr then (b, 0, 5) else (b, x.at_, 0)
  | none => ((if (freshM xs b d p wr).2.1 then { b with cache := fillL b.cache (freshM xs b d p wr).1 } else b), (freshM xs b d p wr).1.at_, (freshM xs b d p wr).2.2)
def inD (d p : Int) : Prop := (0 ≤ d ∧ d < 8) ∧ (0 ≤ p ∧ p < 64)
instance (d p : Int) : Decidable (inD d p) := by unfold inD; exact inferInstance
def thruE (xs : List Int) (b : Brg) (d p : Int) : Int := if allE xs b = 0 then (if inD d p then 0 else 4) else allE xs b
/-- chapter 7's Through. -/
def thruA (xs : List Int) (b : Brg) (d p : Int) (wr : Bool) : Brg × Int × Int := if thruE xs b d p = 0 then thruM xs b d p wr else (.no, 0, 0)
theorem thruE_inv {xs : List Int} {b : Brg} {d p : Int} (h : thruE xs b d p = 0) : cm xs = 0 ∧ ckB b = 0 ∧ inD d p := by
  unfold thruE at h; split at h
  · rename_i h0; split at h
    · rename_i h1; exact ⟨(allE_inv h0).1, (allE_inv h0).2, h1⟩
    · cases h
  · rename_i h0; exact absurd h h0
theorem cxR_bd (x : Int) : 0 ≤ cxR x ∧ cxR x ≤ 63 := by unfold cxR; split <;> omega
/-- what is to be remembered may be. -/
theorem fresh_line {xs : List Int} {b : Brg} {d p : Int} {wr : Bool} (hd : inD d p) (h : (freshM xs b d p wr).2.1 = true) :
    lineE (freshM xs b d p wr).1 = 0 ∧ (freshM xs b d p wr).1.dev = d ∧ (freshM xs b d p wr).1.page = p ∧ (freshM xs b d p wr).2.2 = 0 := by
  unfold freshM at h ⊢
  dsimp only at h ⊢
  split at h
  · rename_i h1
    rw [if_pos h1]
    split at h
    · cases h
    · rename_i h2
      rw [if_neg h2]
      split at h
      · rename_i h3
        rw [if_pos h3]
        refine ⟨lineE_0 ?_ rfl, rfl, rfl, rfl⟩
        obtain ⟨e, h4, _, _⟩ := walkM_yes h3
        have := leafM_ok xs (cxR (rd xs (b.base * 8 + d))) p
        rw [e]
        unfold LeafOk at this; unfold inD at hd; unfold lineR
        simp only []
        rcases this with ⟨_, _, _, h5⟩ | ⟨_, h5⟩
        · omega
        · omega
      · cases h
  · cases h
theorem find_find {ls : List Line} {d p : Int} (h : ls.find? (hitL d p) = none) : findL ls d p = -1 :=
  findL_none (fun x hx => by simpa using List.find?_eq_none.1 h x hx)
theorem find_some {ls : List Line} {d p : Int} {x : Line} (h : ls.find? (hitL d p) = some x) : ∃ k : Nat, findL ls d p = (k : Int) ∧ ls[k]? = some x := by
  rcases findL_cases ls d p with ⟨_, h1⟩ | ⟨k, y, e, hy, hh, hn⟩
  · have := List.find?_some h
    rw [h1 x (List.mem_of_find?_eq_some h)] at this; cases this
  · refine ⟨k, e, ?_⟩
    rw [hy]
    obtain ⟨h2, k', h3, h4, h5⟩ := List.find?_eq_some_iff_getElem.1 h
    have hk : k < ls.length := (List.getElem?_eq_some_iff.1 hy).1
    have e1 : ls[k] = y := (List.getElem?_eq_some_iff.1 hy).2
    have : k = k' := by
      rcases Nat.lt_trichotomy k k' with hlt | rfl | hgt
      · have := h5 k hlt; rw [e1, hh] at this; cases this
      · rfl
      · have := hn (ls[k']'(by omega)) (by rw [List.mem_take_iff_getElem]; exact ⟨k', by omega, rfl⟩)
        rw [h4, h2] at this; cases this
    subst this
    rw [← e1, h4]
theorem thru_ck {xs : List Int} {b : Brg} {d p : Int} {wr : Bool} (h : thruE xs b d p = 0) : ckB (thruM xs b d p wr).1 = 0 := by
  obtain ⟨h1, h2, h3⟩ := thruE_inv h
  unfold thruM
  split
  · exact h2
  · split
    · exact h2
    · split
      · split <;> exact h2
      · rename_i hf
        dsimp only
        split
        · rename_i hk
          obtain ⟨a1, a2, a3, _⟩ := fresh_line h3 hk
          rw [ckB_iff] at h2 ⊢
          refine ⟨h2.1, fill_ck (fillE_0 h2.2.1 a1 ?_), h2.2.2⟩
          rw [a2, a3, find_find hf]; decide
        · exact h2
end Go.Proofs.Ytbopdijnojaaiab
