/- Tables: what chapter 3's functions compute, and the plain laws on it. No program in sight, no statement of the seat is proved here. -/
import Derived.Test.YtbopdijnojaaiabEntry
import Derived.Test.YtbopdijnojaaiabMemP
namespace Go.Proofs.Ytbopdijnojaaiab
open Go.RowKit
set_option linter.unusedSimpArgs false
set_option linter.unusedVariables false

/-- a word of memory. -/
def rd (xs : List Int) (i : Int) : Int := xs[i.toNat]?.getD 0
theorem rd_at {xs : List Int} {i : Int} (hl : xs.length = 512) (hi : 0 ≤ i ∧ i < 512) : xs[i.toNat]? = some (rd xs i) := by
  unfold rd; rw [List.getElem?_eq_getElem (by omega)]; rfl
theorem rd_bd {xs : List Int} {i : Int} (h : cm xs = 0) (hi : 0 ≤ i ∧ i < 512) : 0 ≤ rd xs i ∧ rd xs i ≤ 65535 :=
  (cm_inv h).2 _ _ (rd_at (cm_inv h).1 hi)
theorem rd_mrV {xs : List Int} {i : Int} (h : cm xs = 0) (hi : 0 ≤ i ∧ i < 512) : mrV xs i = rd xs i := by
  unfold mrV rd; rw [mrE_0 h hi, if_pos rfl]
theorem rd_set {xs : List Int} {i j v : Int} (hi : 0 ≤ i) (hj : 0 ≤ j) (hn : i ≠ j) : rd (xs.set i.toNat v) j = rd xs j := by
  unfold rd; rw [set_ne hi hj hn]
theorem rd_self {xs : List Int} {i v : Int} (hl : xs.length = 512) (hi : 0 ≤ i ∧ i < 512) : rd (xs.set i.toNat v) i = v := by
  unfold rd; rw [set_get hl hi]; rfl

/-- an entry, told apart. -/
structure Ent where
  v : Bool
  r : Bool
  u : Bool
  l : Bool
  p : Int
def Ent.no : Ent := ⟨false, false, false, false, 0⟩
def Ent.val (e : Ent) : Value := .agg #[.bool e.v, .bool e.r, .bool e.u, .bool e.l, .int .i64 e.p]
/-- what a good word is as an entry. -/
def entAt (x : Int) : Ent := ⟨true, bitI x 1, bitI x 2, bitI x 3, enP x⟩
theorem enP_bd (x : Int) : 0 ≤ enP x ∧ enP x ≤ 63 := by unfold enP; split <;> omega
theorem enV_bad {x : Int} (h : enK x = false) : enV x = .tuple #[.agg #[.bool false, .bool false, .bool false, .bool false, .int .i64 0], .bool false] := by
  have hg : enG x = false := by
    cases h' : enG x with
    | false => rfl
    | true => rw [enG_K h'] at h; cases h
  simp [enV, enP, hg, h]
theorem enV_off {x : Int} (h : enK x = true) (hg : enG x = false) : enV x = .tuple #[.agg #[.bool false, .bool false, .bool false, .bool false, .int .i64 0], .bool true] := by simp [enV, enP, hg, h]
theorem enV_on {x : Int} (hg : enG x = true) : enV x = .tuple #[.agg #[.bool true, .bool (bitI x 1), .bool (bitI x 2), .bool (bitI x 3), .int .i64 (enP x)], .bool true] := by simp [enV, hg, enG_K hg]

/-- the second table. -/
def leaf2 (xs : List Int) (t page : Int) : Ent × Int :=
  let y := rd xs (t * 8 + page % 8)
  if enK y then (if enG y then (if bitI y 3 then (entAt y, 0) else (.no, 4)) else (.no, 3)) else (.no, 4)
/-- the leaf of a page, by tables; a fault. -/
def leafM (xs : List Int) (root page : Int) : Ent × Int :=
  let x := rd xs (root * 8 + page / 8)
  if enK x then (if enG x then (if bitI x 3 then (if enP x % 8 = 0 then ({ entAt x with p := enP x + page % 8 }, 0) else (.no, 4)) else leaf2 xs (enP x) page) else (.no, 3)) else (.no, 4)
def inP (root page : Int) : Prop := (0 ≤ root ∧ root < 64) ∧ (0 ≤ page ∧ page < 64)
instance (root page : Int) : Decidable (inP root page) := by unfold inP; exact inferInstance
/-- what is told of right memory, and a right root and page. -/
def walkM (xs : List Int) (root page : Int) (wr : Bool) : Ent × Int :=
  let q := leafM xs root page
  if q.2 = 0 then (if q.1.r && (!wr || q.1.u) then q else (.no, 5)) else (.no, q.2)
/-- chapter 3's Walk. -/
def walkA (xs : List Int) (root page : Int) (wr : Bool) : Ent × Int × Int :=
  if cm xs = 0 then (if inP root page then ((walkM xs root page wr).1, (walkM xs root page wr).2, 0) else (.no, 0, 4)) else (.no, 0, cm xs)

/-- what a leaf is known to be. -/
def LeafOk (q : Ent × Int) : Prop := (q.2 = 0 ∧ q.1.v = true ∧ q.1.l = true ∧ 0 ≤ q.1.p ∧ q.1.p ≤ 63) ∨ (q.1 = .no ∧ (q.2 = 3 ∨ q.2 = 4))
theorem leaf2_ok (xs : List Int) (t page : Int) : LeafOk (leaf2 xs t page) := by
  unfold leaf2 LeafOk
  have hp := enP_bd (rd xs (t * 8 + page % 8))
  dsimp only
  split
  · split
    · split
      · rename_i h1 h2 h3; left; exact ⟨rfl, rfl, h3, hp⟩
      · right; exact ⟨rfl, Or.inr rfl⟩
    · right; exact ⟨rfl, Or.inl rfl⟩
  · right; exact ⟨rfl, Or.inr rfl⟩
theorem leafM_ok (xs : List Int) (root page : Int) : LeafOk (leafM xs root page) := by
  unfold leafM
  have hp := enP_bd (rd xs (root * 8 + page / 8))
  dsimp only
  split
  · split
    · split
      · split
        · rename_i h1 h2 h3 h4; left; exact ⟨rfl, rfl, h3, by simp only []; omega, by simp only []; omega⟩
        · right; exact ⟨rfl, Or.inr rfl⟩
      · exact leaf2_ok _ _ _
    · right; exact ⟨rfl, Or.inl rfl⟩
  · right; exact ⟨rfl, Or.inr rfl⟩
theorem walkM_yes {xs : List Int} {root page : Int} {wr : Bool} (h : (walkM xs root page wr).2 = 0) : walkM xs root page wr = leafM xs root page ∧ (leafM xs root page).2 = 0 ∧ (leafM xs root page).1.r = true ∧ (wr = true → (leafM xs root page).1.u = true) := by
  unfold walkM at h ⊢
  dsimp only at h ⊢
  split at h
  · rename_i h0
    split at h
    · rename_i h1
      rw [if_pos h0, if_pos h1]
      simp only [Bool.and_eq_true, Bool.or_eq_true, Bool.not_eq_true'] at h1
      refine ⟨rfl, h0, h1.1, fun hw => ?_⟩
      rcases h1.2 with h2 | h2
      · rw [hw] at h2; cases h2
      · exact h2
    · cases h
  · rename_i h0; exact absurd h h0
theorem walkM_no {xs : List Int} {root page : Int} {wr : Bool} (h : (walkM xs root page wr).2 ≠ 0) : (walkM xs root page wr).1 = .no ∧ ((walkM xs root page wr).2 = 3 ∨ (walkM xs root page wr).2 = 4 ∨ (walkM xs root page wr).2 = 5) := by
  have hk := leafM_ok xs root page
  unfold walkM at h ⊢
  dsimp only at h ⊢
  by_cases h0 : (leafM xs root page).2 = 0
  · rw [if_pos h0] at h ⊢
    by_cases h1 : ((leafM xs root page).1.r && (!wr || (leafM xs root page).1.u)) = true
    · rw [if_pos h1] at h; exact absurd h0 h
    · rw [if_neg h1]; exact ⟨rfl, Or.inr (Or.inr rfl)⟩
  · rw [if_neg h0]
    rcases hk with hk | ⟨_, hk⟩
    · exact absurd hk.1 h0
    · exact ⟨rfl, by rcases hk with hk | hk <;> simp [hk]⟩

/-- words at places, of noughts. -/
def withL : List Int → List Int → List Int
  | xs, a :: b :: r => withL (xs.set a.toNat b) r
  | xs, _ => xs
end Go.Proofs.Ytbopdijnojaaiab
