/- The hart: plain laws between the document's words and the program's. No program in sight, no statement of the seat is proved here. -/
import Derived.Test.YtbopdijnojaaiadGreatZz
import Derived.Test.YtbopdijnojaaiadGreatBase
import Derived.Test.YtbopdijnojaaiadGreatCode
namespace Go.Proofs.YtbopdijnojaaiadGreat
open Go.RowKit
set_option linter.unusedSimpArgs false
set_option linter.unusedVariables false
section
structure Hrt where
  at_ : Int
  regs : List Int
  done : Bool
def Hrt.no : Hrt := ⟨0, [], false⟩
theorem Hrt.ext' {x y : Hrt} (h1 : x.at_ = y.at_) (h2 : x.regs = y.regs) (h3 : x.done = y.done) : x = y := by
 cases x; cases y; simp only [] at *; subst h1; subst h2; subst h3; rfl
instance : DecidableEq Hrt := fun x y =>
  if h : x.at_ = y.at_ ∧ x.regs = y.regs ∧ x.done = y.done then isTrue (Hrt.ext' h.1 h.2.1 h.2.2) else isFalse (fun e => h (by subst e; exact ⟨rfl, rfl, rfl⟩))
def Xgo (a b : Hrt) : Bool := decide (a = b)
theorem Xk5 (a b : Hrt) : Xgo a b = (decide (a.at_ = b.at_) && decide (a.regs = b.regs) && decide (a.done = b.done)) := by
 unfold Xgo
 rw [Bool.eq_iff_iff]
 simp only [decide_eq_true_eq, Bool.and_eq_true]
 constructor
 · rintro rfl; exact ⟨⟨rfl, rfl⟩, rfl⟩
 · rintro ⟨⟨h1, h2⟩, h3⟩; exact Hrt.ext' h1 h2 h3
def ckH (h : Hrt) : Int := if h.regs.length = 8 then (if 0 ≤ h.at_ ∧ h.at_ < 512 then (if h.regs.all Xb1 then 0 else 2) else 2) else 3
theorem Xs2 {h : Hrt} (h1 : h.regs.length ≠ 8) : ckH h = 3 := by simp [ckH, h1]
theorem Xv9 {h : Hrt} (h1 : h.regs.length = 8) (h2 : ¬ (0 ≤ h.at_ ∧ h.at_ < 512)) : ckH h = 2 := by simp only [ckH, if_pos h1, if_neg h2]
theorem Xs3 {h : Hrt} {k : Nat} {x : Int} (h1 : h.regs.length = 8) (h2 : 0 ≤ h.at_ ∧ h.at_ < 512) (hx : h.regs[k]? = some x) (h3 : Xb1 x = false) : ckH h = 2 := by
 simp only [ckH, if_pos h1, if_pos h2, Xi4 hx h3]; rfl
theorem Xs1 {h : Hrt} (h1 : h.regs.length = 8) (h2 : 0 ≤ h.at_ ∧ h.at_ < 512) (h3 : (h.regs.take 8).all Xb1 = true) : ckH h = 0 := by
 rw [List.take_of_length_le (by omega)] at h3; simp only [ckH, if_pos h1, if_pos h2, h3]; rfl
theorem Xck {h : Hrt} (e : ckH h = 0) : h.regs.length = 8 ∧ (0 ≤ h.at_ ∧ h.at_ < 512) ∧ ∀ (k : Nat) (x : Int), h.regs[k]? = some x → 0 ≤ x ∧ x ≤ 65535 := by
 unfold ckH at e
 split at e
 · rename_i hl
   split at e
   · rename_i ha
     split at e
     · rename_i hw
       refine ⟨hl, ha, fun k x hx => ?_⟩
       have := List.all_eq_true.1 hw x (List.mem_of_getElem? hx)
       simpa [Xb1] using this
     · cases e
   · cases e
 · cases e
theorem Xv8 {h : Hrt} (h1 : h.regs.length = 8) (h2 : 0 ≤ h.at_ ∧ h.at_ < 512) (h3 : ∀ (k : Nat) (x : Int), h.regs[k]? = some x → 0 ≤ x ∧ x ≤ 65535) : ckH h = 0 := by
 refine Xs1 h1 h2 ?_
 rw [List.take_of_length_le (by omega), List.all_eq_true]
 intro x hx
 obtain ⟨k, hk⟩ := List.getElem?_of_mem hx
 simpa [Xb1] using h3 k x hk
def stB (b : Brg) : Int := (if b.stopped then 1 else 0) + (if b.lost then 2 else 0)
def Xe9 (b : Brg) (k : Int) : Int := rd [b.mode, b.base, b.orders.page, b.orders.tail, b.orders.head, b.faults.page, b.faults.head, b.faults.tail, b.fences, stB b] k
def Xe6 (b : Brg) (k v : Int) : Brg :=
  if k = 0 then { b with mode := v } else if k = 1 then { b with base := v } else
  if k = 2 then { b with orders := ⟨v, b.orders.head, b.orders.tail⟩ } else if k = 3 then { b with orders := ⟨b.orders.page, b.orders.head, v⟩ } else
  if k = 5 then { b with faults := ⟨v, b.faults.head, b.faults.tail⟩ } else if k = 6 then { b with faults := ⟨b.faults.page, v, b.faults.tail⟩ } else b
def Xo4 (k : Int) : Bool := k == 0 || k == 1 || k == 2 || k == 3 || k == 5 || k == 6
def Xa0 (b : Brg) (k v : Int) : Brg × Bool :=
  if k = 9 then (if v = 0 then ({ b with stopped := false, lost := false }, true) else (b, false))
  else if Xo4 k = true ∧ ckB (Xe6 b k v) = 0 then (Xe6 b k v, true) else (b, false)
def Hrt.setR (h : Hrt) (a v : Int) : Hrt := { h with regs := h.regs.set a.toNat v }
def shM (x i : Int) : Int := x * 2 ^ (min i 16).toNat % 65536
def Xbq (xs : List Int) (h : Hrt) (b : Brg) (k a c i : Int) : List Int × Hrt × Brg × Bool :=
  if k = 1 then (xs, h.setR a i, b, true)
  else if k = 2 then (xs, h.setR a ((rd h.regs a + rd h.regs c) % 65536), b, true)
  else if k = 3 then (xs, h.setR a (shM (rd h.regs a) i), b, true)
  else if k = 4 then (if rd h.regs c + i < 512 then (xs, h.setR a (rd xs (rd h.regs c + i)), b, true) else (xs, h, b, false))
  else if k = 5 then (if rd h.regs c + i < 512 then (xs.set (rd h.regs c + i).toNat (rd h.regs a), h, b, true) else (xs, h, b, false))
  else if k = 6 then (if rd h.regs a = rd h.regs c then (xs, { h with at_ := i }, b, true) else (xs, h, b, true))
  else if k = 7 then (xs, h, (Xa0 b i (rd h.regs a)).1, (Xa0 b i (rd h.regs a)).2)
  else if k = 8 then (if i < 10 then (xs, h.setR a (Xe9 b i), b, true) else (xs, h, b, false))
  else (xs, h, b, false)
def insK (v : Int) : Int := rdF v (v / 4096)
def insA (v : Int) : Int := rdF v (v / 512 % 8)
def insC (v : Int) : Int := rdF v (v / 64 % 8)
def insI (v : Int) : Int := rdF v (v % 64)
def Xdw (xs : List Int) (h : Hrt) (b : Brg) : List Int × Hrt × Brg :=
  if rdE (rd xs h.at_) = 0 ∧ (Xbq xs ⟨(h.at_ + 1) % 512, h.regs, h.done⟩ b (insK (rd xs h.at_)) (insA (rd xs h.at_)) (insC (rd xs h.at_)) (insI (rd xs h.at_))).2.2.2 = true then
    ((Xbq xs ⟨(h.at_ + 1) % 512, h.regs, h.done⟩ b (insK (rd xs h.at_)) (insA (rd xs h.at_)) (insC (rd xs h.at_)) (insI (rd xs h.at_))).1,
     (Xbq xs ⟨(h.at_ + 1) % 512, h.regs, h.done⟩ b (insK (rd xs h.at_)) (insA (rd xs h.at_)) (insC (rd xs h.at_)) (insI (rd xs h.at_))).2.1,
     (Xbq xs ⟨(h.at_ + 1) % 512, h.regs, h.done⟩ b (insK (rd xs h.at_)) (insA (rd xs h.at_)) (insC (rd xs h.at_)) (insI (rd xs h.at_))).2.2.1)
  else (xs, { h with done := true }, b)
def Xei (xs : List Int) (h : Hrt) (b : Brg) : Int := if cm xs = 0 then (if ckH h = 0 then (if ckB b = 0 then (if h.done then 6 else 0) else ckB b) else ckH h) else cm xs
def Xqr (xs : List Int) (h : Hrt) (b : Brg) : List Int × Hrt × Brg := if Xei xs h b = 0 then Xdw xs h b else ([], .no, .no)
theorem Xqq {xs : List Int} {h : Hrt} {b : Brg} (e : Xei xs h b = 0) : cm xs = 0 ∧ ckH h = 0 ∧ ckB b = 0 ∧ h.done = false := by
 unfold Xei at e
 split at e
 · rename_i h1
   split at e
   · rename_i h2
     split at e
     · rename_i h3
       split at e
       · cases e
       · rename_i h4; exact ⟨h1, h2, h3, by simpa using h4⟩
     · rename_i h3; exact absurd e h3
   · rename_i h2; exact absurd e h2
 · rename_i h1; exact absurd e h1
end
section
theorem Xib {xs : List Int} {k : Int} (hx : ∀ (j : Nat) (x : Int), xs[j]? = some x → 0 ≤ x ∧ x ≤ 65535) : 0 ≤ rd xs k ∧ rd xs k ≤ 65535 := by
 unfold rd
 cases e : xs[k.toNat]?
 · simp
 · exact hx _ _ e
theorem Xx8 {h : Hrt} {a v : Int} (h0 : ckH h = 0) (hv : 0 ≤ v ∧ v ≤ 65535) : ckH (h.setR a v) = 0 := by
 obtain ⟨h1, h2, h3⟩ := Xck h0
 refine Xv8 (by simp [Hrt.setR, h1]) h2 (fun k x hx => ?_)
 simp only [Hrt.setR] at hx
 rw [List.getElem?_set] at hx
 split at hx
 · split at hx
   · injection hx with e; subst e; exact hv
   · cases hx
 · exact h3 k x hx
theorem Xnh {h : Hrt} {v : Int} (h0 : ckH h = 0) (hv : 0 ≤ v ∧ v < 512) : ckH ⟨v, h.regs, h.done⟩ = 0 := by
 obtain ⟨h1, _, h3⟩ := Xck h0
 exact Xv8 (h := ⟨v, h.regs, h.done⟩) h1 hv h3
theorem Xml (b : Brg) (k v : Int) : (Xe6 b k v).cache = b.cache ∧ (Xe6 b k v).fences = b.fences ∧ (Xe6 b k v).orders.head = b.orders.head ∧ (Xe6 b k v).faults.tail = b.faults.tail := by
 unfold Xe6
 (repeat' split) <;> exact ⟨rfl, rfl, rfl, rfl⟩
theorem Xmm (b : Brg) (k v : Int) (h0 : ckB b = 0) : ckB (Xa0 b k v).1 = 0 ∧ (Xa0 b k v).1.cache = b.cache ∧ (Xa0 b k v).1.fences = b.fences ∧ (Xa0 b k v).1.orders.head = b.orders.head ∧ (Xa0 b k v).1.faults.tail = b.faults.tail := by
 unfold Xa0
 split
 · split
   · refine ⟨?_, rfl, rfl, rfl, rfl⟩
     rw [Xbo] at h0 ⊢; exact h0
   · exact ⟨h0, rfl, rfl, rfl, rfl⟩
 · split
   · rename_i h; exact ⟨h.2, Xml b k v⟩
   · exact ⟨h0, rfl, rfl, rfl, rfl⟩
theorem Xs8 (b : Brg) (k v : Int) (h : (Xa0 b k v).2 = false) : (Xa0 b k v).1 = b := by
 unfold Xa0 at h ⊢
 split
 · rename_i h1; rw [if_pos h1] at h
   split
   · rename_i h2; rw [if_pos h2] at h; cases h
   · rfl
 · rename_i h1; rw [if_neg h1] at h
   split
   · rename_i h2; rw [if_pos h2] at h; cases h
   · rfl
structure Kps (xs : List Int) (h : Hrt) (b : Brg) (r : List Int × Hrt × Brg × Bool) : Prop where
  km : cm r.1 = 0
  kh : ckH r.2.1 = 0
  kb : ckB r.2.2.1 = 0
  kd : r.2.1.done = h.done
  kc : r.2.2.1.cache = b.cache ∧ r.2.2.1.fences = b.fences ∧ r.2.2.1.orders.head = b.orders.head ∧ r.2.2.1.faults.tail = b.faults.tail
  one : (r.1 = xs ∧ r.2.1.regs = h.regs) ∨ (r.2.2.1 = b ∧ ((r.1 = xs ∧ ∃ j v, r.2.1.regs = h.regs.set j v) ∨ (r.2.1.regs = h.regs ∧ ∃ j v, r.1 = xs.set j v)))
  at_ : r.2.1.at_ = h.at_ ∨ (0 ≤ r.2.1.at_ ∧ r.2.1.at_ ≤ 63)
  no : r.2.2.2 = false → r.1 = xs ∧ r.2.1 = h ∧ r.2.2.1 = b
theorem sh_rng (u i : Int) : 0 ≤ shM u i ∧ shM u i ≤ 65535 := by unfold shM; omega
theorem in_rng {b : Brg} {k : Int} (h0 : ckB b = 0) : 0 ≤ Xe9 b k ∧ Xe9 b k ≤ 65535 := by
 rw [Xbo] at h0
 obtain ⟨h1, _, h2, h3⟩ := h0
 unfold brgR at h1; unfold Xcj at h2 h3
 unfold Xe9
 refine Xib (fun j x hx => ?_)
 have hst : 0 ≤ stB b ∧ stB b ≤ 3 := by unfold stB; (repeat' split) <;> omega
 match j, hx with
 | 0, hx => injection hx with e; subst e; omega
 | 1, hx => injection hx with e; subst e; omega
 | 2, hx => injection hx with e; subst e; omega
 | 3, hx => injection hx with e; subst e; omega
 | 4, hx => injection hx with e; subst e; omega
 | 5, hx => injection hx with e; subst e; omega
 | 6, hx => injection hx with e; subst e; omega
 | 7, hx => injection hx with e; subst e; omega
 | 8, hx => injection hx with e; subst e; omega
 | 9, hx => injection hx with e; subst e; omega
 | n + 10, hx => simp at hx
section
variable {xs : List Int} {h : Hrt} {b : Brg}
theorem Xin (h0 : cm xs = 0) (h1 : ckH h = 0) (h2 : ckB b = 0) {a v : Int} (hv : 0 ≤ v ∧ v ≤ 65535) : Kps xs h b (xs, h.setR a v, b, true) :=
  ⟨h0, Xx8 h1 hv, h2, rfl, ⟨rfl, rfl, rfl, rfl⟩, Or.inr ⟨rfl, Or.inl ⟨rfl, a.toNat, v, rfl⟩⟩, Or.inl rfl, fun e => by cases e⟩
theorem Xlr (h0 : cm xs = 0) (h1 : ckH h = 0) (h2 : ckB b = 0) {k : Bool} : Kps xs h b (xs, h, b, k) :=
  ⟨h0, h1, h2, rfl, ⟨rfl, rfl, rfl, rfl⟩, Or.inl ⟨rfl, rfl⟩, Or.inl rfl, fun _ => ⟨rfl, rfl, rfl⟩⟩
theorem Xpz (h0 : cm xs = 0) (h1 : ckH h = 0) (h2 : ckB b = 0) {k a c i : Int} (hi : 0 ≤ i ∧ i ≤ 63) : Kps xs h b (Xbq xs h b k a c i) := by
 have hx := (Xb4 h0).2
 have hr := (Xck h1).2.2
 unfold Xbq
 split
 · exact Xin h0 h1 h2 (by omega)
 split
 · exact Xin h0 h1 h2 (by omega)
 split
 · exact Xin h0 h1 h2 (sh_rng _ _)
 split
 · split
   · exact Xin h0 h1 h2 (Xib hx)
   · exact Xlr h0 h1 h2
 split
 · split
   · exact ⟨Xv4 h0 (Xib hr), h1, h2, rfl, ⟨rfl, rfl, rfl, rfl⟩, Or.inr ⟨rfl, Or.inr ⟨rfl, _, _, rfl⟩⟩, Or.inl rfl, fun e => by cases e⟩
   · exact Xlr h0 h1 h2
 split
 · split
   · exact ⟨h0, Xnh h1 (by omega), h2, rfl, ⟨rfl, rfl, rfl, rfl⟩, Or.inl ⟨rfl, rfl⟩, Or.inr hi, fun e => by cases e⟩
   · exact Xlr h0 h1 h2
 split
 · have hb := Xmm b i (rd h.regs a) h2
   exact ⟨h0, h1, hb.1, rfl, hb.2, Or.inl ⟨rfl, rfl⟩, Or.inl rfl, fun e => ⟨rfl, rfl, Xs8 _ _ _ e⟩⟩
 split
 · split
   · exact Xin h0 h1 h2 (in_rng h2)
   · exact Xlr h0 h1 h2
 exact Xlr h0 h1 h2
end
theorem Xkd (v : Int) : 0 ≤ insI v ∧ insI v ≤ 63 := by unfold insI rdF; split <;> omega
end
section
def dbl (u : Int) : Nat → Int
  | 0 => u
  | n + 1 => dbl u n * 2 % 65536
theorem Xx2 {u : Int} (h : 0 ≤ u ∧ u ≤ 65535) (n : Nat) : 0 ≤ dbl u n ∧ dbl u n ≤ 65535 := by
 cases n with
 | zero => exact h
 | succ n => unfold dbl; omega
theorem Xsx {u : Int} (h : 0 ≤ u ∧ u ≤ 65535) (n : Nat) : dbl u n = u * 2 ^ n % 65536 := by
 induction n with
 | zero => unfold dbl; rw [Int.pow_zero, Int.mul_one]; omega
 | succ n ih =>
   unfold dbl
   rw [ih, Int.pow_succ, ← Int.mul_assoc]
   generalize u * 2 ^ n = p
   omega
theorem Xx3 {u : Int} (h : 0 ≤ u ∧ u ≤ 65535) (n : Nat) : dbl u (16 + n) = 0 := by
 induction n with
 | zero => rw [Nat.add_zero, Xsx h]; show u * 65536 % 65536 = 0; omega
 | succ n ih => show dbl u (16 + n) * 2 % 65536 = 0; rw [ih]; rfl
theorem dbl_sh {u i : Int} (h : 0 ≤ u ∧ u ≤ 65535) (hi : 0 ≤ i) : dbl u i.toNat = shM u i := by
 unfold shM
 by_cases hq : i ≤ 16
 · rw [show min i 16 = i by omega, Xsx h]
 · rw [show min i 16 = 16 by omega, show i.toNat = 16 + (i.toNat - 16) by omega, Xx3 h]
   show 0 = u * 65536 % 65536; omega
def Xdj (k : Int) : Int := if k = 0 then 2 else if k = 1 then 63 else if k = 2 then 63 else if k = 3 then 7 else if k = 5 then 63 else if k = 6 then 7 else if k = 9 then 0 else -1
def Xhr (b : Brg) (k v : Int) : Brg := if k = 9 then { b with stopped := false, lost := false } else Xe6 b k v
theorem Xiz {b : Brg} {k v : Int} (h0 : ckB b = 0) (hv : 0 ≤ v) : Xa0 b k v = if v ≤ Xdj k then (Xhr b k v, true) else (b, false) := by
 by_cases h9 : k = 9
 · subst h9
   unfold Xa0 Xhr
   rw [if_pos rfl, if_pos rfl, show Xdj 9 = 0 from rfl]
   by_cases h : v = 0
   · rw [if_pos h, if_pos (by omega)]
   · rw [if_neg h, if_neg (by omega)]
 · unfold Xa0 Xhr
   rw [if_neg h9, if_neg h9]
   rw [Xbo] at h0
   obtain ⟨h1, h2, h3, h4⟩ := h0
   unfold brgR at h1
   unfold Xcj at h3 h4
   by_cases hs : Xo4 k = true
   · have hk : k = 0 ∨ k = 1 ∨ k = 2 ∨ k = 3 ∨ k = 5 ∨ k = 6 := by simp [Xo4] at hs; omega
     have hm : ckB (Xe6 b k v) = 0 ↔ v ≤ Xdj k := by
       rw [Xbo]
       rcases hk with rfl | rfl | rfl | rfl | rfl | rfl
       all_goals
         simp only [Xe6, Xdj, brgR, Xcj, if_true, if_false, show ¬ (1 : Int) = 0 by decide, show ¬ (2 : Int) = 0 by decide, show ¬ (2 : Int) = 1 by decide, show ¬ (3 : Int) = 0 by decide, show ¬ (3 : Int) = 1 by decide, show ¬ (3 : Int) = 2 by decide, show ¬ (5 : Int) = 0 by decide, show ¬ (5 : Int) = 1 by decide, show ¬ (5 : Int) = 2 by decide, show ¬ (5 : Int) = 3 by decide, show ¬ (6 : Int) = 0 by decide, show ¬ (6 : Int) = 1 by decide, show ¬ (6 : Int) = 2 by decide, show ¬ (6 : Int) = 3 by decide, show ¬ (6 : Int) = 5 by decide]
         constructor
         · intro hh; omega
         · intro hh; refine ⟨?_, h2, ?_, ?_⟩ <;> omega
     by_cases h : v ≤ Xdj k
     · rw [if_pos h, if_pos ⟨hs, hm.2 h⟩]
     · rw [if_neg h, if_neg (fun hh => h (hm.1 hh.2))]
   · rw [if_neg (fun hh => hs hh.1)]
     rw [if_neg]
     intro hh
     apply hs
     simp only [Xdj] at hh
     (repeat' split at hh) <;> first | (subst_vars; rfl) | omega
end
end Go.Proofs.YtbopdijnojaaiadGreat
