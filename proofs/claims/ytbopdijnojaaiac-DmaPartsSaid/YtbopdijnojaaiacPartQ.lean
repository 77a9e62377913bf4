/- A burst and its pages: how it stands ahead of each part; memory. No statement of the seat is proved here. -/
import Derived.Test.YtbopdijnojaaiacDmaR
import Derived.Test.YtbopdijnojaaiacMachQ
import Derived.Test.YtbopdijnojaaiacWh2
namespace Go.Proofs.Ytbopdijnojaaiac
open Go.RowKit
set_option linter.unusedSimpArgs false
set_option linter.unusedVariables false
/-- how it stands ahead of a page's part. -/
structure DI (a : Ask) (r : List Int × Brg × Tld) (i : Nat) (x : List Int) (d : Brg) (u : Tld) : Prop where
  le : i ≤ a.count.toNat
  dl : u.data.length ≤ i
  tl : u.touched.length ≤ i
  st : (u.fault = 0 ∧ u.done = decide (0 < i) ∧ cm x = 0 ∧ ckB d = 0 ∧ ∃ at' pg, dGo a (a.count.toNat - i) i ⟨x, d, u.data, u.touched, at', pg⟩ = r ∧ (i < a.count.toNat → dPage a i ≠ pg)) ∨ (u.fault ≠ 0 ∧ r = (x, d, u))
theorem DI.start {a : Ask} {xs : List Int} {b : Brg} (h : dmaE xs b a = 0) : DI a (dmaM xs b a) 0 xs b .no := by
  obtain ⟨h1, h2, h3⟩ := dmaE_inv h
  have hc := (reqE_inv h3).1
  have h4 := (d_in (a := a) (i := 0) h3 (by omega)).2
  exact ⟨Nat.zero_le _, Nat.le_refl _, Nat.le_refl _, Or.inl ⟨rfl, rfl, h1, h2, 0, -1, rfl, fun _ => by omega⟩⟩
def kOf (a : Ask) (i : Nat) : Nat := min (a.count.toNat - i) (8 - ((a.at_ + i) % 8).toNat)
theorem dGo_lenP {a : Ask} : ∀ (n i : Nat) (s : Dst), s.touched.length ≤ i → (dGo a n i s).2.2.touched.length ≤ i + n := by
  intro n
  induction n with
  | zero => intro i s h; exact h
  | succ n ih =>
    intro i s h
    unfold dGo
    split
    · have := ih (i + 1) (dWord a i s) (by show (s.touched ++ [_]).length ≤ _; rw [List.length_append]; simp; omega); omega
    · split
      · have := ih (i + 1) (dWord a i (dNext a i s)) (by show (s.touched ++ [_]).length ≤ _; rw [List.length_append]; simp; omega); omega
      · show s.touched.length ≤ _; omega
theorem DI.next {a : Ask} {r : List Int × Brg × Tld} {i : Nat} {x : List Int} {d : Brg} {u : Tld} (ha : reqE a = 0) (h : DI a r i x d u) (hf : u.fault = 0) (hi : i < a.count.toNat) {k : Nat} (hk : kOf a i = k) :
    dmaE x d (part a i k) = 0 ∧ 1 ≤ k ∧ k ≤ 8 ∧ i + k ≤ a.count.toNat ∧ ∀ y f p, dmaM x d (part a i k) = (y, f, p) → DI a r (i + k) y f ⟨p.done, u.data ++ p.data, p.fault, u.touched ++ p.touched⟩ ∧ p.data.length ≤ k ∧ p.touched.length ≤ k := by
  obtain ⟨hc, hq, _, _⟩ := reqE_inv ha
  unfold reqR at hq
  have hm : 0 ≤ (a.at_ + i) % 8 ∧ (a.at_ + i) % 8 < 8 := ⟨Int.emod_nonneg _ (by decide), Int.emod_lt_of_pos _ (by decide)⟩
  have hk1 : 1 ≤ k := by unfold kOf at hk; omega
  have hk2 : i + k ≤ a.count.toNat := by unfold kOf at hk; omega
  have hk3 : k ≤ 8 - ((a.at_ + i) % 8).toNat := by unfold kOf at hk; omega
  rcases h.st with ⟨_, h2, h3, h4, at', pg, h5, h6⟩ | ⟨h1, _⟩
  rotate_left
  · exact absurd hf h1
  have hE : dmaE x d (part a i k) = 0 := by
    unfold dmaE
    rw [if_pos h3, if_pos h4]
    exact part_ok ha hk1 (by omega)
  refine ⟨hE, hk1, by omega, hk2, fun y f p hp => ?_⟩
  have hh := dma_held hE
  have hlen : p.touched.length ≤ k := by
    have := dGo_lenP (a := part a i k) (part a i k).count.toNat 0 ⟨x, d, [], [], 0, -1⟩ (Nat.le_refl _)
    have e : dmaM x d (part a i k) = dGo (part a i k) (part a i k).count.toNat 0 ⟨x, d, [], [], 0, -1⟩ := rfl
    rw [← e, hp] at this
    have e2 : (part a i k).count.toNat = k := by show ((k : Nat) : Int).toNat = k; omega
    rw [e2] at this
    simpa using this
  have hdl : p.data.length ≤ k := by
    rw [hp] at hh
    cases hw : (part a i k).wr with
    | true => rw [hh.held.non hw]; exact Nat.zero_le _
    | false => rw [(hh.held.dat hw).1]; exact hlen
  refine ⟨?_, hdl, hlen⟩
  have hd1 := h.dl
  have ht1 := h.tl
  have hpp := dma_part (a := a) (i := i) (k := k) (n := a.count.toNat - (i + k)) (s := ⟨x, d, u.data, u.touched, at', pg⟩) hk1 (fun j hj => by
    unfold dPage
    have : ((i + j : Nat) : Int) = (i : Int) + j := by omega
    omega) (h6 hi) (by unfold dPage; omega)
  rw [hp, show k + (a.count.toNat - (i + k)) = a.count.toNat - i by omega, h5] at hpp
  simp only [] at hpp
  have hcks := hh.ck
  rw [hp] at hcks
  rcases hpp with ⟨e1, e2, at2, e3⟩ | ⟨e1, e2⟩
  · refine ⟨hk2, by simp only [List.length_append]; omega, by simp only [List.length_append]; omega, Or.inl ⟨e1, by rw [e2]; simp; omega, hcks.1, hcks.2, at2, dPage a i, e3.symm, fun hlt => ?_⟩⟩
    have hke : k = 8 - ((a.at_ + i) % 8).toNat := by unfold kOf at hk; omega
    unfold dPage
    have : ((i + k : Nat) : Int) = (i : Int) + k := by omega
    omega
  · exact ⟨hk2, by simp only [List.length_append]; omega, by simp only [List.length_append]; omega, Or.inr ⟨e1, e2⟩⟩
theorem DI.done {a : Ask} {r : List Int × Brg × Tld} {i : Nat} {x : List Int} {d : Brg} {u : Tld} (ha : reqE a = 0) (h : DI a r i x d u) (he : u.fault ≠ 0 ∨ i = a.count.toNat) : r = (x, d, u) := by
  have hc := (reqE_inv ha).1
  rcases h.st with ⟨h1, h2, _, _, at', pg, h5, _⟩ | ⟨_, h1⟩
  · have hi : i = a.count.toNat := he.resolve_left (fun e => e h1)
    rw [← hi, Nat.sub_self] at h5
    rw [← h5]
    show (x, d, (⟨true, u.data, 0, u.touched⟩ : Tld)) = _
    have : u = ⟨true, u.data, 0, u.touched⟩ := Tld.ext' (by rw [h2]; simp; omega) rfl h1 rfl
    rw [← this]
  · exact h1
/-- data of the law's own. -/
def OwnDt (B : Nat) (w : World) (A : Option Addr) (n c : Nat) (xs : List Int) : Prop := xs.length = n ∧ n ≤ c ∧ c ≤ maxLen ∧ w.ownsRow B 3 1 (.slice A n c) n (xs.map (Value.int .i64))
theorem own_capP {e : TypeId} {s n c B : Nat} {w : World} {A : Option Addr} {xs : List Value} (h : w.ownsRow B e s (.slice A n c) n xs) : n ≤ c ∧ c ≤ maxLen := by
  rcases own_form h with ⟨hv, h0⟩ | ⟨g, cap, hv, h1, h2, _⟩
  · injection hv with _ _ h3; subst h3; omega
  · injection hv with _ _ h3; subst h3; exact ⟨h1, h2⟩
def nO (D : Option Addr) (q : Nat) : Prop := ∀ ad, D = some ad → q ≠ ad.block
/-- what lies in memory while a part's results are taken over. -/
structure RQ (B h : Nat) (y : List Int) (f : Brg) (pd : List Int) (pt : List Tch) (ud : List Int) (ut : List Tch) (M L : Option Addr) (n c : Nat) (D1 : Option Addr) (dn1 dc1 : Nat) (T1 : Option Addr) (tn1 tc1 : Nat) (D : Option Addr) (dn dc : Nat) (T : Option Addr) (tn tc : Nat) (W : World) : Prop where
  im : Ints W W.heap.size M 512 y
  il : Lines W W.heap.size L n c f.cache
  id : Ints W W.heap.size D1 dn1 pd
  it : Tchs W W.heap.size T1 tn1 tc1 pt
  od : OwnDt B W D dn dc ud
  ot : OwnT B W T tn tc ut
  am : RowIn (fun q => h ≤ q ∧ nO D q ∧ nO T q) M 512
  al : RowIn (fun q => h ≤ q ∧ nO D q ∧ nO T q) L n
  ad : RowIn (fun q => h ≤ q ∧ nO D q ∧ nO T q) D1 dn1
  at_ : RowIn (fun q => h ≤ q ∧ nO D q ∧ nO T q) T1 tn1
  ap : ∀ ad ad', D = some ad → T = some ad' → ad.block ≠ ad'.block
section
variable {B h n c dn1 dc1 tn1 tc1 dn dc tn tc : Nat} {y pd ud : List Int} {f : Brg} {pt ut : List Tch} {M L D1 T1 D T : Option Addr} {W W' : World}
theorem RQ.since (r : RQ B h y f pd pt ud ut M L n c D1 dn1 dc1 T1 tn1 tc1 D dn dc T tn tc W) (hb : Below W.heap.size W W') : RQ B h y f pd pt ud ut M L n c D1 dn1 dc1 T1 tn1 tc1 D dn dc T tn tc W' :=
  ⟨ints_now r.im hb, lines_now r.il hb, ints_now r.id hb, tchs_now r.it hb, ⟨r.od.1, r.od.2.1, r.od.2.2.1, own_below r.od.2.2.2 hb⟩, ⟨r.ot.1, r.ot.2.1, r.ot.2.2.1, own_below r.ot.2.2.2 hb⟩, r.am, r.al, r.ad, r.at_, r.ap⟩
theorem RQ.chg {P : Nat → Prop} (r : RQ B h y f pd pt ud ut M L n c D1 dn1 dc1 T1 tn1 tc1 D dn dc T tn tc W) (hC : Chg P W W') (hP : ∀ q, P q → q < B) (hB : B ≤ h) : RQ B h y f pd pt ud ut M L n c D1 dn1 dc1 T1 tn1 tc1 D dn dc T tn tc W' :=
  ⟨chg_ints0 r.im hC r.am (fun q e hq => by have := hP q e; have := hq.1; omega), chg_lines0 r.il hC r.al (fun q e hq => by have := hP q e; have := hq.1; omega), chg_ints0 r.id hC r.ad (fun q e hq => by have := hP q e; have := hq.1; omega), chg_tchs0 r.it hC r.at_ (fun q e hq => by have := hP q e; have := hq.1; omega),
   ⟨r.od.1, r.od.2.1, r.od.2.2.1, chg_owns r.od.2.2.2 hC (fun ad e hp => by have := (own_blk r.od.2.2.2 ad e).1; have := hP _ hp; omega)⟩, ⟨r.ot.1, r.ot.2.1, r.ot.2.2.1, chg_owns r.ot.2.2.2 hC (fun ad e hp => by have := (own_blk r.ot.2.2.2 ad e).1; have := hP _ hp; omega)⟩, r.am, r.al, r.ad, r.at_, r.ap⟩
theorem own_isP {A : Option Addr} {n c q : Nat} (e : (Value.slice A n c).ownBlock = some q) : ∃ ad, A = some ad ∧ ad.block = q := by
  cases A with
  | none => simp [Value.ownBlock] at e
  | some ad => exact ⟨ad, rfl, by simpa [Value.ownBlock] using e⟩
theorem rowIn_tchsP {w : World} {A : Option Addr} {n c : Nat} {xs : List Tch} (h : Tchs w w.heap.size A n c xs) : RowIn (fun q => q < w.heap.size) A n := fun h0 ad e => by
  obtain ⟨b, off, e', hb, _⟩ := h.at_ h0
  rw [e] at e'
  injection e' with e'
  rw [e']; exact hb
theorem RQ.appD {A' : Option Addr} {m c' : Nat} (r : RQ B h y f pd pt ud ut M L n c D1 dn1 dc1 T1 tn1 tc1 D dn dc T tn tc W) (hg : W.grownBy W' (Value.slice D dn dc).ownBlock) (ho : W'.ownsRow B 3 1 (.slice A' m c') m ((ud ++ pd).map (Value.int .i64))) (hm : (ud ++ pd).length = m)
    (ha : ∀ ad, A' = some ad → (Value.slice D dn dc).ownBlock = some ad.block ∨ ad.block = W.heap.size) : RQ B h y f pd pt (ud ++ pd) ut M L n c D1 dn1 dc1 T1 tn1 tc1 A' m c' T tn tc W' := by
  have hC : Chg (fun q => (Value.slice D dn dc).ownBlock = some q) W W' := chg_grown (chg_refl W) hg (fun k e => Or.inl e)
  have hno : ∀ q, (Value.slice D dn dc).ownBlock = some q → ¬ (h ≤ q ∧ nO D q ∧ nO T q) := fun q e hq => by
    obtain ⟨ad, e1, e2⟩ := own_isP e
    exact hq.2.1 ad e1 e2.symm
  have hrow : ∀ q, (h ≤ q ∧ nO D q ∧ nO T q) ∧ q < W.heap.size → h ≤ q ∧ nO A' q ∧ nO T q := fun q hq => ⟨hq.1.1, fun ad e hh => by
    rcases ha ad e with h1 | h1
    · obtain ⟨ad2, e1, e2⟩ := own_isP h1
      exact hq.1.2.1 ad2 e1 (hh.trans e2.symm)
    · omega, hq.1.2.2⟩
  have hb := own_blk r.ot.2.2.2
  refine ⟨chg_ints0 r.im hC r.am hno, chg_lines0 r.il hC r.al hno, chg_ints0 r.id hC r.ad hno, chg_tchs0 r.it hC r.at_ hno, ⟨hm, (own_capP ho).1, (own_capP ho).2, ho⟩, ⟨r.ot.1, r.ot.2.1, r.ot.2.2.1, chg_owns r.ot.2.2.2 hC (fun ad e hp => ?_)⟩, fun h0 ad e => hrow _ ⟨r.am h0 ad e, rowIn_ints r.im h0 ad e⟩, fun h0 ad e => hrow _ ⟨r.al h0 ad e, rowIn_lines r.il h0 ad e⟩, fun h0 ad e => hrow _ ⟨r.ad h0 ad e, rowIn_ints r.id h0 ad e⟩, fun h0 ad e => hrow _ ⟨r.at_ h0 ad e, rowIn_tchsP r.it h0 ad e⟩, fun ad ad' e1 e2 hh => ?_⟩
  · obtain ⟨ad2, e1, e2⟩ := own_isP hp
    exact r.ap ad2 ad e1 e e2
  · rcases ha ad e1 with h1 | h1
    · obtain ⟨ad2, e3, e4⟩ := own_isP h1
      exact r.ap ad2 ad' e3 e2 (e4.trans hh)
    · have := (hb ad' e2).2; omega
theorem RQ.appT {A' : Option Addr} {m c' : Nat} (r : RQ B h y f pd pt ud ut M L n c D1 dn1 dc1 T1 tn1 tc1 D dn dc T tn tc W) (hg : W.grownBy W' (Value.slice T tn tc).ownBlock) (ho : W'.ownsRow B 24 5 (.slice A' m c') m (tcells (ut ++ pt))) (hm : (ut ++ pt).length = m)
    (ha : ∀ ad, A' = some ad → (Value.slice T tn tc).ownBlock = some ad.block ∨ ad.block = W.heap.size) : RQ B h y f pd pt ud (ut ++ pt) M L n c D1 dn1 dc1 T1 tn1 tc1 D dn dc A' m c' W' := by
  have hC : Chg (fun q => (Value.slice T tn tc).ownBlock = some q) W W' := chg_grown (chg_refl W) hg (fun k e => Or.inl e)
  have hno : ∀ q, (Value.slice T tn tc).ownBlock = some q → ¬ (h ≤ q ∧ nO D q ∧ nO T q) := fun q e hq => by
    obtain ⟨ad, e1, e2⟩ := own_isP e
    exact hq.2.2 ad e1 e2.symm
  have hrow : ∀ q, (h ≤ q ∧ nO D q ∧ nO T q) ∧ q < W.heap.size → h ≤ q ∧ nO D q ∧ nO A' q := fun q hq => ⟨hq.1.1, hq.1.2.1, fun ad e hh => by
    rcases ha ad e with h1 | h1
    · obtain ⟨ad2, e1, e2⟩ := own_isP h1
      exact hq.1.2.2 ad2 e1 (hh.trans e2.symm)
    · omega⟩
  have hb := own_blk r.od.2.2.2
  refine ⟨chg_ints0 r.im hC r.am hno, chg_lines0 r.il hC r.al hno, chg_ints0 r.id hC r.ad hno, chg_tchs0 r.it hC r.at_ hno, ⟨r.od.1, r.od.2.1, r.od.2.2.1, chg_owns r.od.2.2.2 hC (fun ad e hp => ?_)⟩, ⟨hm, (own_capP ho).1, (own_capP ho).2, ho⟩, fun h0 ad e => hrow _ ⟨r.am h0 ad e, rowIn_ints r.im h0 ad e⟩, fun h0 ad e => hrow _ ⟨r.al h0 ad e, rowIn_lines r.il h0 ad e⟩, fun h0 ad e => hrow _ ⟨r.ad h0 ad e, rowIn_ints r.id h0 ad e⟩, fun h0 ad e => hrow _ ⟨r.at_ h0 ad e, rowIn_tchsP r.it h0 ad e⟩, fun ad ad' e1 e2 hh => ?_⟩
  · obtain ⟨ad2, e1, e2⟩ := own_isP hp
    exact r.ap ad ad2 e e1 e2.symm
  · rcases ha ad' e2 with h1 | h1
    · obtain ⟨ad2, e3, e4⟩ := own_isP h1
      exact r.ap ad ad2 e1 e3 (hh.trans e4.symm)
    · have := (hb ad e1).2; omega
end
end Go.Proofs.Ytbopdijnojaaiac
