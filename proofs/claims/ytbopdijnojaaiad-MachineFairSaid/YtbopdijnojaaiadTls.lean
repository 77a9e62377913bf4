/- What devices are told, as slices in memory; how memory stands while a script runs. No statement of the seat is proved here. -/
import Derived.Test.YtbopdijnojaaiadWh2
namespace Go.Proofs.Ytbopdijnojaaiad
open Go.RowKit
set_option linter.unusedSimpArgs false
set_option linter.unusedVariables false

/-- one of some that are told, with its rows. -/
structure Tle where
  t : Tld
  D : Option Addr
  dn : Nat
  dc : Nat
  X : Option Addr
  tn : Nat
  tc : Nat
def Tle.vals (e : Tle) : List Value := [.bool e.t.done, .slice e.D e.dn e.dc, .int .i64 e.t.fault, .slice e.X e.tn e.tc]
def elcells (es : List Tle) : List Value := es.flatMap Tle.vals
theorem elcells_snoc (es : List Tle) (e : Tle) : elcells (es ++ [e]) = elcells es ++ e.vals := by unfold elcells; rw [List.flatMap_append]; simp
theorem elcells_at : ∀ (ls : List Tle) (k : Nat) (x : Tle) (j : Nat), ls[k]? = some x → j < 4 → (elcells ls)[k * 4 + j]? = x.vals[j]?
  | [], k, x, j, h, _ => by simp at h
  | y :: r, 0, x, j, h, hj => by
    simp at h; subst h
    unfold elcells
    rw [List.flatMap_cons, List.getElem?_append_left (by simp [Tle.vals]; omega)]
    simp
  | y :: r, k + 1, x, j, h, hj => by
    simp at h
    unfold elcells
    rw [List.flatMap_cons, List.getElem?_append_right (by simp [Tle.vals]; omega)]
    have := elcells_at r k x j h hj
    unfold elcells at this
    rw [← this]; congr 1; simp [Tle.vals]; omega
theorem tle_one (e : Tle) : ∀ u ∈ e.vals, u.oneCell' = true := by
  intro u hu
  simp [Tle.vals] at hu
  rcases hu with rfl | rfl | rfl | rfl <;> rfl
def OwnS (B : Nat) (w : World) (A : Option Addr) (n c : Nat) (es : List Tle) : Prop := es.length = n ∧ n ≤ c ∧ c ≤ maxLen ∧ w.ownsRow B 41 4 (.slice A n c) n (elcells es)
def OwnE (B : Nat) (w : World) (A : Option Addr) (n c : Nat) (xs : List Int) : Prop := xs.length = n ∧ n ≤ c ∧ c ≤ maxLen ∧ w.ownsRow B 37 1 (.slice A n c) n (xs.map (Value.int .i64))
theorem Try.infoTold : (Try.prog.info? 41).map (fun i => (i.zero, i.size, i.bytes)) = some (some (.agg #[.bool false, .slice none 0 0, .int .i64 0, .slice none 0 0]), 4, 64) := by kernel_rfl
theorem Try.infoErr : (Try.prog.info? 37).map (fun i => (i.zero, i.size, i.bytes)) = some (some (.int .i64 0), 1, 8) := by kernel_rfl
section
variable {B : Nat} {w w' : World} {A : Option Addr} {n c : Nat}
theorem ownS_nil (w : World) (B : Nat) : OwnS B w none 0 0 [] := ⟨rfl, Nat.le_refl _, Nat.zero_le _, World.ownsRow_nil _ _ _ _⟩
theorem ownE_nil (w : World) (B : Nat) : OwnE B w none 0 0 [] := ⟨rfl, Nat.le_refl _, Nat.zero_le _, World.ownsRow_nil _ _ _ _⟩
theorem OwnS.below {es : List Tle} (h : OwnS B w A n c es) (hb : Below w.heap.size w w') : OwnS B w' A n c es := ⟨h.1, h.2.1, h.2.2.1, own_below h.2.2.2 hb⟩
theorem OwnE.below {xs : List Int} (h : OwnE B w A n c xs) (hb : Below w.heap.size w w') : OwnE B w' A n c xs := ⟨h.1, h.2.1, h.2.2.1, own_below h.2.2.2 hb⟩
theorem OwnS.chg {P : Nat → Prop} {es : List Tle} (h : OwnS B w A n c es) (hC : Chg P w w') (hn : ∀ ad, A = some ad → ¬ P ad.block) : OwnS B w' A n c es := ⟨h.1, h.2.1, h.2.2.1, chg_owns h.2.2.2 hC hn⟩
theorem OwnE.chg {P : Nat → Prop} {xs : List Int} (h : OwnE B w A n c xs) (hC : Chg P w w') (hn : ∀ ad, A = some ad → ¬ P ad.block) : OwnE B w' A n c xs := ⟨h.1, h.2.1, h.2.2.1, chg_owns h.2.2.2 hC hn⟩
theorem own_capc {e : TypeId} {s n c : Nat} {xs : List Value} (h : w.ownsRow B e s (.slice A n c) n xs) : n ≤ c ∧ c ≤ maxLen := by
  rcases own_form h with ⟨hv, h0⟩ | ⟨g, cap, hv, h1, h2, _⟩
  · injection hv with _ _ h3; subst h3; omega
  · injection hv with _ _ h3; subst h3; exact ⟨h1, h2⟩
end
/-- blocks that are none of the boxes, and none of two rows. -/
def avt (B : Nat) (TA SA : Option Addr) (q : Nat) : Prop := B ≤ q ∧ (∀ ad, TA = some ad → q ≠ ad.block) ∧ ∀ ad, SA = some ad → q ≠ ad.block
theorem rowIn_lt {w : World} {Av : Nat → Prop} {A : Option Addr} {n : Nat} {xs : List Int} (h : Ints w w.heap.size A n xs) (ha : RowIn Av A n) : RowIn (fun q => Av q ∧ q < w.heap.size) A n := fun h0 ad e => ⟨ha h0 ad e, rowIn_ints h h0 ad e⟩
theorem rowIn_ltL {w : World} {Av : Nat → Prop} {A : Option Addr} {n c : Nat} {xs : List Line} (h : Lines w w.heap.size A n c xs) (ha : RowIn Av A n) : RowIn (fun q => Av q ∧ q < w.heap.size) A n := fun h0 ad e => ⟨ha h0 ad e, rowIn_lines h h0 ad e⟩
theorem rowIn_ltT {w : World} {Av : Nat → Prop} {A : Option Addr} {n c : Nat} {xs : List Tch} (h : Tchs w w.heap.size A n c xs) (ha : RowIn Av A n) : RowIn (fun q => Av q ∧ q < w.heap.size) A n := fun h0 ad e => ⟨ha h0 ad e, rowIn_tchs h h0 ad e⟩
theorem MachV.lt {w : World} {Av : Nat → Prop} {x : Mch} {M R L : Option Addr} {nm nr n c : Nat} (h : MachV w Av x M nm R nr L n c) : MachV w (fun q => Av q ∧ q < w.heap.size) x M nm R nr L n c := ⟨h.hm, h.hr, h.hl, rowIn_lt h.hm h.am, rowIn_lt h.hr h.ar, rowIn_ltL h.hl h.al⟩
theorem TldV.lt {w : World} {Av : Nat → Prop} {t : Tld} {D T : Option Addr} {dn tn tc : Nat} (h : TldV w Av t D dn T tn tc) : TldV w (fun q => Av q ∧ q < w.heap.size) t D dn T tn tc := ⟨h.hd, h.ht, rowIn_lt h.hd h.ad, rowIn_ltT h.ht h.at_⟩
/-- how memory stands while a script runs. -/
structure RunI (w : World) (x : Mch) (es : List Tle) (rs : List Int) (TA : Option Addr) (tn tc : Nat) (SA : Option Addr) (sn sc : Nat) (M : Option Addr) (nm mc : Nat) (R : Option Addr) (nr rc : Nat) (L : Option Addr) (n c : Nat) (W : World) : Prop where
  below : Below w.heap.size w W
  size : w.heap.size + 2 ≤ W.heap.size
  m : Whl W w.heap.size 33 (#[.slice M nm mc, .int .i64 x.h.at_, .slice R nr rc, .bool x.h.done, .int .i64 x.b.mode, .int .i64 x.b.base, .slice L n c, .int .i64 x.b.orders.page, .int .i64 x.b.orders.head, .int .i64 x.b.orders.tail, .bool x.b.stopped, .int .i64 x.b.fences, .int .i64 x.b.faults.page, .int .i64 x.b.faults.head, .int .i64 x.b.faults.tail, .bool x.b.lost])
  z : Whl W (w.heap.size + 1) 33 #[.slice none 0 0, .int .i64 0, .slice none 0 0, .bool false, .int .i64 0, .int .i64 0, .slice none 0 0, .int .i64 0, .int .i64 0, .int .i64 0, .bool false, .int .i64 0, .int .i64 0, .int .i64 0, .int .i64 0, .bool false]
  mv : MachV W (avt (w.heap.size + 2) TA SA) x M nm R nr L n c
  ot : OwnS (w.heap.size + 2) W TA tn tc es
  os : OwnE (w.heap.size + 2) W SA sn sc rs
  el : ∀ e ∈ es, TldV W (avt (w.heap.size + 2) TA SA) e.t e.D e.dn e.X e.tn e.tc
  ap : ∀ ad ad', TA = some ad → SA = some ad' → ad.block ≠ ad'.block
section
variable {w W W' : World} {x x' : Mch} {es : List Tle} {rs : List Int} {TA SA M R L M' R' L' : Option Addr} {tn tc sn sc nm mc nr rc n c nm' mc' nr' rc' n' c' : Nat}
theorem RunI.since (h : RunI w x es rs TA tn tc SA sn sc M nm mc R nr rc L n c W) (hs : Below W.heap.size W W') : RunI w x es rs TA tn tc SA sn sc M nm mc R nr rc L n c W' :=
  ⟨h.below.trans (hs.mono h.below.size), Nat.le_trans h.size hs.size, whl_since h.m hs, whl_since h.z hs, h.mv.since hs, h.ot.below hs, h.os.below hs, fun e he => (h.el e he).since hs, h.ap⟩
theorem RunI.store (h : RunI w x es rs TA tn tc SA sn sc M nm mc R nr rc L n c W) (hw : Whl W' w.heap.size 33 (#[.slice M' nm' mc', .int .i64 x'.h.at_, .slice R' nr' rc', .bool x'.h.done, .int .i64 x'.b.mode, .int .i64 x'.b.base, .slice L' n' c', .int .i64 x'.b.orders.page, .int .i64 x'.b.orders.head, .int .i64 x'.b.orders.tail, .bool x'.b.stopped, .int .i64 x'.b.fences, .int .i64 x'.b.faults.page, .int .i64 x'.b.faults.head, .int .i64 x'.b.faults.tail, .bool x'.b.lost])) (ht : Trn w.heap.size W W') (hv : MachV W (avt (w.heap.size + 2) TA SA) x' M' nm' R' nr' L' n' c') :
    RunI w x' es rs TA tn tc SA sn sc M' nm' mc' R' nr' rc' L' n' c' W' := by
  have hav : ∀ q, avt (w.heap.size + 2) TA SA q → q ≠ w.heap.size := fun q hq e => by have := hq.1; omega
  have ht' := (own_blk h.ot.2.2.2)
  have hs' := (own_blk h.os.2.2.2)
  exact ⟨below_trn h.below (by have := h.size; omega) ht (Nat.le_refl _), by rw [ht.2]; exact h.size, hw, whl_trn h.z ht (by omega), hv.trn ht (fun hq => hav _ hq rfl), h.ot.chg ht.1 (fun ad e hp => by have := (ht' ad e).1; omega), h.os.chg ht.1 (fun ad e hp => by have := (hs' ad e).1; omega), fun e he => (h.el e he).trn ht (fun hq => hav _ hq rfl), h.ap⟩
theorem RunI.told (h : RunI w x es rs TA tn tc SA sn sc M nm mc R nr rc L n c W) {g cap : Nat} {e : Tle} (hg : W.grownBy W' (Value.slice TA tn tc).ownBlock) (hown : W'.ownsRow (w.heap.size + 2) 41 4 (.slice (some ⟨g, 0, none⟩) (tn + 1) cap) (tn + 1) (elcells es ++ e.vals)) (hat : (Value.slice TA tn tc).ownBlock = some g ∨ g = W.heap.size) (he : TldV W (avt (w.heap.size + 2) TA SA) e.t e.D e.dn e.X e.tn e.tc) :
    RunI w x (es ++ [e]) rs (some ⟨g, 0, none⟩) (tn + 1) cap SA sn sc M nm mc R nr rc L n c W' := by
  have hC : Chg (fun q => (Value.slice TA tn tc).ownBlock = some q) W W' := chg_grown (chg_refl W) hg (fun k e => Or.inl e)
  have ht' := own_blk h.ot.2.2.2
  have hs' := own_blk h.os.2.2.2
  have hP : ∀ q, (Value.slice TA tn tc).ownBlock = some q → ∃ ad, TA = some ad ∧ ad.block = q := fun q e => slice_own e
  have hn : ∀ q, (Value.slice TA tn tc).ownBlock = some q → ¬ (avt (w.heap.size + 2) TA SA q ∧ q < W.heap.size) := fun q e hq => by
    obtain ⟨ad, h1, h2⟩ := hP q e
    exact hq.1.2.1 ad h1 h2.symm
  have hv : ∀ q, (avt (w.heap.size + 2) TA SA q ∧ q < W.heap.size) → avt (w.heap.size + 2) (some ⟨g, 0, none⟩) SA q := fun q hq => ⟨hq.1.1, fun ad e => by
    injection e with e; subst e
    rcases hat with h1 | h1
    · obtain ⟨ad, h2, h3⟩ := hP g h1
      intro hh
      exact hq.1.2.1 ad h2 (hh.trans h3.symm)
    · intro hh
      have := hq.2
      show False
      simp only [] at hh
      omega, hq.1.2.2⟩
  have hc := own_capc hown
  refine ⟨below_chg h.below (by have := h.size; omega) hC (fun q hq e => by obtain ⟨ad, h1, h2⟩ := hP q e; have := (ht' ad h1).1; omega), Nat.le_trans h.size hC.size, whl_chg h.m hC (fun e => by obtain ⟨ad, h1, h2⟩ := hP _ e; have := (ht' ad h1).1; omega), whl_chg h.z hC (fun e => by obtain ⟨ad, h1, h2⟩ := hP _ e; have := (ht' ad h1).1; omega),
    (h.mv.lt.chg hC hn).av hv, ⟨by rw [List.length_append, h.ot.1]; rfl, hc.1, hc.2, by rw [elcells_snoc]; exact hown⟩, h.os.chg hC (fun ad e hp => by obtain ⟨ad2, h1, h2⟩ := hP _ hp; exact h.ap ad2 ad h1 e h2), fun e' he' => ?_, fun ad ad' e1 e2 => ?_⟩
  · rw [List.mem_append] at he'
    rcases he' with he' | he'
    · exact ((h.el e' he').lt.chg hC hn).av hv
    · simp at he'; subst he'; exact (he.lt.chg hC hn).av hv
  · injection e1 with e1; subst e1
    rcases hat with h1 | h1
    · obtain ⟨ad2, h2, h3⟩ := hP g h1
      intro hh
      exact h.ap ad2 ad' h2 e2 (h3.trans hh)
    · intro hh
      have := (hs' ad' e2).2
      simp only [] at hh
      omega
theorem RunI.said (h : RunI w x es rs TA tn tc SA sn sc M nm mc R nr rc L n c W) {g cap : Nat} {v : Int} (hg : W.grownBy W' (Value.slice SA sn sc).ownBlock) (hown : W'.ownsRow (w.heap.size + 2) 37 1 (.slice (some ⟨g, 0, none⟩) (sn + 1) cap) (sn + 1) (rs.map (Value.int .i64) ++ [.int .i64 v])) (hat : (Value.slice SA sn sc).ownBlock = some g ∨ g = W.heap.size) :
    RunI w x es (rs ++ [v]) TA tn tc (some ⟨g, 0, none⟩) (sn + 1) cap M nm mc R nr rc L n c W' := by
  have hC : Chg (fun q => (Value.slice SA sn sc).ownBlock = some q) W W' := chg_grown (chg_refl W) hg (fun k e => Or.inl e)
  have ht' := own_blk h.ot.2.2.2
  have hs' := own_blk h.os.2.2.2
  have hP : ∀ q, (Value.slice SA sn sc).ownBlock = some q → ∃ ad, SA = some ad ∧ ad.block = q := fun q e => slice_own e
  have hn : ∀ q, (Value.slice SA sn sc).ownBlock = some q → ¬ (avt (w.heap.size + 2) TA SA q ∧ q < W.heap.size) := fun q e hq => by
    obtain ⟨ad, h1, h2⟩ := hP q e
    exact hq.1.2.2 ad h1 h2.symm
  have hv : ∀ q, (avt (w.heap.size + 2) TA SA q ∧ q < W.heap.size) → avt (w.heap.size + 2) TA (some ⟨g, 0, none⟩) q := fun q hq => ⟨hq.1.1, hq.1.2.1, fun ad e => by
    injection e with e; subst e
    rcases hat with h1 | h1
    · obtain ⟨ad, h2, h3⟩ := hP g h1
      intro hh
      exact hq.1.2.2 ad h2 (hh.trans h3.symm)
    · intro hh
      have := hq.2
      show False
      simp only [] at hh
      omega⟩
  have hc := own_capc hown
  refine ⟨below_chg h.below (by have := h.size; omega) hC (fun q hq e => by obtain ⟨ad, h1, h2⟩ := hP q e; have := (hs' ad h1).1; omega), Nat.le_trans h.size hC.size, whl_chg h.m hC (fun e => by obtain ⟨ad, h1, h2⟩ := hP _ e; have := (hs' ad h1).1; omega), whl_chg h.z hC (fun e => by obtain ⟨ad, h1, h2⟩ := hP _ e; have := (hs' ad h1).1; omega),
    (h.mv.lt.chg hC hn).av hv, h.ot.chg hC (fun ad e hp => by obtain ⟨ad2, h1, h2⟩ := hP _ hp; exact h.ap ad ad2 e h1 h2.symm), ⟨by rw [List.length_append, h.os.1]; rfl, hc.1, hc.2, by rw [List.map_append]; exact hown⟩, fun e' he' => ((h.el e' he').lt.chg hC hn).av hv, fun ad ad' e1 e2 => ?_⟩
  injection e2 with e2; subst e2
  rcases hat with h1 | h1
  · obtain ⟨ad2, h2, h3⟩ := hP g h1
    intro hh
    exact h.ap ad ad2 e1 h2 (hh.trans h3.symm)
  · intro hh
    have := (ht' ad e1).2
    simp only [] at hh
    omega
end
end Go.Proofs.Ytbopdijnojaaiad
