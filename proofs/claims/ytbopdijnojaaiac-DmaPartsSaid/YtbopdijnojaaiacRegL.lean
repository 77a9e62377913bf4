/- Steps of regions that draw their order, where what must hold hangs on what has come up; appends. No statement of the seat is proved here. -/
import Derived.Test.YtbopdijnojaaiacRegW
import Derived.Deep.AppendLies
import Derived.Laws.OwnMore
import Derived.StillTail
namespace Go.Proofs.Ytbopdijnojaaiac
open Go.RowKit
set_option linter.unusedSimpArgs false
set_option linter.unusedVariables false
section
variable {P : Program} {md : Region.Mode} {ops : Array Oper} {Q : Exit → Act → World → Prop} {S : Array Bool → World → Prop}
/-- whatever order is picked, S of what has come up holds behind each operation. -/
def anyL (P : Program) (md : Region.Mode) (ops : Array Oper) (Q : Exit → Act → World → Prop) (S : Array Bool → World → Prop) : Nat → Array Bool → Act → World → Prop
  | 0, l, a, w => Region.ready md ops l = [] ∧ Q .normal a w
  | k + 1, l, a, w => (Region.ready md ops l = [] → Q .normal a w) ∧ ∀ i ∈ Region.ready md ops l, wpOp P ops Q i (fun a' w' => S (l.setIfInBounds i true) w' ∧ anyL P md ops Q S k (l.setIfInBounds i true) a' w') a w
theorem any_of_L : ∀ (k : Nat) (l : Array Bool) (a : Act) (w : World), anyL P md ops Q S k l a w → wpAny P md ops Q k l a w
  | 0, _, _, _, h => h
  | k + 1, _, _, _, h => ⟨h.1, fun i hi => wpOp_mono (fun a' w' h' => any_of_L k _ a' w' h'.2) (h.2 i hi)⟩
theorem region_L {id : Nat} {a : Act} {w : World} (hm : P.follows .mixedOrders = true) (h : anyL P .any ops Q S ops.size (Array.replicate ops.size false) a w.drew) : (Code.region id ops true).wp P Q a w :=
  wp_region_any hm (any_of_L _ _ _ _ h)
/-- operation i, for which k waits, is taken first: in all worlds that can be till k comes it yields v. -/
theorem firstL {i k : Nat} {oi : Oper} {v : Value} {Y : World → Prop} (hi : ops[i]? = some oi) (hsel : ∀ (j : Nat) (o : Oper) cs b, ops[j]? = some o → o.op ≠ .select cs b) (hk : Region.waitsFor md ops k i = true) (hik : i ≠ k)
    (hY : ∀ l w, S l w → l.getD k false = false → Y w) (hI : ∀ l w, S (l.setIfInBounds i true) w → S l w) (hQ : ∀ c a w, Q (.panic c) (a.put oi.dst v) w → Q (.panic c) a w) :
    ∀ (f : Nat) (l : Array Bool) (a : Act) (w : World), (∀ j oj, ops[j]? = some oj → j ≠ i → l.getD j true = false → (∀ e ∈ oj.after, Region.binds md e = true → e.on ≠ i) → oi.apart ops oj = true) →
      i ∈ Region.ready md ops l → YieldsIf P ops Y oi v a → Y w → S (l.setIfInBounds i true) w → l.getD k false = false → anyL P md ops Q S f (l.setIfInBounds i true) (a.put oi.dst v) w → anyL P md ops Q S (f + 1) l a w := by
  intro f
  induction f with
  | zero =>
    intro l a w _ hr hy hw hS _ H
    refine ⟨fun h => (by rw [h] at hr; cases hr), fun j hj => ?_⟩
    by_cases e : j = i
    · subst e; exact hy.wpOp hi hw ⟨hS, H⟩
    · exact absurd (ready_mono hj e) (by rw [H.1]; intro h; cases h)
  | succ f ih =>
    intro l a w hf hr hy hw hS hl H
    refine ⟨fun h => (by rw [h] at hr; cases hr), fun j hj => ?_⟩
    by_cases e : j = i
    · subst e; exact hy.wpOp hi hw ⟨hS, H⟩
    · obtain ⟨hju, oj, hoj, hall⟩ := mem_ready.1 hj
      have hno : ∀ e ∈ oj.after, Region.binds md e = true → e.on ≠ i := fun e he hb heq => by
        have h1 := hall e he hb
        have h0 := (mem_ready.1 hr).1
        rw [heq] at h1
        rcases Nat.lt_or_ge i l.size with h' | h'
        · simp [h'] at h0 h1; rw [h0] at h1; cases h1
        · simp [Array.getElem?_eq_none h'] at h1
      have hjk : j ≠ k := fun e2 => by
        subst e2
        obtain ⟨ok, hok, e3, he3, hb3, ho3⟩ := Region.waitsFor_spec hk
        rw [hoj] at hok
        injection hok with hok
        subst hok
        exact hno e3 he3 hb3 ho3
      have h2 := wpOp_putIf hoj (hf j oj hoj e hju hno) (fun cs b => hsel i oi cs b hi) (fun cs b => hsel j oj cs b hoj) hQ hy (H.2 j (ready_mono hj e))
      refine wpOp_mono (fun a' w' h3 => ?_) h2
      obtain ⟨h3, h4, h5⟩ := h3
      rw [← Array.setIfInBounds_comm _ _ e] at h4 h5
      have h6 := hI _ _ h4
      have h7 : (l.setIfInBounds j true).getD k false = false := by rw [getD_set_ne false hjk]; exact hl
      refine ⟨h6, ih (l.setIfInBounds j true) a' w' (fun q oq hq hqi hun hnq => hf q oq hq hqi ?_ hnq) (ready_mono hr (Ne.symm e)) h3 (hY _ _ h6 h7) h4 h7 h5⟩
      by_cases hjq : j = q
      · subst hjq; exact hju
      · rw [getD_set_ne true hjq] at hun; exact hun
theorem takeL {i k : Nat} {d : Tmp} {oi : Oper} {v : Value} {Y : World → Prop} {f : Nat} {l : Array Bool} {a : Act} {w : World} (hi : ops[i]? = some oi) (hd : oi.dst = some d) (hs : Region.noSelect ops = true) (hf : Region.free md ops l i = true) (hr : (Region.ready md ops l).contains i = true) (hk : Region.waitsFor md ops k i = true) (hik : i ≠ k)
    (hY : ∀ l w, S l w → l.getD k false = false → Y w) (hI : ∀ l w, S (l.setIfInBounds i true) w → S l w) (hQ : ∀ c a w, Q (.panic c) (a.put oi.dst v) w → Q (.panic c) a w) (hy : YieldsIf P ops Y oi v a) (hw : Y w) (hS : S (l.setIfInBounds i true) w) (hl : l.getD k false = false)
    (h : anyL P md ops Q S f (l.setIfInBounds i true) (a.put (some d) v) w) : anyL P md ops Q S (f + 1) l a w := by
  rw [← hd] at h
  exact firstL hi (Region.noSelect_spec hs) hk hik hY hI hQ f l a w (Region.free_spec hi hf) (by simpa using hr) hy hw hS hl h
/-- one alone may come up. -/
theorem oneL {i : Nat} {o : Oper} {f : Nat} {l : Array Bool} {a : Act} {w : World} (hr : Region.ready md ops l = [i]) (ho : ops[i]? = some o) (hg : o.guard = none)
    (h : ∀ K : Act → World → Prop, Shut (∀ a' w', S (l.setIfInBounds i true) w' → anyL P md ops Q S f (l.setIfInBounds i true) a' w' → K a' w') → o.wp P a w K Q) : anyL P md ops Q S (f + 1) l a w := by
  refine ⟨fun e => (by rw [hr] at e; cases e), fun j hj => ?_⟩
  rw [hr] at hj
  obtain rfl : j = i := by simpa using hj
  refine wpOp_step ho (fun K' hK => ?_)
  rw [if_pos (by simp [Region.wanted, hg])]
  exact h K' (fun a' w' h1 h2 => hK a' w' ⟨h1, h2⟩)
theorem doneL {l : Array Bool} {a : Act} {w : World} (hr : Region.ready md ops l = []) (h : Q .normal a w) : ∀ f, anyL P md ops Q S f l a w
  | 0 => ⟨hr, h⟩
  | _ + 1 => ⟨fun _ => h, by rw [hr]; simp⟩
end
theorem run_append_noneP {P : Program} (w : World) (base : Nat) (t ty e : TypeId) (i : TypeInfo) (size : Nat) (ht : P.underlying t = some (.slice e)) (hi : P.info? e = some i) (v : Value) (n : Nat) (xs : List Value) (hown : w.ownsRow base e size v n xs) (c : Nat) :
    (Builtin.append_ #[t, t] ty #[v, .slice none 0 c]).run P w = .ok v w := by
  rcases hown.2 with ⟨rfl, rfl⟩ | ⟨g, cap, cur, rfl, _, _, hnc, _⟩
  · simp [Builtin.append_, run_underlying ht, sizeOf, typeInfo, hi, Builtin.lenOf, Builtin.firstCells]
  · simp [Builtin.append_, run_underlying ht, sizeOf, typeInfo, hi, Builtin.lenOf, Builtin.firstCells, hnc, storeCells]
theorem row_noneP {w : World} {B : Nat} {A : Option Addr} {xs : List Value} (h : Row w B A xs) (e : A = none) : xs.length = 0 := by
  rcases Nat.eq_zero_or_pos xs.length with h0 | h0
  · exact h0
  · obtain ⟨b, off, e', _⟩ := h h0
    rw [e] at e'; cases e'
theorem row_cellsP {w : World} {B : Nat} {A : Option Addr} {vs : List Value} (h : Row w B A vs) : ∀ ad, A = some ad → ∀ j u, vs[j]? = some u → w.cell? (ad.add j) = some u := by
  intro ad e j u hu
  obtain ⟨b, off, e', _, hc⟩ := h (by have := (List.getElem?_eq_some_iff.1 hu).1; omega)
  rw [e] at e'
  injection e' with e'
  subst e'
  rw [add_at]
  exact hc j u hu
theorem ints_oneP (xs : List Int) : ∀ u ∈ xs.map (Value.int .i64), u.oneCell' = true := by
  intro u hu
  obtain ⟨a, _, rfl⟩ := List.mem_map.1 hu
  rfl
theorem chg_stepP {P P' : Nat → Prop} {w W W' : World} (h : Chg P w W) (h' : Chg P' W W') (hp : ∀ q, q < w.heap.size → P' q → P q) : Chg P w W' :=
  ⟨h.1.trans h'.1, fun q hq hn => (h'.2 q (Nat.lt_of_lt_of_le hq h.size) (fun e => hn (hp q hq e))).trans (h.2 q hq hn)⟩
/-- what an append of a slice leaves, and where the new one lies. -/
theorem wp_appendR {P : Program} {o : Oper} {a : Act} {w : World} {K : Act → World → Prop} {Q : Exit → Act → World → Prop} (s x : Operand) (t : TypeId) (ho : o.op = .call { callee := .builtin .append, args := #[s, x], argTypes := #[t, t] })
    (base : Nat) (e : TypeId) (i : TypeInfo) (z : Value) (size bytes : Nat) (ht : P.underlying t = some (.slice e)) (hi : P.info? e = some i) (hz : i.zero = some z) (hsize : i.size = size) (hby : i.bytes = bytes) (hzs : z.cells.size = size) (hsz : 0 < size)
    (A : Option Addr) (n c : Nat) (xs : List Value) (hs : a.eval s = .slice A n c) (hown : w.ownsRow base e size (.slice A n c) n xs) (ao : Option Addr) (m c2 : Nat) (news : List Value) (hx : a.eval x = .slice ao m c2) (hl : news.length = m * size) (hnone : ao = none → m = 0)
    (hc : ∀ ad, ao = some ad → ∀ j u, news[j]? = some u → w.cell? (ad.add j) = some u) (h1 : ∀ u ∈ news, u.oneCell' = true) (h63 : n + m ≤ maxLen) (hbytes : (n + m) * bytes ≤ 140737488355328) (hbase : base ≤ w.heap.size) (d : Tmp) (hd : o.dst = some d)
    (h : ∀ A' c' w', w'.ownsRow base e size (.slice A' (n + m) c') (n + m) (xs ++ news) → w.grownBy w' (Value.slice A n c).ownBlock → (∀ ad, A' = some ad → (Value.slice A n c).ownBlock = some ad.block ∨ ad.block = w.heap.size) → K (a.put (some d) (.slice A' (n + m) c')) w') : o.wp P a w K Q := by
  rw [← hd] at h
  cases ao with
  | some ad =>
    obtain ⟨v', w', hr, h2, h3, _, h5⟩ := run_append_own_at (P := P) w base t o.type e i z size bytes ht hi hz hsize hby hzs hsz _ n xs hown ad m c2 news hl (hc ad rfl) h1 h63 hbytes hbase
    have hv : ∃ A' c', v' = .slice A' (n + m) c' := by
      rcases own_form h2 with ⟨e1, e2⟩ | ⟨g, cap, e1, _⟩
      · exact ⟨none, 0, by rw [e1, e2]⟩
      · exact ⟨_, cap, e1⟩
    obtain ⟨A', c', rfl⟩ := hv
    unfold Oper.wp execOp
    simp only [ho, resolve, invoke, builtin, Sem.run_bind, Sem.run_pure, Result.andThen_ok, List.map_toArray, List.map_cons, List.map_nil, hs, hx, hr]
    refine h A' c' w' h2 h3 (fun ad' e' => ?_)
    subst e'
    rcases h5 with h5 | h5
    · exact Or.inl (h5.symm.trans rfl)
    · exact Or.inr (by simpa [Value.ownBlock] using h5)
  | none =>
    obtain rfl := hnone rfl
    have hnews : news = [] := List.eq_nil_of_length_eq_zero (by simpa using hl)
    subst hnews
    have hr := run_append_noneP (P := P) w base t o.type e i size ht hi _ n xs hown c2
    unfold Oper.wp execOp
    simp only [ho, resolve, invoke, builtin, Sem.run_bind, Sem.run_pure, Result.andThen_ok, List.map_toArray, List.map_cons, List.map_nil, hs, hx, hr]
    exact h A c w (by simpa using hown) (World.grownBy.refl _ _) (fun ad e' => Or.inl (by subst e'; rfl))
/-- one cell is stored into a whole block. -/
theorem wp_cellR {P : Program} {o : Oper} {a : Act} {w : World} {K : Act → World → Prop} {Q : Exit → Act → World → Prop} (ty : TypeId) (x y : Operand) (ho : o.op = .store ty x y) (g k : Nat) (t : TypeId) (old : Array Value) (v : Value) (hx : a.eval x = .pointer (some ⟨g, k, none⟩)) (hy : a.eval y = v) (hg : Whl w g t old)
    (hi : (P.info? ty).map (·.size) = some 1) (hk : k < old.size) (h1 : v.oneCell' = true) (hd : o.dst = none) (h : ∀ w', Whl w' g t (old.setIfInBounds k v) → Trn g w w' → K a w') : Oper.wp P o a w K Q := by
  have hc : v.cells = #[v] := by cases v <;> first | rfl | cases h1
  have hr : (storeVar ty ⟨g, k, none⟩ v).run P w = .ok () (w.setCell ⟨g, k, none⟩ v) := by
    have := run_storeCells_cells (P := P) g k [v] 0 w (fun j hj => by
        have e : j = 0 := by simpa using hj
        subst e; rw [whl_cell hg]; simp; omega)
      (fun j hj => whl_frozen hg _) (fun u hu => by simp at hu; subst hu; exact h1)
    cases hq : P.info? ty with
    | none => simp [hq] at hi
    | some i =>
      have hs : i.size = 1 := by simpa [hq] using hi
      simp only [Nat.add_zero, World.setCells] at this
      simp [storeVar, sizeOf, typeInfo, hq, hc, hs, this]
  unfold Oper.wp execOp
  simp only [ho, hx, hy, Instr.storeAt, Instr.sureAddr, Sem.run_bind, Sem.run_pure, Result.andThen_ok, hr]
  rw [Oper.upon_skip, hd]
  exact h _ (whl_field hg k v _ rfl) (trn_set (whl_lt hg) k v)
end Go.Proofs.Ytbopdijnojaaiac
