/- What a device writes it reads again: the plain law. No program in sight, no statement of the seat is proved here. -/
import Derived.Test.YtbopdijnojaaiacMachQ
namespace Go.Proofs.Ytbopdijnojaaiac
open Go.RowKit
set_option linter.unusedSimpArgs false
set_option linter.unusedVariables false

theorem want_len {a : Ask} {xs : List Int} {ts : List Tch} : ∀ m, (wantK a xs ts m).length = xs.length
  | 0 => rfl
  | m + 1 => by
    unfold wantK
    split
    · split
      · rw [List.length_set, want_len m]
      · exact want_len m
    · exact want_len m
/-- what is written lies there, where no two touch the same. -/
theorem want_rd {a : Ask} {xs : List Int} {ts : List Tch} {data : List Int} (hx : xs.length = 512) (h : Held a xs ts data) (hw : a.wr = true) (hd : ∀ (i j : Nat) (x y : Tch), ts[i]? = some x → ts[j]? = some y → x.at_ = y.at_ → i = j) :
    ∀ (m k : Nat) (x : Tch), m ≤ ts.length → k < m → ts[k]? = some x → rd (wantK a xs ts m) x.at_ = rd a.data k := by
  intro m
  induction m with
  | zero => intro k x _ hk; omega
  | succ m ih =>
    intro k x hm hk hkx
    obtain ⟨y, hy⟩ : ∃ y, ts[m]? = some y := ⟨_, List.getElem?_eq_getElem (by omega)⟩
    have hyr := h.tch m y hy
    have hxr := h.tch k x hkx
    unfold wantK
    rw [hy]
    simp only []
    rw [if_pos (by rw [hyr.2.2.1]; exact hw)]
    by_cases e : k = m
    · subst e
      rw [hkx] at hy
      injection hy with hy
      subst hy
      exact rd_self (by rw [want_len]; exact hx) hxr.2.2.2.1
    · rw [rd_set hyr.2.2.2.1.1 hxr.2.2.2.1.1 (fun e2 => e (hd k m x y hkx hy e2.symm))]
      exact ih k x (by omega) (by omega) hkx
theorem find_apart {d p : Int} {x : Line} : ∀ {ls : List Line}, Apart ls → x ∈ ls → hitL d p x = true → ls.find? (hitL d p) = some x
  | [], _, hx, _ => by cases hx
  | y :: ys, h, hx, hh => by
    rw [List.find?_cons]
    unfold Apart at h
    rw [List.pairwise_cons] at h
    have hdp : x.dev = d ∧ x.page = p := by simpa [hitL] using hh
    rcases List.mem_cons.1 hx with rfl | hx'
    · rw [hh]
    · have := h.1 x hx'
      rw [hdp.1, hdp.2] at this
      rw [this]
      exact find_apart h.2 hx' hh
/-- the bridge, as it stands behind some reads: what is remembered of the pages to come is what was. -/
structure Kept (c b : Brg) (d : Int) (q : Int) : Prop where
  ck : ckB b = 0
  but : b = { c with cache := b.cache }
  keep : ∀ p, q < p → ∀ x ∈ b.cache, hitL d p x = true → c.cache.find? (hitL d p) = some x
theorem Kept.start {c : Brg} {d q : Int} (h : ckB c = 0) : Kept c c d q :=
  ⟨h, rfl, fun p _ x hx hh => find_apart ((ckC_iff _).1 ((ckB_iff _).1 h).2.1).2.1 hx hh⟩
theorem Kept.thru {ns : List Int} {c b : Brg} {d q p : Int} {wr : Bool} (h : Kept c b d q) (hn : cm ns = 0) (hin : inD d p) (hq : q < p) : Kept c (thruM ns b d p wr).1 d p := by
  refine ⟨thru_ck (by unfold thruE; rw [if_pos (allE_0 hn h.ck), if_pos hin]), ?_, ?_⟩
  · rw [thru_but]
    have e := h.but
    generalize (thruM ns b d p wr).1.cache = ls at *
    rw [e]
  · intro r hr x hx hh
    have hb := h.keep r (by omega) x
    unfold thruM at hx
    split at hx
    · exact hb hx hh
    · split at hx
      · exact hb hx hh
      · split at hx
        · split at hx <;> exact hb hx hh
        · rename_i hf
          dsimp only at hx
          split at hx
          · rename_i h2
            obtain ⟨h3, h4, h5, _⟩ := fresh_line hin h2
            dsimp only at hx
            rw [fillL_0 (fillE_0 ((ckB_iff _).1 h.ck).2.1 h3 (by rw [h4, h5, find_find hf]; omega)), List.mem_append] at hx
            rcases hx with hx | hx
            · exact hb (List.mem_of_mem_drop hx) hh
            · rw [List.mem_singleton] at hx
              subst hx
              simp only [hitL, Bool.and_eq_true, beq_iff_eq] at hh
              omega
          · exact hb hx hh
/-- it comes to the same place still. -/
theorem Kept.goes {ns : List Int} {c b : Brg} {d q p y : Int} (h : Kept c b d q) (hq : q < p) (h1 : (thruM ns { c with cache := [] } d p false).2 = (y, 0)) (h2 : (thruM ns c d p false).2 = (y, 0)) : (thruM ns b d p false).2 = (y, 0) := by
  rw [h.but]
  have hk := h.keep p hq
  generalize b.cache = ls at hk
  unfold thruM at h1 h2 ⊢
  dsimp only at h1 h2 ⊢
  split at h1
  · rename_i h0; rw [if_pos h0]; exact h1
  · rename_i h0
    rw [if_neg h0] at h2 ⊢
    split at h1
    · rename_i h3; rw [if_pos h3]; exact h1
    · rename_i h3
      rw [if_neg h3] at h2 ⊢
      rw [List.find?_nil] at h1
      cases hf : ls.find? (hitL d p) with
      | none => simp only []; exact h1
      | some x =>
        rw [hk x (List.mem_of_find?_eq_some hf) (List.find?_some hf)] at h2
        exact h2
/-- the ask that reads. -/
def askBack (a : Ask) : Ask := ⟨a.dev, a.at_, a.count, false, []⟩
theorem back_ok {a : Ask} (h : reqE a = 0) : reqE (askBack a) = 0 := by
  obtain ⟨h1, h2, _, _⟩ := reqE_inv h
  exact reqE_ok h1 (by unfold reqR at h2 ⊢; exact h2) rfl rfl
/-- where the reads stand. -/
structure BackS (a : Ask) (ns : List Int) (c : Brg) (ts : List Tch) (i : Nat) (s : Dst) : Prop where
  mem : s.xs = ns
  kept : Kept c s.b a.dev s.page
  data : s.data = a.data.take i
  at_ : s.page ≠ -1 → ∀ (k : Nat) (x : Tch), ts[k]? = some x → x.seen / 8 = s.page → s.at_ = x.at_ / 8
  page : s.page ≤ dPage a i
theorem take_rd {l : List Int} {i : Nat} (h : i < l.length) : l.take i ++ [rd l i] = l.take (i + 1) := by
  rw [List.take_add_one, List.getElem?_eq_getElem h]
  unfold rd
  rw [show ((i : Nat) : Int).toNat = i by omega, List.getElem?_eq_getElem h]
  rfl
theorem BackS.word {a : Ask} {xs : List Int} {ns : List Int} {c : Brg} {ts : List Tch} {data : List Int} {i : Nat} {s : Dst} (ht : Held a xs ts data) (hl : (ts.length : Int) = a.count) (hd : (a.data.length : Int) = a.count) (hi : (i : Int) < a.count) (hr : ∀ (k : Nat) (x : Tch), ts[k]? = some x → rd ns x.at_ = rd a.data k) (h : BackS a ns c ts i s) (hp : dPage a i = s.page) (hp0 : 0 ≤ dPage a i) :
    BackS a ns c ts (i + 1) (dWord (askBack a) i s) := by
  obtain ⟨x, hx⟩ : ∃ x, ts[i]? = some x := ⟨_, List.getElem?_eq_getElem (by omega)⟩
  obtain ⟨_, h2, _, h4, _, h6⟩ := ht.tch i x hx
  refine ⟨h.mem, h.kept, ?_, h.at_, ?_⟩
  · show s.data ++ [rd s.xs (dAt (askBack a) i s)] = _
    have e : dAt (askBack a) i s = x.at_ := by
      show s.at_ * 8 + (a.at_ + i) % 8 = _
      rw [h.at_ (by omega) i x hx (by rw [h2]; exact hp)]
      omega
    rw [e, h.mem, hr i x hx, h.data]
    exact take_rd (by omega)
  · show s.page ≤ _
    have := h.page
    unfold dPage at *
    omega
theorem back_go {a : Ask} {xs : List Int} {ns : List Int} {c : Brg} {ts : List Tch} {data : List Int} (ha : reqE a = 0) (hn : cm ns = 0) (ht : Held a xs ts data) (hl : (ts.length : Int) = a.count) (hd : (a.data.length : Int) = a.count) (hr : ∀ (k : Nat) (x : Tch), ts[k]? = some x → rd ns x.at_ = rd a.data k)
    (h1 : ∀ (k : Nat) (x : Tch), ts[k]? = some x → (thruM ns { c with cache := [] } a.dev (x.seen / 8) false).2 = (x.at_ / 8, 0)) (h2 : ∀ (k : Nat) (x : Tch), ts[k]? = some x → (thruM ns c a.dev (x.seen / 8) false).2 = (x.at_ / 8, 0)) :
    ∀ (n i : Nat) (s : Dst), (i : Int) + n = a.count → BackS a ns c ts i s → (dGo (askBack a) n i s).2.2.done = true ∧ (dGo (askBack a) n i s).2.2.data = a.data := by
  intro n
  induction n with
  | zero =>
    intro i s hi h
    refine ⟨rfl, ?_⟩
    show s.data = _
    rw [h.data, List.take_of_length_le (by omega)]
  | succ n ih =>
    intro i s hi h
    have hin := d_in (a := a) (i := i) ha (by omega)
    unfold dGo
    by_cases hp : dPage a i = s.page
    · rw [if_pos (show dPage (askBack a) i = s.page from hp)]
      exact ih (i + 1) _ (by omega) (h.word ht hl hd (by omega) hr hp hin.2)
    · rw [if_neg (show ¬ dPage (askBack a) i = s.page from hp)]
      obtain ⟨x, hx⟩ : ∃ x, ts[i]? = some x := ⟨_, List.getElem?_eq_getElem (by omega)⟩
      obtain ⟨_, h3, _, h4, _, h6⟩ := ht.tch i x hx
      have hlt : s.page < dPage a i := by have := h.page; omega
      have hpx : x.seen / 8 = dPage a i := by rw [h3]; rfl
      have e : (dThru (askBack a) i s).2 = (x.at_ / 8, 0) := by
        show (thruM s.xs s.b a.dev (dPage a i) false).2 = _
        rw [h.mem, ← hpx]
        exact h.kept.goes (by rw [hpx]; exact hlt) (h1 i x hx) (h2 i x hx)
      rw [if_pos (by rw [e])]
      refine ih (i + 1) _ (by omega) (BackS.word ht hl hd (by omega) hr ⟨h.mem, ?_, h.data, ?_, Int.le_refl _⟩ rfl hin.2)
      · show Kept c (thruM s.xs s.b a.dev (dPage a i) false).1 a.dev (dPage a i)
        rw [h.mem]
        exact h.kept.thru hn hin.1 hlt
      · intro _ k y hy hyp
        have hyp' : y.seen / 8 = dPage a i := hyp
        show (dThru (askBack a) i s).2.1 = _
        rw [e]
        have q1 := h2 k y hy
        have q2 := h2 i x hx
        rw [hyp'] at q1
        rw [hpx, q1] at q2
        exact (congrArg Prod.fst q2).symm
/-- what a device writes it reads again. -/
theorem dma_back {xs : List Int} {b : Brg} {a : Ask} (h : dmaE xs b a = 0) (hw : a.wr = true) (hdn : (dmaM xs b a).2.2.done = true)
    (hd : ∀ (i j : Nat) (x y : Tch), (dmaM xs b a).2.2.touched[i]? = some x → (dmaM xs b a).2.2.touched[j]? = some y → x.at_ = y.at_ → i = j) :
    (∀ (k : Nat) (x : Tch), (dmaM xs b a).2.2.touched[k]? = some x → rd (dmaM xs b a).1 x.at_ = rd a.data k) ∧
    ((∀ (k : Nat) (x : Tch), (dmaM xs b a).2.2.touched[k]? = some x → (thruM (dmaM xs b a).1 { (dmaM xs b a).2.1 with cache := [] } a.dev (x.seen / 8) false).2 = (x.at_ / 8, 0) ∧ (thruM (dmaM xs b a).1 (dmaM xs b a).2.1 a.dev (x.seen / 8) false).2 = (x.at_ / 8, 0)) →
      dmaE (dmaM xs b a).1 (dmaM xs b a).2.1 (askBack a) = 0 ∧ (dmaM (dmaM xs b a).1 (dmaM xs b a).2.1 (askBack a)).2.2.done = true ∧ (dmaM (dmaM xs b a).1 (dmaM xs b a).2.1 (askBack a)).2.2.data = a.data) := by
  obtain ⟨h1, h2, h3⟩ := dmaE_inv h
  have H := dma_held h
  generalize dmaM xs b a = r at *
  obtain ⟨ns, c, t⟩ := r
  simp only [] at *
  have hf := H.don.1 hdn
  have hl := H.all.1 hdn
  simp only [] at hf hl
  have hm : ns = wantK a xs t.touched t.touched.length := by
    rcases H.mem with e | ⟨e, _⟩
    · exact e
    · exact absurd hf e
  obtain ⟨a1, a2, a3, a4⟩ := reqE_inv h3
  have hdl : (a.data.length : Int) = a.count := by rw [a3]; unfold reqN; rw [if_pos hw]
  have hr : ∀ (k : Nat) (x : Tch), t.touched[k]? = some x → rd ns x.at_ = rd a.data k := by
    intro k x hx
    have hk := (List.getElem?_eq_some_iff.1 hx).1
    rw [hm]
    exact want_rd (cm_inv h1).1 H.held hw hd _ k x (Nat.le_refl _) hk hx
  refine ⟨hr, fun hq => ⟨?_, ?_⟩⟩
  · unfold dmaE; rw [if_pos H.ck.1, if_pos H.ck.2]; exact back_ok h3
  · have hc : (0 : Int) ≤ a.count := by omega
    refine back_go h3 H.ck.1 H.held hl hdl hr (fun k x hx => (hq k x hx).1) (fun k x hx => (hq k x hx).2) _ _ _ (show ((0 : Nat) : Int) + ((askBack a).count.toNat : Nat) = a.count by show ((0 : Nat) : Int) + (a.count.toNat : Nat) = a.count; omega) ⟨rfl, Kept.start H.ck.2, by simp, fun e => absurd rfl e, ?_⟩
    show (-1 : Int) ≤ (a.at_ + ((0 : Nat) : Int)) / 8
    unfold reqR at a2
    omega
end Go.Proofs.Ytbopdijnojaaiac
