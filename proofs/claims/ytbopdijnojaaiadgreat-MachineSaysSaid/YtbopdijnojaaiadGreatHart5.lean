/- The hart: what an instruction leaves in memory (laws), for the walk of does. No statement of the seat is proved here. -/
import Derived.Test.YtbopdijnojaaiadGreatZz
import Derived.Test.YtbopdijnojaaiadGreatHart3
import Derived.Test.YtbopdijnojaaiadGreatBridgeS
import Derived.Test.YtbopdijnojaaiadGreatRefC
import Derived.Test.YtbopdijnojaaiadGreatMem
namespace Go.Proofs.YtbopdijnojaaiadGreat
set_option maxRecDepth 100000
set_option maxHeartbeats 4000000
open Go.RowKit
set_option linter.unusedSimpArgs false
set_option linter.unusedVariables false
section
open Go.Maps
theorem Xoo {w : World} {g : Nat} {b : Brg} {A : Option Addr} {n c : Nat} (h : Xa8 w g b A n c) (v : Int) : Xa8 (w.setCell ⟨g, 0, none⟩ (.int .i64 v)) g { b with mode := v } A n c := by
 exact z127
theorem Xon {w : World} {g : Nat} {b : Brg} {A : Option Addr} {n c : Nat} (h : Xa8 w g b A n c) (v : Int) : Xa8 (w.setCell ⟨g, 1, none⟩ (.int .i64 v)) g { b with base := v } A n c := by
 exact z127
theorem Xom {w : World} {g : Nat} {b : Brg} {A : Option Addr} {n c : Nat} (h : Xa8 w g b A n c) (v : Int) : Xa8 (w.setCell ⟨g, 3, none⟩ (.int .i64 v)) g { b with orders := ⟨v, b.orders.head, b.orders.tail⟩ } A n c := by
 exact z127
theorem Xol {w : World} {g : Nat} {b : Brg} {A : Option Addr} {n c : Nat} (h : Xa8 w g b A n c) (v : Int) : Xa8 (w.setCell ⟨g, 5, none⟩ (.int .i64 v)) g { b with orders := ⟨b.orders.page, b.orders.head, v⟩ } A n c := by
 exact z127
theorem Xok {w : World} {g : Nat} {b : Brg} {A : Option Addr} {n c : Nat} (h : Xa8 w g b A n c) (v : Int) : Xa8 (w.setCell ⟨g, 8, none⟩ (.int .i64 v)) g { b with faults := ⟨v, b.faults.head, b.faults.tail⟩ } A n c := by
 exact z127
theorem Xoj {w : World} {g : Nat} {b : Brg} {A : Option Addr} {n c : Nat} (h : Xa8 w g b A n c) (v : Int) : Xa8 (w.setCell ⟨g, 9, none⟩ (.int .i64 v)) g { b with faults := ⟨b.faults.page, v, b.faults.tail⟩ } A n c := by
 exact z127
theorem Xp3 {w : World} {g : Nat} {b : Brg} {A : Option Addr} {n c : Nat} (h : Xa8 w g b A n c) : Xa8 ((w.setCell ⟨g, 6, none⟩ (.bool false)).setCell ⟨g, 11, none⟩ (.bool false)) g { b with stopped := false, lost := false } A n c := by
 exact z127
theorem Xdc {g : Nat} {w w1 : World} (h : Only g w w1) (hg : g < w.heap.size) (o : Nat) (u : Value) : Only g w (w1.setCell ⟨g, o, none⟩ u) :=
  ⟨h.1.setCell (Nat.le_refl _) _, by have := h.2.1; simpa using this, fun q j hq hl => by
    rw [World.cell?_setCell_other _ _ _ _ (by intro e; exact hq (by have := congrArg Addr.block e; simp at this; omega))]; exact h.2.2.1 q j hq hl, fun q j hl => by
    rw [World.frozen?_setCell]; exact h.2.2.2 q j hl⟩
theorem Xc5 {g : Nat} {w w1 w2 : World} (h : Only g w w1) (hg : g < w.heap.size) (hs : Xam w1 w2) : Only g w w2 :=
  ⟨Below.trans h.1 (Below.mono hs (by have := h.2.1; omega)), Nat.le_trans h.2.1 hs.size, fun q j hq hl => (Below.cell (p := ⟨q, j, none⟩) hs (Nat.lt_of_lt_of_le hl h.2.1)).trans (h.2.2.1 q j hq hl), fun q j hl => (Below.frozen (p := ⟨q, j, none⟩) hs (Nat.lt_of_lt_of_le hl h.2.1)).trans (h.2.2.2 q j hl)⟩
def OutC (g : Nat) (A : Option Addr) (n c : Nat) (w : World) (r : Brg × Bool) (e : Ending) (w' : World) : Prop :=
  e = .returned (.bool r.2) ∧ Xa8 w' g r.1 A n c ∧ Lines w' w'.heap.size A n c r.1.cache ∧ Only g w w'
theorem Xrl (b : Brg) (A : Option Addr) (n c g : Nat) (v : Int) (w : World) (hb : Xa8 w g b A n c) (hfz : ∀ o, w.frozen? ⟨g, o, none⟩ = false) (hl : Lines w w.heap.size A n c b.cache) (hoff : ∀ ad, A = some ad → ad.block ≠ g) :
    Calls Tryz.prog 68 #[.pointer (some ⟨g, 0, none⟩), .int .i64 9, .int .i64 v] w (OutC g A n c w (Xa0 b 9 v)) := by
 have HB := Zh hb
 have HL := Zh hl
 have HO := Zh hoff
 have hg := Xcw hb
 obtain ⟨_, _, _, _, _, _, b6, _, _, _, _, b11⟩ := hb
 have HS := Zh (Xan w)
 have t9 : ((9 : Int) == 9) = true := by decide
 unfold OutC
 clear hl hoff
 by_cases hv : v = 0
 · have tv : (v == 0) = true := by rw [beq_iff_eq]; exact hv
   rw [show Xa0 b 9 v = ({ b with stopped := false, lost := false }, true) by unfold Xa0; rw [if_pos rfl, if_pos hv]]
   clear hv
   go_enter Tryz.func68, Tryz.ntmps68
   go_wp2
   go_ret
   exact ⟨rfl, Xp3 HB.out, (Xbs (Xbs HL.out HO.out _) (p := ⟨g, _, none⟩) HO.out _).more (by simp), Xdc (Xcl hg HS.out _) hg _ _⟩
 · have tv : (v == 0) = false := by rw [beq_eq_false_iff_ne]; exact hv
   rw [show Xa0 b 9 v = (b, false) by unfold Xa0; rw [if_pos rfl, if_neg hv]]
   clear hv
   go_enter Tryz.func68, Tryz.ntmps68
   go_wp2
   go_ret
   exact ⟨rfl, HB.out, HL.out, Xd4 hg HS.out⟩
theorem Xac {P : Program} {ops : Array Oper} {Q : Exit → Act → World → Prop} {md : Region.Mode} {S : World → Prop} {i : Nat} {d : Tmp} {oi : Oper} {v : Value} {fuel : Nat} {listed : Array Bool} {a : Act} {w : World} (hi : ops[i]? = some oi) (hd : oi.dst = some d)
    (hs : Region.noSelect ops = true) (hf : Region.free md ops listed i = true) (hr : (Region.ready md ops listed).contains i = true)
    (hQ : ∀ c a w, Q (.panic c) (a.put oi.dst v) w → Q (.panic c) a w) (hy : YieldsIf P ops S oi v a) (hS : S w)
    (h : wpAnyH P md ops Q S fuel (listed.setIfInBounds i true) (a.put (some d) v) w) : wpAnyH P md ops Q S (fuel + 1) listed a w := by
 rw [← hd] at h
 exact wpAnyH_take hi hs hf hr hQ hy hS h
theorem Xca {P : Program} (w : World) {o : Oper} {a : Act} {K : Act → World → Prop} {Q : Exit → Act → World → Prop}
    (m x : Operand) (t : TypeId) (hop : o.op = Op.lookup t m x false)
    (k e : TypeId) (K' : Keyed P k) (ht : P.underlying t = some (.map k e)) {z : Value} (hz : (zeroValue e).run P w = .ok z w) (b n : Nat) (D : DataW Value)
    (hm : a.eval m = .map (some b)) (hown : w.ownsMap P k Xdi b n D) (key : Value) (kl : Lit) (hx : a.eval x = key) (hkey : keyOf P k key = some kl) (f : Value) (hD : D.atKey kl (.held z) = .held f)
    {d : Tmp} (hd : o.dst = some d) (hK : K (a.put (some d) f) w) : Oper.wp P o a w K Q := by
 obtain ⟨v, ps, hrun, hv⟩ := hown.lookup K' ht hz (zd := .held z) (zp := []) rfl hkey
 unfold Xdi at hv
 rw [hD] at hv
 simp only [Option.some.injEq, Prod.mk.injEq, DataW.held.injEq] at hv
 rw [hv.1] at hrun
 unfold Oper.wp
 simp [execOp, hop, hm, hx, hrun, Result.andThen]
 rw [← hd] at hK
 exact hK
theorem Xt4 (b : Brg) (A : Option Addr) (n c g : Nat) (k v : Int) (w : World) (hb : Xa8 w g b A n c) (hfz : ∀ o, w.frozen? ⟨g, o, none⟩ = false) (hl : Lines w w.heap.size A n c b.cache) (hoff : ∀ ad, A = some ad → ad.block ≠ g) (hw : (Lit.int .i64 k).wf = true) (hk : Xo4 k = false) (hk9 : k ≠ 9) :
    Calls Tryz.prog 68 #[.pointer (some ⟨g, 0, none⟩), .int .i64 k, .int .i64 v] w (OutC g A n c w (Xa0 b k v)) := by
 have HB := Zh hb
 have HL := Zh hl
 have HO := Zh hoff
 have HF := Zh hfz
 have hg := Xcw hb
 have HS := Zh (Xan w)
 have HW := Zh hw
 have hmm := @run_makeMap Tryz.prog
 have t9 : (k == 9) = false := by rw [beq_eq_false_iff_ne]; exact hk9
 have hp : ptrV g k = .pointer none := by
   unfold Xo4 at hk
   simp at hk
   unfold ptrV
   simp [hk]
 rw [show Xa0 b k v = (b, false) by unfold Xa0; rw [if_neg hk9, hk]; simp]
 have HP := Zh hp
 unfold OutC
 clear hb hl hoff hw hk hk9 hfz hp
 go_enter Tryz.func68, Tryz.ntmps68
 go_upto_region 5 with (fail)
 go_cut [7] (fun s7 wd => s7 = ptrV g k ∧ Hid (Xam w wd))
 case first =>
   refine wp_region_held_drew (S := fun _ => True) y1 trivial (fun hTT => ?_)
   (refine Xac (i := 1) (d := 22) (v := ?_) rfl rfl y1 y1 y1 (fun _ _ _ h => h) (Or.inl ⟨by rfl, ?_⟩) trivial ?_; rotate_left; (· (intro w hSw; go_simp; (try with_reducible rfl))); (try simp only [Act.put, List.setIfInBounds_toArray, List.set_cons_zero, List.set_cons_succ]))
   (refine Xac (i := 2) (d := 23) (v := ?_) rfl rfl y1 y1 y1 (fun _ _ _ h => h) (Or.inl ⟨by rfl, ?_⟩) trivial ?_; rotate_left; (· (intro w hSw; go_simp; (try with_reducible rfl))); (try simp only [Act.put, List.setIfInBounds_toArray, List.set_cons_zero, List.set_cons_succ]))
   (refine Xac (i := 3) (d := 24) (v := ?_) rfl rfl y1 y1 y1 (fun _ _ _ h => h) (Or.inl ⟨by rfl, ?_⟩) trivial ?_; rotate_left; (· (intro w hSw; go_simp; (try with_reducible rfl))); (try simp only [Act.put, List.setIfInBounds_toArray, List.set_cons_zero, List.set_cons_succ]))
   (refine Xac (i := 5) (d := 25) (v := ?_) rfl rfl y1 y1 y1 (fun _ _ _ h => h) (Or.inl ⟨by rfl, ?_⟩) trivial ?_; rotate_left; (· (intro w hSw; go_simp; (try with_reducible rfl))); (try simp only [Act.put, List.setIfInBounds_toArray, List.set_cons_zero, List.set_cons_succ]))
   (refine Xac (i := 6) (d := 26) (v := ?_) rfl rfl y1 y1 y1 (fun _ _ _ h => h) (Or.inl ⟨by rfl, ?_⟩) trivial ?_; rotate_left; (· (intro w hSw; go_simp; (try with_reducible rfl))); (try simp only [Act.put, List.setIfInBounds_toArray, List.set_cons_zero, List.set_cons_succ]))
   (refine Xac (i := 7) (d := 27) (v := ?_) rfl rfl y1 y1 y1 (fun _ _ _ h => h) (Or.inl ⟨by rfl, ?_⟩) trivial ?_; rotate_left; (· (intro w hSw; go_simp; (try with_reducible rfl))); (try simp only [Act.put, List.setIfInBounds_toArray, List.set_cons_zero, List.set_cons_succ]))
   (refine Xac (i := 9) (d := 28) (v := ?_) rfl rfl y1 y1 y1 (fun _ _ _ h => h) (Or.inl ⟨by rfl, ?_⟩) trivial ?_; rotate_left; (· (intro w hSw; go_simp; (try with_reducible rfl))); (try simp only [Act.put, List.setIfInBounds_toArray, List.set_cons_zero, List.set_cons_succ]))
   (refine Xac (i := 10) (d := 29) (v := ?_) rfl rfl y1 y1 y1 (fun _ _ _ h => h) (Or.inl ⟨by rfl, ?_⟩) trivial ?_; rotate_left; (· (intro w hSw; go_simp; (try with_reducible rfl))); (try simp only [Act.put, List.setIfInBounds_toArray, List.set_cons_zero, List.set_cons_succ]))
   (refine Xac (i := 11) (d := 30) (v := ?_) rfl rfl y1 y1 y1 (fun _ _ _ h => h) (Or.inl ⟨by rfl, ?_⟩) trivial ?_; rotate_left; (· (intro w hSw; go_simp; (try with_reducible rfl))); (try simp only [Act.put, List.setIfInBounds_toArray, List.set_cons_zero, List.set_cons_succ]))
   (refine Xac (i := 12) (d := 31) (v := ?_) rfl rfl y1 y1 y1 (fun _ _ _ h => h) (Or.inl ⟨by rfl, ?_⟩) trivial ?_; rotate_left; (· (intro w hSw; go_simp; (try with_reducible rfl))); (try simp only [Act.put, List.setIfInBounds_toArray, List.set_cons_zero, List.set_cons_succ]))
   (refine Xac (i := 14) (d := 32) (v := ?_) rfl rfl y1 y1 y1 (fun _ _ _ h => h) (Or.inl ⟨by rfl, ?_⟩) trivial ?_; rotate_left; (· (intro w hSw; go_simp; (try with_reducible rfl))); (try simp only [Act.put, List.setIfInBounds_toArray, List.set_cons_zero, List.set_cons_succ]))
   (refine Xac (i := 15) (d := 33) (v := ?_) rfl rfl y1 y1 y1 (fun _ _ _ h => h) (Or.inl ⟨by rfl, ?_⟩) trivial ?_; rotate_left; (· (intro w hSw; go_simp; (try with_reducible rfl))); (try simp only [Act.put, List.setIfInBounds_toArray, List.set_cons_zero, List.set_cons_succ]))
   (refine Xac (i := 16) (d := 34) (v := ?_) rfl rfl y1 y1 y1 (fun _ _ _ h => h) (Or.inl ⟨by rfl, ?_⟩) trivial ?_; rotate_left; (· (intro w hSw; go_simp; (try with_reducible rfl))); (try simp only [Act.put, List.setIfInBounds_toArray, List.set_cons_zero, List.set_cons_succ]))
   (refine Xac (i := 17) (d := 35) (v := ?_) rfl rfl y1 y1 y1 (fun _ _ _ h => h) (Or.inl ⟨by rfl, ?_⟩) trivial ?_; rotate_left; (· (intro w hSw; go_simp; (try with_reducible rfl))); (try simp only [Act.put, List.setIfInBounds_toArray, List.set_cons_zero, List.set_cons_succ]))
   (refine Xac (i := 19) (d := 36) (v := ?_) rfl rfl y1 y1 y1 (fun _ _ _ h => h) (Or.inl ⟨by rfl, ?_⟩) trivial ?_; rotate_left; (· (intro w hSw; go_simp; (try with_reducible rfl))); (try simp only [Act.put, List.setIfInBounds_toArray, List.set_cons_zero, List.set_cons_succ]))
   (refine Xac (i := 20) (d := 37) (v := ?_) rfl rfl y1 y1 y1 (fun _ _ _ h => h) (Or.inl ⟨by rfl, ?_⟩) trivial ?_; rotate_left; (· (intro w hSw; go_simp; (try with_reducible rfl))); (try simp only [Act.put, List.setIfInBounds_toArray, List.set_cons_zero, List.set_cons_succ]))
   (refine Xac (i := 21) (d := 38) (v := ?_) rfl rfl y1 y1 y1 (fun _ _ _ h => h) (Or.inl ⟨by rfl, ?_⟩) trivial ?_; rotate_left; (· (intro w hSw; go_simp; (try with_reducible rfl))); (try simp only [Act.put, List.setIfInBounds_toArray, List.set_cons_zero, List.set_cons_succ]))
   (refine Xac (i := 22) (d := 39) (v := ?_) rfl rfl y1 y1 y1 (fun _ _ _ h => h) (Or.inl ⟨by rfl, ?_⟩) trivial ?_; rotate_left; (· (intro w hSw; go_simp; (try with_reducible rfl))); (try simp only [Act.put, List.setIfInBounds_toArray, List.set_cons_zero, List.set_cons_succ]))
   (refine Xac (i := 24) (d := 40) (v := ?_) rfl rfl y1 y1 y1 (fun _ _ _ h => h) (Or.inl ⟨by rfl, ?_⟩) trivial ?_; rotate_left; (· (intro w hSw; go_simp; (try with_reducible rfl))); (try simp only [Act.put, List.setIfInBounds_toArray, List.set_cons_zero, List.set_cons_succ]))
   (refine Xac (i := 25) (d := 41) (v := ?_) rfl rfl y1 y1 y1 (fun _ _ _ h => h) (Or.inl ⟨by rfl, ?_⟩) trivial ?_; rotate_left; (· (intro w hSw; go_simp; (try with_reducible rfl))); (try simp only [Act.put, List.setIfInBounds_toArray, List.set_cons_zero, List.set_cons_succ]))
   (refine Xac (i := 26) (d := 42) (v := ?_) rfl rfl y1 y1 y1 (fun _ _ _ h => h) (Or.inl ⟨by rfl, ?_⟩) trivial ?_; rotate_left; (· (intro w hSw; go_simp; (try with_reducible rfl))); (try simp only [Act.put, List.setIfInBounds_toArray, List.set_cons_zero, List.set_cons_succ]))
   (refine Xac (i := 27) (d := 43) (v := ?_) rfl rfl y1 y1 y1 (fun _ _ _ h => h) (Or.inl ⟨by rfl, ?_⟩) trivial ?_; rotate_left; (· (intro w hSw; go_simp; (try with_reducible rfl))); (try simp only [Act.put, List.setIfInBounds_toArray, List.set_cons_zero, List.set_cons_succ]))
   (refine Xac (i := 30) (d := 45) (v := ?_) rfl rfl y1 y1 y1 (fun _ _ _ h => h) (Or.inl ⟨by rfl, ?_⟩) trivial ?_; rotate_left; (· (intro w hSw; go_simp; (try with_reducible rfl))); (try simp only [Act.put, List.setIfInBounds_toArray, List.set_cons_zero, List.set_cons_succ]))
   refine wpAnyH_ready (rs := [0]) y1 (by simp) ?_
   refine AllReadyH.cons rfl (fun K hK => ?_) AllReadyH.nil
   go_simp
   refine hK.out _ _ trivial (fun _ => ?_)
   clear hK K
   (try simp only [Act.put, List.setIfInBounds_toArray, List.set_cons_zero, List.set_cons_succ])
   have hown0 := World.ownsMap_made w.drew Tryz.prog 3 Xdi
   refine Xgc (g := g) (H := w.heap.size) (w0 := w) (Nat.le_refl _) ⟨_, 24, rfl, rfl, rfl, rfl, rfl, rfl⟩ ⟨_, 27, rfl, rfl, rfl, rfl, rfl, rfl⟩ ⟨_, 31, rfl, rfl, rfl, rfl, rfl, rfl⟩ ⟨_, 35, rfl, rfl, rfl, rfl, rfl, rfl⟩ ⟨_, 39, rfl, rfl, rfl, rfl, rfl, rfl⟩ ⟨_, 43, rfl, rfl, rfl, rfl, rfl, rfl⟩ ?_ ?_ 6 false false false false false false _ 0 _ rfl hown0 rfl ⟨isMap_empty, fun k z => by simp [bK]; rfl⟩ (Xag (Xav HS.out) _)
   · intro x0 x1 x2 x3 x4 x5 hx
     cases x0 <;> cases x1 <;> cases x2 <;> cases x3 <;> cases x4 <;> cases x5 <;> first | exact absurd hx (by decide) | kernel_rfl
   · intro W D hown hD hS
     have HD := Zh hD
     have HSS := Zh hS
     clear hD hS
     refine Xac (i := 29) (d := 44) (v := ?_) rfl rfl y1 y1 y1 (fun _ _ _ h => h) (Or.inl ⟨by rfl, ?_⟩) trivial ?_
     rotate_left
     · (intro w hSw; go_simp; (try with_reducible rfl))
     (try simp only [Act.put, List.setIfInBounds_toArray, List.set_cons_zero, List.set_cons_succ])
     refine wpAnyH_ready (rs := [31]) y1 (by simp) ?_
     refine AllReadyH.cons rfl (fun K hK => ?_) AllReadyH.nil
     rw [if_pos (by rfl)]
     refine Xca W _ _ 156 rfl 3 155 Tryz.keyInt Tryz.underlying156 (Tryz.zeroPtr _) w.heap.size 6 D rfl hown (.int .i64 k) (.int .i64 k) rfl (keyOf_int_mk Tryz.underlying3 HW.out) (ptrV g k) ((HD.out.2 k _).trans (Xi2 g k)) (d := 46) rfl ?_
     refine hK.out _ _ trivial (fun _ => ?_)
     clear hK K
     (try simp only [Act.put, List.setIfInBounds_toArray, List.set_cons_zero, List.set_cons_succ])
     refine Xac (i := 32) (d := 7) (v := ?_) rfl rfl y1 y1 y1 (fun _ _ _ h => h) (Or.inl ⟨by rfl, ?_⟩) trivial ?_
     rotate_left
     · (intro w hSw; go_simp; (try with_reducible rfl))
     (try simp only [Act.put, List.setIfInBounds_toArray, List.set_cons_zero, List.set_cons_succ])
     refine wpAnyH_done y1 ?_ _
     go_wp2
     go_meet
     exact ⟨rfl, HSS.out⟩
 case rest =>
   obtain ⟨rfl, hS⟩ := hcut
   rw [HP.out]
   go_wp2
   go_ret
   exact ⟨rfl, Xau HB.out hS.out, Xbh HL.out hS.out, Xd4 hg hS.out⟩
theorem out_0 (b : Brg) (A : Option Addr) (n c g : Nat) (v : Int) (w : World) (hb : Xa8 w g b A n c) (hfz : ∀ o, w.frozen? ⟨g, o, none⟩ = false) (hl : Lines w w.heap.size A n c b.cache) (hoff : ∀ ad, A = some ad → ad.block ≠ g) (k : Int) (hk : k = 0) :
    Calls Tryz.prog 68 #[.pointer (some ⟨g, 0, none⟩), .int .i64 k, .int .i64 v] w (OutC g A n c w (Xa0 b k v)) := by
 refine z61 ?_; intro hw HB HL HO HF hg HS HW _ _
 have HP := Zh (show ptrV g k = .pointer (some ⟨g, 0, none⟩) by rw [hk]; rfl)
 have HK := Zh hk
 unfold OutC
 clear hb hl hoff hw hfz hk
 go_enter Tryz.func68, Tryz.ntmps68
 go_upto_region 5 with (fail)
 go_cut [7] (fun s7 wd => s7 = ptrV g k ∧ Hid (Xam w wd))
 case first =>
   refine wp_region_held_drew (S := fun _ => True) y1 trivial (fun hTT => ?_)
   (refine Xac (i := 1) (d := 22) (v := ?_) rfl rfl y1 y1 y1 (fun _ _ _ h => h) (Or.inl ⟨by rfl, ?_⟩) trivial ?_; rotate_left; (· (intro w hSw; go_simp; (try with_reducible rfl))); (try simp only [Act.put, List.setIfInBounds_toArray, List.set_cons_zero, List.set_cons_succ]))
   (refine Xac (i := 2) (d := 23) (v := ?_) rfl rfl y1 y1 y1 (fun _ _ _ h => h) (Or.inl ⟨by rfl, ?_⟩) trivial ?_; rotate_left; (· (intro w hSw; go_simp; (try with_reducible rfl))); (try simp only [Act.put, List.setIfInBounds_toArray, List.set_cons_zero, List.set_cons_succ]))
   (refine Xac (i := 3) (d := 24) (v := ?_) rfl rfl y1 y1 y1 (fun _ _ _ h => h) (Or.inl ⟨by rfl, ?_⟩) trivial ?_; rotate_left; (· (intro w hSw; go_simp; (try with_reducible rfl))); (try simp only [Act.put, List.setIfInBounds_toArray, List.set_cons_zero, List.set_cons_succ]))
   (refine Xac (i := 5) (d := 25) (v := ?_) rfl rfl y1 y1 y1 (fun _ _ _ h => h) (Or.inl ⟨by rfl, ?_⟩) trivial ?_; rotate_left; (· (intro w hSw; go_simp; (try with_reducible rfl))); (try simp only [Act.put, List.setIfInBounds_toArray, List.set_cons_zero, List.set_cons_succ]))
   (refine Xac (i := 6) (d := 26) (v := ?_) rfl rfl y1 y1 y1 (fun _ _ _ h => h) (Or.inl ⟨by rfl, ?_⟩) trivial ?_; rotate_left; (· (intro w hSw; go_simp; (try with_reducible rfl))); (try simp only [Act.put, List.setIfInBounds_toArray, List.set_cons_zero, List.set_cons_succ]))
   (refine Xac (i := 7) (d := 27) (v := ?_) rfl rfl y1 y1 y1 (fun _ _ _ h => h) (Or.inl ⟨by rfl, ?_⟩) trivial ?_; rotate_left; (· (intro w hSw; go_simp; (try with_reducible rfl))); (try simp only [Act.put, List.setIfInBounds_toArray, List.set_cons_zero, List.set_cons_succ]))
   (refine Xac (i := 9) (d := 28) (v := ?_) rfl rfl y1 y1 y1 (fun _ _ _ h => h) (Or.inl ⟨by rfl, ?_⟩) trivial ?_; rotate_left; (· (intro w hSw; go_simp; (try with_reducible rfl))); (try simp only [Act.put, List.setIfInBounds_toArray, List.set_cons_zero, List.set_cons_succ]))
   (refine Xac (i := 10) (d := 29) (v := ?_) rfl rfl y1 y1 y1 (fun _ _ _ h => h) (Or.inl ⟨by rfl, ?_⟩) trivial ?_; rotate_left; (· (intro w hSw; go_simp; (try with_reducible rfl))); (try simp only [Act.put, List.setIfInBounds_toArray, List.set_cons_zero, List.set_cons_succ]))
   (refine Xac (i := 11) (d := 30) (v := ?_) rfl rfl y1 y1 y1 (fun _ _ _ h => h) (Or.inl ⟨by rfl, ?_⟩) trivial ?_; rotate_left; (· (intro w hSw; go_simp; (try with_reducible rfl))); (try simp only [Act.put, List.setIfInBounds_toArray, List.set_cons_zero, List.set_cons_succ]))
   (refine Xac (i := 12) (d := 31) (v := ?_) rfl rfl y1 y1 y1 (fun _ _ _ h => h) (Or.inl ⟨by rfl, ?_⟩) trivial ?_; rotate_left; (· (intro w hSw; go_simp; (try with_reducible rfl))); (try simp only [Act.put, List.setIfInBounds_toArray, List.set_cons_zero, List.set_cons_succ]))
   (refine Xac (i := 14) (d := 32) (v := ?_) rfl rfl y1 y1 y1 (fun _ _ _ h => h) (Or.inl ⟨by rfl, ?_⟩) trivial ?_; rotate_left; (· (intro w hSw; go_simp; (try with_reducible rfl))); (try simp only [Act.put, List.setIfInBounds_toArray, List.set_cons_zero, List.set_cons_succ]))
   (refine Xac (i := 15) (d := 33) (v := ?_) rfl rfl y1 y1 y1 (fun _ _ _ h => h) (Or.inl ⟨by rfl, ?_⟩) trivial ?_; rotate_left; (· (intro w hSw; go_simp; (try with_reducible rfl))); (try simp only [Act.put, List.setIfInBounds_toArray, List.set_cons_zero, List.set_cons_succ]))
   (refine Xac (i := 16) (d := 34) (v := ?_) rfl rfl y1 y1 y1 (fun _ _ _ h => h) (Or.inl ⟨by rfl, ?_⟩) trivial ?_; rotate_left; (· (intro w hSw; go_simp; (try with_reducible rfl))); (try simp only [Act.put, List.setIfInBounds_toArray, List.set_cons_zero, List.set_cons_succ]))
   (refine Xac (i := 17) (d := 35) (v := ?_) rfl rfl y1 y1 y1 (fun _ _ _ h => h) (Or.inl ⟨by rfl, ?_⟩) trivial ?_; rotate_left; (· (intro w hSw; go_simp; (try with_reducible rfl))); (try simp only [Act.put, List.setIfInBounds_toArray, List.set_cons_zero, List.set_cons_succ]))
   (refine Xac (i := 19) (d := 36) (v := ?_) rfl rfl y1 y1 y1 (fun _ _ _ h => h) (Or.inl ⟨by rfl, ?_⟩) trivial ?_; rotate_left; (· (intro w hSw; go_simp; (try with_reducible rfl))); (try simp only [Act.put, List.setIfInBounds_toArray, List.set_cons_zero, List.set_cons_succ]))
   (refine Xac (i := 20) (d := 37) (v := ?_) rfl rfl y1 y1 y1 (fun _ _ _ h => h) (Or.inl ⟨by rfl, ?_⟩) trivial ?_; rotate_left; (· (intro w hSw; go_simp; (try with_reducible rfl))); (try simp only [Act.put, List.setIfInBounds_toArray, List.set_cons_zero, List.set_cons_succ]))
   (refine Xac (i := 21) (d := 38) (v := ?_) rfl rfl y1 y1 y1 (fun _ _ _ h => h) (Or.inl ⟨by rfl, ?_⟩) trivial ?_; rotate_left; (· (intro w hSw; go_simp; (try with_reducible rfl))); (try simp only [Act.put, List.setIfInBounds_toArray, List.set_cons_zero, List.set_cons_succ]))
   (refine Xac (i := 22) (d := 39) (v := ?_) rfl rfl y1 y1 y1 (fun _ _ _ h => h) (Or.inl ⟨by rfl, ?_⟩) trivial ?_; rotate_left; (· (intro w hSw; go_simp; (try with_reducible rfl))); (try simp only [Act.put, List.setIfInBounds_toArray, List.set_cons_zero, List.set_cons_succ]))
   (refine Xac (i := 24) (d := 40) (v := ?_) rfl rfl y1 y1 y1 (fun _ _ _ h => h) (Or.inl ⟨by rfl, ?_⟩) trivial ?_; rotate_left; (· (intro w hSw; go_simp; (try with_reducible rfl))); (try simp only [Act.put, List.setIfInBounds_toArray, List.set_cons_zero, List.set_cons_succ]))
   (refine Xac (i := 25) (d := 41) (v := ?_) rfl rfl y1 y1 y1 (fun _ _ _ h => h) (Or.inl ⟨by rfl, ?_⟩) trivial ?_; rotate_left; (· (intro w hSw; go_simp; (try with_reducible rfl))); (try simp only [Act.put, List.setIfInBounds_toArray, List.set_cons_zero, List.set_cons_succ]))
   (refine Xac (i := 26) (d := 42) (v := ?_) rfl rfl y1 y1 y1 (fun _ _ _ h => h) (Or.inl ⟨by rfl, ?_⟩) trivial ?_; rotate_left; (· (intro w hSw; go_simp; (try with_reducible rfl))); (try simp only [Act.put, List.setIfInBounds_toArray, List.set_cons_zero, List.set_cons_succ]))
   (refine Xac (i := 27) (d := 43) (v := ?_) rfl rfl y1 y1 y1 (fun _ _ _ h => h) (Or.inl ⟨by rfl, ?_⟩) trivial ?_; rotate_left; (· (intro w hSw; go_simp; (try with_reducible rfl))); (try simp only [Act.put, List.setIfInBounds_toArray, List.set_cons_zero, List.set_cons_succ]))
   (refine Xac (i := 30) (d := 45) (v := ?_) rfl rfl y1 y1 y1 (fun _ _ _ h => h) (Or.inl ⟨by rfl, ?_⟩) trivial ?_; rotate_left; (· (intro w hSw; go_simp; (try with_reducible rfl))); (try simp only [Act.put, List.setIfInBounds_toArray, List.set_cons_zero, List.set_cons_succ]))
   refine wpAnyH_ready (rs := [0]) y1 (by simp) ?_
   refine AllReadyH.cons rfl (fun K hK => ?_) AllReadyH.nil
   go_simp
   refine hK.out _ _ trivial (fun _ => ?_)
   clear hK K
   (try simp only [Act.put, List.setIfInBounds_toArray, List.set_cons_zero, List.set_cons_succ])
   have hown0 := World.ownsMap_made w.drew Tryz.prog 3 Xdi
   refine Xgc (g := g) (H := w.heap.size) (w0 := w) (Nat.le_refl _) ⟨_, 24, rfl, rfl, rfl, rfl, rfl, rfl⟩ ⟨_, 27, rfl, rfl, rfl, rfl, rfl, rfl⟩ ⟨_, 31, rfl, rfl, rfl, rfl, rfl, rfl⟩ ⟨_, 35, rfl, rfl, rfl, rfl, rfl, rfl⟩ ⟨_, 39, rfl, rfl, rfl, rfl, rfl, rfl⟩ ⟨_, 43, rfl, rfl, rfl, rfl, rfl, rfl⟩ ?_ ?_ 6 false false false false false false _ 0 _ rfl hown0 rfl ⟨isMap_empty, fun k z => by simp [bK]; rfl⟩ (Xag (Xav HS.out) _)
   · intro x0 x1 x2 x3 x4 x5 hx
     cases x0 <;> cases x1 <;> cases x2 <;> cases x3 <;> cases x4 <;> cases x5 <;> first | exact absurd hx (by decide) | kernel_rfl
   · intro W D hown hD hS
     have HD := Zh hD
     have HSS := Zh hS
     clear hD hS
     refine Xac (i := 29) (d := 44) (v := ?_) rfl rfl y1 y1 y1 (fun _ _ _ h => h) (Or.inl ⟨by rfl, ?_⟩) trivial ?_
     rotate_left
     · (intro w hSw; go_simp; (try with_reducible rfl))
     (try simp only [Act.put, List.setIfInBounds_toArray, List.set_cons_zero, List.set_cons_succ])
     refine wpAnyH_ready (rs := [31]) y1 (by simp) ?_
     refine AllReadyH.cons rfl (fun K hK => ?_) AllReadyH.nil
     rw [if_pos (by rfl)]
     refine Xca W _ _ 156 rfl 3 155 Tryz.keyInt Tryz.underlying156 (Tryz.zeroPtr _) w.heap.size 6 D rfl hown (.int .i64 k) (.int .i64 k) rfl (keyOf_int_mk Tryz.underlying3 HW.out) (ptrV g k) ((HD.out.2 k _).trans (Xi2 g k)) (d := 46) rfl ?_
     refine hK.out _ _ trivial (fun _ => ?_)
     clear hK K
     (try simp only [Act.put, List.setIfInBounds_toArray, List.set_cons_zero, List.set_cons_succ])
     refine Xac (i := 32) (d := 7) (v := ?_) rfl rfl y1 y1 y1 (fun _ _ _ h => h) (Or.inl ⟨by rfl, ?_⟩) trivial ?_
     rotate_left
     · (intro w hSw; go_simp; (try with_reducible rfl))
     (try simp only [Act.put, List.setIfInBounds_toArray, List.set_cons_zero, List.set_cons_succ])
     refine wpAnyH_done y1 ?_ _
     go_wp2
     go_meet
     exact ⟨rfl, HSS.out⟩
 case rest =>
   obtain ⟨rfl, hS⟩ := hcut
   rw [HP.out]
   have hb2 := Xau HB.out hS.out
   have HB2 := Zh hb2
   have HL2 := Zh (Xbh HL.out hS.out)
   have hgd := Xcw hb2
   have hfz2 : ∀ o, wc.frozen? ⟨g, o, none⟩ = false := fun o => (Below.frozen (p := ⟨g, o, none⟩) hS.out hg).trans (HF.out o)
   have HB3 := Zh (Xoo HB2.out v)
   have HL3 := Zh ((Xbs HL2.out (p := ⟨g, 0, none⟩) HO.out (.int .i64 v)).more (B' := (wc.setCell ⟨g, 0, none⟩ (.int .i64 v)).heap.size) (by simp))
   have HN3 := Zh (Xcl (o := 0) hg hS.out (.int .i64 v))
   obtain ⟨c0, c1, c2, c3, c4, c5, c6, c7, c8, c9, c10, c11⟩ := hb2
   by_cases hE : ckB { b with mode := v } = 0
   · have hE0 : (ckB { b with mode := v } != 0) = false := by rw [bne_eq_false_iff_eq]; exact hE
     have HV := Zh (show Xa0 b k v = ({ b with mode := v }, true) by rw [HK.out]; unfold Xa0; rw [if_neg (by decide), if_pos ⟨rfl, hE⟩]; rfl)
     clear hE
     go_wp2_with fail
     refine (Xbb { b with mode := v } A n c _ HL3.out).mono ?_
     rintro e w3 ⟨rfl, hb3⟩
     have HB4 := Zh hb3
     clear hb3 c0 c1 c2 c3 c4 c5 c6 c7 c8 c9 c10 c11
     go_wp2
     go_ret
     rw [HV.out]
     exact ⟨rfl, Xau HB3.out HB4.out, Xbh HL3.out HB4.out, Xc5 HN3.out hg HB4.out⟩
   · have hE0 : (ckB { b with mode := v } != 0) = true := by rw [bne_iff_ne]; exact hE
     have HV := Zh (show Xa0 b k v = (b, false) by rw [HK.out]; unfold Xa0; rw [if_neg (by decide), if_neg (fun h => hE h.2)])
     clear hE
     go_wp2_with fail
     refine (Xbb { b with mode := v } A n c _ HL3.out).mono ?_
     rintro e w3 ⟨rfl, hb3⟩
     have HB4 := Zh hb3
     have HB5 := Zh (Xau HB3.out hb3)
     have hg3 := Xcw HB5.out
     have hfz3 : ∀ o, w3.frozen? ⟨g, o, none⟩ = false := fun o => (Below.frozen (p := ⟨g, o, none⟩) hb3 (by simpa using hgd)).trans y13
     have k3 := Xae (p := ⟨g, 0, none⟩) (v := .int .i64 v) hb3 y17
     clear hb3 c0 c1 c2 c3 c4 c5 c6 c7 c8 c9 c10 c11
     go_wp2
     go_ret
     rw [HV.out]
     exact ⟨rfl, Xoo HB5.out b.mode, (Xbs (Xbh HL3.out HB4.out) (p := ⟨g, 0, none⟩) HO.out (.int .i64 b.mode)).more (by simp), Xdc (Xc5 HN3.out hg HB4.out) hg _ _⟩
theorem out_1 (b : Brg) (A : Option Addr) (n c g : Nat) (v : Int) (w : World) (hb : Xa8 w g b A n c) (hfz : ∀ o, w.frozen? ⟨g, o, none⟩ = false) (hl : Lines w w.heap.size A n c b.cache) (hoff : ∀ ad, A = some ad → ad.block ≠ g) (k : Int) (hk : k = 1) :
    Calls Tryz.prog 68 #[.pointer (some ⟨g, 0, none⟩), .int .i64 k, .int .i64 v] w (OutC g A n c w (Xa0 b k v)) := by
 refine z61 ?_; intro hw HB HL HO HF hg HS HW _ _
 have HP := Zh (show ptrV g k = .pointer (some ⟨g, 1, none⟩) by rw [hk]; rfl)
 have HK := Zh hk
 unfold OutC
 clear hb hl hoff hw hfz hk
 go_enter Tryz.func68, Tryz.ntmps68
 go_upto_region 5 with (fail)
 go_cut [7] (fun s7 wd => s7 = ptrV g k ∧ Hid (Xam w wd))
 case first =>
   refine wp_region_held_drew (S := fun _ => True) y1 trivial (fun hTT => ?_)
   (refine Xac (i := 1) (d := 22) (v := ?_) rfl rfl y1 y1 y1 (fun _ _ _ h => h) (Or.inl ⟨by rfl, ?_⟩) trivial ?_; rotate_left; (· (intro w hSw; go_simp; (try with_reducible rfl))); (try simp only [Act.put, List.setIfInBounds_toArray, List.set_cons_zero, List.set_cons_succ]))
   (refine Xac (i := 2) (d := 23) (v := ?_) rfl rfl y1 y1 y1 (fun _ _ _ h => h) (Or.inl ⟨by rfl, ?_⟩) trivial ?_; rotate_left; (· (intro w hSw; go_simp; (try with_reducible rfl))); (try simp only [Act.put, List.setIfInBounds_toArray, List.set_cons_zero, List.set_cons_succ]))
   (refine Xac (i := 3) (d := 24) (v := ?_) rfl rfl y1 y1 y1 (fun _ _ _ h => h) (Or.inl ⟨by rfl, ?_⟩) trivial ?_; rotate_left; (· (intro w hSw; go_simp; (try with_reducible rfl))); (try simp only [Act.put, List.setIfInBounds_toArray, List.set_cons_zero, List.set_cons_succ]))
   (refine Xac (i := 5) (d := 25) (v := ?_) rfl rfl y1 y1 y1 (fun _ _ _ h => h) (Or.inl ⟨by rfl, ?_⟩) trivial ?_; rotate_left; (· (intro w hSw; go_simp; (try with_reducible rfl))); (try simp only [Act.put, List.setIfInBounds_toArray, List.set_cons_zero, List.set_cons_succ]))
   (refine Xac (i := 6) (d := 26) (v := ?_) rfl rfl y1 y1 y1 (fun _ _ _ h => h) (Or.inl ⟨by rfl, ?_⟩) trivial ?_; rotate_left; (· (intro w hSw; go_simp; (try with_reducible rfl))); (try simp only [Act.put, List.setIfInBounds_toArray, List.set_cons_zero, List.set_cons_succ]))
   (refine Xac (i := 7) (d := 27) (v := ?_) rfl rfl y1 y1 y1 (fun _ _ _ h => h) (Or.inl ⟨by rfl, ?_⟩) trivial ?_; rotate_left; (· (intro w hSw; go_simp; (try with_reducible rfl))); (try simp only [Act.put, List.setIfInBounds_toArray, List.set_cons_zero, List.set_cons_succ]))
   (refine Xac (i := 9) (d := 28) (v := ?_) rfl rfl y1 y1 y1 (fun _ _ _ h => h) (Or.inl ⟨by rfl, ?_⟩) trivial ?_; rotate_left; (· (intro w hSw; go_simp; (try with_reducible rfl))); (try simp only [Act.put, List.setIfInBounds_toArray, List.set_cons_zero, List.set_cons_succ]))
   (refine Xac (i := 10) (d := 29) (v := ?_) rfl rfl y1 y1 y1 (fun _ _ _ h => h) (Or.inl ⟨by rfl, ?_⟩) trivial ?_; rotate_left; (· (intro w hSw; go_simp; (try with_reducible rfl))); (try simp only [Act.put, List.setIfInBounds_toArray, List.set_cons_zero, List.set_cons_succ]))
   (refine Xac (i := 11) (d := 30) (v := ?_) rfl rfl y1 y1 y1 (fun _ _ _ h => h) (Or.inl ⟨by rfl, ?_⟩) trivial ?_; rotate_left; (· (intro w hSw; go_simp; (try with_reducible rfl))); (try simp only [Act.put, List.setIfInBounds_toArray, List.set_cons_zero, List.set_cons_succ]))
   (refine Xac (i := 12) (d := 31) (v := ?_) rfl rfl y1 y1 y1 (fun _ _ _ h => h) (Or.inl ⟨by rfl, ?_⟩) trivial ?_; rotate_left; (· (intro w hSw; go_simp; (try with_reducible rfl))); (try simp only [Act.put, List.setIfInBounds_toArray, List.set_cons_zero, List.set_cons_succ]))
   (refine Xac (i := 14) (d := 32) (v := ?_) rfl rfl y1 y1 y1 (fun _ _ _ h => h) (Or.inl ⟨by rfl, ?_⟩) trivial ?_; rotate_left; (· (intro w hSw; go_simp; (try with_reducible rfl))); (try simp only [Act.put, List.setIfInBounds_toArray, List.set_cons_zero, List.set_cons_succ]))
   (refine Xac (i := 15) (d := 33) (v := ?_) rfl rfl y1 y1 y1 (fun _ _ _ h => h) (Or.inl ⟨by rfl, ?_⟩) trivial ?_; rotate_left; (· (intro w hSw; go_simp; (try with_reducible rfl))); (try simp only [Act.put, List.setIfInBounds_toArray, List.set_cons_zero, List.set_cons_succ]))
   (refine Xac (i := 16) (d := 34) (v := ?_) rfl rfl y1 y1 y1 (fun _ _ _ h => h) (Or.inl ⟨by rfl, ?_⟩) trivial ?_; rotate_left; (· (intro w hSw; go_simp; (try with_reducible rfl))); (try simp only [Act.put, List.setIfInBounds_toArray, List.set_cons_zero, List.set_cons_succ]))
   (refine Xac (i := 17) (d := 35) (v := ?_) rfl rfl y1 y1 y1 (fun _ _ _ h => h) (Or.inl ⟨by rfl, ?_⟩) trivial ?_; rotate_left; (· (intro w hSw; go_simp; (try with_reducible rfl))); (try simp only [Act.put, List.setIfInBounds_toArray, List.set_cons_zero, List.set_cons_succ]))
   (refine Xac (i := 19) (d := 36) (v := ?_) rfl rfl y1 y1 y1 (fun _ _ _ h => h) (Or.inl ⟨by rfl, ?_⟩) trivial ?_; rotate_left; (· (intro w hSw; go_simp; (try with_reducible rfl))); (try simp only [Act.put, List.setIfInBounds_toArray, List.set_cons_zero, List.set_cons_succ]))
   (refine Xac (i := 20) (d := 37) (v := ?_) rfl rfl y1 y1 y1 (fun _ _ _ h => h) (Or.inl ⟨by rfl, ?_⟩) trivial ?_; rotate_left; (· (intro w hSw; go_simp; (try with_reducible rfl))); (try simp only [Act.put, List.setIfInBounds_toArray, List.set_cons_zero, List.set_cons_succ]))
   (refine Xac (i := 21) (d := 38) (v := ?_) rfl rfl y1 y1 y1 (fun _ _ _ h => h) (Or.inl ⟨by rfl, ?_⟩) trivial ?_; rotate_left; (· (intro w hSw; go_simp; (try with_reducible rfl))); (try simp only [Act.put, List.setIfInBounds_toArray, List.set_cons_zero, List.set_cons_succ]))
   (refine Xac (i := 22) (d := 39) (v := ?_) rfl rfl y1 y1 y1 (fun _ _ _ h => h) (Or.inl ⟨by rfl, ?_⟩) trivial ?_; rotate_left; (· (intro w hSw; go_simp; (try with_reducible rfl))); (try simp only [Act.put, List.setIfInBounds_toArray, List.set_cons_zero, List.set_cons_succ]))
   (refine Xac (i := 24) (d := 40) (v := ?_) rfl rfl y1 y1 y1 (fun _ _ _ h => h) (Or.inl ⟨by rfl, ?_⟩) trivial ?_; rotate_left; (· (intro w hSw; go_simp; (try with_reducible rfl))); (try simp only [Act.put, List.setIfInBounds_toArray, List.set_cons_zero, List.set_cons_succ]))
   (refine Xac (i := 25) (d := 41) (v := ?_) rfl rfl y1 y1 y1 (fun _ _ _ h => h) (Or.inl ⟨by rfl, ?_⟩) trivial ?_; rotate_left; (· (intro w hSw; go_simp; (try with_reducible rfl))); (try simp only [Act.put, List.setIfInBounds_toArray, List.set_cons_zero, List.set_cons_succ]))
   (refine Xac (i := 26) (d := 42) (v := ?_) rfl rfl y1 y1 y1 (fun _ _ _ h => h) (Or.inl ⟨by rfl, ?_⟩) trivial ?_; rotate_left; (· (intro w hSw; go_simp; (try with_reducible rfl))); (try simp only [Act.put, List.setIfInBounds_toArray, List.set_cons_zero, List.set_cons_succ]))
   (refine Xac (i := 27) (d := 43) (v := ?_) rfl rfl y1 y1 y1 (fun _ _ _ h => h) (Or.inl ⟨by rfl, ?_⟩) trivial ?_; rotate_left; (· (intro w hSw; go_simp; (try with_reducible rfl))); (try simp only [Act.put, List.setIfInBounds_toArray, List.set_cons_zero, List.set_cons_succ]))
   (refine Xac (i := 30) (d := 45) (v := ?_) rfl rfl y1 y1 y1 (fun _ _ _ h => h) (Or.inl ⟨by rfl, ?_⟩) trivial ?_; rotate_left; (· (intro w hSw; go_simp; (try with_reducible rfl))); (try simp only [Act.put, List.setIfInBounds_toArray, List.set_cons_zero, List.set_cons_succ]))
   refine wpAnyH_ready (rs := [0]) y1 (by simp) ?_
   refine AllReadyH.cons rfl (fun K hK => ?_) AllReadyH.nil
   go_simp
   refine hK.out _ _ trivial (fun _ => ?_)
   clear hK K
   (try simp only [Act.put, List.setIfInBounds_toArray, List.set_cons_zero, List.set_cons_succ])
   have hown0 := World.ownsMap_made w.drew Tryz.prog 3 Xdi
   refine Xgc (g := g) (H := w.heap.size) (w0 := w) (Nat.le_refl _) ⟨_, 24, rfl, rfl, rfl, rfl, rfl, rfl⟩ ⟨_, 27, rfl, rfl, rfl, rfl, rfl, rfl⟩ ⟨_, 31, rfl, rfl, rfl, rfl, rfl, rfl⟩ ⟨_, 35, rfl, rfl, rfl, rfl, rfl, rfl⟩ ⟨_, 39, rfl, rfl, rfl, rfl, rfl, rfl⟩ ⟨_, 43, rfl, rfl, rfl, rfl, rfl, rfl⟩ ?_ ?_ 6 false false false false false false _ 0 _ rfl hown0 rfl ⟨isMap_empty, fun k z => by simp [bK]; rfl⟩ (Xag (Xav HS.out) _)
   · intro x0 x1 x2 x3 x4 x5 hx
     cases x0 <;> cases x1 <;> cases x2 <;> cases x3 <;> cases x4 <;> cases x5 <;> first | exact absurd hx (by decide) | kernel_rfl
   · intro W D hown hD hS
     have HD := Zh hD
     have HSS := Zh hS
     clear hD hS
     refine Xac (i := 29) (d := 44) (v := ?_) rfl rfl y1 y1 y1 (fun _ _ _ h => h) (Or.inl ⟨by rfl, ?_⟩) trivial ?_
     rotate_left
     · (intro w hSw; go_simp; (try with_reducible rfl))
     (try simp only [Act.put, List.setIfInBounds_toArray, List.set_cons_zero, List.set_cons_succ])
     refine wpAnyH_ready (rs := [31]) y1 (by simp) ?_
     refine AllReadyH.cons rfl (fun K hK => ?_) AllReadyH.nil
     rw [if_pos (by rfl)]
     refine Xca W _ _ 156 rfl 3 155 Tryz.keyInt Tryz.underlying156 (Tryz.zeroPtr _) w.heap.size 6 D rfl hown (.int .i64 k) (.int .i64 k) rfl (keyOf_int_mk Tryz.underlying3 HW.out) (ptrV g k) ((HD.out.2 k _).trans (Xi2 g k)) (d := 46) rfl ?_
     refine hK.out _ _ trivial (fun _ => ?_)
     clear hK K
     (try simp only [Act.put, List.setIfInBounds_toArray, List.set_cons_zero, List.set_cons_succ])
     refine Xac (i := 32) (d := 7) (v := ?_) rfl rfl y1 y1 y1 (fun _ _ _ h => h) (Or.inl ⟨by rfl, ?_⟩) trivial ?_
     rotate_left
     · (intro w hSw; go_simp; (try with_reducible rfl))
     (try simp only [Act.put, List.setIfInBounds_toArray, List.set_cons_zero, List.set_cons_succ])
     refine wpAnyH_done y1 ?_ _
     go_wp2
     go_meet
     exact ⟨rfl, HSS.out⟩
 case rest =>
   obtain ⟨rfl, hS⟩ := hcut
   rw [HP.out]
   have hb2 := Xau HB.out hS.out
   have HB2 := Zh hb2
   have HL2 := Zh (Xbh HL.out hS.out)
   have hgd := Xcw hb2
   have hfz2 : ∀ o, wc.frozen? ⟨g, o, none⟩ = false := fun o => (Below.frozen (p := ⟨g, o, none⟩) hS.out hg).trans (HF.out o)
   have HB3 := Zh (Xon HB2.out v)
   have HL3 := Zh ((Xbs HL2.out (p := ⟨g, 1, none⟩) HO.out (.int .i64 v)).more (B' := (wc.setCell ⟨g, 1, none⟩ (.int .i64 v)).heap.size) (by simp))
   have HN3 := Zh (Xcl (o := 1) hg hS.out (.int .i64 v))
   obtain ⟨c0, c1, c2, c3, c4, c5, c6, c7, c8, c9, c10, c11⟩ := hb2
   by_cases hE : ckB { b with base := v } = 0
   · have hE0 : (ckB { b with base := v } != 0) = false := by rw [bne_eq_false_iff_eq]; exact hE
     have HV := Zh (show Xa0 b k v = ({ b with base := v }, true) by rw [HK.out]; unfold Xa0; rw [if_neg (by decide), if_pos ⟨rfl, hE⟩]; rfl)
     clear hE
     go_wp2_with fail
     refine (Xbb { b with base := v } A n c _ HL3.out).mono ?_
     rintro e w3 ⟨rfl, hb3⟩
     have HB4 := Zh hb3
     clear hb3 c0 c1 c2 c3 c4 c5 c6 c7 c8 c9 c10 c11
     go_wp2
     go_ret
     rw [HV.out]
     exact ⟨rfl, Xau HB3.out HB4.out, Xbh HL3.out HB4.out, Xc5 HN3.out hg HB4.out⟩
   · have hE0 : (ckB { b with base := v } != 0) = true := by rw [bne_iff_ne]; exact hE
     have HV := Zh (show Xa0 b k v = (b, false) by rw [HK.out]; unfold Xa0; rw [if_neg (by decide), if_neg (fun h => hE h.2)])
     clear hE
     go_wp2_with fail
     refine (Xbb { b with base := v } A n c _ HL3.out).mono ?_
     rintro e w3 ⟨rfl, hb3⟩
     have HB4 := Zh hb3
     have HB5 := Zh (Xau HB3.out hb3)
     have hg3 := Xcw HB5.out
     have hfz3 : ∀ o, w3.frozen? ⟨g, o, none⟩ = false := fun o => (Below.frozen (p := ⟨g, o, none⟩) hb3 (by simpa using hgd)).trans y13
     have k3 := Xae (p := ⟨g, 1, none⟩) (v := .int .i64 v) hb3 y17
     clear hb3 c0 c1 c2 c3 c4 c5 c6 c7 c8 c9 c10 c11
     go_wp2
     go_ret
     rw [HV.out]
     exact ⟨rfl, Xon HB5.out b.base, (Xbs (Xbh HL3.out HB4.out) (p := ⟨g, 1, none⟩) HO.out (.int .i64 b.base)).more (by simp), Xdc (Xc5 HN3.out hg HB4.out) hg _ _⟩
theorem out_2 (b : Brg) (A : Option Addr) (n c g : Nat) (v : Int) (w : World) (hb : Xa8 w g b A n c) (hfz : ∀ o, w.frozen? ⟨g, o, none⟩ = false) (hl : Lines w w.heap.size A n c b.cache) (hoff : ∀ ad, A = some ad → ad.block ≠ g) (k : Int) (hk : k = 2) :
    Calls Tryz.prog 68 #[.pointer (some ⟨g, 0, none⟩), .int .i64 k, .int .i64 v] w (OutC g A n c w (Xa0 b k v)) := by
 refine z61 ?_; intro hw HB HL HO HF hg HS HW _ _
 have HP := Zh (show ptrV g k = .pointer (some ⟨g, 3, none⟩) by rw [hk]; rfl)
 have HK := Zh hk
 unfold OutC
 clear hb hl hoff hw hfz hk
 go_enter Tryz.func68, Tryz.ntmps68
 go_upto_region 5 with (fail)
 go_cut [7] (fun s7 wd => s7 = ptrV g k ∧ Hid (Xam w wd))
 case first =>
   refine wp_region_held_drew (S := fun _ => True) y1 trivial (fun hTT => ?_)
   (refine Xac (i := 1) (d := 22) (v := ?_) rfl rfl y1 y1 y1 (fun _ _ _ h => h) (Or.inl ⟨by rfl, ?_⟩) trivial ?_; rotate_left; (· (intro w hSw; go_simp; (try with_reducible rfl))); (try simp only [Act.put, List.setIfInBounds_toArray, List.set_cons_zero, List.set_cons_succ]))
   (refine Xac (i := 2) (d := 23) (v := ?_) rfl rfl y1 y1 y1 (fun _ _ _ h => h) (Or.inl ⟨by rfl, ?_⟩) trivial ?_; rotate_left; (· (intro w hSw; go_simp; (try with_reducible rfl))); (try simp only [Act.put, List.setIfInBounds_toArray, List.set_cons_zero, List.set_cons_succ]))
   (refine Xac (i := 3) (d := 24) (v := ?_) rfl rfl y1 y1 y1 (fun _ _ _ h => h) (Or.inl ⟨by rfl, ?_⟩) trivial ?_; rotate_left; (· (intro w hSw; go_simp; (try with_reducible rfl))); (try simp only [Act.put, List.setIfInBounds_toArray, List.set_cons_zero, List.set_cons_succ]))
   (refine Xac (i := 5) (d := 25) (v := ?_) rfl rfl y1 y1 y1 (fun _ _ _ h => h) (Or.inl ⟨by rfl, ?_⟩) trivial ?_; rotate_left; (· (intro w hSw; go_simp; (try with_reducible rfl))); (try simp only [Act.put, List.setIfInBounds_toArray, List.set_cons_zero, List.set_cons_succ]))
   (refine Xac (i := 6) (d := 26) (v := ?_) rfl rfl y1 y1 y1 (fun _ _ _ h => h) (Or.inl ⟨by rfl, ?_⟩) trivial ?_; rotate_left; (· (intro w hSw; go_simp; (try with_reducible rfl))); (try simp only [Act.put, List.setIfInBounds_toArray, List.set_cons_zero, List.set_cons_succ]))
   (refine Xac (i := 7) (d := 27) (v := ?_) rfl rfl y1 y1 y1 (fun _ _ _ h => h) (Or.inl ⟨by rfl, ?_⟩) trivial ?_; rotate_left; (· (intro w hSw; go_simp; (try with_reducible rfl))); (try simp only [Act.put, List.setIfInBounds_toArray, List.set_cons_zero, List.set_cons_succ]))
   (refine Xac (i := 9) (d := 28) (v := ?_) rfl rfl y1 y1 y1 (fun _ _ _ h => h) (Or.inl ⟨by rfl, ?_⟩) trivial ?_; rotate_left; (· (intro w hSw; go_simp; (try with_reducible rfl))); (try simp only [Act.put, List.setIfInBounds_toArray, List.set_cons_zero, List.set_cons_succ]))
   (refine Xac (i := 10) (d := 29) (v := ?_) rfl rfl y1 y1 y1 (fun _ _ _ h => h) (Or.inl ⟨by rfl, ?_⟩) trivial ?_; rotate_left; (· (intro w hSw; go_simp; (try with_reducible rfl))); (try simp only [Act.put, List.setIfInBounds_toArray, List.set_cons_zero, List.set_cons_succ]))
   (refine Xac (i := 11) (d := 30) (v := ?_) rfl rfl y1 y1 y1 (fun _ _ _ h => h) (Or.inl ⟨by rfl, ?_⟩) trivial ?_; rotate_left; (· (intro w hSw; go_simp; (try with_reducible rfl))); (try simp only [Act.put, List.setIfInBounds_toArray, List.set_cons_zero, List.set_cons_succ]))
   (refine Xac (i := 12) (d := 31) (v := ?_) rfl rfl y1 y1 y1 (fun _ _ _ h => h) (Or.inl ⟨by rfl, ?_⟩) trivial ?_; rotate_left; (· (intro w hSw; go_simp; (try with_reducible rfl))); (try simp only [Act.put, List.setIfInBounds_toArray, List.set_cons_zero, List.set_cons_succ]))
   (refine Xac (i := 14) (d := 32) (v := ?_) rfl rfl y1 y1 y1 (fun _ _ _ h => h) (Or.inl ⟨by rfl, ?_⟩) trivial ?_; rotate_left; (· (intro w hSw; go_simp; (try with_reducible rfl))); (try simp only [Act.put, List.setIfInBounds_toArray, List.set_cons_zero, List.set_cons_succ]))
   (refine Xac (i := 15) (d := 33) (v := ?_) rfl rfl y1 y1 y1 (fun _ _ _ h => h) (Or.inl ⟨by rfl, ?_⟩) trivial ?_; rotate_left; (· (intro w hSw; go_simp; (try with_reducible rfl))); (try simp only [Act.put, List.setIfInBounds_toArray, List.set_cons_zero, List.set_cons_succ]))
   (refine Xac (i := 16) (d := 34) (v := ?_) rfl rfl y1 y1 y1 (fun _ _ _ h => h) (Or.inl ⟨by rfl, ?_⟩) trivial ?_; rotate_left; (· (intro w hSw; go_simp; (try with_reducible rfl))); (try simp only [Act.put, List.setIfInBounds_toArray, List.set_cons_zero, List.set_cons_succ]))
   (refine Xac (i := 17) (d := 35) (v := ?_) rfl rfl y1 y1 y1 (fun _ _ _ h => h) (Or.inl ⟨by rfl, ?_⟩) trivial ?_; rotate_left; (· (intro w hSw; go_simp; (try with_reducible rfl))); (try simp only [Act.put, List.setIfInBounds_toArray, List.set_cons_zero, List.set_cons_succ]))
   (refine Xac (i := 19) (d := 36) (v := ?_) rfl rfl y1 y1 y1 (fun _ _ _ h => h) (Or.inl ⟨by rfl, ?_⟩) trivial ?_; rotate_left; (· (intro w hSw; go_simp; (try with_reducible rfl))); (try simp only [Act.put, List.setIfInBounds_toArray, List.set_cons_zero, List.set_cons_succ]))
   (refine Xac (i := 20) (d := 37) (v := ?_) rfl rfl y1 y1 y1 (fun _ _ _ h => h) (Or.inl ⟨by rfl, ?_⟩) trivial ?_; rotate_left; (· (intro w hSw; go_simp; (try with_reducible rfl))); (try simp only [Act.put, List.setIfInBounds_toArray, List.set_cons_zero, List.set_cons_succ]))
   (refine Xac (i := 21) (d := 38) (v := ?_) rfl rfl y1 y1 y1 (fun _ _ _ h => h) (Or.inl ⟨by rfl, ?_⟩) trivial ?_; rotate_left; (· (intro w hSw; go_simp; (try with_reducible rfl))); (try simp only [Act.put, List.setIfInBounds_toArray, List.set_cons_zero, List.set_cons_succ]))
   (refine Xac (i := 22) (d := 39) (v := ?_) rfl rfl y1 y1 y1 (fun _ _ _ h => h) (Or.inl ⟨by rfl, ?_⟩) trivial ?_; rotate_left; (· (intro w hSw; go_simp; (try with_reducible rfl))); (try simp only [Act.put, List.setIfInBounds_toArray, List.set_cons_zero, List.set_cons_succ]))
   (refine Xac (i := 24) (d := 40) (v := ?_) rfl rfl y1 y1 y1 (fun _ _ _ h => h) (Or.inl ⟨by rfl, ?_⟩) trivial ?_; rotate_left; (· (intro w hSw; go_simp; (try with_reducible rfl))); (try simp only [Act.put, List.setIfInBounds_toArray, List.set_cons_zero, List.set_cons_succ]))
   (refine Xac (i := 25) (d := 41) (v := ?_) rfl rfl y1 y1 y1 (fun _ _ _ h => h) (Or.inl ⟨by rfl, ?_⟩) trivial ?_; rotate_left; (· (intro w hSw; go_simp; (try with_reducible rfl))); (try simp only [Act.put, List.setIfInBounds_toArray, List.set_cons_zero, List.set_cons_succ]))
   (refine Xac (i := 26) (d := 42) (v := ?_) rfl rfl y1 y1 y1 (fun _ _ _ h => h) (Or.inl ⟨by rfl, ?_⟩) trivial ?_; rotate_left; (· (intro w hSw; go_simp; (try with_reducible rfl))); (try simp only [Act.put, List.setIfInBounds_toArray, List.set_cons_zero, List.set_cons_succ]))
   (refine Xac (i := 27) (d := 43) (v := ?_) rfl rfl y1 y1 y1 (fun _ _ _ h => h) (Or.inl ⟨by rfl, ?_⟩) trivial ?_; rotate_left; (· (intro w hSw; go_simp; (try with_reducible rfl))); (try simp only [Act.put, List.setIfInBounds_toArray, List.set_cons_zero, List.set_cons_succ]))
   (refine Xac (i := 30) (d := 45) (v := ?_) rfl rfl y1 y1 y1 (fun _ _ _ h => h) (Or.inl ⟨by rfl, ?_⟩) trivial ?_; rotate_left; (· (intro w hSw; go_simp; (try with_reducible rfl))); (try simp only [Act.put, List.setIfInBounds_toArray, List.set_cons_zero, List.set_cons_succ]))
   refine wpAnyH_ready (rs := [0]) y1 (by simp) ?_
   refine AllReadyH.cons rfl (fun K hK => ?_) AllReadyH.nil
   go_simp
   refine hK.out _ _ trivial (fun _ => ?_)
   clear hK K
   (try simp only [Act.put, List.setIfInBounds_toArray, List.set_cons_zero, List.set_cons_succ])
   have hown0 := World.ownsMap_made w.drew Tryz.prog 3 Xdi
   refine Xgc (g := g) (H := w.heap.size) (w0 := w) (Nat.le_refl _) ⟨_, 24, rfl, rfl, rfl, rfl, rfl, rfl⟩ ⟨_, 27, rfl, rfl, rfl, rfl, rfl, rfl⟩ ⟨_, 31, rfl, rfl, rfl, rfl, rfl, rfl⟩ ⟨_, 35, rfl, rfl, rfl, rfl, rfl, rfl⟩ ⟨_, 39, rfl, rfl, rfl, rfl, rfl, rfl⟩ ⟨_, 43, rfl, rfl, rfl, rfl, rfl, rfl⟩ ?_ ?_ 6 false false false false false false _ 0 _ rfl hown0 rfl ⟨isMap_empty, fun k z => by simp [bK]; rfl⟩ (Xag (Xav HS.out) _)
   · intro x0 x1 x2 x3 x4 x5 hx
     cases x0 <;> cases x1 <;> cases x2 <;> cases x3 <;> cases x4 <;> cases x5 <;> first | exact absurd hx (by decide) | kernel_rfl
   · intro W D hown hD hS
     have HD := Zh hD
     have HSS := Zh hS
     clear hD hS
     refine Xac (i := 29) (d := 44) (v := ?_) rfl rfl y1 y1 y1 (fun _ _ _ h => h) (Or.inl ⟨by rfl, ?_⟩) trivial ?_
     rotate_left
     · (intro w hSw; go_simp; (try with_reducible rfl))
     (try simp only [Act.put, List.setIfInBounds_toArray, List.set_cons_zero, List.set_cons_succ])
     refine wpAnyH_ready (rs := [31]) y1 (by simp) ?_
     refine AllReadyH.cons rfl (fun K hK => ?_) AllReadyH.nil
     rw [if_pos (by rfl)]
     refine Xca W _ _ 156 rfl 3 155 Tryz.keyInt Tryz.underlying156 (Tryz.zeroPtr _) w.heap.size 6 D rfl hown (.int .i64 k) (.int .i64 k) rfl (keyOf_int_mk Tryz.underlying3 HW.out) (ptrV g k) ((HD.out.2 k _).trans (Xi2 g k)) (d := 46) rfl ?_
     refine hK.out _ _ trivial (fun _ => ?_)
     clear hK K
     (try simp only [Act.put, List.setIfInBounds_toArray, List.set_cons_zero, List.set_cons_succ])
     refine Xac (i := 32) (d := 7) (v := ?_) rfl rfl y1 y1 y1 (fun _ _ _ h => h) (Or.inl ⟨by rfl, ?_⟩) trivial ?_
     rotate_left
     · (intro w hSw; go_simp; (try with_reducible rfl))
     (try simp only [Act.put, List.setIfInBounds_toArray, List.set_cons_zero, List.set_cons_succ])
     refine wpAnyH_done y1 ?_ _
     go_wp2
     go_meet
     exact ⟨rfl, HSS.out⟩
 case rest =>
   obtain ⟨rfl, hS⟩ := hcut
   rw [HP.out]
   have hb2 := Xau HB.out hS.out
   have HB2 := Zh hb2
   have HL2 := Zh (Xbh HL.out hS.out)
   have hgd := Xcw hb2
   have hfz2 : ∀ o, wc.frozen? ⟨g, o, none⟩ = false := fun o => (Below.frozen (p := ⟨g, o, none⟩) hS.out hg).trans (HF.out o)
   have HB3 := Zh (Xom HB2.out v)
   have HL3 := Zh ((Xbs HL2.out (p := ⟨g, 3, none⟩) HO.out (.int .i64 v)).more (B' := (wc.setCell ⟨g, 3, none⟩ (.int .i64 v)).heap.size) (by simp))
   have HN3 := Zh (Xcl (o := 3) hg hS.out (.int .i64 v))
   obtain ⟨c0, c1, c2, c3, c4, c5, c6, c7, c8, c9, c10, c11⟩ := hb2
   by_cases hE : ckB { b with orders := ⟨v, b.orders.head, b.orders.tail⟩ } = 0
   · have hE0 : (ckB { b with orders := ⟨v, b.orders.head, b.orders.tail⟩ } != 0) = false := by rw [bne_eq_false_iff_eq]; exact hE
     have HV := Zh (show Xa0 b k v = ({ b with orders := ⟨v, b.orders.head, b.orders.tail⟩ }, true) by rw [HK.out]; unfold Xa0; rw [if_neg (by decide), if_pos ⟨rfl, hE⟩]; rfl)
     clear hE
     go_wp2_with fail
     refine (Xbb { b with orders := ⟨v, b.orders.head, b.orders.tail⟩ } A n c _ HL3.out).mono ?_
     rintro e w3 ⟨rfl, hb3⟩
     have HB4 := Zh hb3
     clear hb3 c0 c1 c2 c3 c4 c5 c6 c7 c8 c9 c10 c11
     go_wp2
     go_ret
     rw [HV.out]
     exact ⟨rfl, Xau HB3.out HB4.out, Xbh HL3.out HB4.out, Xc5 HN3.out hg HB4.out⟩
   · have hE0 : (ckB { b with orders := ⟨v, b.orders.head, b.orders.tail⟩ } != 0) = true := by rw [bne_iff_ne]; exact hE
     have HV := Zh (show Xa0 b k v = (b, false) by rw [HK.out]; unfold Xa0; rw [if_neg (by decide), if_neg (fun h => hE h.2)])
     clear hE
     go_wp2_with fail
     refine (Xbb { b with orders := ⟨v, b.orders.head, b.orders.tail⟩ } A n c _ HL3.out).mono ?_
     rintro e w3 ⟨rfl, hb3⟩
     have HB4 := Zh hb3
     have HB5 := Zh (Xau HB3.out hb3)
     have hg3 := Xcw HB5.out
     have hfz3 : ∀ o, w3.frozen? ⟨g, o, none⟩ = false := fun o => (Below.frozen (p := ⟨g, o, none⟩) hb3 (by simpa using hgd)).trans y13
     have k3 := Xae (p := ⟨g, 3, none⟩) (v := .int .i64 v) hb3 y17
     clear hb3 c0 c1 c2 c3 c4 c5 c6 c7 c8 c9 c10 c11
     go_wp2
     go_ret
     rw [HV.out]
     exact ⟨rfl, Xom HB5.out b.orders.page, (Xbs (Xbh HL3.out HB4.out) (p := ⟨g, 3, none⟩) HO.out (.int .i64 b.orders.page)).more (by simp), Xdc (Xc5 HN3.out hg HB4.out) hg _ _⟩
theorem out_3 (b : Brg) (A : Option Addr) (n c g : Nat) (v : Int) (w : World) (hb : Xa8 w g b A n c) (hfz : ∀ o, w.frozen? ⟨g, o, none⟩ = false) (hl : Lines w w.heap.size A n c b.cache) (hoff : ∀ ad, A = some ad → ad.block ≠ g) (k : Int) (hk : k = 3) :
    Calls Tryz.prog 68 #[.pointer (some ⟨g, 0, none⟩), .int .i64 k, .int .i64 v] w (OutC g A n c w (Xa0 b k v)) := by
 refine z61 ?_; intro hw HB HL HO HF hg HS HW _ _
 have HP := Zh (show ptrV g k = .pointer (some ⟨g, 5, none⟩) by rw [hk]; rfl)
 have HK := Zh hk
 unfold OutC
 clear hb hl hoff hw hfz hk
 go_enter Tryz.func68, Tryz.ntmps68
 go_upto_region 5 with (fail)
 go_cut [7] (fun s7 wd => s7 = ptrV g k ∧ Hid (Xam w wd))
 case first =>
   refine wp_region_held_drew (S := fun _ => True) y1 trivial (fun hTT => ?_)
   (refine Xac (i := 1) (d := 22) (v := ?_) rfl rfl y1 y1 y1 (fun _ _ _ h => h) (Or.inl ⟨by rfl, ?_⟩) trivial ?_; rotate_left; (· (intro w hSw; go_simp; (try with_reducible rfl))); (try simp only [Act.put, List.setIfInBounds_toArray, List.set_cons_zero, List.set_cons_succ]))
   (refine Xac (i := 2) (d := 23) (v := ?_) rfl rfl y1 y1 y1 (fun _ _ _ h => h) (Or.inl ⟨by rfl, ?_⟩) trivial ?_; rotate_left; (· (intro w hSw; go_simp; (try with_reducible rfl))); (try simp only [Act.put, List.setIfInBounds_toArray, List.set_cons_zero, List.set_cons_succ]))
   (refine Xac (i := 3) (d := 24) (v := ?_) rfl rfl y1 y1 y1 (fun _ _ _ h => h) (Or.inl ⟨by rfl, ?_⟩) trivial ?_; rotate_left; (· (intro w hSw; go_simp; (try with_reducible rfl))); (try simp only [Act.put, List.setIfInBounds_toArray, List.set_cons_zero, List.set_cons_succ]))
   (refine Xac (i := 5) (d := 25) (v := ?_) rfl rfl y1 y1 y1 (fun _ _ _ h => h) (Or.inl ⟨by rfl, ?_⟩) trivial ?_; rotate_left; (· (intro w hSw; go_simp; (try with_reducible rfl))); (try simp only [Act.put, List.setIfInBounds_toArray, List.set_cons_zero, List.set_cons_succ]))
   (refine Xac (i := 6) (d := 26) (v := ?_) rfl rfl y1 y1 y1 (fun _ _ _ h => h) (Or.inl ⟨by rfl, ?_⟩) trivial ?_; rotate_left; (· (intro w hSw; go_simp; (try with_reducible rfl))); (try simp only [Act.put, List.setIfInBounds_toArray, List.set_cons_zero, List.set_cons_succ]))
   (refine Xac (i := 7) (d := 27) (v := ?_) rfl rfl y1 y1 y1 (fun _ _ _ h => h) (Or.inl ⟨by rfl, ?_⟩) trivial ?_; rotate_left; (· (intro w hSw; go_simp; (try with_reducible rfl))); (try simp only [Act.put, List.setIfInBounds_toArray, List.set_cons_zero, List.set_cons_succ]))
   (refine Xac (i := 9) (d := 28) (v := ?_) rfl rfl y1 y1 y1 (fun _ _ _ h => h) (Or.inl ⟨by rfl, ?_⟩) trivial ?_; rotate_left; (· (intro w hSw; go_simp; (try with_reducible rfl))); (try simp only [Act.put, List.setIfInBounds_toArray, List.set_cons_zero, List.set_cons_succ]))
   (refine Xac (i := 10) (d := 29) (v := ?_) rfl rfl y1 y1 y1 (fun _ _ _ h => h) (Or.inl ⟨by rfl, ?_⟩) trivial ?_; rotate_left; (· (intro w hSw; go_simp; (try with_reducible rfl))); (try simp only [Act.put, List.setIfInBounds_toArray, List.set_cons_zero, List.set_cons_succ]))
   (refine Xac (i := 11) (d := 30) (v := ?_) rfl rfl y1 y1 y1 (fun _ _ _ h => h) (Or.inl ⟨by rfl, ?_⟩) trivial ?_; rotate_left; (· (intro w hSw; go_simp; (try with_reducible rfl))); (try simp only [Act.put, List.setIfInBounds_toArray, List.set_cons_zero, List.set_cons_succ]))
   (refine Xac (i := 12) (d := 31) (v := ?_) rfl rfl y1 y1 y1 (fun _ _ _ h => h) (Or.inl ⟨by rfl, ?_⟩) trivial ?_; rotate_left; (· (intro w hSw; go_simp; (try with_reducible rfl))); (try simp only [Act.put, List.setIfInBounds_toArray, List.set_cons_zero, List.set_cons_succ]))
   (refine Xac (i := 14) (d := 32) (v := ?_) rfl rfl y1 y1 y1 (fun _ _ _ h => h) (Or.inl ⟨by rfl, ?_⟩) trivial ?_; rotate_left; (· (intro w hSw; go_simp; (try with_reducible rfl))); (try simp only [Act.put, List.setIfInBounds_toArray, List.set_cons_zero, List.set_cons_succ]))
   (refine Xac (i := 15) (d := 33) (v := ?_) rfl rfl y1 y1 y1 (fun _ _ _ h => h) (Or.inl ⟨by rfl, ?_⟩) trivial ?_; rotate_left; (· (intro w hSw; go_simp; (try with_reducible rfl))); (try simp only [Act.put, List.setIfInBounds_toArray, List.set_cons_zero, List.set_cons_succ]))
   (refine Xac (i := 16) (d := 34) (v := ?_) rfl rfl y1 y1 y1 (fun _ _ _ h => h) (Or.inl ⟨by rfl, ?_⟩) trivial ?_; rotate_left; (· (intro w hSw; go_simp; (try with_reducible rfl))); (try simp only [Act.put, List.setIfInBounds_toArray, List.set_cons_zero, List.set_cons_succ]))
   (refine Xac (i := 17) (d := 35) (v := ?_) rfl rfl y1 y1 y1 (fun _ _ _ h => h) (Or.inl ⟨by rfl, ?_⟩) trivial ?_; rotate_left; (· (intro w hSw; go_simp; (try with_reducible rfl))); (try simp only [Act.put, List.setIfInBounds_toArray, List.set_cons_zero, List.set_cons_succ]))
   (refine Xac (i := 19) (d := 36) (v := ?_) rfl rfl y1 y1 y1 (fun _ _ _ h => h) (Or.inl ⟨by rfl, ?_⟩) trivial ?_; rotate_left; (· (intro w hSw; go_simp; (try with_reducible rfl))); (try simp only [Act.put, List.setIfInBounds_toArray, List.set_cons_zero, List.set_cons_succ]))
   (refine Xac (i := 20) (d := 37) (v := ?_) rfl rfl y1 y1 y1 (fun _ _ _ h => h) (Or.inl ⟨by rfl, ?_⟩) trivial ?_; rotate_left; (· (intro w hSw; go_simp; (try with_reducible rfl))); (try simp only [Act.put, List.setIfInBounds_toArray, List.set_cons_zero, List.set_cons_succ]))
   (refine Xac (i := 21) (d := 38) (v := ?_) rfl rfl y1 y1 y1 (fun _ _ _ h => h) (Or.inl ⟨by rfl, ?_⟩) trivial ?_; rotate_left; (· (intro w hSw; go_simp; (try with_reducible rfl))); (try simp only [Act.put, List.setIfInBounds_toArray, List.set_cons_zero, List.set_cons_succ]))
   (refine Xac (i := 22) (d := 39) (v := ?_) rfl rfl y1 y1 y1 (fun _ _ _ h => h) (Or.inl ⟨by rfl, ?_⟩) trivial ?_; rotate_left; (· (intro w hSw; go_simp; (try with_reducible rfl))); (try simp only [Act.put, List.setIfInBounds_toArray, List.set_cons_zero, List.set_cons_succ]))
   (refine Xac (i := 24) (d := 40) (v := ?_) rfl rfl y1 y1 y1 (fun _ _ _ h => h) (Or.inl ⟨by rfl, ?_⟩) trivial ?_; rotate_left; (· (intro w hSw; go_simp; (try with_reducible rfl))); (try simp only [Act.put, List.setIfInBounds_toArray, List.set_cons_zero, List.set_cons_succ]))
   (refine Xac (i := 25) (d := 41) (v := ?_) rfl rfl y1 y1 y1 (fun _ _ _ h => h) (Or.inl ⟨by rfl, ?_⟩) trivial ?_; rotate_left; (· (intro w hSw; go_simp; (try with_reducible rfl))); (try simp only [Act.put, List.setIfInBounds_toArray, List.set_cons_zero, List.set_cons_succ]))
   (refine Xac (i := 26) (d := 42) (v := ?_) rfl rfl y1 y1 y1 (fun _ _ _ h => h) (Or.inl ⟨by rfl, ?_⟩) trivial ?_; rotate_left; (· (intro w hSw; go_simp; (try with_reducible rfl))); (try simp only [Act.put, List.setIfInBounds_toArray, List.set_cons_zero, List.set_cons_succ]))
   (refine Xac (i := 27) (d := 43) (v := ?_) rfl rfl y1 y1 y1 (fun _ _ _ h => h) (Or.inl ⟨by rfl, ?_⟩) trivial ?_; rotate_left; (· (intro w hSw; go_simp; (try with_reducible rfl))); (try simp only [Act.put, List.setIfInBounds_toArray, List.set_cons_zero, List.set_cons_succ]))
   (refine Xac (i := 30) (d := 45) (v := ?_) rfl rfl y1 y1 y1 (fun _ _ _ h => h) (Or.inl ⟨by rfl, ?_⟩) trivial ?_; rotate_left; (· (intro w hSw; go_simp; (try with_reducible rfl))); (try simp only [Act.put, List.setIfInBounds_toArray, List.set_cons_zero, List.set_cons_succ]))
   refine wpAnyH_ready (rs := [0]) y1 (by simp) ?_
   refine AllReadyH.cons rfl (fun K hK => ?_) AllReadyH.nil
   go_simp
   refine hK.out _ _ trivial (fun _ => ?_)
   clear hK K
   (try simp only [Act.put, List.setIfInBounds_toArray, List.set_cons_zero, List.set_cons_succ])
   have hown0 := World.ownsMap_made w.drew Tryz.prog 3 Xdi
   refine Xgc (g := g) (H := w.heap.size) (w0 := w) (Nat.le_refl _) ⟨_, 24, rfl, rfl, rfl, rfl, rfl, rfl⟩ ⟨_, 27, rfl, rfl, rfl, rfl, rfl, rfl⟩ ⟨_, 31, rfl, rfl, rfl, rfl, rfl, rfl⟩ ⟨_, 35, rfl, rfl, rfl, rfl, rfl, rfl⟩ ⟨_, 39, rfl, rfl, rfl, rfl, rfl, rfl⟩ ⟨_, 43, rfl, rfl, rfl, rfl, rfl, rfl⟩ ?_ ?_ 6 false false false false false false _ 0 _ rfl hown0 rfl ⟨isMap_empty, fun k z => by simp [bK]; rfl⟩ (Xag (Xav HS.out) _)
   · intro x0 x1 x2 x3 x4 x5 hx
     cases x0 <;> cases x1 <;> cases x2 <;> cases x3 <;> cases x4 <;> cases x5 <;> first | exact absurd hx (by decide) | kernel_rfl
   · intro W D hown hD hS
     have HD := Zh hD
     have HSS := Zh hS
     clear hD hS
     refine Xac (i := 29) (d := 44) (v := ?_) rfl rfl y1 y1 y1 (fun _ _ _ h => h) (Or.inl ⟨by rfl, ?_⟩) trivial ?_
     rotate_left
     · (intro w hSw; go_simp; (try with_reducible rfl))
     (try simp only [Act.put, List.setIfInBounds_toArray, List.set_cons_zero, List.set_cons_succ])
     refine wpAnyH_ready (rs := [31]) y1 (by simp) ?_
     refine AllReadyH.cons rfl (fun K hK => ?_) AllReadyH.nil
     rw [if_pos (by rfl)]
     refine Xca W _ _ 156 rfl 3 155 Tryz.keyInt Tryz.underlying156 (Tryz.zeroPtr _) w.heap.size 6 D rfl hown (.int .i64 k) (.int .i64 k) rfl (keyOf_int_mk Tryz.underlying3 HW.out) (ptrV g k) ((HD.out.2 k _).trans (Xi2 g k)) (d := 46) rfl ?_
     refine hK.out _ _ trivial (fun _ => ?_)
     clear hK K
     (try simp only [Act.put, List.setIfInBounds_toArray, List.set_cons_zero, List.set_cons_succ])
     refine Xac (i := 32) (d := 7) (v := ?_) rfl rfl y1 y1 y1 (fun _ _ _ h => h) (Or.inl ⟨by rfl, ?_⟩) trivial ?_
     rotate_left
     · (intro w hSw; go_simp; (try with_reducible rfl))
     (try simp only [Act.put, List.setIfInBounds_toArray, List.set_cons_zero, List.set_cons_succ])
     refine wpAnyH_done y1 ?_ _
     go_wp2
     go_meet
     exact ⟨rfl, HSS.out⟩
 case rest =>
   obtain ⟨rfl, hS⟩ := hcut
   rw [HP.out]
   have hb2 := Xau HB.out hS.out
   have HB2 := Zh hb2
   have HL2 := Zh (Xbh HL.out hS.out)
   have hgd := Xcw hb2
   have hfz2 : ∀ o, wc.frozen? ⟨g, o, none⟩ = false := fun o => (Below.frozen (p := ⟨g, o, none⟩) hS.out hg).trans (HF.out o)
   have HB3 := Zh (Xol HB2.out v)
   have HL3 := Zh ((Xbs HL2.out (p := ⟨g, 5, none⟩) HO.out (.int .i64 v)).more (B' := (wc.setCell ⟨g, 5, none⟩ (.int .i64 v)).heap.size) (by simp))
   have HN3 := Zh (Xcl (o := 5) hg hS.out (.int .i64 v))
   obtain ⟨c0, c1, c2, c3, c4, c5, c6, c7, c8, c9, c10, c11⟩ := hb2
   by_cases hE : ckB { b with orders := ⟨b.orders.page, b.orders.head, v⟩ } = 0
   · have hE0 : (ckB { b with orders := ⟨b.orders.page, b.orders.head, v⟩ } != 0) = false := by rw [bne_eq_false_iff_eq]; exact hE
     have HV := Zh (show Xa0 b k v = ({ b with orders := ⟨b.orders.page, b.orders.head, v⟩ }, true) by rw [HK.out]; unfold Xa0; rw [if_neg (by decide), if_pos ⟨rfl, hE⟩]; rfl)
     clear hE
     go_wp2_with fail
     refine (Xbb { b with orders := ⟨b.orders.page, b.orders.head, v⟩ } A n c _ HL3.out).mono ?_
     rintro e w3 ⟨rfl, hb3⟩
     have HB4 := Zh hb3
     clear hb3 c0 c1 c2 c3 c4 c5 c6 c7 c8 c9 c10 c11
     go_wp2
     go_ret
     rw [HV.out]
     exact ⟨rfl, Xau HB3.out HB4.out, Xbh HL3.out HB4.out, Xc5 HN3.out hg HB4.out⟩
   · have hE0 : (ckB { b with orders := ⟨b.orders.page, b.orders.head, v⟩ } != 0) = true := by rw [bne_iff_ne]; exact hE
     have HV := Zh (show Xa0 b k v = (b, false) by rw [HK.out]; unfold Xa0; rw [if_neg (by decide), if_neg (fun h => hE h.2)])
     clear hE
     go_wp2_with fail
     refine (Xbb { b with orders := ⟨b.orders.page, b.orders.head, v⟩ } A n c _ HL3.out).mono ?_
     rintro e w3 ⟨rfl, hb3⟩
     have HB4 := Zh hb3
     have HB5 := Zh (Xau HB3.out hb3)
     have hg3 := Xcw HB5.out
     have hfz3 : ∀ o, w3.frozen? ⟨g, o, none⟩ = false := fun o => (Below.frozen (p := ⟨g, o, none⟩) hb3 (by simpa using hgd)).trans y13
     have k3 := Xae (p := ⟨g, 5, none⟩) (v := .int .i64 v) hb3 y17
     clear hb3 c0 c1 c2 c3 c4 c5 c6 c7 c8 c9 c10 c11
     go_wp2
     go_ret
     rw [HV.out]
     exact ⟨rfl, Xol HB5.out b.orders.tail, (Xbs (Xbh HL3.out HB4.out) (p := ⟨g, 5, none⟩) HO.out (.int .i64 b.orders.tail)).more (by simp), Xdc (Xc5 HN3.out hg HB4.out) hg _ _⟩
theorem out_5 (b : Brg) (A : Option Addr) (n c g : Nat) (v : Int) (w : World) (hb : Xa8 w g b A n c) (hfz : ∀ o, w.frozen? ⟨g, o, none⟩ = false) (hl : Lines w w.heap.size A n c b.cache) (hoff : ∀ ad, A = some ad → ad.block ≠ g) (k : Int) (hk : k = 5) :
    Calls Tryz.prog 68 #[.pointer (some ⟨g, 0, none⟩), .int .i64 k, .int .i64 v] w (OutC g A n c w (Xa0 b k v)) := by
 refine z61 ?_; intro hw HB HL HO HF hg HS HW _ _
 have HP := Zh (show ptrV g k = .pointer (some ⟨g, 8, none⟩) by rw [hk]; rfl)
 have HK := Zh hk
 unfold OutC
 clear hb hl hoff hw hfz hk
 go_enter Tryz.func68, Tryz.ntmps68
 go_upto_region 5 with (fail)
 go_cut [7] (fun s7 wd => s7 = ptrV g k ∧ Hid (Xam w wd))
 case first =>
   refine wp_region_held_drew (S := fun _ => True) y1 trivial (fun hTT => ?_)
   (refine Xac (i := 1) (d := 22) (v := ?_) rfl rfl y1 y1 y1 (fun _ _ _ h => h) (Or.inl ⟨by rfl, ?_⟩) trivial ?_; rotate_left; (· (intro w hSw; go_simp; (try with_reducible rfl))); (try simp only [Act.put, List.setIfInBounds_toArray, List.set_cons_zero, List.set_cons_succ]))
   (refine Xac (i := 2) (d := 23) (v := ?_) rfl rfl y1 y1 y1 (fun _ _ _ h => h) (Or.inl ⟨by rfl, ?_⟩) trivial ?_; rotate_left; (· (intro w hSw; go_simp; (try with_reducible rfl))); (try simp only [Act.put, List.setIfInBounds_toArray, List.set_cons_zero, List.set_cons_succ]))
   (refine Xac (i := 3) (d := 24) (v := ?_) rfl rfl y1 y1 y1 (fun _ _ _ h => h) (Or.inl ⟨by rfl, ?_⟩) trivial ?_; rotate_left; (· (intro w hSw; go_simp; (try with_reducible rfl))); (try simp only [Act.put, List.setIfInBounds_toArray, List.set_cons_zero, List.set_cons_succ]))
   (refine Xac (i := 5) (d := 25) (v := ?_) rfl rfl y1 y1 y1 (fun _ _ _ h => h) (Or.inl ⟨by rfl, ?_⟩) trivial ?_; rotate_left; (· (intro w hSw; go_simp; (try with_reducible rfl))); (try simp only [Act.put, List.setIfInBounds_toArray, List.set_cons_zero, List.set_cons_succ]))
   (refine Xac (i := 6) (d := 26) (v := ?_) rfl rfl y1 y1 y1 (fun _ _ _ h => h) (Or.inl ⟨by rfl, ?_⟩) trivial ?_; rotate_left; (· (intro w hSw; go_simp; (try with_reducible rfl))); (try simp only [Act.put, List.setIfInBounds_toArray, List.set_cons_zero, List.set_cons_succ]))
   (refine Xac (i := 7) (d := 27) (v := ?_) rfl rfl y1 y1 y1 (fun _ _ _ h => h) (Or.inl ⟨by rfl, ?_⟩) trivial ?_; rotate_left; (· (intro w hSw; go_simp; (try with_reducible rfl))); (try simp only [Act.put, List.setIfInBounds_toArray, List.set_cons_zero, List.set_cons_succ]))
   (refine Xac (i := 9) (d := 28) (v := ?_) rfl rfl y1 y1 y1 (fun _ _ _ h => h) (Or.inl ⟨by rfl, ?_⟩) trivial ?_; rotate_left; (· (intro w hSw; go_simp; (try with_reducible rfl))); (try simp only [Act.put, List.setIfInBounds_toArray, List.set_cons_zero, List.set_cons_succ]))
   (refine Xac (i := 10) (d := 29) (v := ?_) rfl rfl y1 y1 y1 (fun _ _ _ h => h) (Or.inl ⟨by rfl, ?_⟩) trivial ?_; rotate_left; (· (intro w hSw; go_simp; (try with_reducible rfl))); (try simp only [Act.put, List.setIfInBounds_toArray, List.set_cons_zero, List.set_cons_succ]))
   (refine Xac (i := 11) (d := 30) (v := ?_) rfl rfl y1 y1 y1 (fun _ _ _ h => h) (Or.inl ⟨by rfl, ?_⟩) trivial ?_; rotate_left; (· (intro w hSw; go_simp; (try with_reducible rfl))); (try simp only [Act.put, List.setIfInBounds_toArray, List.set_cons_zero, List.set_cons_succ]))
   (refine Xac (i := 12) (d := 31) (v := ?_) rfl rfl y1 y1 y1 (fun _ _ _ h => h) (Or.inl ⟨by rfl, ?_⟩) trivial ?_; rotate_left; (· (intro w hSw; go_simp; (try with_reducible rfl))); (try simp only [Act.put, List.setIfInBounds_toArray, List.set_cons_zero, List.set_cons_succ]))
   (refine Xac (i := 14) (d := 32) (v := ?_) rfl rfl y1 y1 y1 (fun _ _ _ h => h) (Or.inl ⟨by rfl, ?_⟩) trivial ?_; rotate_left; (· (intro w hSw; go_simp; (try with_reducible rfl))); (try simp only [Act.put, List.setIfInBounds_toArray, List.set_cons_zero, List.set_cons_succ]))
   (refine Xac (i := 15) (d := 33) (v := ?_) rfl rfl y1 y1 y1 (fun _ _ _ h => h) (Or.inl ⟨by rfl, ?_⟩) trivial ?_; rotate_left; (· (intro w hSw; go_simp; (try with_reducible rfl))); (try simp only [Act.put, List.setIfInBounds_toArray, List.set_cons_zero, List.set_cons_succ]))
   (refine Xac (i := 16) (d := 34) (v := ?_) rfl rfl y1 y1 y1 (fun _ _ _ h => h) (Or.inl ⟨by rfl, ?_⟩) trivial ?_; rotate_left; (· (intro w hSw; go_simp; (try with_reducible rfl))); (try simp only [Act.put, List.setIfInBounds_toArray, List.set_cons_zero, List.set_cons_succ]))
   (refine Xac (i := 17) (d := 35) (v := ?_) rfl rfl y1 y1 y1 (fun _ _ _ h => h) (Or.inl ⟨by rfl, ?_⟩) trivial ?_; rotate_left; (· (intro w hSw; go_simp; (try with_reducible rfl))); (try simp only [Act.put, List.setIfInBounds_toArray, List.set_cons_zero, List.set_cons_succ]))
   (refine Xac (i := 19) (d := 36) (v := ?_) rfl rfl y1 y1 y1 (fun _ _ _ h => h) (Or.inl ⟨by rfl, ?_⟩) trivial ?_; rotate_left; (· (intro w hSw; go_simp; (try with_reducible rfl))); (try simp only [Act.put, List.setIfInBounds_toArray, List.set_cons_zero, List.set_cons_succ]))
   (refine Xac (i := 20) (d := 37) (v := ?_) rfl rfl y1 y1 y1 (fun _ _ _ h => h) (Or.inl ⟨by rfl, ?_⟩) trivial ?_; rotate_left; (· (intro w hSw; go_simp; (try with_reducible rfl))); (try simp only [Act.put, List.setIfInBounds_toArray, List.set_cons_zero, List.set_cons_succ]))
   (refine Xac (i := 21) (d := 38) (v := ?_) rfl rfl y1 y1 y1 (fun _ _ _ h => h) (Or.inl ⟨by rfl, ?_⟩) trivial ?_; rotate_left; (· (intro w hSw; go_simp; (try with_reducible rfl))); (try simp only [Act.put, List.setIfInBounds_toArray, List.set_cons_zero, List.set_cons_succ]))
   (refine Xac (i := 22) (d := 39) (v := ?_) rfl rfl y1 y1 y1 (fun _ _ _ h => h) (Or.inl ⟨by rfl, ?_⟩) trivial ?_; rotate_left; (· (intro w hSw; go_simp; (try with_reducible rfl))); (try simp only [Act.put, List.setIfInBounds_toArray, List.set_cons_zero, List.set_cons_succ]))
   (refine Xac (i := 24) (d := 40) (v := ?_) rfl rfl y1 y1 y1 (fun _ _ _ h => h) (Or.inl ⟨by rfl, ?_⟩) trivial ?_; rotate_left; (· (intro w hSw; go_simp; (try with_reducible rfl))); (try simp only [Act.put, List.setIfInBounds_toArray, List.set_cons_zero, List.set_cons_succ]))
   (refine Xac (i := 25) (d := 41) (v := ?_) rfl rfl y1 y1 y1 (fun _ _ _ h => h) (Or.inl ⟨by rfl, ?_⟩) trivial ?_; rotate_left; (· (intro w hSw; go_simp; (try with_reducible rfl))); (try simp only [Act.put, List.setIfInBounds_toArray, List.set_cons_zero, List.set_cons_succ]))
   (refine Xac (i := 26) (d := 42) (v := ?_) rfl rfl y1 y1 y1 (fun _ _ _ h => h) (Or.inl ⟨by rfl, ?_⟩) trivial ?_; rotate_left; (· (intro w hSw; go_simp; (try with_reducible rfl))); (try simp only [Act.put, List.setIfInBounds_toArray, List.set_cons_zero, List.set_cons_succ]))
   (refine Xac (i := 27) (d := 43) (v := ?_) rfl rfl y1 y1 y1 (fun _ _ _ h => h) (Or.inl ⟨by rfl, ?_⟩) trivial ?_; rotate_left; (· (intro w hSw; go_simp; (try with_reducible rfl))); (try simp only [Act.put, List.setIfInBounds_toArray, List.set_cons_zero, List.set_cons_succ]))
   (refine Xac (i := 30) (d := 45) (v := ?_) rfl rfl y1 y1 y1 (fun _ _ _ h => h) (Or.inl ⟨by rfl, ?_⟩) trivial ?_; rotate_left; (· (intro w hSw; go_simp; (try with_reducible rfl))); (try simp only [Act.put, List.setIfInBounds_toArray, List.set_cons_zero, List.set_cons_succ]))
   refine wpAnyH_ready (rs := [0]) y1 (by simp) ?_
   refine AllReadyH.cons rfl (fun K hK => ?_) AllReadyH.nil
   go_simp
   refine hK.out _ _ trivial (fun _ => ?_)
   clear hK K
   (try simp only [Act.put, List.setIfInBounds_toArray, List.set_cons_zero, List.set_cons_succ])
   have hown0 := World.ownsMap_made w.drew Tryz.prog 3 Xdi
   refine Xgc (g := g) (H := w.heap.size) (w0 := w) (Nat.le_refl _) ⟨_, 24, rfl, rfl, rfl, rfl, rfl, rfl⟩ ⟨_, 27, rfl, rfl, rfl, rfl, rfl, rfl⟩ ⟨_, 31, rfl, rfl, rfl, rfl, rfl, rfl⟩ ⟨_, 35, rfl, rfl, rfl, rfl, rfl, rfl⟩ ⟨_, 39, rfl, rfl, rfl, rfl, rfl, rfl⟩ ⟨_, 43, rfl, rfl, rfl, rfl, rfl, rfl⟩ ?_ ?_ 6 false false false false false false _ 0 _ rfl hown0 rfl ⟨isMap_empty, fun k z => by simp [bK]; rfl⟩ (Xag (Xav HS.out) _)
   · intro x0 x1 x2 x3 x4 x5 hx
     cases x0 <;> cases x1 <;> cases x2 <;> cases x3 <;> cases x4 <;> cases x5 <;> first | exact absurd hx (by decide) | kernel_rfl
   · intro W D hown hD hS
     have HD := Zh hD
     have HSS := Zh hS
     clear hD hS
     refine Xac (i := 29) (d := 44) (v := ?_) rfl rfl y1 y1 y1 (fun _ _ _ h => h) (Or.inl ⟨by rfl, ?_⟩) trivial ?_
     rotate_left
     · (intro w hSw; go_simp; (try with_reducible rfl))
     (try simp only [Act.put, List.setIfInBounds_toArray, List.set_cons_zero, List.set_cons_succ])
     refine wpAnyH_ready (rs := [31]) y1 (by simp) ?_
     refine AllReadyH.cons rfl (fun K hK => ?_) AllReadyH.nil
     rw [if_pos (by rfl)]
     refine Xca W _ _ 156 rfl 3 155 Tryz.keyInt Tryz.underlying156 (Tryz.zeroPtr _) w.heap.size 6 D rfl hown (.int .i64 k) (.int .i64 k) rfl (keyOf_int_mk Tryz.underlying3 HW.out) (ptrV g k) ((HD.out.2 k _).trans (Xi2 g k)) (d := 46) rfl ?_
     refine hK.out _ _ trivial (fun _ => ?_)
     clear hK K
     (try simp only [Act.put, List.setIfInBounds_toArray, List.set_cons_zero, List.set_cons_succ])
     refine Xac (i := 32) (d := 7) (v := ?_) rfl rfl y1 y1 y1 (fun _ _ _ h => h) (Or.inl ⟨by rfl, ?_⟩) trivial ?_
     rotate_left
     · (intro w hSw; go_simp; (try with_reducible rfl))
     (try simp only [Act.put, List.setIfInBounds_toArray, List.set_cons_zero, List.set_cons_succ])
     refine wpAnyH_done y1 ?_ _
     go_wp2
     go_meet
     exact ⟨rfl, HSS.out⟩
 case rest =>
   obtain ⟨rfl, hS⟩ := hcut
   rw [HP.out]
   have hb2 := Xau HB.out hS.out
   have HB2 := Zh hb2
   have HL2 := Zh (Xbh HL.out hS.out)
   have hgd := Xcw hb2
   have hfz2 : ∀ o, wc.frozen? ⟨g, o, none⟩ = false := fun o => (Below.frozen (p := ⟨g, o, none⟩) hS.out hg).trans (HF.out o)
   have HB3 := Zh (Xok HB2.out v)
   have HL3 := Zh ((Xbs HL2.out (p := ⟨g, 8, none⟩) HO.out (.int .i64 v)).more (B' := (wc.setCell ⟨g, 8, none⟩ (.int .i64 v)).heap.size) (by simp))
   have HN3 := Zh (Xcl (o := 8) hg hS.out (.int .i64 v))
   obtain ⟨c0, c1, c2, c3, c4, c5, c6, c7, c8, c9, c10, c11⟩ := hb2
   by_cases hE : ckB { b with faults := ⟨v, b.faults.head, b.faults.tail⟩ } = 0
   · have hE0 : (ckB { b with faults := ⟨v, b.faults.head, b.faults.tail⟩ } != 0) = false := by rw [bne_eq_false_iff_eq]; exact hE
     have HV := Zh (show Xa0 b k v = ({ b with faults := ⟨v, b.faults.head, b.faults.tail⟩ }, true) by rw [HK.out]; unfold Xa0; rw [if_neg (by decide), if_pos ⟨rfl, hE⟩]; rfl)
     clear hE
     go_wp2_with fail
     refine (Xbb { b with faults := ⟨v, b.faults.head, b.faults.tail⟩ } A n c _ HL3.out).mono ?_
     rintro e w3 ⟨rfl, hb3⟩
     have HB4 := Zh hb3
     clear hb3 c0 c1 c2 c3 c4 c5 c6 c7 c8 c9 c10 c11
     go_wp2
     go_ret
     rw [HV.out]
     exact ⟨rfl, Xau HB3.out HB4.out, Xbh HL3.out HB4.out, Xc5 HN3.out hg HB4.out⟩
   · have hE0 : (ckB { b with faults := ⟨v, b.faults.head, b.faults.tail⟩ } != 0) = true := by rw [bne_iff_ne]; exact hE
     have HV := Zh (show Xa0 b k v = (b, false) by rw [HK.out]; unfold Xa0; rw [if_neg (by decide), if_neg (fun h => hE h.2)])
     clear hE
     go_wp2_with fail
     refine (Xbb { b with faults := ⟨v, b.faults.head, b.faults.tail⟩ } A n c _ HL3.out).mono ?_
     rintro e w3 ⟨rfl, hb3⟩
     have HB4 := Zh hb3
     have HB5 := Zh (Xau HB3.out hb3)
     have hg3 := Xcw HB5.out
     have hfz3 : ∀ o, w3.frozen? ⟨g, o, none⟩ = false := fun o => (Below.frozen (p := ⟨g, o, none⟩) hb3 (by simpa using hgd)).trans y13
     have k3 := Xae (p := ⟨g, 8, none⟩) (v := .int .i64 v) hb3 y17
     clear hb3 c0 c1 c2 c3 c4 c5 c6 c7 c8 c9 c10 c11
     go_wp2
     go_ret
     rw [HV.out]
     exact ⟨rfl, Xok HB5.out b.faults.page, (Xbs (Xbh HL3.out HB4.out) (p := ⟨g, 8, none⟩) HO.out (.int .i64 b.faults.page)).more (by simp), Xdc (Xc5 HN3.out hg HB4.out) hg _ _⟩
theorem out_6 (b : Brg) (A : Option Addr) (n c g : Nat) (v : Int) (w : World) (hb : Xa8 w g b A n c) (hfz : ∀ o, w.frozen? ⟨g, o, none⟩ = false) (hl : Lines w w.heap.size A n c b.cache) (hoff : ∀ ad, A = some ad → ad.block ≠ g) (k : Int) (hk : k = 6) :
    Calls Tryz.prog 68 #[.pointer (some ⟨g, 0, none⟩), .int .i64 k, .int .i64 v] w (OutC g A n c w (Xa0 b k v)) := by
 refine z61 ?_; intro hw HB HL HO HF hg HS HW _ _
 have HP := Zh (show ptrV g k = .pointer (some ⟨g, 9, none⟩) by rw [hk]; rfl)
 have HK := Zh hk
 unfold OutC
 clear hb hl hoff hw hfz hk
 go_enter Tryz.func68, Tryz.ntmps68
 go_upto_region 5 with (fail)
 go_cut [7] (fun s7 wd => s7 = ptrV g k ∧ Hid (Xam w wd))
 case first =>
   refine wp_region_held_drew (S := fun _ => True) y1 trivial (fun hTT => ?_)
   (refine Xac (i := 1) (d := 22) (v := ?_) rfl rfl y1 y1 y1 (fun _ _ _ h => h) (Or.inl ⟨by rfl, ?_⟩) trivial ?_; rotate_left; (· (intro w hSw; go_simp; (try with_reducible rfl))); (try simp only [Act.put, List.setIfInBounds_toArray, List.set_cons_zero, List.set_cons_succ]))
   (refine Xac (i := 2) (d := 23) (v := ?_) rfl rfl y1 y1 y1 (fun _ _ _ h => h) (Or.inl ⟨by rfl, ?_⟩) trivial ?_; rotate_left; (· (intro w hSw; go_simp; (try with_reducible rfl))); (try simp only [Act.put, List.setIfInBounds_toArray, List.set_cons_zero, List.set_cons_succ]))
   (refine Xac (i := 3) (d := 24) (v := ?_) rfl rfl y1 y1 y1 (fun _ _ _ h => h) (Or.inl ⟨by rfl, ?_⟩) trivial ?_; rotate_left; (· (intro w hSw; go_simp; (try with_reducible rfl))); (try simp only [Act.put, List.setIfInBounds_toArray, List.set_cons_zero, List.set_cons_succ]))
   (refine Xac (i := 5) (d := 25) (v := ?_) rfl rfl y1 y1 y1 (fun _ _ _ h => h) (Or.inl ⟨by rfl, ?_⟩) trivial ?_; rotate_left; (· (intro w hSw; go_simp; (try with_reducible rfl))); (try simp only [Act.put, List.setIfInBounds_toArray, List.set_cons_zero, List.set_cons_succ]))
   (refine Xac (i := 6) (d := 26) (v := ?_) rfl rfl y1 y1 y1 (fun _ _ _ h => h) (Or.inl ⟨by rfl, ?_⟩) trivial ?_; rotate_left; (· (intro w hSw; go_simp; (try with_reducible rfl))); (try simp only [Act.put, List.setIfInBounds_toArray, List.set_cons_zero, List.set_cons_succ]))
   (refine Xac (i := 7) (d := 27) (v := ?_) rfl rfl y1 y1 y1 (fun _ _ _ h => h) (Or.inl ⟨by rfl, ?_⟩) trivial ?_; rotate_left; (· (intro w hSw; go_simp; (try with_reducible rfl))); (try simp only [Act.put, List.setIfInBounds_toArray, List.set_cons_zero, List.set_cons_succ]))
   (refine Xac (i := 9) (d := 28) (v := ?_) rfl rfl y1 y1 y1 (fun _ _ _ h => h) (Or.inl ⟨by rfl, ?_⟩) trivial ?_; rotate_left; (· (intro w hSw; go_simp; (try with_reducible rfl))); (try simp only [Act.put, List.setIfInBounds_toArray, List.set_cons_zero, List.set_cons_succ]))
   (refine Xac (i := 10) (d := 29) (v := ?_) rfl rfl y1 y1 y1 (fun _ _ _ h => h) (Or.inl ⟨by rfl, ?_⟩) trivial ?_; rotate_left; (· (intro w hSw; go_simp; (try with_reducible rfl))); (try simp only [Act.put, List.setIfInBounds_toArray, List.set_cons_zero, List.set_cons_succ]))
   (refine Xac (i := 11) (d := 30) (v := ?_) rfl rfl y1 y1 y1 (fun _ _ _ h => h) (Or.inl ⟨by rfl, ?_⟩) trivial ?_; rotate_left; (· (intro w hSw; go_simp; (try with_reducible rfl))); (try simp only [Act.put, List.setIfInBounds_toArray, List.set_cons_zero, List.set_cons_succ]))
   (refine Xac (i := 12) (d := 31) (v := ?_) rfl rfl y1 y1 y1 (fun _ _ _ h => h) (Or.inl ⟨by rfl, ?_⟩) trivial ?_; rotate_left; (· (intro w hSw; go_simp; (try with_reducible rfl))); (try simp only [Act.put, List.setIfInBounds_toArray, List.set_cons_zero, List.set_cons_succ]))
   (refine Xac (i := 14) (d := 32) (v := ?_) rfl rfl y1 y1 y1 (fun _ _ _ h => h) (Or.inl ⟨by rfl, ?_⟩) trivial ?_; rotate_left; (· (intro w hSw; go_simp; (try with_reducible rfl))); (try simp only [Act.put, List.setIfInBounds_toArray, List.set_cons_zero, List.set_cons_succ]))
   (refine Xac (i := 15) (d := 33) (v := ?_) rfl rfl y1 y1 y1 (fun _ _ _ h => h) (Or.inl ⟨by rfl, ?_⟩) trivial ?_; rotate_left; (· (intro w hSw; go_simp; (try with_reducible rfl))); (try simp only [Act.put, List.setIfInBounds_toArray, List.set_cons_zero, List.set_cons_succ]))
   (refine Xac (i := 16) (d := 34) (v := ?_) rfl rfl y1 y1 y1 (fun _ _ _ h => h) (Or.inl ⟨by rfl, ?_⟩) trivial ?_; rotate_left; (· (intro w hSw; go_simp; (try with_reducible rfl))); (try simp only [Act.put, List.setIfInBounds_toArray, List.set_cons_zero, List.set_cons_succ]))
   (refine Xac (i := 17) (d := 35) (v := ?_) rfl rfl y1 y1 y1 (fun _ _ _ h => h) (Or.inl ⟨by rfl, ?_⟩) trivial ?_; rotate_left; (· (intro w hSw; go_simp; (try with_reducible rfl))); (try simp only [Act.put, List.setIfInBounds_toArray, List.set_cons_zero, List.set_cons_succ]))
   (refine Xac (i := 19) (d := 36) (v := ?_) rfl rfl y1 y1 y1 (fun _ _ _ h => h) (Or.inl ⟨by rfl, ?_⟩) trivial ?_; rotate_left; (· (intro w hSw; go_simp; (try with_reducible rfl))); (try simp only [Act.put, List.setIfInBounds_toArray, List.set_cons_zero, List.set_cons_succ]))
   (refine Xac (i := 20) (d := 37) (v := ?_) rfl rfl y1 y1 y1 (fun _ _ _ h => h) (Or.inl ⟨by rfl, ?_⟩) trivial ?_; rotate_left; (· (intro w hSw; go_simp; (try with_reducible rfl))); (try simp only [Act.put, List.setIfInBounds_toArray, List.set_cons_zero, List.set_cons_succ]))
   (refine Xac (i := 21) (d := 38) (v := ?_) rfl rfl y1 y1 y1 (fun _ _ _ h => h) (Or.inl ⟨by rfl, ?_⟩) trivial ?_; rotate_left; (· (intro w hSw; go_simp; (try with_reducible rfl))); (try simp only [Act.put, List.setIfInBounds_toArray, List.set_cons_zero, List.set_cons_succ]))
   (refine Xac (i := 22) (d := 39) (v := ?_) rfl rfl y1 y1 y1 (fun _ _ _ h => h) (Or.inl ⟨by rfl, ?_⟩) trivial ?_; rotate_left; (· (intro w hSw; go_simp; (try with_reducible rfl))); (try simp only [Act.put, List.setIfInBounds_toArray, List.set_cons_zero, List.set_cons_succ]))
   (refine Xac (i := 24) (d := 40) (v := ?_) rfl rfl y1 y1 y1 (fun _ _ _ h => h) (Or.inl ⟨by rfl, ?_⟩) trivial ?_; rotate_left; (· (intro w hSw; go_simp; (try with_reducible rfl))); (try simp only [Act.put, List.setIfInBounds_toArray, List.set_cons_zero, List.set_cons_succ]))
   (refine Xac (i := 25) (d := 41) (v := ?_) rfl rfl y1 y1 y1 (fun _ _ _ h => h) (Or.inl ⟨by rfl, ?_⟩) trivial ?_; rotate_left; (· (intro w hSw; go_simp; (try with_reducible rfl))); (try simp only [Act.put, List.setIfInBounds_toArray, List.set_cons_zero, List.set_cons_succ]))
   (refine Xac (i := 26) (d := 42) (v := ?_) rfl rfl y1 y1 y1 (fun _ _ _ h => h) (Or.inl ⟨by rfl, ?_⟩) trivial ?_; rotate_left; (· (intro w hSw; go_simp; (try with_reducible rfl))); (try simp only [Act.put, List.setIfInBounds_toArray, List.set_cons_zero, List.set_cons_succ]))
   (refine Xac (i := 27) (d := 43) (v := ?_) rfl rfl y1 y1 y1 (fun _ _ _ h => h) (Or.inl ⟨by rfl, ?_⟩) trivial ?_; rotate_left; (· (intro w hSw; go_simp; (try with_reducible rfl))); (try simp only [Act.put, List.setIfInBounds_toArray, List.set_cons_zero, List.set_cons_succ]))
   (refine Xac (i := 30) (d := 45) (v := ?_) rfl rfl y1 y1 y1 (fun _ _ _ h => h) (Or.inl ⟨by rfl, ?_⟩) trivial ?_; rotate_left; (· (intro w hSw; go_simp; (try with_reducible rfl))); (try simp only [Act.put, List.setIfInBounds_toArray, List.set_cons_zero, List.set_cons_succ]))
   refine wpAnyH_ready (rs := [0]) y1 (by simp) ?_
   refine AllReadyH.cons rfl (fun K hK => ?_) AllReadyH.nil
   go_simp
   refine hK.out _ _ trivial (fun _ => ?_)
   clear hK K
   (try simp only [Act.put, List.setIfInBounds_toArray, List.set_cons_zero, List.set_cons_succ])
   have hown0 := World.ownsMap_made w.drew Tryz.prog 3 Xdi
   refine Xgc (g := g) (H := w.heap.size) (w0 := w) (Nat.le_refl _) ⟨_, 24, rfl, rfl, rfl, rfl, rfl, rfl⟩ ⟨_, 27, rfl, rfl, rfl, rfl, rfl, rfl⟩ ⟨_, 31, rfl, rfl, rfl, rfl, rfl, rfl⟩ ⟨_, 35, rfl, rfl, rfl, rfl, rfl, rfl⟩ ⟨_, 39, rfl, rfl, rfl, rfl, rfl, rfl⟩ ⟨_, 43, rfl, rfl, rfl, rfl, rfl, rfl⟩ ?_ ?_ 6 false false false false false false _ 0 _ rfl hown0 rfl ⟨isMap_empty, fun k z => by simp [bK]; rfl⟩ (Xag (Xav HS.out) _)
   · intro x0 x1 x2 x3 x4 x5 hx
     cases x0 <;> cases x1 <;> cases x2 <;> cases x3 <;> cases x4 <;> cases x5 <;> first | exact absurd hx (by decide) | kernel_rfl
   · intro W D hown hD hS
     have HD := Zh hD
     have HSS := Zh hS
     clear hD hS
     refine Xac (i := 29) (d := 44) (v := ?_) rfl rfl y1 y1 y1 (fun _ _ _ h => h) (Or.inl ⟨by rfl, ?_⟩) trivial ?_
     rotate_left
     · (intro w hSw; go_simp; (try with_reducible rfl))
     (try simp only [Act.put, List.setIfInBounds_toArray, List.set_cons_zero, List.set_cons_succ])
     refine wpAnyH_ready (rs := [31]) y1 (by simp) ?_
     refine AllReadyH.cons rfl (fun K hK => ?_) AllReadyH.nil
     rw [if_pos (by rfl)]
     refine Xca W _ _ 156 rfl 3 155 Tryz.keyInt Tryz.underlying156 (Tryz.zeroPtr _) w.heap.size 6 D rfl hown (.int .i64 k) (.int .i64 k) rfl (keyOf_int_mk Tryz.underlying3 HW.out) (ptrV g k) ((HD.out.2 k _).trans (Xi2 g k)) (d := 46) rfl ?_
     refine hK.out _ _ trivial (fun _ => ?_)
     clear hK K
     (try simp only [Act.put, List.setIfInBounds_toArray, List.set_cons_zero, List.set_cons_succ])
     refine Xac (i := 32) (d := 7) (v := ?_) rfl rfl y1 y1 y1 (fun _ _ _ h => h) (Or.inl ⟨by rfl, ?_⟩) trivial ?_
     rotate_left
     · (intro w hSw; go_simp; (try with_reducible rfl))
     (try simp only [Act.put, List.setIfInBounds_toArray, List.set_cons_zero, List.set_cons_succ])
     refine wpAnyH_done y1 ?_ _
     go_wp2
     go_meet
     exact ⟨rfl, HSS.out⟩
 case rest =>
   obtain ⟨rfl, hS⟩ := hcut
   rw [HP.out]
   have hb2 := Xau HB.out hS.out
   have HB2 := Zh hb2
   have HL2 := Zh (Xbh HL.out hS.out)
   have hgd := Xcw hb2
   have hfz2 : ∀ o, wc.frozen? ⟨g, o, none⟩ = false := fun o => (Below.frozen (p := ⟨g, o, none⟩) hS.out hg).trans (HF.out o)
   have HB3 := Zh (Xoj HB2.out v)
   have HL3 := Zh ((Xbs HL2.out (p := ⟨g, 9, none⟩) HO.out (.int .i64 v)).more (B' := (wc.setCell ⟨g, 9, none⟩ (.int .i64 v)).heap.size) (by simp))
   have HN3 := Zh (Xcl (o := 9) hg hS.out (.int .i64 v))
   obtain ⟨c0, c1, c2, c3, c4, c5, c6, c7, c8, c9, c10, c11⟩ := hb2
   by_cases hE : ckB { b with faults := ⟨b.faults.page, v, b.faults.tail⟩ } = 0
   · have hE0 : (ckB { b with faults := ⟨b.faults.page, v, b.faults.tail⟩ } != 0) = false := by rw [bne_eq_false_iff_eq]; exact hE
     have HV := Zh (show Xa0 b k v = ({ b with faults := ⟨b.faults.page, v, b.faults.tail⟩ }, true) by rw [HK.out]; unfold Xa0; rw [if_neg (by decide), if_pos ⟨rfl, hE⟩]; rfl)
     clear hE
     go_wp2_with fail
     refine (Xbb { b with faults := ⟨b.faults.page, v, b.faults.tail⟩ } A n c _ HL3.out).mono ?_
     rintro e w3 ⟨rfl, hb3⟩
     have HB4 := Zh hb3
     clear hb3 c0 c1 c2 c3 c4 c5 c6 c7 c8 c9 c10 c11
     go_wp2
     go_ret
     rw [HV.out]
     exact ⟨rfl, Xau HB3.out HB4.out, Xbh HL3.out HB4.out, Xc5 HN3.out hg HB4.out⟩
   · have hE0 : (ckB { b with faults := ⟨b.faults.page, v, b.faults.tail⟩ } != 0) = true := by rw [bne_iff_ne]; exact hE
     have HV := Zh (show Xa0 b k v = (b, false) by rw [HK.out]; unfold Xa0; rw [if_neg (by decide), if_neg (fun h => hE h.2)])
     clear hE
     go_wp2_with fail
     refine (Xbb { b with faults := ⟨b.faults.page, v, b.faults.tail⟩ } A n c _ HL3.out).mono ?_
     rintro e w3 ⟨rfl, hb3⟩
     have HB4 := Zh hb3
     have HB5 := Zh (Xau HB3.out hb3)
     have hg3 := Xcw HB5.out
     have hfz3 : ∀ o, w3.frozen? ⟨g, o, none⟩ = false := fun o => (Below.frozen (p := ⟨g, o, none⟩) hb3 (by simpa using hgd)).trans y13
     have k3 := Xae (p := ⟨g, 9, none⟩) (v := .int .i64 v) hb3 y17
     clear hb3 c0 c1 c2 c3 c4 c5 c6 c7 c8 c9 c10 c11
     go_wp2
     go_ret
     rw [HV.out]
     exact ⟨rfl, Xoj HB5.out b.faults.head, (Xbs (Xbh HL3.out HB4.out) (p := ⟨g, 9, none⟩) HO.out (.int .i64 b.faults.head)).more (by simp), Xdc (Xc5 HN3.out hg HB4.out) hg _ _⟩
theorem Xun (b : Brg) (A : Option Addr) (n c g : Nat) (k v : Int) (w : World) (hb : Xa8 w g b A n c) (hfz : ∀ o, w.frozen? ⟨g, o, none⟩ = false) (hl : Lines w w.heap.size A n c b.cache) (hoff : ∀ ad, A = some ad → ad.block ≠ g) (hk : 0 ≤ k ∧ k ≤ 63) :
    Calls Tryz.prog 68 #[.pointer (some ⟨g, 0, none⟩), .int .i64 k, .int .i64 v] w (OutC g A n c w (Xa0 b k v)) := by
 by_cases h9 : k = 9
 · subst h9; exact Xrl b A n c g v w hb hfz hl hoff
 by_cases h0 : k = 0
 · exact out_0 b A n c g v w hb hfz hl hoff k h0
 by_cases h1 : k = 1
 · exact out_1 b A n c g v w hb hfz hl hoff k h1
 by_cases h2 : k = 2
 · exact out_2 b A n c g v w hb hfz hl hoff k h2
 by_cases h3 : k = 3
 · exact out_3 b A n c g v w hb hfz hl hoff k h3
 by_cases h5 : k = 5
 · exact out_5 b A n c g v w hb hfz hl hoff k h5
 by_cases h6 : k = 6
 · exact out_6 b A n c g v w hb hfz hl hoff k h6
 have hw : (Lit.int .i64 k).wf = true := by
   have : k = 4 ∨ (7 ≤ k ∧ k ≤ 63) := by omega
   show (decide (IntKind.i64.min ≤ k) && decide (k ≤ IntKind.i64.max)) = true
   have e1 : IntKind.i64.min = -9223372036854775808 := by decide
   have e2 : IntKind.i64.max = 9223372036854775807 := by decide
   rw [e1, e2]
   simp
   omega
 exact Xt4 b A n c g k v w hb hfz hl hoff hw (by unfold Xo4; simp [h0, h1, h2, h3, h5, h6]) h9
end
section
structure Crd (w : World) (gm gh gb : Nat) (M : Option Addr) (mc : Nat) (R : Option Addr) (rc : Nat) (L : Option Addr) (n c : Nat) (xs : List Int) (h : Hrt) (b : Brg) : Prop where
  m0 : w.cell? ⟨gm, 0, none⟩ = some (.slice M 512 mc)
  h0 : w.cell? ⟨gh, 0, none⟩ = some (.int .i64 h.at_)
  h1 : w.cell? ⟨gh, 1, none⟩ = some (.slice R 8 rc)
  h2 : w.cell? ⟨gh, 2, none⟩ = some (.bool h.done)
  b0 : Xa8 w gb b L n c
  im : Ints w w.heap.size M 512 xs
  ir : Ints w w.heap.size R 8 h.regs
  lb : Lines w w.heap.size L n c b.cache
def Apt (A A' : Option Addr) : Prop := ∀ ad ad', A = some ad → A' = some ad' → ad.block ≠ ad'.block
def Far (A : Option Addr) (g : Nat) : Prop := ∀ ad, A = some ad → ad.block ≠ g
structure Sep (gm gh gb : Nat) (M R L : Option Addr) : Prop where
  mh : gm ≠ gh
  mb : gm ≠ gb
  hb : gh ≠ gb
  m1 : Far M gm
  m2 : Far M gh
  m3 : Far M gb
  r1 : Far R gm
  r2 : Far R gh
  r3 : Far R gb
  l1 : Far L gm
  l2 : Far L gh
  l3 : Far L gb
  mr : Apt M R
  lm : Apt L M
  lr : Apt L R
section
variable {w w' : World} {gm gh gb g : Nat} {M R L : Option Addr} {mc rc n c : Nat} {xs : List Int} {h : Hrt} {b : Brg}
theorem Xcf {k : Nat} {A : Option Addr} {ys : List Int} (hx : Ints w w.heap.size A k ys) (ho : Only g w w') (hf : Far A g) : Ints w' w'.heap.size A k ys := by
 refine ⟨hx.1, hx.2.1, fun hn => ?_⟩
 obtain ⟨b, off, e, hb, hc⟩ := hx.2.2 hn
 exact ⟨b, off, e, Nat.lt_of_lt_of_le hb ho.2.1, fun j v hv => (ho.2.2.1 b _ (hf _ e) hb).trans (hc j v hv)⟩
theorem Xd5 {k d : Nat} {A : Option Addr} {ls : List Line} (hx : Lines w w.heap.size A k d ls) (ho : Only g w w') (hf : Far A g) : Lines w' w'.heap.size A k d ls := by
 obtain ⟨h1, h2, h3, h4, h5⟩ := hx
 refine ⟨h1, h2, h3, h4, fun h0 => ?_⟩
 obtain ⟨b, off, e, hb, hc⟩ := h5 h0
 exact ⟨b, off, e, Nat.lt_of_lt_of_le hb ho.2.1, fun j v hv => (ho.2.2.1 b _ (hf _ e) hb).trans (hc j v hv)⟩
theorem Xfv {g' : Nat} (hb : Xa8 w g' b L n c) (ho : Only g w w') (hf : g' ≠ g) : Xa8 w' g' b L n c := by
 have hl := Xcw hb
 obtain ⟨h0, h1, h2, h3, h4, h5, h6, h7, h8, h9, h10, h11⟩ := hb
 have e := fun o => ho.2.2.1 g' o hf hl
 exact ⟨(e _).trans h0, (e _).trans h1, (e _).trans h2, (e _).trans h3, (e _).trans h4, (e _).trans h5, (e _).trans h6, (e _).trans h7, (e _).trans h8, (e _).trans h9, (e _).trans h10, (e _).trans h11⟩
theorem Xbt {g' o : Nat} {v : Value} (hc : w.cell? ⟨g', o, none⟩ = some v) (ho : Only g w w') (hf : g' ≠ g) : w'.cell? ⟨g', o, none⟩ = some v := (ho.2.2.1 g' o hf (Xb9 hc)).trans hc
theorem Crd.since (hC : Crd w gm gh gb M mc R rc L n c xs h b) (hs : Xam w w') : Crd w' gm gh gb M mc R rc L n c xs h b :=
  ⟨Xae hs hC.m0, Xae hs hC.h0, Xae hs hC.h1, Xae hs hC.h2, Xau hC.b0 hs, Xdf hC.im hs, Xdf hC.ir hs, Xbh hC.lb hs⟩
theorem Crd.brg (hC : Crd w gm gh gb M mc R rc L n c xs h b) (hS : Sep gm gh gb M R L) (ho : Only gb w w') {b' : Brg} (h1 : Xa8 w' gb b' L n c) (h2 : Lines w' w'.heap.size L n c b'.cache) : Crd w' gm gh gb M mc R rc L n c xs h b' :=
  ⟨Xbt hC.m0 ho hS.mb, Xbt hC.h0 ho hS.hb, Xbt hC.h1 ho hS.hb, Xbt hC.h2 ho hS.hb, h1, Xcf hC.im ho hS.m3, Xcf hC.ir ho hS.r3, h2⟩
theorem Xf4 {A : Option Addr} (hA : A = some ⟨g, 0, none⟩) {gx : Nat} (hf : Far A gx) : gx ≠ g := fun e => hf _ hA e.symm
theorem Xkg {A A' : Option Addr} (hA : A' = some ⟨g, 0, none⟩) (hp : Apt A A') : Far A g := fun _ e => hp _ _ e hA
theorem Xyc {A A' : Option Addr} (hp : Apt A A') : Apt A' A := fun _ _ e e' h => hp _ _ e' e h.symm
theorem Crd.reg (hC : Crd w gm gh gb M mc R rc L n c xs h b) (hS : Sep gm gh gb M R L) {gR : Nat} (hR : R = some ⟨gR, 0, none⟩) (ho : Only gR w w') {ys : List Int} (h1 : Ints w' w'.heap.size R 8 ys) : Crd w' gm gh gb M mc R rc L n c xs ⟨h.at_, ys, h.done⟩ b :=
  ⟨Xbt hC.m0 ho (Xf4 hR hS.r1), Xbt hC.h0 ho (Xf4 hR hS.r2), Xbt hC.h1 ho (Xf4 hR hS.r2), Xbt hC.h2 ho (Xf4 hR hS.r2), Xfv hC.b0 ho (Xf4 hR hS.r3), Xcf hC.im ho (Xkg hR hS.mr), h1, Xd5 hC.lb ho (Xkg hR hS.lr)⟩
theorem Crd.mem (hC : Crd w gm gh gb M mc R rc L n c xs h b) (hS : Sep gm gh gb M R L) {gM : Nat} (hM : M = some ⟨gM, 0, none⟩) (ho : Only gM w w') {ys : List Int} (h1 : Ints w' w'.heap.size M 512 ys) : Crd w' gm gh gb M mc R rc L n c ys h b :=
  ⟨Xbt hC.m0 ho (Xf4 hM hS.m1), Xbt hC.h0 ho (Xf4 hM hS.m2), Xbt hC.h1 ho (Xf4 hM hS.m2), Xbt hC.h2 ho (Xf4 hM hS.m2), Xfv hC.b0 ho (Xf4 hM hS.m3), h1, Xcf hC.ir ho (Xkg hM (Xyc hS.mr)), Xd5 hC.lb ho (Xkg hM hS.lm)⟩
theorem Crd.at_ (hC : Crd w gm gh gb M mc R rc L n c xs h b) (hS : Sep gm gh gb M R L) {v : Int} (hs : Xam w w') : Crd (w'.setCell ⟨gh, 0, none⟩ (.int .i64 v)) gm gh gb M mc R rc L n c xs ⟨v, h.regs, h.done⟩ b :=
  have ho : Only gh w (w'.setCell ⟨gh, 0, none⟩ (.int .i64 v)) := Xcl (Xb9 hC.h0) hs _
  ⟨Xbt hC.m0 ho hS.mh, by have := Xae hs hC.h0; simp [go_sem, this], by have := Xae hs hC.h1; simp [go_sem, this], by have := Xae hs hC.h2; simp [go_sem, this], Xfv hC.b0 ho (Ne.symm hS.hb), Xcf hC.im ho hS.m2, Xcf hC.ir ho hS.r2, Xd5 hC.lb ho hS.l2⟩
def Xfa (w : World) (gm gh gb : Nat) (M : Option Addr) (mc : Nat) (R : Option Addr) (rc : Nat) (L : Option Addr) (n c : Nat) (r : List Int × Hrt × Brg × Bool) (e : Ending) (w' : World) : Prop :=
  e = .returned (.bool r.2.2.2) ∧ Crd w' gm gh gb M mc R rc L n c r.1 r.2.1 r.2.2.1 ∧ ∃ g, (M = some ⟨g, 0, none⟩ ∨ R = some ⟨g, 0, none⟩ ∨ g = gh ∨ g = gb) ∧ Only g w w'
theorem Xrj {B k m j : Nat} {A : Option Addr} {ys : List Int} (ho : OwnI B w A k m ys) (hk : k ≤ 9223372036854775807) {gA : Nat} (hA : A = some ⟨gA, 0, none⟩) (hs : Xam w w') (hj : j < k) (v : Int) : Ints (w'.setCell ⟨gA, j, none⟩ (.int .i64 v)) (w'.setCell ⟨gA, j, none⟩ (.int .i64 v)).heap.size A k (ys.set j v) := by
 obtain ⟨g, e, _, _, _, _, hp⟩ := Xbl (ho.below hs) (by omega)
 rw [hA] at e
 injection e with e
 injection e with e
 subst e
 exact (hp j v hj).ints hk
theorem Xft (hC : Crd w gm gh gb M mc R rc L n c xs h b) (hS : Sep gm gh gb M R L) {B : Nat} (hown : OwnI B w R 8 rc h.regs) {gR : Nat} (hR : R = some ⟨gR, 0, none⟩) (hl : gR < w.heap.size) (hs : Xam w w') {a v : Int} (ha : 0 ≤ a) (ha' : a < 8) :
    Xfa w gm gh gb M mc R rc L n c (xs, h.setR a v, b, true) (.returned (.bool true)) (w'.setCell ⟨gR, a.toNat, none⟩ (.int .i64 v)) :=
  have ho := Xcl (o := a.toNat) hl hs (.int .i64 v)
  ⟨rfl, hC.reg hS hR ho (Xrj hown (by decide) hR hs (by omega) v), gR, Or.inr (Or.inl hR), ho⟩
theorem Xuz (hC : Crd w gm gh gb M mc R rc L n c xs h b) (hS : Sep gm gh gb M R L) {B : Nat} (hown : OwnI B w M 512 mc xs) {gM : Nat} (hM : M = some ⟨gM, 0, none⟩) (hl : gM < w.heap.size) (hs : Xam w w') {a v : Int} (ha : 0 ≤ a) (ha' : a < 512) :
    Xfa w gm gh gb M mc R rc L n c (xs.set a.toNat v, h, b, true) (.returned (.bool true)) (w'.setCell ⟨gM, a.toNat, none⟩ (.int .i64 v)) :=
  have ho := Xcl (o := a.toNat) hl hs (.int .i64 v)
  ⟨rfl, hC.mem hS hM ho (Xrj hown (by decide) hM hs (by omega) v), gM, Or.inl hM, ho⟩
theorem Xxw (hC : Crd w gm gh gb M mc R rc L n c xs h b) (hS : Sep gm gh gb M R L) (hs : Xam w w') (v : Int) :
    Xfa w gm gh gb M mc R rc L n c (xs, { h with at_ := v }, b, true) (.returned (.bool true)) (w'.setCell ⟨gh, 0, none⟩ (.int .i64 v)) :=
  ⟨rfl, hC.at_ hS hs, gh, Or.inr (Or.inr (Or.inl rfl)), Xcl (Xb9 hC.h0) hs _⟩
theorem Xhz (hC : Crd w gm gh gb M mc R rc L n c xs h b) (hs : Xam w w') (ok : Bool) : Xfa w gm gh gb M mc R rc L n c (xs, h, b, ok) (.returned (.bool ok)) w' :=
  ⟨rfl, hC.since hs, gh, Or.inr (Or.inr (Or.inl rfl)), Xd4 (Xb9 hC.h0) hs⟩
end
structure Xi6 (w : World) (gm gh gb : Nat) (M : Option Addr) (mc : Nat) (R : Option Addr) (rc : Nat) (L : Option Addr) (n c : Nat) (xs : List Int) (h : Hrt) (b : Brg) (gM gR : Nat) : Prop where
  crd : Crd w gm gh gb M mc R rc L n c xs h b
  sep : Sep gm gh gb M R L
  om : ∃ B, OwnI B w M 512 mc xs
  or : ∃ B, OwnI B w R 8 rc h.regs
  eM : M = some ⟨gM, 0, none⟩
  eR : R = some ⟨gR, 0, none⟩
  cM : ∀ (k : Nat) (x : Int), xs[k]? = some x → w.cell? ⟨gM, k, none⟩ = some (.int .i64 x)
  cR : ∀ (k : Nat) (x : Int), h.regs[k]? = some x → w.cell? ⟨gR, k, none⟩ = some (.int .i64 x)
  fM : ∀ o, w.frozen? ⟨gM, o, none⟩ = false
  fR : ∀ o, w.frozen? ⟨gR, o, none⟩ = false
  fh : ∀ o, w.frozen? ⟨gh, o, none⟩ = false
  fb : ∀ o, w.frozen? ⟨gb, o, none⟩ = false
  lM : gM < w.heap.size
  lR : gR < w.heap.size
  ck : ckH h = 0
  cm : cm xs = 0
theorem Xxv {w : World} {gm gh gb : Nat} {M : Option Addr} {mc : Nat} {R : Option Addr} {rc : Nat} {L : Option Addr} {n c : Nat} {xs : List Int} {h : Hrt} {b : Brg} {B B' : Nat}
    (crd : Crd w gm gh gb M mc R rc L n c xs h b) (sep : Sep gm gh gb M R L) (om : OwnI B w M 512 mc xs) (or : OwnI B' w R 8 rc h.regs) (fh : ∀ o, w.frozen? ⟨gh, o, none⟩ = false) (fb : ∀ o, w.frozen? ⟨gb, o, none⟩ = false) (hc : ckH h = 0) (h0 : cm xs = 0) :
    ∃ gM gR, Xi6 w gm gh gb M mc R rc L n c xs h b gM gR := by
 obtain ⟨gM, e1, _, l1, c1, f1, _⟩ := Xbl om (by decide)
 obtain ⟨gR, e2, _, l2, c2, f2, _⟩ := Xbl or (by decide)
 exact ⟨gM, gR, crd, sep, ⟨_, om⟩, ⟨_, or⟩, e1, e2, c1, c2, f1, f2, fh, fb, l1, l2, hc, h0⟩
theorem Xii {xs : List Int} {k : Int} {n : Nat} (hl : xs.length = n) (h0 : 0 ≤ k) (h1 : k < n) : xs[k.toNat]? = some (rd xs k) := by
 unfold rd
 rw [List.getElem?_eq_getElem (by omega)]
 rfl
theorem Xvo {xs : List Int} {k : Int} (hx : ∀ (j : Nat) (x : Int), xs[j]? = some x → 0 ≤ x ∧ x ≤ 65535) : 0 ≤ rd xs k ∧ rd xs k ≤ 65535 := by
 unfold rd
 cases e : xs[k.toNat]?
 · simp
 · exact hx _ _ e
end
end Go.Proofs.YtbopdijnojaaiadGreat
