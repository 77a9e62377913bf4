/- The document's cache: the walks of CheckCache, with its map, and of Xju. No statement of the seat is proved here. -/
import Derived.Test.YtbopdijnojaaiadGreatZz
import Derived.Test.YtbopdijnojaaiadGreatDrop
import Derived.Test.YtbopdijnojaaiadGreatSlices
namespace Go.Proofs.YtbopdijnojaaiadGreat
set_option maxRecDepth 100000
set_option maxHeartbeats 8000000
open Go.RowKit
set_option linter.unusedSimpArgs false
set_option linter.unusedVariables false
open Go.Maps
def keyL (x : Line) : Lit := .int .i64 (x.dev * 64 + x.page)
def mapF (m : DataW Value) (x : Line) : DataW Value := m.put (keyL x) (.held (.bool true))
def mapD (ls : List Line) : DataW Value := ls.foldl mapF (.map [])
theorem Xrv (ls : List Line) (x : Line) : mapD (ls ++ [x]) = (mapD ls).put (keyL x) (.held (.bool true)) := by unfold mapD; rw [List.foldl_append]; rfl
theorem Xru {ls : List Line} {k : Nat} {x : Line} (hx : ls[k]? = some x) : mapD (ls.take (k + 1)) = (mapD (ls.take k)).put (keyL x) (.held (.bool true)) := by
 rw [List.take_add_one, hx]; exact Xrv _ _
theorem Xrx (k : Int) (z : DataW Value) : ∀ (ls : List Line) (m : DataW Value), IsMap m → (ls.foldl mapF m).atKey (.int .i64 k) z = if ls.any (fun x => x.dev * 64 + x.page == k) then .held (.bool true) else m.atKey (.int .i64 k) z
  | [], m, _ => by simp
  | x :: r, m, hm => by
    rw [List.foldl_cons, Xrx k z r _ (show IsMap (mapF m x) from hm.put _ _), List.any_cons]
    by_cases h : x.dev * 64 + x.page = k
    · have e : keyL x = .int .i64 k := by unfold keyL; rw [h]
      have : (mapF m x).atKey (.int .i64 k) z = .held (.bool true) := by
        unfold mapF; rw [e]; exact atKey_put_same hm (by simp [WideAt.IsKeyLit]) _ _
      rw [this]
      simp [h]
    · have e : (Lit.int .i64 k) ≠ keyL x := by unfold keyL; exact Xf3 (fun h' => h h'.symm)
      have : (mapF m x).atKey (.int .i64 k) z = m.atKey (.int .i64 k) z := by
        unfold mapF; exact atKey_put_other e _ _
      rw [this]
      simp [h]
theorem Xrw {pre : List Line} {x : Line} (hp : ∀ y ∈ pre, Xbz y = 0) (hx : Xbz x = 0) : (mapD pre).atKey (keyL x) (.held (.bool false)) = .held (.bool (decide (0 ≤ Xbw pre x.dev x.page))) := by
 unfold mapD keyL
 rw [Xrx _ _ pre _ isMap_empty]
 have e : pre.any (fun y => y.dev * 64 + y.page == x.dev * 64 + x.page) = decide (0 ≤ Xbw pre x.dev x.page) := by
   have hxr := (Xik hx).1
   unfold Xfg at hxr
   rcases Xec pre x.dev x.page with ⟨e, h⟩ | ⟨k, y, e, hy, hh, _⟩
   · rw [e, List.any_eq_false.2 (fun y hy => ?_)]
     · rfl
     · have h1 := h y hy
       have h2 := (Xik (hp y hy)).1
       unfold Xfg at h2
       rw [hitL_f] at h1
       simp only [beq_iff_eq]
       intro h3
       exact h1 (by omega)
   · rw [e, List.any_eq_true.2 ⟨y, List.mem_of_getElem? hy, by rw [Xob] at hh; simp [hh.1, hh.2]⟩]
     simp
 rw [e]
 cases decide (0 ≤ Xbw pre x.dev x.page) <;> rfl
theorem Tryz.zeroSeen (w : World) : (zeroValue 4).run Tryz.prog w = .ok (.bool false) w := by kernel_rfl
theorem Xd7 {P : Program} (w : World) {ops : Array Oper} {rest : List Oper} {o : Oper} {a : Act} {Q : Exit → Act → World → Prop}
    (hg : o.guard = none) (m x : Operand) (t : TypeId) (hop : o.op = Op.lookup t m x false)
    (k e : TypeId) (K : Keyed P k) (ht : P.underlying t = some (.map k e)) {z : Value} (hz : (zeroValue e).run P w = .ok z w) (b n : Nat) (D : DataW Value)
    (hm : a.eval m = .map (some b)) (hown : w.ownsMap P k Xdi b n D) (key : Value) (kl : Lit) (hx : a.eval x = key) (hkey : keyOf P k key = some kl) (f : Value) (hD : D.atKey kl (.held z) = .held f)
    (hK : wpList P ops Q rest (a.put o.dst f) w) :
    wpList P ops Q (o :: rest) a w := by
 refine wpList_plain hg fun K' hK' => ?_
 obtain ⟨v, ps, hrun, hv⟩ := hown.lookup K ht hz (zd := .held z) (zp := []) rfl hkey
 unfold Xdi at hv
 rw [hD] at hv
 simp only [Option.some.injEq, Prod.mk.injEq, DataW.held.injEq] at hv
 rw [hv.1] at hrun
 unfold Oper.wp
 simp [execOp, hop, hm, hx, hrun, Result.andThen]
 exact hK' _ _ hK
theorem Xc0 (A : Option Addr) (n c : Nat) (ls : List Line) (w : World) (hl : Lines w w.heap.size A n c ls) :
    Calls Tryz.prog 52 #[.slice A n c] w fun e w' => e = .returned (.int .i64 (ckC ls)) ∧ Below w.heap.size w w' := by
 have HL := Zh hl
 obtain ⟨hn1, hn2⟩ := hl.cap
 have hlen := hl.len
 clear hl
 by_cases h6 : n ≤ 6
 · have H6 := Zh (Xkk (show ls.length ≤ 6 by omega))
   clear hlen
   rw [H6.out]
   have h6' : (n : Int) ≤ 6 := by omega
   have hmm := @run_makeMap Tryz.prog
   have hown0 := Zh (World.ownsMap_made w Tryz.prog 3 Xdi)
   go_enter Tryz.func52, Tryz.ntmps52
   go_wp2
   go_loopw [12] (fun i wr => ∃ k : Nat, k ≤ n ∧ i = .int .i64 k ∧ Hid (ckL [] ls = ckL (ls.take k) (ls.drop k)) ∧ Hid (∀ y ∈ ls.take k, Xbz y = 0) ∧ Hid (wr.ownsMap Tryz.prog 3 Xdi w.heap.size k (mapD (ls.take k))) ∧ Hid (Xam w wr)) (fun i _ => n - (intOf i).toNat)
   case atStart => exact ⟨0, by omega, rfl, by simp [Hid], (fun y hy => by simp at hy), hown0.out, Xag (Xan w) _⟩
   case round =>
     obtain ⟨k, hk, rfl, hck, hall, hown, hs⟩ := hrel
     by_cases hlt : k < n
     · obtain ⟨x, hx⟩ := Xax ls (k := k) y14
       have HX := Zh hx
       obtain ⟨b, off, hA, hb, hc⟩ := (Xah HL.out hs.out).at_ (by omega)
       subst hA
       obtain ⟨e0, e1, e2, e3, e4⟩ := hc k x hx
       have HS := Zh hs.out
       clear hc hx hs
       have n1 : (0 : Int) ≤ (k : Int) := by omega
       have n2 : (k : Int) < (n : Int) := by omega
       by_cases hR : Xfg x
       · have HR := Zh hR
         unfold Xfg at hR
         obtain ⟨⟨r1, r2⟩, ⟨r3, r4⟩, r5, r6⟩ := hR
         have i1 : inB x.dev 0 7 = true := Xb8 (by omega)
         have i2 : inB x.page 0 63 = true := Xb8 (by omega)
         have i3 : inB x.at_ 0 63 = true := Xb8 (by omega)
         have m1 : IntKind.i64.wrap (x.dev * 64) = x.dev * 64 := IntWalk.i64_in _ (by omega)
         have m2 : IntKind.i64.wrap (x.dev * 64 + x.page) = x.dev * 64 + x.page := IntWalk.i64_in _ (by omega)
         have HKW := Zh (WalkArith.wf_i64 (n := x.dev * 64 + x.page) (by omega))
         clear r1 r2 r3 r4 r5 r6
         cases hrd : x.rd
         · have HRD := Zh hrd
           clear hrd
           rw [HRD.out] at e3
           go_wp2_with (go_at_call 38; refine (Xa6 _ _ _ _).mono ?_; rintro e w' ⟨rfl, rfl⟩)
           go_ret
           exact ⟨Xbe (hck.out.trans ((Xhb HX.out (by rw [Xj9 HR.out HRD.out]; decide)).trans (Xj9 HR.out HRD.out))).symm, Xag HS.out _⟩
         · have HRD := Zh hrd
           clear hrd
           rw [HRD.out] at e3
           have HMF := Zh (Xrw hall.out (Xga HR.out HRD.out))
           by_cases hf : 0 ≤ Xbw (ls.take k) x.dev x.page
           · have HF := Zh hf
             rw [decide_eq_true hf] at HMF
             clear hf
             go_wp2_with (first | (go_at_call 38; refine (Xa6 _ _ _ _).mono ?_; rintro e w' ⟨rfl, rfl⟩) | (at_lookup; refine Xd7 _ rfl _ _ 140 rfl 3 4 Tryz.keyInt Tryz.underlying140 (Tryz.zeroSeen _) w.heap.size _ _ rfl (hown.out.alloc _) _ (keyL x) rfl (keyOf_int_mk Tryz.underlying3 HKW.out) (.bool true) HMF.out ?_))
             go_ret
             exact ⟨Xbe (hck.out.trans (Xl3 HX.out (Xga HR.out HRD.out) HF.out)).symm, Xag HS.out _⟩
           · have HF := Zh (show Xbw (ls.take k) x.dev x.page < 0 by omega)
             rw [decide_eq_false hf] at HMF
             clear hf
             go_wp2_with (first | (go_at_call 38; refine (Xa6 _ _ _ _).mono ?_; rintro e w' ⟨rfl, rfl⟩) | (at_lookup; refine Xd7 _ rfl _ _ 140 rfl 3 4 Tryz.keyInt Tryz.underlying140 (Tryz.zeroSeen _) w.heap.size _ _ rfl (hown.out.alloc _) _ (keyL x) rfl (keyOf_int_mk Tryz.underlying3 HKW.out) (.bool false) HMF.out ?_) | (at_mapUpdate; refine wpList_mapUpdate_own _ rfl _ _ _ 140 rfl 3 4 Tryz.keyInt Tryz.underlying140 Xdi w.heap.size k _ rfl (hown.out.alloc _) y6 _ _ (keyL x) rfl rfl (keyOf_int_mk Tryz.underlying3 HKW.out) (.held (.bool true)) [] rfl ?_; intro w' ho' hg'))
             go_roundw
             case rel =>
               refine ⟨k + 1, by omega, by go_num, hck.out.trans (Xoi HX.out (Xga HR.out HRD.out) HF.out), ?_, ?_, ?_⟩
               · show ∀ y ∈ _, _
                 intro y hy
                 rw [List.take_add_one, HX.out, List.mem_append] at hy
                 rcases hy with hy | hy
                 · exact hall.out y hy
                 · simp at hy; subst hy; exact Xga HR.out HRD.out
               · show World.ownsMap _ _ _ _ _ _ _
                 rw [Xru HX.out]
                 assumption
               · exact Below.grown (HS.out.alloc HS.out.size _) y5 (by have := HS.out.size; simp; omega) (by intro q hq; cases hq; exact Nat.le_refl _)
             case measure => simp [intOf]; omega
       · have HE := Zh (Xry hR)
         have hr2 : (¬ (0 ≤ x.dev ∧ x.dev ≤ 7)) ∨ ((0 ≤ x.dev ∧ x.dev ≤ 7) ∧ ¬ (0 ≤ x.page ∧ x.page ≤ 63)) ∨ ((0 ≤ x.dev ∧ x.dev ≤ 7) ∧ (0 ≤ x.page ∧ x.page ≤ 63) ∧ ¬ (0 ≤ x.at_ ∧ x.at_ ≤ 63)) := by unfold Xfg at hR; omega
         clear hR
         rcases hr2 with r1 | ⟨r1, r2⟩ | ⟨r1, r2, r3⟩
         · have i1 : inB x.dev 0 7 = false := Xfx r1
           clear r1
           go_wp2_with (go_at_call 38; refine (Xa6 _ _ _ _).mono ?_; rintro e w' ⟨rfl, rfl⟩)
           go_ret
           exact ⟨Xbe (hck.out.trans ((Xhb HX.out (by rw [HE.out]; decide)).trans HE.out)).symm, Xag HS.out _⟩
         · have i1 : inB x.dev 0 7 = true := Xb8 r1
           have i2 : inB x.page 0 63 = false := Xfx r2
           clear r1 r2
           go_wp2_with (go_at_call 38; refine (Xa6 _ _ _ _).mono ?_; rintro e w' ⟨rfl, rfl⟩)
           go_ret
           exact ⟨Xbe (hck.out.trans ((Xhb HX.out (by rw [HE.out]; decide)).trans HE.out)).symm, Xag HS.out _⟩
         · have i1 : inB x.dev 0 7 = true := Xb8 r1
           have i2 : inB x.page 0 63 = true := Xb8 r2
           have i3 : inB x.at_ 0 63 = false := Xfx r3
           clear r1 r2 r3
           go_wp2_with (go_at_call 38; refine (Xa6 _ _ _ _).mono ?_; rintro e w' ⟨rfl, rfl⟩)
           go_ret
           exact ⟨Xbe (hck.out.trans ((Xhb HX.out (by rw [HE.out]; decide)).trans HE.out)).symm, Xag HS.out _⟩
     · obtain rfl : k = n := by omega
       go_wp2
       go_ret
       exact ⟨Xbe (hck.out.trans (by rw [← HL.out.len]; exact Xs0 ls)).symm, hs.out⟩
 · have H6 := Zh (Xkj (show 6 < ls.length by omega))
   rw [H6.out]
   clear hlen
   have h6' : (6 : Int) < (n : Int) := by omega
   go_enter Tryz.func52, Tryz.ntmps52
   go_wp2
   go_ret
   exact ⟨rfl, Below.refl _ _⟩
theorem Xpa (A : Option Addr) (n c : Nat) (ls : List Line) (d p : Int) (w : World) (hl : Lines w w.heap.size A n c ls) :
    Calls Tryz.prog 101 #[.slice A n c, .int .i64 d, .int .i64 p] w fun e w' => e = .returned (.int .i64 (Xbw ls d p)) ∧ Below w.heap.size w w' := by
 have HL := Zh hl
 obtain ⟨hn1, hn2⟩ := hl.cap
 clear hl
 go_enter Tryz.func101, Tryz.ntmps101
 go_wp2
 go_loopw [11] (fun i wr => ∃ k : Nat, k ≤ n ∧ i = .int .i64 k ∧ Hid (∀ y ∈ ls.take k, hitL d p y = false) ∧ Hid (Xam w wr)) (fun i _ => n - (intOf i).toNat)
 case atStart => exact ⟨0, by omega, rfl, (fun y hy => by simp at hy), Xan w⟩
 case round =>
   obtain ⟨k, hk, rfl, hno, hs⟩ := hrel
   by_cases hlt : k < n
   · obtain ⟨x, hx⟩ := Xax ls (k := k) y14
     have HX := Zh hx
     obtain ⟨b, off, rfl, hb, hc⟩ := (Xah HL.out hs.out).at_ (by omega)
     obtain ⟨e0, e1, e2, e3, e4⟩ := hc k x hx
     have HS := Zh hs.out
     clear hc hx hs
     have n1 : (0 : Int) ≤ (k : Int) := by omega
     have n2 : (k : Int) < (n : Int) := by omega
     have HH := Zh (show hitL d p x = (x.dev == d && x.page == p) from rfl)
     cases h1 : (x.dev == d)
     · have HQ := Zh (show hitL d p x = false by rw [HH.out, h1]; rfl)
       go_wp2
       go_roundw
       case rel => exact ⟨k + 1, by omega, by go_num, Xep HX.out hno.out HQ.out, Xag HS.out _⟩
       case measure => simp [intOf]; omega
     · cases h2 : (x.page == p)
       · have HQ := Zh (show hitL d p x = false by rw [HH.out, h1, h2]; rfl)
         go_wp2
         go_roundw
         case rel => exact ⟨k + 1, by omega, by go_num, Xep HX.out hno.out HQ.out, Xag HS.out _⟩
         case measure => simp [intOf]; omega
       · have HQ := Zh (show hitL d p x = true by rw [HH.out, h1, h2]; rfl)
         go_wp2
         go_ret
         exact ⟨Xbe (Xjp HX.out HQ.out hno.out).symm, Xag HS.out _⟩
   · obtain rfl : k = n := by omega
     go_wp2
     go_ret
     exact ⟨Xbe (Xfr (fun y hy => hno.out y y16)).symm, hs.out⟩
end Go.Proofs.YtbopdijnojaaiadGreat
