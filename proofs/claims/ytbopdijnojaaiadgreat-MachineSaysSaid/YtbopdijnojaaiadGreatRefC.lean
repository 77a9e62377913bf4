/- The document's cache: the walks of CheckCache, with its map, and of Xkl. No statement of the seat is proved here. -/
import Derived.Test.YtbopdijnojaaiadGreatDrop
import Derived.Test.YtbopdijnojaaiadGreatSlices
namespace Go.Proofs.YtbopdijnojaaiadGreat
set_option maxRecDepth 100000
set_option maxHeartbeats 8000000
open Go.RowKit
set_option linter.unusedSimpArgs false
set_option linter.unusedVariables false
open Go.Maps
def keyL (x:Line):Lit:=.int .i64 (x.dev * 64+x.page)
def mapF (m:DataW Value) (x:Line):DataW Value:=m.put (keyL x) (.held (.bool true))
def mapD (ls:List Line):DataW Value:=ls.foldl mapF (.map [])
theorem Xsx (ls:List Line) (x:Line):mapD (ls ++ [x])=(mapD ls).put (keyL x) (.held (.bool true)):=by unfold mapD;rw[List.foldl_append];rfl
theorem Xsw {ls:List Line} {k:Nat} {x:Line} (hx:ls[k]?=some x):mapD (ls.take (k+1))=(mapD (ls.take k)).put (keyL x) (.held (.bool true)):=by
 rw[List.take_add_one,hx];exact Xsx _ _
theorem Xsz (k:Int) (z:DataW Value):∀(ls:List Line) (m:DataW Value),IsMap m→(ls.foldl mapF m).atKey (.int .i64 k) z=if ls.any (fun x=>x.dev * 64+x.page==k)then .held (.bool true)else m.atKey (.int .i64 k) z
 |[],m,_=>by simp
 |x :: r,m,hm=>by
  rw[List.foldl_cons,Xsz k z r _ (show IsMap (mapF m x)from hm.put _ _),List.any_cons]
  by_cases h:x.dev * 64+x.page=k
  ·have e:keyL x=.int .i64 k:=by unfold keyL;rw[h]
   have:(mapF m x).atKey (.int .i64 k) z=.held (.bool true):=by
    unfold mapF;rw[e];exact atKey_put_same hm (by simp[WideAt.IsKeyLit]) _ _
   rw[this]
   simp[h]
  ·have e:(Lit.int .i64 k)≠keyL x:=by unfold keyL;exact Xgw (fun h'=>h h'.symm)
   have:(mapF m x).atKey (.int .i64 k) z=m.atKey (.int .i64 k) z:=by
    unfold mapF;exact atKey_put_other e _ _
   rw[this]
   simp[h]
theorem Xsy {pre:List Line} {x:Line} (hp:∀ y∈pre,Xcc y=0) (hx:Xcc x=0):(mapD pre).atKey (keyL x) (.held (.bool false))=.held (.bool (decide (0≤Xb7 pre x.dev x.page))):=by
 unfold mapD keyL
 rw[Xsz _ _ pre _ isMap_empty]
 have e:pre.any (fun y=>y.dev * 64+y.page==x.dev * 64+x.page)=decide (0≤Xb7 pre x.dev x.page):=by
  have hxr:=(Xjd hx).1
  unfold Xgb at hxr
  rcases Xe2 pre x.dev x.page with⟨e,h⟩|⟨k,y,e,hy,hh,_⟩
  ·rw[e,List.any_eq_false.2 (fun y hy=>?_)]
   ·rfl
   ·have h1:=h y hy
    have h2:=(Xjd (hp y hy)).1
    unfold Xgb at h2
    rw[hitL_f]at h1
    simp only[beq_iff_eq]
    intro h3
    exact h1 (by omega)
  ·rw[e,List.any_eq_true.2 ⟨y,List.mem_of_getElem? hy,by rw[Xo9]at hh;simp[hh.1,hh.2]⟩]
   simp
 rw[e]
 cases decide (0≤Xb7 pre x.dev x.page)<;>rfl
theorem Tryz.zeroSeen (w:World):(zeroValue 4).run Tryz.prog w=.ok (.bool false) w:=by kernel_rfl
theorem Xex {P:Program} (w:World) {ops:Array Oper} {rest:List Oper} {o:Oper} {a:Act} {Q:Exit→Act→World→Prop}
  (hg:o.guard=none) (m x:Operand) (t:TypeId) (hop:o.op=Op.lookup t m x false)
  (k e:TypeId) (K:Keyed P k) (ht:P.underlying t=some (.map k e)) {z:Value} (hz:(zeroValue e).run P w=.ok z w) (b n:Nat) (D:DataW Value)
  (hm:a.eval m=.map (some b)) (hown:w.ownsMap P k Xdw b n D) (key:Value) (kl:Lit) (hx:a.eval x=key) (hkey:keyOf P k key=some kl) (f:Value) (hD:D.atKey kl (.held z)=.held f)
  (hK:wpList P ops Q rest (a.put o.dst f) w) :
  wpList P ops Q (o :: rest) a w:=by
 refine wpList_plain hg fun K' hK'=>?_
 obtain⟨v,ps,hrun,hv⟩:=hown.lookup K ht hz (zd:=.held z) (zp:=[]) rfl hkey
 unfold Xdw at hv
 rw[hD]at hv
 simp only[Option.some.injEq,Prod.mk.injEq,DataW.held.injEq]at hv
 rw[hv.1]at hrun
 unfold Oper.wp
 simp[execOp,hop,hm,hx,hrun,Result.andThen]
 exact hK' _ _ hK
theorem Xbf (A:Option Addr) (n c:Nat) (ls:List Line) (w:World) (hl:Lines w w.heap.size A n c ls) :
  Calls Tryz.prog 52 #[.slice A n c] w fun e w'=>e=.returned (.int .i64 (ckC ls))∧Below w.heap.size w w':=by
 have HL:=Zh hl
 obtain⟨hn1,hn2⟩:=hl.cap
 have hlen:=hl.len
 clear hl
 by_cases h6:n≤6
 ·have H6:=Zh (Xld (show ls.length≤6 by omega))
  clear hlen
  rw[H6.out]
  have h6':(n:Int)≤6:=by omega
  have hmm:=@run_makeMap Tryz.prog
  have hown0:=Zh (World.ownsMap_made w Tryz.prog 3 Xdw)
  go_enter Tryz.func52,Tryz.ntmps52
  go_wp2
  go_loopw [12] (fun i wr=>∃ k:Nat,k≤n∧i=.int .i64 k∧Hid (ckL [] ls=ckL (ls.take k) (ls.drop k))∧Hid (∀ y∈ls.take k,Xcc y=0)∧Hid (wr.ownsMap Tryz.prog 3 Xdw w.heap.size k (mapD (ls.take k)))∧Hid (Xan w wr)) (fun i _=>n - (intOf i).toNat)
  case atStart=>exact⟨0,by omega,rfl,by simp[Hid],(fun y hy=>by simp at hy),hown0.out,Xae (Xal w) _⟩
  case round=>
   obtain⟨k,hk,rfl,hck,hall,hown,hs⟩:=hrel
   by_cases hlt:k<n
   ·obtain⟨x,hx⟩:=Xa2 ls (k:=k) (by rw[HL.out.len];exact hlt)
    have HX:=Zh hx
    obtain⟨b,off,hA,hb,hc⟩:=(Xah HL.out hs.out).at_ (by omega)
    subst hA
    obtain⟨e0,e1,e2,e3,e4⟩:=hc k x hx
    have HS:=Zh hs.out
    clear hc hx hs
    have n1:(0:Int)≤(k:Int):=by omega
    have n2:(k:Int)<(n:Int):=by omega
    by_cases hR:Xgb x
    ·have HR:=Zh hR
     unfold Xgb at hR
     obtain⟨⟨r1,r2⟩,⟨r3,r4⟩,r5,r6⟩:=hR
     have i1:inB x.dev 0 7=true:=Xb2 (by omega)
     have i2:inB x.page 0 63=true:=Xb2 (by omega)
     have i3:inB x.at_ 0 63=true:=Xb2 (by omega)
     have m1:IntKind.i64.wrap (x.dev * 64)=x.dev * 64:=IntWalk.i64_in _ (by omega)
     have m2:IntKind.i64.wrap (x.dev * 64+x.page)=x.dev * 64+x.page:=IntWalk.i64_in _ (by omega)
     have HKW:=Zh (WalkArith.wf_i64 (n:=x.dev * 64+x.page) (by omega))
     clear r1 r2 r3 r4 r5 r6
     cases hrd:x.rd
     ·have HRD:=Zh hrd
      clear hrd
      rw[HRD.out]at e3
      go_wp2_with (go_at_call 38;refine(Xbc _ _ _ _).mono ?_;rintro e w' ⟨rfl,rfl⟩)
      go_ret
      exact⟨Xbv (hck.out.trans ((Xid HX.out (by rw[Xk3 HR.out HRD.out];decide)).trans (Xk3 HR.out HRD.out))).symm,Xae HS.out _⟩
     ·have HRD:=Zh hrd
      clear hrd
      rw[HRD.out]at e3
      have HMF:=Zh (Xsy hall.out (Xg2 HR.out HRD.out))
      by_cases hf:0≤Xb7 (ls.take k) x.dev x.page
      ·have HF:=Zh hf
       rw[decide_eq_true hf]at HMF
       clear hf
       go_wp2_with (first|(go_at_call 38;refine(Xbc _ _ _ _).mono ?_;rintro e w' ⟨rfl,rfl⟩)|(at_lookup;refine Xex _ rfl _ _ 140 rfl 3 4 Tryz.keyInt Tryz.underlying140 (Tryz.zeroSeen _) w.heap.size _ _ rfl (hown.out.alloc _) _ (keyL x) rfl (keyOf_int_mk Tryz.underlying3 HKW.out) (.bool true) HMF.out ?_))
       go_ret
       exact⟨Xbv (hck.out.trans (Xmz HX.out (Xg2 HR.out HRD.out) HF.out)).symm,Xae HS.out _⟩
      ·have HF:=Zh (show Xb7 (ls.take k) x.dev x.page<0 by omega)
       rw[decide_eq_false hf]at HMF
       clear hf
       go_wp2_with (first|(go_at_call 38;refine(Xbc _ _ _ _).mono ?_;rintro e w' ⟨rfl,rfl⟩)|(at_lookup;refine Xex _ rfl _ _ 140 rfl 3 4 Tryz.keyInt Tryz.underlying140 (Tryz.zeroSeen _) w.heap.size _ _ rfl (hown.out.alloc _) _ (keyL x) rfl (keyOf_int_mk Tryz.underlying3 HKW.out) (.bool false) HMF.out ?_)|(at_mapUpdate;refine wpList_mapUpdate_own _ rfl _ _ _ 140 rfl 3 4 Tryz.keyInt Tryz.underlying140 Xdw w.heap.size k _ rfl (hown.out.alloc _) (by unfold maxLen;omega) _ _ (keyL x) rfl rfl (keyOf_int_mk Tryz.underlying3 HKW.out) (.held (.bool true)) [] rfl ?_;intro w' ho' hg'))
       go_roundw
       case rel=>
        refine⟨k+1,by omega,by go_num,hck.out.trans (Xpj HX.out (Xg2 HR.out HRD.out) HF.out), ?_, ?_, ?_⟩
        ·show ∀ y∈_,_
         intro y hy
         rw[List.take_add_one,HX.out,List.mem_append]at hy
         rcases hy with hy|hy
         ·exact hall.out y hy
         ·simp at hy;subst hy;exact Xg2 HR.out HRD.out
        ·show World.ownsMap _ _ _ _ _ _ _
         rw[Xsw HX.out]
         assumption
        ·exact Below.grown (HS.out.alloc HS.out.size _) (by assumption) (by have:=HS.out.size;simp;omega) (by intro q hq;cases hq;exact Nat.le_refl _)
       case measure=>simp[intOf];omega
    ·have HE:=Zh (Xs0 hR)
     have hr2:(¬(0≤x.dev∧x.dev≤7))∨((0≤x.dev∧x.dev≤7)∧¬(0≤x.page∧x.page≤63))∨((0≤x.dev∧x.dev≤7)∧(0≤x.page∧x.page≤63)∧¬(0≤x.at_∧x.at_≤63)):=by unfold Xgb at hR;omega
     clear hR
     rcases hr2 with r1|⟨r1,r2⟩|⟨r1,r2,r3⟩
     ·have i1:inB x.dev 0 7=false:=Xgs r1
      clear r1
      go_wp2_with (go_at_call 38;refine(Xbc _ _ _ _).mono ?_;rintro e w' ⟨rfl,rfl⟩)
      go_ret
      exact⟨Xbv (hck.out.trans ((Xid HX.out (by rw[HE.out];decide)).trans HE.out)).symm,Xae HS.out _⟩
     ·have i1:inB x.dev 0 7=true:=Xb2 r1
      have i2:inB x.page 0 63=false:=Xgs r2
      clear r1 r2
      go_wp2_with (go_at_call 38;refine(Xbc _ _ _ _).mono ?_;rintro e w' ⟨rfl,rfl⟩)
      go_ret
      exact⟨Xbv (hck.out.trans ((Xid HX.out (by rw[HE.out];decide)).trans HE.out)).symm,Xae HS.out _⟩
     ·have i1:inB x.dev 0 7=true:=Xb2 r1
      have i2:inB x.page 0 63=true:=Xb2 r2
      have i3:inB x.at_ 0 63=false:=Xgs r3
      clear r1 r2 r3
      go_wp2_with (go_at_call 38;refine(Xbc _ _ _ _).mono ?_;rintro e w' ⟨rfl,rfl⟩)
      go_ret
      exact⟨Xbv (hck.out.trans ((Xid HX.out (by rw[HE.out];decide)).trans HE.out)).symm,Xae HS.out _⟩
   ·obtain rfl:k=n:=by omega
    go_wp2
    go_ret
    exact⟨Xbv (hck.out.trans (by rw[←HL.out.len];exact Xt8 ls)).symm,hs.out⟩
 ·have H6:=Zh (Xlc (show 6<ls.length by omega))
  rw[H6.out]
  clear hlen
  have h6':(6:Int)<(n:Int):=by omega
  go_enter Tryz.func52,Tryz.ntmps52
  go_wp2
  go_ret
  exact⟨rfl,Below.refl _ _⟩
theorem Xgh (A:Option Addr) (n c:Nat) (ls:List Line) (d p:Int) (w:World) (hl:Lines w w.heap.size A n c ls) :
  Calls Tryz.prog 101 #[.slice A n c,.int .i64 d,.int .i64 p] w fun e w'=>e=.returned (.int .i64 (Xb7 ls d p))∧Below w.heap.size w w':=by
 have HL:=Zh hl
 obtain⟨hn1,hn2⟩:=hl.cap
 clear hl
 go_enter Tryz.func101,Tryz.ntmps101
 go_wp2
 go_loopw [11] (fun i wr=>∃ k:Nat,k≤n∧i=.int .i64 k∧Hid (∀ y∈ls.take k,hitL d p y=false)∧Hid (Xan w wr)) (fun i _=>n - (intOf i).toNat)
 case atStart=>exact⟨0,by omega,rfl,(fun y hy=>by simp at hy),Xal w⟩
 case round=>
  obtain⟨k,hk,rfl,hno,hs⟩:=hrel
  by_cases hlt:k<n
  ·obtain⟨x,hx⟩:=Xa2 ls (k:=k) (by rw[HL.out.len];exact hlt)
   have HX:=Zh hx
   obtain⟨b,off,rfl,hb,hc⟩:=(Xah HL.out hs.out).at_ (by omega)
   obtain⟨e0,e1,e2,e3,e4⟩:=hc k x hx
   have HS:=Zh hs.out
   clear hc hx hs
   have n1:(0:Int)≤(k:Int):=by omega
   have n2:(k:Int)<(n:Int):=by omega
   have HH:=Zh (show hitL d p x=(x.dev==d&&x.page==p)from rfl)
   cases h1:(x.dev==d)
   ·have HQ:=Zh (show hitL d p x=false by rw[HH.out,h1];rfl)
    go_wp2
    go_roundw
    case rel=>exact⟨k+1,by omega,by go_num,Xfj HX.out hno.out HQ.out,Xae HS.out _⟩
    case measure=>simp[intOf];omega
   ·cases h2:(x.page==p)
    ·have HQ:=Zh (show hitL d p x=false by rw[HH.out,h1,h2];rfl)
     go_wp2
     go_roundw
     case rel=>exact⟨k+1,by omega,by go_num,Xfj HX.out hno.out HQ.out,Xae HS.out _⟩
     case measure=>simp[intOf];omega
    ·have HQ:=Zh (show hitL d p x=true by rw[HH.out,h1,h2];rfl)
     go_wp2
     go_ret
     exact⟨Xbv (Xkg HX.out HQ.out hno.out).symm,Xae HS.out _⟩
  ·obtain rfl:k=n:=by omega
   go_wp2
   go_ret
   exact⟨Xbv (Xgn (fun y hy=>hno.out y (by rw[List.take_of_length_le (by rw[HL.out.len];omega)];exact hy))).symm,hs.out⟩
end Go.Proofs.YtbopdijnojaaiadGreat
