/- The cache: the walk of the program's Drop, its map of functions and these. No statement of the seat is proved here. -/
import Derived.Test.YtbopdijnojaaiadGreatBase
import Derived.Test.YtbopdijnojaaiadGreatSlices
import Derived.Lib.SliceRun
import Derived.Test.YtbopdijnojaaiadGreatFillZ
import Derived.Maps.OwnOps
import Derived.Maps.OwnSet
import Derived.Shelf.Abstract
import Derived.Deep.DeepCutAuto
namespace Go.Proofs.YtbopdijnojaaiadGreat
set_option maxRecDepth 100000
set_option maxHeartbeats 8000000
open Go.RowKit
set_option linter.unusedSimpArgs false
set_option linter.unusedVariables false
section
section
def idxL (ls:List Line) (q:Line→Bool):Int:=match ls.findIdx? q with|some k=>(k:Int)|none => -1
theorem Xtd {ls:List Line} {q:Line→Bool} (h:∀ x∈ls,q x=false):idxL ls q = -1:=by unfold idxL;rw[List.findIdx?_eq_none_iff.2 h]
theorem Xtc {ls:List Line} {q:Line→Bool} {k:Nat} {x:Line} (hk:ls[k]?=some x) (hx:q x=true) (h:∀ y∈ls.take k,q y=false):idxL ls q=(k:Int):=by
 unfold idxL
 have hlt:k<ls.length:=(List.getElem?_eq_some_iff.1 hk).1
 have hx':ls[k]=x:=(List.getElem?_eq_some_iff.1 hk).2
 have:ls.findIdx? q=some k:=by
  rw[List.findIdx?_eq_some_iff_getElem]
  refine⟨hlt,by rw[hx'];exact hx,fun j hj=>?_⟩
  have:=h (ls[j]'(by omega)) (by rw[List.mem_take_iff_getElem];exact⟨j,by omega,rfl⟩)
  simp[this]
 rw[this]
theorem Xqr (ls:List Line) (q:Line→Bool):(idxL ls q = -1∧∀ x∈ls,q x=false)∨∃(k:Nat) (x:Line),idxL ls q=(k:Int)∧ls[k]?=some x∧q x=true∧∀ y∈ls.take k,q y=false:=by
 unfold idxL
 cases h:ls.findIdx? q with
 |none=>left;exact⟨rfl,List.findIdx?_eq_none_iff.1 h⟩
 |some k=>
  right
  obtain⟨hk,hx,hj⟩:=List.findIdx?_eq_some_iff_getElem.1 h
  refine⟨k,ls[k],rfl,List.getElem?_eq_getElem hk,hx,fun y hy=>?_⟩
  obtain⟨j,hj',rfl⟩:=List.mem_take_iff_getElem.1 hy
  have:=hj j (by omega)
  simpa using this
def Xom (g:Nat) (lb:Array Value) (q:Line→Bool) (B:Nat) (w:World):Prop:=
 ∀(W:World) (x:Line),Below B w W→w.heap.size≤W.heap.size→Calls Tryz.prog g (#[.agg #[.int .i64 x.dev,.int .i64 x.page,.int .i64 x.at_,.bool x.rd,.bool x.wr]] ++ lb) W fun e w'=>e=.returned (.bool (q x))∧Below W.heap.size W w'
theorem Xo8 (A:Option Addr) (n c:Nat) (ls:List Line) (q:Line→Bool) (g:Nat) (lb:Array Value) (w:World) (hl:Lines w w.heap.size A n c ls) (eg:∀ args w,(callFunc g args).run Tryz.prog w=.ok (.enter g args) w) (hp:Xom g lb q w.heap.size w) :
  Calls Tryz.prog 92 #[.slice A n c,.func (.func g) #[] lb] w fun e w'=>e=.returned (.int .i64 (idxL ls q))∧Below w.heap.size w w':=by
 have HL:=Zh hl
 have hn:=hl.cap
 have HP:=Zh hp
 clear hl hp
 obtain⟨hn1,hn2⟩:=hn
 go_enter Tryz.func92,Tryz.ntmps92
 go_wp2
 go_loopw [8] (fun i wr=>∃ k:Nat,k≤n∧i=.int .i64 k∧Hid (∀ y∈ls.take k,q y=false)∧Hid (Xan w wr)) (fun i _=>n - (intOf i).toNat)
 case atStart=>exact⟨0,by omega,rfl,(fun y hy=>by simp at hy),Xal w⟩
 case round=>
  obtain⟨k,hk,rfl,hno,hs⟩:=hrel
  by_cases hlt:k<n
  ·obtain⟨x,hx⟩:=Xa2 ls (k:=k) (by rw[HL.out.len];exact hlt)
   have HX:=Zh hx
   obtain⟨b,off,rfl,hb,hc⟩:=(HL.out.below hs.out).at_ (by omega)
   obtain⟨e0,e1,e2,e3,e4⟩:=hc k x hx
   have HS:=Zh hs.out
   clear hc hx hs
   have hcall:=HP.out wr x HS.out HS.out.size
   have HC:=Zh hcall
   clear hcall
   cases hq:q x
   ·have HQ:=Zh hq
    go_wp2_with fail
    refine HC.out.mono ?_
    rw[HQ.out]
    clear hq
    rintro e w1 ⟨rfl,hb1⟩
    have hz1:=hb1.size
    (try simp only[Zs]at hz1)
    have HB1:=Zh hb1
    clear hb1
    go_wp2_with fail
    go_roundw
    case rel=>exact⟨k+1,by omega,by go_num,Xfj HX.out hno.out HQ.out,Xax HB1.out HS.out⟩
    case measure=>simp[intOf];omega
   ·have HQ:=Zh hq
    go_wp2_with fail
    refine HC.out.mono ?_
    rw[HQ.out]
    clear hq
    rintro e w1 ⟨rfl,hb1⟩
    have hz1:=hb1.size
    (try simp only[Zs]at hz1)
    have HB1:=Zh hb1
    clear hb1
    go_wp2_with fail
    go_ret
    exact⟨Xbv (Xtc HX.out HQ.out hno.out).symm,Xax HB1.out HS.out⟩
  ·obtain rfl:k=n:=by omega
   go_wp2
   go_ret
   exact⟨Xbv (Xtd (fun y hy=>hno.out y (by rw[List.take_of_length_le (by rw[HL.out.len];omega)];exact hy))).symm,hs.out⟩
end
section
theorem Tryz.zeroLine (w:World):(zeroValue 58).run Tryz.prog w=.ok (.agg #[.int .i64 0,.int .i64 0,.int .i64 0,.bool false,.bool false]) w:=by kernel_rfl
theorem Xg9 (w:World) (g o n c:Nat) (hn:0<n) (hc:∀ j,j<n * 5→(w.cell? ⟨g,o+j,none⟩).isSome=true) (hf:∀ j,w.frozen? ⟨g,j,none⟩=false) :
  ∃ vs:List Value,∀ ty,(Builtin.clear_ #[27] ty #[.slice (some ⟨g,o,none⟩) n c]).run Tryz.prog w=.ok (.tuple #[]) (w.setCells g o vs):=by
 refine⟨(Builtin.zeroCells (Value.agg #[.int .i64 0,.int .i64 0,.int .i64 0,.bool false,.bool false]).cells n).toList,fun ty=>?_⟩
 have hst:=run_storeCells_cells (P:=Tryz.prog) g o (Builtin.zeroCells (Value.agg #[.int .i64 0,.int .i64 0,.int .i64 0,.bool false,.bool false]).cells n).toList 0 w
  (by intro j hj;simp[Builtin.zeroCells,Value.cells]at hj;exact hc j hj) (by intro j _;exact hf _) (by
   intro v hv
   simp only[Builtin.zeroCells,Value.cells,Array.toList_map,List.mem_map]at hv
   obtain⟨i,_,rfl⟩:=hv
   have:i % 5=0∨i % 5=1∨i % 5=2∨i % 5=3∨i % 5=4:=by omega
   rcases this with h|h|h|h|h<;>simp[h,Value.oneCell'])
 simp only[Nat.add_zero]at hst
 obtain⟨m,rfl⟩:∃ m,n=m+1:=⟨n - 1,by omega⟩
 simp[Builtin.clear_,run_underlying Tryz.underlying27,Tryz.zeroLine,hst]
theorem Xei {B:Nat} {w:World} {e:TypeId} {size n:Nat} {v:Value} {ys:List Value} (h:w.ownsRow B e size v n ys):∀ k,v.ownBlock=some k→B≤k:=by
 intro k hk
 rcases Xdn h with⟨hv,_⟩|⟨g,cap,hv,_,_,hg,_⟩
 ·subst hv;cases hk
 ·subst hv;simp[Value.ownBlock]at hk;omega
theorem Xu4 {B:Nat} {w:World} {e:TypeId} {size n c g:Nat} {ys:List Value} (h:w.ownsRow B e size (.slice (some ⟨g,0,none⟩) n c) n ys):∀ j,w.frozen? ⟨g,j,none⟩=false:=by
 intro j
 obtain⟨_,h2⟩:=h
 rcases h2 with⟨h2,_⟩|⟨g',cap,cur,hv,hg,hh,_⟩
 ·injection h2 with e1;cases e1
 ·injection hv with e1 e2 e3
  simp only[Option.some.injEq,Addr.mk.injEq,and_true]at e1
  subst e1
  simp[World.frozen?,hh]
theorem Xen (A:Option Addr) (n c B:Nat) (ls:List Line) (q:Line→Bool) (g:Nat) (lb:Array Value) (w:World) (ho:OwnL B w A n c ls) (hB:B≤w.heap.size) (eg:∀ args w,(callFunc g args).run Tryz.prog w=.ok (.enter g args) w) (hp:Xom g lb q B w) :
  Calls Tryz.prog 77 #[.slice A n c,.func (.func g) #[] lb] w fun e w'=>∃ A' c',e=.returned (.slice A' (ls.filter (fun x=>!q x)).length c')∧Lines w' w'.heap.size A' (ls.filter (fun x=>!q x)).length c' (ls.filter (fun x=>!q x))∧Below B w w'∧w.heap.size≤w'.heap.size∧∀ ad,A'=some ad→B≤ad.block:=by
 have HL:=Zh ho.lines
 have hn:=ho.lines.cap
 have HP:=Zh hp
 have HP2:=Zh (show Xom g lb q w.heap.size w from fun W x h hs=>hp W x (h.mono hB) hs)
 have HOG:=Zh (Xei ho.2.2.2)
 rcases Xqr ls q with⟨e1,hall⟩|⟨k,x,e1,hx,hq,hall⟩
 ·have ef:ls.filter (fun x=>!q x)=ls:=List.filter_eq_self.2 (fun y hy=>by simp[hall y hy])
  rw[ef,HL.out.len]
  have HE:=Zh e1
  clear ho hp hall e1
  go_enter Tryz.func77,Tryz.ntmps77
  go_wp2_with fail
  refine(Xo8 _ _ _ ls q g lb _ HL.out eg HP2.out).mono ?_
  rw[HE.out]
  rintro e w1 ⟨rfl,hb1⟩
  have hz1:=hb1.size
  (try simp only[Zs]at hz1)
  have HB1:=Zh hb1
  clear hb1
  go_wp2
  go_ret
  exact⟨A,c,rfl,Xah HL.out HB1.out,HB1.out.mono hB,HB1.out.size,fun ad h=>HOG.out ad.block (by rw[h];rfl)⟩
 ·have hk:k<n:=by rw[←HL.out.len];exact(List.getElem?_eq_some_iff.1 hx).1
  obtain⟨bg,cap,hv,hnc,hcm,hBg,hbs⟩:∃ g cap,Value.slice A n c=.slice (some ⟨g,0,none⟩) n cap∧n≤cap∧cap≤maxLen∧B≤g∧g<w.heap.size:=by
   rcases Xdn ho.2.2.2 with⟨_,h⟩|h
   ·omega
   ·exact h
  injection hv with e2 e3 e4
  subst e2 e4
  have HF:=Zh (Xu4 ho.2.2.2)
  have HE:=Zh e1
  have HK:=Zh (KeptL.start (q:=fun x=>!q x) hx (by simp[hq]) (fun y hy=>by simp[hall y hy]))
  have t1:((k:Int) == -1)=false:=beq_eq_false_iff_ne.2 (by omega)
  clear ho hp hall e1 hx hq
  go_enter Tryz.func77,Tryz.ntmps77
  go_wp2_with fail
  refine(Xo8 _ _ _ ls q g lb _ HL.out eg HP2.out).mono ?_
  rw[HE.out]
  rintro e w1 ⟨rfl,hb1⟩
  have hz1:=hb1.size
  (try simp only[Zs]at hz1)
  have HB1:=Zh hb1
  clear hb1
  have HB1':=Zh (show Below B w w1∧w.heap.size≤w1.heap.size from⟨HB1.out.mono hB,HB1.out.size⟩)
  have HL1:=Zh (Xah HL.out HB1.out)
  have HF1:=Zh (fun j=>(HB1.out.frozen (p:=⟨bg,j,none⟩) hbs).trans (HF.out j))
  have w1':IntKind.i64.wrap ((k:Int)+1)=(k:Int)+1:=IntWalk.i64_in _ (by omega)
  go_wp2
  go_loopw [5,6] (fun s5 s6 wr=>∃(i j:Nat) (zs:List Line),s5=.int .i64 i∧s6=.int .i64 j∧j≤n∧Hid (KeptL (fun x=>!q x) ls zs i j)∧Hid (Lines wr wr.heap.size (some ⟨bg,0,none⟩) n c zs)∧Hid (Below B w wr∧w.heap.size≤wr.heap.size)∧Hid (∀ j,wr.frozen? ⟨bg,j,none⟩=false)) (fun _ j _=>n - (intOf j).toNat)
  case atStart=>exact⟨k,k+1,ls,rfl,by go_num,hk,HK.out,HL1.out,HB1'.out,HF1.out⟩
  case round=>
   obtain⟨i,j,zs,rfl,rfl,hj,hK,hL,hW,hF⟩:=hrel
   have hij:=hK.out.lt
   by_cases hlt:j<n
   ·obtain⟨y,hy⟩:=Xa2 ls (k:=j) (by rw[HL.out.len];exact hlt)
    obtain⟨z,hz⟩:=Xa2 zs (k:=i) (by rw[hL.out.len];omega)
    have hy':=(hK.out.high j (Nat.le_refl _)).trans hy
    obtain⟨b',off',eA,hb',hc⟩:=hL.out.at_ (by omega)
    simp only[Option.some.injEq,Addr.mk.injEq,and_true]at eA
    obtain⟨rfl,rfl⟩:=eA
    obtain⟨e0,e1,e2,e3,e4⟩:=hc j y hy'
    obtain⟨d0,d1,d2,d3,d4⟩:=hc i z hz
    have HY:=Zh hy
    simp only[Nat.zero_add]at e0 e1 e2 e3 e4 d0 d1 d2 d3 d4
    have f0:=fun o=>hF.out o
    have i0:(0:Int)≤(j:Int):=by omega
    have i1:(j:Int)<(n:Int):=by omega
    have i2:(0:Int)≤(i:Int):=by omega
    have i3:(i:Int)<(n:Int):=by omega
    clear hc hy hz hy'
    have hcall:=HP.out (wr.alloc (.cells #[.int .i64 y.dev,.int .i64 y.page,.int .i64 y.at_,.bool y.rd,.bool y.wr] 58)) y (hW.out.1.alloc (Nat.le_trans hB hW.out.2) _) (by have:=hW.out.2;simp;omega)
    have HC:=Zh hcall
    clear hcall
    cases hq:q y
    ·have HQ:=Zh hq
     go_wp2_with fail
     refine HC.out.mono ?_
     rw[HQ.out]
     clear hq
     rintro e w2 ⟨rfl,hb2⟩
     have hz2:=hb2.size
     (try simp only[Zs]at hz2)
     obtain⟨k2_0,l2_0,q2_0⟩:=aft hb2 (bg) (by(try simp)<;>omega)
     obtain⟨k2_1,l2_1,q2_1⟩:=aft hb2 (wr.heap.size) (by(try simp)<;>omega)
     simp(maxDischargeDepth:=6) [go_sem, *]at k2_0 q2_0 k2_1 q2_1
     have HB2:=Zh hb2
     clear hb2
     go_wp2_with fail
     go_roundw
     case rel=>
      have L2:=((hL.out.alloc (Nat.le_refl _) (.cells #[.int .i64 y.dev,.int .i64 y.page,.int .i64 y.at_,.bool y.rd,.bool y.wr] 58)).below (HB2.out.mono (by simp))).more (B':=w2.heap.size) (by omega)
      have B2:Below B w w2:=(hW.out.1.alloc (Nat.le_trans hB hW.out.2) _).trans (HB2.out.mono (by have:=hW.out.2;simp;omega))
      have hs:=hW.out.2
      refine⟨i+1,j+1,zs.set i y,by go_num,by go_num,hlt,hK.out.keep HY.out (by rw[HQ.out];rfl), ?_,⟨?_, ?_⟩, ?_⟩
      ·exact(L2.setLine (i:=i) (by omega) y).more (by simp)
      ·exact Below.setLine B2 hBg (i * 5) y.vals
      ·simp;omega
      ·intro o
       exact(World.frozen?_setCells bg y.vals (i * 5) w2 ⟨bg,o,none⟩).trans (by simp[q2_0])
     case measure=>simp[intOf];omega
    ·have HQ:=Zh hq
     go_wp2_with fail
     refine HC.out.mono ?_
     rw[HQ.out]
     clear hq
     rintro e w2 ⟨rfl,hb2⟩
     have hz2:=hb2.size
     (try simp only[Zs]at hz2)
     obtain⟨k2_0,l2_0,q2_0⟩:=aft hb2 (bg) (by(try simp)<;>omega)
     obtain⟨k2_1,l2_1,q2_1⟩:=aft hb2 (wr.heap.size) (by(try simp)<;>omega)
     simp(maxDischargeDepth:=6) [go_sem, *]at k2_0 q2_0 k2_1 q2_1
     have HB2:=Zh hb2
     clear hb2
     go_wp2_with fail
     go_roundw
     case rel=>exact⟨i,j+1,zs,rfl,by go_num,hlt,hK.out.skip HY.out (by rw[HQ.out];rfl),(hL.out.alloc (Nat.le_refl _) _ |>.below (HB2.out.mono (by simp))).more (by omega),⟨(hW.out.1.alloc (Nat.le_trans hB hW.out.2) _).trans (HB2.out.mono (by have:=hW.out.2;simp;omega)),by have:=hW.out.2;omega⟩,fun o=>by simp[q2_0]⟩
     case measure=>simp[intOf];omega
   ·obtain rfl:j=n:=by omega
    have hlen:=HL.out.len
    obtain⟨hd1,hd2⟩:=hK.out.done hlen.symm
    have HD:=Zh (And.intro hd1 hd2)
    clear hd1 hd2
    have hsome:=fun(m:Nat) (hm:m<j * 5)=>hL.out.cellsome hm
    obtain⟨vs,hcl⟩:=Xg9 wr bg (i * 5) (j - i) (c - i) (by omega) (fun m hm=>hsome _ (by omega)) hF.out
    have i2:(0:Int)≤(i:Int):=by omega
    have i3:(i:Int)≤(j:Int):=by omega
    have i4:(i:Int)≤(c:Int):=by omega
    have i5:(j:Int)≤(c:Int):=by omega
    clear hsome
    go_wp2
    go_ret
    rw[HD.out.2]
    refine⟨some ⟨bg,0,none⟩,c,rfl, ?_,Below.setLine hW.out.1 hBg _ vs, ?_,fun ad h=>by cases h;exact hBg⟩
    ·have:=(hL.out.cutAt (i:=i) (by omega) vs).more (B':=(wr.setCells bg (i * 5) vs).heap.size) (Nat.le_of_eq (Xff bg vs _ wr).symm)
     rwa [HD.out.1]at this
    ·rw[Xff];exact hW.out.2
end
end
section
open Go.Maps
def Xdw (v:Value):Option (DataW Value×List MemPlace):=some (.held v,[])
theorem Xc3 {H:Type} {P:Program} (w:World) {ops:Array Oper} {rest:List Oper} {o:Oper} {a:Act} {Q:Exit→Act→World→Prop}
  (hg:o.guard=none) (m x v:Operand) (t:TypeId) (hop:o.op=Op.insert t m x v)
  (k e:TypeId) (K:Keyed P k) (ht:P.underlying t=some (.map k e)) (R:Value→Option (DataW H×List MemPlace)) (b n:Nat) (D:DataW H)
  (hm:a.eval m=.map (some b)) (hown:w.ownsMap P k R b n D) (hn:n<maxLen) (key val:Value) (kl:Lit) (hx:a.eval x=key) (hv:a.eval v=val) (hkey:keyOf P k key=some kl)
  (d:DataW H) (ps:List MemPlace) (hval:R val=some (d,ps))
  (hK:∀ w',w'.ownsMap P k R b (n+1) (D.put kl d)→w.grownBy w' (some b)→wpList P ops Q rest (a.put o.dst undef) w') :
  wpList P ops Q (o :: rest) a w:=by
 refine wpList_plain hg fun K' hK'=>?_
 obtain⟨w',hrun,r1,r2⟩:=hown.update K ht hn hkey hval
 unfold Oper.wp
 simp[execOp,hop,hm,hx,hv,hrun,Result.andThen]
 exact hK' _ _ (hK w' r1 r2)
theorem Xcw {P:Program} (w:World) {ops:Array Oper} {rest:List Oper} {o:Oper} {a:Act} {Q:Exit→Act→World→Prop}
  (hg:o.guard=none) (m x:Operand) (t:TypeId) (hop:o.op=Op.lookup t m x true)
  (k e:TypeId) (K:Keyed P k) (ht:P.underlying t=some (.map k e)) {z:Value} (hz:(zeroValue e).run P w=.ok z w) (b n:Nat) (D:DataW Value)
  (hm:a.eval m=.map (some b)) (hown:w.ownsMap P k Xdw b n D) (key:Value) (kl:Lit) (hx:a.eval x=key) (hkey:keyOf P k key=some kl) (f:Value) (r:Bool) (hD:Maps.has D kl=r∧D.atKey kl (.held z)=.held f)
  (hK:wpList P ops Q rest (a.put o.dst (.tuple #[f,.bool r])) w) :
  wpList P ops Q (o :: rest) a w:=
 wpList_lookup_own_ok w hg m x t hop k e K ht Xdw hz (.held z) [] rfl b n D hm hown key kl hx hkey (fun v ps hv=>by
  unfold Xdw at hv
  rw[hD.2]at hv
  simp only[Option.some.injEq,Prod.mk.injEq,DataW.held.injEq]at hv
  rw[hv.1,hD.1]
  exact hK)
theorem Xeg {w1 w w':World} (h:Below w1.heap.size w1 w) (hg:w.grownBy w' (some w1.heap.size)):Below w1.heap.size w1 w':=Below.grown h hg h.size (by intro k hk;cases hk;exact Nat.le_refl _)
theorem Xbw {w w1 w':World} {o:Obj} (h1:Below (w.alloc o).heap.size (w.alloc o) w1) (h:Below w1.heap.size w1 w'):Below w.heap.size w w':=
 ((Xag w o).trans (h1.mono (by simp))).trans (h.mono (by have:=h1.size;simp at this;omega))
theorem Tryz.keyInt:Keyed Tryz.prog 3:=int_keyed Tryz.underlying3
theorem Tryz.zeroHit (w:World):(zeroValue 131).run Tryz.prog w=.ok .nilFunc w:=by kernel_rfl
theorem drop_1 (x:Line) (w:World):Calls Tryz.prog 73 #[.agg #[.int .i64 x.dev,.int .i64 x.page,.int .i64 x.at_,.bool x.rd,.bool x.wr]] w fun e w'=>e=.returned (.bool false)∧Below w.heap.size w w':=by
 have HB:=Zh (Xag w)
 go_enter Tryz.func73,Tryz.ntmps73
 go_wp2
 go_ret
 first|exact⟨rfl,Below.refl _ _⟩|exact⟨rfl,HB.out _⟩
theorem drop_2 (x:Line) (w:World):Calls Tryz.prog 74 #[.agg #[.int .i64 x.dev,.int .i64 x.page,.int .i64 x.at_,.bool x.rd,.bool x.wr]] w fun e w'=>e=.returned (.bool true)∧Below w.heap.size w w':=by
 have HB:=Zh (Xag w)
 go_enter Tryz.func74,Tryz.ntmps74
 go_wp2
 go_ret
 first|exact⟨rfl,Below.refl _ _⟩|exact⟨rfl,HB.out _⟩
theorem drop_3 (x:Line) (g:Nat) (d:Int) (w:World) (h1:w.cell? ⟨g,1,none⟩=some (.int .i64 d)):Calls Tryz.prog 75 #[.agg #[.int .i64 x.dev,.int .i64 x.page,.int .i64 x.at_,.bool x.rd,.bool x.wr],.pointer (some ⟨g,0,none⟩)] w fun e w'=>e=.returned (.bool (x.dev==d))∧Below w.heap.size w w':=by
 have HB:=Zh (Xag w)
 have l1:g<w.heap.size:=Xbm h1
 go_enter Tryz.func75,Tryz.ntmps75
 go_wp2
 go_ret
 exact⟨rfl,HB.out _⟩
theorem drop_4 (x:Line) (g:Nat) (d p:Int) (w:World) (h1:w.cell? ⟨g,1,none⟩=some (.int .i64 d)) (h2:w.cell? ⟨g,2,none⟩=some (.int .i64 p)):Calls Tryz.prog 76 #[.agg #[.int .i64 x.dev,.int .i64 x.page,.int .i64 x.at_,.bool x.rd,.bool x.wr],.pointer (some ⟨g,0,none⟩)] w fun e w'=>e=.returned (.bool (x.dev==d&&x.page==p))∧Below w.heap.size w w':=by
 have HB:=Zh (Xag w)
 have l1:g<w.heap.size:=Xbm h1
 cases hd:(x.dev==d)
 ·go_enter Tryz.func76,Tryz.ntmps76
  go_wp2
  go_ret
  exact⟨rfl,HB.out _⟩
 ·go_enter Tryz.func76,Tryz.ntmps76
  go_wp2
  go_ret
  exact⟨rfl,HB.out _⟩
theorem pred_1 (k d p:Int) (B:Nat) (w:World) (hk:k=0):Xom 73 #[] (goes k d p) B w:=fun W x _ _=>by
 rw[show goes k d p x=false by subst hk;simp[goes]]
 exact drop_1 x W
theorem pred_2 (k d p:Int) (B:Nat) (w:World) (hk:k=1):Xom 74 #[] (goes k d p) B w:=fun W x _ _=>by
 rw[show goes k d p x=true by subst hk;simp[goes]]
 exact drop_2 x W
theorem pred_3 (k d p:Int) (g B:Nat) (w:World) (hg:g<B) (h1:w.cell? ⟨g,1,none⟩=some (.int .i64 d)) (hk:k=2):Xom 75 #[.pointer (some ⟨g,0,none⟩)] (goes k d p) B w:=fun W x hb _=>by
 rw[show goes k d p x=(x.dev==d) by subst hk;simp[goes]]
 exact drop_3 x g d W ((hb.cell (p:=⟨g,1,none⟩) hg).trans h1)
theorem pred_4 (k d p:Int) (g B:Nat) (w:World) (hg:g<B) (h1:w.cell? ⟨g,1,none⟩=some (.int .i64 d)) (h2:w.cell? ⟨g,2,none⟩=some (.int .i64 p)) (hk:k=3):Xom 76 #[.pointer (some ⟨g,0,none⟩)] (goes k d p) B w:=fun W x hb _=>by
 rw[show goes k d p x=(x.dev==d&&x.page==p) by subst hk;simp[goes]]
 exact drop_4 x g d p W ((hb.cell (p:=⟨g,1,none⟩) hg).trans h1) ((hb.cell (p:=⟨g,2,none⟩) hg).trans h2)
def Xht (w:World) (ls:List Line) (k d p:Int) (e:Ending) (w':World):Prop:=
 ∃ A c,e=.returned (.tuple #[.slice A (Xfn ls k d p).length c,.int .i64 (Xes ls k)])∧Lines w' w'.heap.size A (Xfn ls k d p).length c (Xfn ls k d p)∧Below w.heap.size w w'∧∀ ad,A=some ad→w.heap.size≤ad.block
theorem Xnc (A:Option Addr) (n c:Nat) (ls:List Line) (k d p:Int) (w:World) (hl:Lines w w.heap.size A n c ls) (h0:ckC ls≠0) :
  Calls Tryz.prog 48 #[.slice A n c,.agg #[.int .i64 k,.int .i64 d,.int .i64 p]] w (Xht w ls k d p):=by
 have HL:=Zh hl
 have t0:(ckC ls != 0)=true:=by rw[bne_iff_ne];exact h0
 unfold Xht
 rw[Xn9 (Xob h0) h0,Xob h0]
 clear hl h0
 go_enter Tryz.func48,Tryz.ntmps48
 go_wp2_with fail
 refine(Xba _ _ _ ls _ (Xah HL.out (bl (by repeat' first|with_reducible(first|assumption|constructor)|((try simp)<;>omega))))).mono ?_
 rintro e w1 ⟨rfl,hb1⟩
 have hz1:=hb1.size
 (try simp only[Zs]at hz1)
 have HB1:=Zh hb1
 clear hb1
 go_wp2
 go_ret2
 exact⟨none,0,rfl,Xcl _ _,bl (by repeat' first|with_reducible(first|assumption|constructor)|((try simp)<;>omega)),fun _ h=>by cases h⟩
theorem Xnb (A:Option Addr) (n c:Nat) (ls:List Line) (k d p:Int) (w:World) (hl:Lines w w.heap.size A n c ls) (h0:ckC ls=0) (hk:¬(0≤k∧k≤3)) (hw:(Lit.int .i64 k).wf=true) :
  Calls Tryz.prog 48 #[.slice A n c,.agg #[.int .i64 k,.int .i64 d,.int .i64 p]] w (Xht w ls k d p):=by
 have HL:=Zh hl
 have HW:=Zh hw
 have HK:=Zh hk
 have t0:(ckC ls != 0)=false:=by rw[bne_eq_false_iff_eq];exact h0
 unfold Xht
 rw[Xn9 (Xoa h0 hk) (by decide),Xoa h0 hk]
 clear hl h0 hk hw
 go_enter Tryz.func48,Tryz.ntmps48
 go_wp2_with fail
 refine(Xba _ _ _ ls _ (Xah HL.out (bl (by repeat' first|with_reducible(first|assumption|constructor)|((try simp)<;>omega))))).mono ?_
 rintro e w1 ⟨rfl,hb1⟩
 have hz1:=hb1.size
 (try simp only[Zs]at hz1)
 obtain⟨k1_0,l1_0,q1_0⟩:=aft hb1 (w.heap.size) (by(try simp)<;>omega)
 simp(maxDischargeDepth:=6) [go_sem, *]at k1_0 q1_0
 have HB1:=Zh hb1
 clear hb1
 have hmm:=@run_makeMap Tryz.prog
 have hown0:=World.ownsMap_made w1 Tryz.prog 3 Xdw
 have hb0:Below w1.heap.size w1 (w1.alloc (.map #[] 0)):=Xag w1 _
 have c10:w1.cell? ⟨w.heap.size,0,none⟩=some (.int .i64 k):=by simp[k1_0]
 have c11:w1.cell? ⟨w.heap.size,1,none⟩=some (.int .i64 d):=by simp[k1_0]
 have c12:w1.cell? ⟨w.heap.size,2,none⟩=some (.int .i64 p):=by simp[k1_0]
 go_upto_region 5 with(first|(at_lookup;refine Xcw _ rfl _ _ 133 rfl 3 131 Tryz.keyInt Tryz.underlying133 (Tryz.zeroHit _) w1.heap.size _ _ rfl (by assumption) _ _ rfl (keyOf_int_mk Tryz.underlying3 HW.out) (.nilFunc) false (Xv3 HK.out _) ?_)|(refine Xc3 _ rfl _ _ _ 133 rfl 3 131 Tryz.keyInt Tryz.underlying133 Xdw w1.heap.size _ _ rfl (by assumption) (by decide) _ _ _ rfl rfl (keyOf_int_mk Tryz.underlying3 (by decide)) _ [] rfl ?_;intro w' ho' hg';have hb':=Xeg (by assumption) hg';have c0:=((Xa9 hb').1 (w.heap.size) 0 l1_0).trans c10;have c1:=((Xa9 hb').1 (w.heap.size) 1 l1_0).trans c11;have c2:=((Xa9 hb').1 (w.heap.size) 2 l1_0).trans c12))
 go_wp2
 go_ret2
 exact⟨none,0,rfl,Xcl _ _,Xbw HB1.out (by assumption),fun _ h=>by cases h⟩
theorem Xng (A:Option Addr) (n c:Nat) (ls:List Line) (d p:Int) (w:World) (hl:Lines w w.heap.size A n c ls) (h0:ckC ls=0) :
  Calls Tryz.prog 48 #[.slice A n c,.agg #[.int .i64 0,.int .i64 d,.int .i64 p]] w (Xht w ls 0 d p):=by
 have HL:=Zh hl
 have t0:(ckC ls != 0)=false:=by rw[bne_eq_false_iff_eq];exact h0
 have hE:Xes ls 0=0:=Xgc h0 (by decide)
 have hn6:n≤1000:=by
  have:=((Xcm ls).1 h0).1
  have:=hl.len
  omega
 have eg:∀ args w,(callFunc 73 args).run Tryz.prog w=.ok (.enter 73 args) w:=enters_of Tryz.func73 (by kernel_rfl) rfl
 unfold Xht
 rw[Xic hE,hE]
 clear hl h0 hE
 go_enter Tryz.func48,Tryz.ntmps48
 go_wp2_with fail
 refine(Xba _ _ _ ls _ (Xah HL.out (bl (by repeat' first|with_reducible(first|assumption|constructor)|((try simp)<;>omega))))).mono ?_
 rintro e w1 ⟨rfl,hb1⟩
 have hz1:=hb1.size
 (try simp only[Zs]at hz1)
 obtain⟨k1_0,l1_0,q1_0⟩:=aft hb1 (w.heap.size) (by(try simp)<;>omega)
 simp(maxDischargeDepth:=6) [go_sem, *]at k1_0 q1_0
 have HB1:=Zh hb1
 clear hb1
 have hmm:=@run_makeMap Tryz.prog
 have hown0:=World.ownsMap_made w1 Tryz.prog 3 Xdw
 have hb0:Below w1.heap.size w1 (w1.alloc (.map #[] 0)):=Xag w1 _
 have c10:w1.cell? ⟨w.heap.size,0,none⟩=some (.int .i64 0):=by simp[k1_0]
 have c11:w1.cell? ⟨w.heap.size,1,none⟩=some (.int .i64 d):=by simp[k1_0]
 have c12:w1.cell? ⟨w.heap.size,2,none⟩=some (.int .i64 p):=by simp[k1_0]
 go_upto_region 5 with(first|(at_lookup;refine Xcw _ rfl _ _ 133 rfl 3 131 Tryz.keyInt Tryz.underlying133 (Tryz.zeroHit _) w1.heap.size _ _ rfl (by assumption) _ _ rfl (keyOf_int_mk Tryz.underlying3 (by decide)) (.func (.func 73) #[] #[]) true (Xys _ _ _ _ _) ?_)|(refine Xc3 _ rfl _ _ _ 133 rfl 3 131 Tryz.keyInt Tryz.underlying133 Xdw w1.heap.size _ _ rfl (by assumption) (by decide) _ _ _ rfl rfl (keyOf_int_mk Tryz.underlying3 (by decide)) _ [] rfl ?_;intro w' ho' hg';have hb':=Xeg (by assumption) hg';have c0:=((Xa9 hb').1 (w.heap.size) 0 l1_0).trans c10;have c1:=((Xa9 hb').1 (w.heap.size) 1 l1_0).trans c11;have c2:=((Xa9 hb').1 (w.heap.size) 2 l1_0).trans c12))
 go_wp2_with fail
 refine(Xcx _ _ _ ls _ (Xah HL.out (Xbw HB1.out (by assumption))) hn6).mono ?_
 rintro e w6 ⟨A6,c6,rfl,ho6,hb6⟩
 have HO6:=Zh ho6
 have HBD:=Zh (Xbw HB1.out (by assumption) |>.trans (hb6.mono (Below.size (Xbw HB1.out (by assumption)))))
 have k6:=fun o ho=>(Xa9 hb6).1 (w.heap.size) o ho
 have HB6:=Zh hb6.size
 clear hb6 ho6
 go_wp2_with fail
 refine(Xen A6 n c6 _ ls (goes 0 d p) _ _ w6 HO6.out HB6.out eg (pred_1 0 d p _ _ rfl)).mono ?_
 rintro e w7 ⟨A7,c7,rfl,hl7,hb7,hs7,hn7⟩
 go_wp2
 go_ret2
 exact⟨A7,c7,rfl,hl7,HBD.out.trans (hb7.mono (Nat.le_trans (by simp) (Below.size (Xbw HB1.out (by assumption))))),fun ad h=>Nat.le_trans (Below.size (Xbw HB1.out (by assumption))) (hn7 ad h)⟩
theorem Xnf (A:Option Addr) (n c:Nat) (ls:List Line) (d p:Int) (w:World) (hl:Lines w w.heap.size A n c ls) (h0:ckC ls=0) :
  Calls Tryz.prog 48 #[.slice A n c,.agg #[.int .i64 1,.int .i64 d,.int .i64 p]] w (Xht w ls 1 d p):=by
 have HL:=Zh hl
 have t0:(ckC ls != 0)=false:=by rw[bne_eq_false_iff_eq];exact h0
 have hE:Xes ls 1=0:=Xgc h0 (by decide)
 have hn6:n≤1000:=by
  have:=((Xcm ls).1 h0).1
  have:=hl.len
  omega
 have eg:∀ args w,(callFunc 74 args).run Tryz.prog w=.ok (.enter 74 args) w:=enters_of Tryz.func74 (by kernel_rfl) rfl
 unfold Xht
 rw[Xic hE,hE]
 clear hl h0 hE
 go_enter Tryz.func48,Tryz.ntmps48
 go_wp2_with fail
 refine(Xba _ _ _ ls _ (Xah HL.out (bl (by repeat' first|with_reducible(first|assumption|constructor)|((try simp)<;>omega))))).mono ?_
 rintro e w1 ⟨rfl,hb1⟩
 have hz1:=hb1.size
 (try simp only[Zs]at hz1)
 obtain⟨k1_0,l1_0,q1_0⟩:=aft hb1 (w.heap.size) (by(try simp)<;>omega)
 simp(maxDischargeDepth:=6) [go_sem, *]at k1_0 q1_0
 have HB1:=Zh hb1
 clear hb1
 have hmm:=@run_makeMap Tryz.prog
 have hown0:=World.ownsMap_made w1 Tryz.prog 3 Xdw
 have hb0:Below w1.heap.size w1 (w1.alloc (.map #[] 0)):=Xag w1 _
 have c10:w1.cell? ⟨w.heap.size,0,none⟩=some (.int .i64 1):=by simp[k1_0]
 have c11:w1.cell? ⟨w.heap.size,1,none⟩=some (.int .i64 d):=by simp[k1_0]
 have c12:w1.cell? ⟨w.heap.size,2,none⟩=some (.int .i64 p):=by simp[k1_0]
 go_upto_region 5 with(first|(at_lookup;refine Xcw _ rfl _ _ 133 rfl 3 131 Tryz.keyInt Tryz.underlying133 (Tryz.zeroHit _) w1.heap.size _ _ rfl (by assumption) _ _ rfl (keyOf_int_mk Tryz.underlying3 (by decide)) (.func (.func 74) #[] #[]) true (Xyr _ _ _ _ _) ?_)|(refine Xc3 _ rfl _ _ _ 133 rfl 3 131 Tryz.keyInt Tryz.underlying133 Xdw w1.heap.size _ _ rfl (by assumption) (by decide) _ _ _ rfl rfl (keyOf_int_mk Tryz.underlying3 (by decide)) _ [] rfl ?_;intro w' ho' hg';have hb':=Xeg (by assumption) hg';have c0:=((Xa9 hb').1 (w.heap.size) 0 l1_0).trans c10;have c1:=((Xa9 hb').1 (w.heap.size) 1 l1_0).trans c11;have c2:=((Xa9 hb').1 (w.heap.size) 2 l1_0).trans c12))
 go_wp2_with fail
 refine(Xcx _ _ _ ls _ (Xah HL.out (Xbw HB1.out (by assumption))) hn6).mono ?_
 rintro e w6 ⟨A6,c6,rfl,ho6,hb6⟩
 have HO6:=Zh ho6
 have HBD:=Zh (Xbw HB1.out (by assumption) |>.trans (hb6.mono (Below.size (Xbw HB1.out (by assumption)))))
 have k6:=fun o ho=>(Xa9 hb6).1 (w.heap.size) o ho
 have HB6:=Zh hb6.size
 clear hb6 ho6
 go_wp2_with fail
 refine(Xen A6 n c6 _ ls (goes 1 d p) _ _ w6 HO6.out HB6.out eg (pred_2 1 d p _ _ rfl)).mono ?_
 rintro e w7 ⟨A7,c7,rfl,hl7,hb7,hs7,hn7⟩
 go_wp2
 go_ret2
 exact⟨A7,c7,rfl,hl7,HBD.out.trans (hb7.mono (Nat.le_trans (by simp) (Below.size (Xbw HB1.out (by assumption))))),fun ad h=>Nat.le_trans (Below.size (Xbw HB1.out (by assumption))) (hn7 ad h)⟩
theorem Xne (A:Option Addr) (n c:Nat) (ls:List Line) (d p:Int) (w:World) (hl:Lines w w.heap.size A n c ls) (h0:ckC ls=0) :
  Calls Tryz.prog 48 #[.slice A n c,.agg #[.int .i64 2,.int .i64 d,.int .i64 p]] w (Xht w ls 2 d p):=by
 have HL:=Zh hl
 have t0:(ckC ls != 0)=false:=by rw[bne_eq_false_iff_eq];exact h0
 have hE:Xes ls 2=0:=Xgc h0 (by decide)
 have hn6:n≤1000:=by
  have:=((Xcm ls).1 h0).1
  have:=hl.len
  omega
 have eg:∀ args w,(callFunc 75 args).run Tryz.prog w=.ok (.enter 75 args) w:=enters_of Tryz.func75 (by kernel_rfl) rfl
 unfold Xht
 rw[Xic hE,hE]
 clear hl h0 hE
 go_enter Tryz.func48,Tryz.ntmps48
 go_wp2_with fail
 refine(Xba _ _ _ ls _ (Xah HL.out (bl (by repeat' first|with_reducible(first|assumption|constructor)|((try simp)<;>omega))))).mono ?_
 rintro e w1 ⟨rfl,hb1⟩
 have hz1:=hb1.size
 (try simp only[Zs]at hz1)
 obtain⟨k1_0,l1_0,q1_0⟩:=aft hb1 (w.heap.size) (by(try simp)<;>omega)
 simp(maxDischargeDepth:=6) [go_sem, *]at k1_0 q1_0
 have HB1:=Zh hb1
 clear hb1
 have hmm:=@run_makeMap Tryz.prog
 have hown0:=World.ownsMap_made w1 Tryz.prog 3 Xdw
 have hb0:Below w1.heap.size w1 (w1.alloc (.map #[] 0)):=Xag w1 _
 have c10:w1.cell? ⟨w.heap.size,0,none⟩=some (.int .i64 2):=by simp[k1_0]
 have c11:w1.cell? ⟨w.heap.size,1,none⟩=some (.int .i64 d):=by simp[k1_0]
 have c12:w1.cell? ⟨w.heap.size,2,none⟩=some (.int .i64 p):=by simp[k1_0]
 go_upto_region 5 with(first|(at_lookup;refine Xcw _ rfl _ _ 133 rfl 3 131 Tryz.keyInt Tryz.underlying133 (Tryz.zeroHit _) w1.heap.size _ _ rfl (by assumption) _ _ rfl (keyOf_int_mk Tryz.underlying3 (by decide)) (.func (.func 75) #[] #[.pointer (some ⟨w.heap.size,0,none⟩)]) true (Xyq _ _ _ _ _) ?_)|(refine Xc3 _ rfl _ _ _ 133 rfl 3 131 Tryz.keyInt Tryz.underlying133 Xdw w1.heap.size _ _ rfl (by assumption) (by decide) _ _ _ rfl rfl (keyOf_int_mk Tryz.underlying3 (by decide)) _ [] rfl ?_;intro w' ho' hg';have hb':=Xeg (by assumption) hg';have c0:=((Xa9 hb').1 (w.heap.size) 0 l1_0).trans c10;have c1:=((Xa9 hb').1 (w.heap.size) 1 l1_0).trans c11;have c2:=((Xa9 hb').1 (w.heap.size) 2 l1_0).trans c12))
 go_wp2_with fail
 refine(Xcx _ _ _ ls _ (Xah HL.out (Xbw HB1.out (by assumption))) hn6).mono ?_
 rintro e w6 ⟨A6,c6,rfl,ho6,hb6⟩
 have HO6:=Zh ho6
 have HBD:=Zh (Xbw HB1.out (by assumption) |>.trans (hb6.mono (Below.size (Xbw HB1.out (by assumption)))))
 have k6:=fun o ho=>(Xa9 hb6).1 (w.heap.size) o ho
 have HB6:=Zh hb6.size
 clear hb6 ho6
 go_wp2_with fail
 refine(Xen A6 n c6 _ ls (goes 2 d p) _ _ w6 HO6.out HB6.out eg (pred_3 2 d p _ _ _ (Nat.lt_of_lt_of_le l1_0 (Below.size (by assumption:Below w1.heap.size w1 _))) ((k6 1 (Nat.lt_of_lt_of_le l1_0 (Below.size (by assumption:Below w1.heap.size w1 _)))).trans (by assumption)) rfl)).mono ?_
 rintro e w7 ⟨A7,c7,rfl,hl7,hb7,hs7,hn7⟩
 go_wp2
 go_ret2
 exact⟨A7,c7,rfl,hl7,HBD.out.trans (hb7.mono (Nat.le_trans (by simp) (Below.size (Xbw HB1.out (by assumption))))),fun ad h=>Nat.le_trans (Below.size (Xbw HB1.out (by assumption))) (hn7 ad h)⟩
theorem Xnd (A:Option Addr) (n c:Nat) (ls:List Line) (d p:Int) (w:World) (hl:Lines w w.heap.size A n c ls) (h0:ckC ls=0) :
  Calls Tryz.prog 48 #[.slice A n c,.agg #[.int .i64 3,.int .i64 d,.int .i64 p]] w (Xht w ls 3 d p):=by
 have HL:=Zh hl
 have t0:(ckC ls != 0)=false:=by rw[bne_eq_false_iff_eq];exact h0
 have hE:Xes ls 3=0:=Xgc h0 (by decide)
 have hn6:n≤1000:=by
  have:=((Xcm ls).1 h0).1
  have:=hl.len
  omega
 have eg:∀ args w,(callFunc 76 args).run Tryz.prog w=.ok (.enter 76 args) w:=enters_of Tryz.func76 (by kernel_rfl) rfl
 unfold Xht
 rw[Xic hE,hE]
 clear hl h0 hE
 go_enter Tryz.func48,Tryz.ntmps48
 go_wp2_with fail
 refine(Xba _ _ _ ls _ (Xah HL.out (bl (by repeat' first|with_reducible(first|assumption|constructor)|((try simp)<;>omega))))).mono ?_
 rintro e w1 ⟨rfl,hb1⟩
 have hz1:=hb1.size
 (try simp only[Zs]at hz1)
 obtain⟨k1_0,l1_0,q1_0⟩:=aft hb1 (w.heap.size) (by(try simp)<;>omega)
 simp(maxDischargeDepth:=6) [go_sem, *]at k1_0 q1_0
 have HB1:=Zh hb1
 clear hb1
 have hmm:=@run_makeMap Tryz.prog
 have hown0:=World.ownsMap_made w1 Tryz.prog 3 Xdw
 have hb0:Below w1.heap.size w1 (w1.alloc (.map #[] 0)):=Xag w1 _
 have c10:w1.cell? ⟨w.heap.size,0,none⟩=some (.int .i64 3):=by simp[k1_0]
 have c11:w1.cell? ⟨w.heap.size,1,none⟩=some (.int .i64 d):=by simp[k1_0]
 have c12:w1.cell? ⟨w.heap.size,2,none⟩=some (.int .i64 p):=by simp[k1_0]
 go_upto_region 5 with(first|(at_lookup;refine Xcw _ rfl _ _ 133 rfl 3 131 Tryz.keyInt Tryz.underlying133 (Tryz.zeroHit _) w1.heap.size _ _ rfl (by assumption) _ _ rfl (keyOf_int_mk Tryz.underlying3 (by decide)) (.func (.func 76) #[] #[.pointer (some ⟨w.heap.size,0,none⟩)]) true (Xyp _ _ _ _ _) ?_)|(refine Xc3 _ rfl _ _ _ 133 rfl 3 131 Tryz.keyInt Tryz.underlying133 Xdw w1.heap.size _ _ rfl (by assumption) (by decide) _ _ _ rfl rfl (keyOf_int_mk Tryz.underlying3 (by decide)) _ [] rfl ?_;intro w' ho' hg';have hb':=Xeg (by assumption) hg';have c0:=((Xa9 hb').1 (w.heap.size) 0 l1_0).trans c10;have c1:=((Xa9 hb').1 (w.heap.size) 1 l1_0).trans c11;have c2:=((Xa9 hb').1 (w.heap.size) 2 l1_0).trans c12))
 go_wp2_with fail
 refine(Xcx _ _ _ ls _ (Xah HL.out (Xbw HB1.out (by assumption))) hn6).mono ?_
 rintro e w6 ⟨A6,c6,rfl,ho6,hb6⟩
 have HO6:=Zh ho6
 have HBD:=Zh (Xbw HB1.out (by assumption) |>.trans (hb6.mono (Below.size (Xbw HB1.out (by assumption)))))
 have k6:=fun o ho=>(Xa9 hb6).1 (w.heap.size) o ho
 have HB6:=Zh hb6.size
 clear hb6 ho6
 go_wp2_with fail
 refine(Xen A6 n c6 _ ls (goes 3 d p) _ _ w6 HO6.out HB6.out eg (pred_4 3 d p _ _ _ (Nat.lt_of_lt_of_le l1_0 (Below.size (by assumption:Below w1.heap.size w1 _))) ((k6 1 (Nat.lt_of_lt_of_le l1_0 (Below.size (by assumption:Below w1.heap.size w1 _)))).trans (by assumption)) ((k6 2 (Nat.lt_of_lt_of_le l1_0 (Below.size (by assumption:Below w1.heap.size w1 _)))).trans (by assumption)) rfl)).mono ?_
 rintro e w7 ⟨A7,c7,rfl,hl7,hb7,hs7,hn7⟩
 go_wp2
 go_ret2
 exact⟨A7,c7,rfl,hl7,HBD.out.trans (hb7.mono (Nat.le_trans (by simp) (Below.size (Xbw HB1.out (by assumption))))),fun ad h=>Nat.le_trans (Below.size (Xbw HB1.out (by assumption))) (hn7 ad h)⟩
theorem Xq0 (A:Option Addr) (n c:Nat) (ls:List Line) (k d p:Int) (w:World) (hl:Lines w w.heap.size A n c ls) (hw:(Lit.int .i64 k).wf=true) :
  Calls Tryz.prog 48 #[.slice A n c,.agg #[.int .i64 k,.int .i64 d,.int .i64 p]] w (Xht w ls k d p):=by
 by_cases h0:ckC ls=0
 ·by_cases hk:0≤k∧k≤3
  ·rcases(show k=0∨k=1∨k=2∨k=3 by omega)with rfl|rfl|rfl|rfl
   ·exact Xng A n c ls d p w hl h0
   ·exact Xnf A n c ls d p w hl h0
   ·exact Xne A n c ls d p w hl h0
   ·exact Xnd A n c ls d p w hl h0
  ·exact Xnb A n c ls k d p w hl h0 hk hw
 ·exact Xnc A n c ls k d p w hl h0
theorem Xph (A:Option Addr) (n c:Nat) (ls ms:List Line) (k d p E:Int) (w:World) (hl:Lines w w.heap.size A n c ls) (hw:(Lit.int .i64 k).wf=true) (hE:Xes ls k=E) (hm:Xfn ls k d p=ms) :
  Calls Tryz.prog 48 #[.slice A n c,.agg #[.int .i64 k,.int .i64 d,.int .i64 p]] w fun e w'=>∃ A' c',e=.returned (.tuple #[.slice A' ms.length c',.int .i64 E])∧Lines w' w'.heap.size A' ms.length c' ms∧Below w.heap.size w w'∧∀ ad,A'=some ad→w.heap.size≤ad.block:=by
 have:=Xq0 A n c ls k d p w hl hw
 unfold Xht at this
 rw[hE,hm]at this
 exact this
end
end Go.Proofs.YtbopdijnojaaiadGreat
