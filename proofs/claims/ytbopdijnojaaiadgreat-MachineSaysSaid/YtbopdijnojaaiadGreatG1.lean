/- Orders obeyed: the document's Obeyed, whatever comes. No statement of the seat is proved here. -/
import Derived.Test.YtbopdijnojaaiadGreatRows
import Derived.Test.YtbopdijnojaaiadGreatBase
import Derived.ProofKit
import Derived.Deep.Slices
import Derived.OpenShut
import Derived.Test.YtbopdijnojaaiadGreatHartP
import Derived.Test.YtbopdijnojaaiadGreatDmaP
import Derived.Deep.MidRow
import Derived.Test.YtbopdijnojaaiadGreatBridgeS
import Derived.Test.YtbopdijnojaaiadGreatWord
import Derived.Test.YtbopdijnojaaiadGreatWordS
import Derived.Test.YtbopdijnojaaiadGreatRefD
import Derived.IntWalk
namespace Go.Proofs.YtbopdijnojaaiadGreat
section
set_option maxRecDepth 100000
open Go.RowKit
set_option linter.unusedSimpArgs false
set_option linter.unusedVariables false
section
open Go.ChangeShapes Go.WideShapes Go.ChangeAt Go.RowKit
theorem Tryz.own:ownKnob Tryz.prog.godebug=none:=by kernel_rfl
theorem Tryz.laidOut:laidOutB Tryz.prog=true:=by kernel_rfl
section
variable {H:Type} {enc:TypeId×Value→H} {P:Program}
theorem Xhd (hl:laidOutB P=true) {W W':World} (hb:Below W.heap.size W W') :
  ∀{ts:List TypeId} {vs:List Value} {ds:List (DataW H)} {ps:List MemPlace},(∀ t∈ts,P.readableRec t=true∧t<P.types.size)→(∀ x∈ps,x.block<W.heap.size) →
   DataW.TrodAll enc P W 0 (fun _=>true) true ts vs ds ps→DataW.TrodAll enc P W' 0 (fun b=>decide (b<W.heap.size)) true ts vs ds ps
 |[],[],[],_,_,_,h=>h
 |[],[],_ :: _,_,_,_,h=>h.elim
 |[],_ :: _,_,_,_,_,h=>h.elim
 |_ :: _,[],_,_,_,_,h=>h.elim
 |_ :: _,_ :: _,[],_,_,_,h=>h.elim
 |t :: ts,v :: vs,d :: ds,ps,hr,hp,h=>by
  obtain⟨p,q,h1,h2,rfl⟩:=h
  have ht:=hr t (by simp)
  exact⟨p,q,Below.trod hl ht.1 ht.2 h1 hb (fun x hx=>hp x (by simp[hx])),Xhd hl hb (fun t' ht'=>hr t' (by simp[ht'])) (fun x hx=>hp x (by simp[hx])) h2,rfl⟩
theorem Xvk {f:Func} {s:ChangeSpec} {W W':World} {args:Array Value} {ds gs:List (DataW H)} {before:List MemPlace} {tb:TypeId}
  (hl:laidOutB P=true) (hread:f.params.toList.all (fun t=>P.readableRec t&&decide (t<P.types.size))=true)
  (hr:f.resultTypes=#[tb]) (h4:P.underlying tb=some .bool) (hsv:s.vars=[])
  (hW:DataW.Whole enc P f.params.toList s.vars false W args.toList ds gs before)
  (hres:(s.fn H (ds ++ gs)).results=[.lit (.bool true)]) (hargs:(s.fn H (ds ++ gs)).args=ds) (hv:(s.fn H (ds ++ gs)).vars=[])
  (hb:Below W.heap.size W W'):s.post enc P f false true false false W args (.bool true) W':=by
 have hlt:∀ p∈before,p.block<W.heap.size:=fun p hp=>by simpa using hW.lt p hp
 have hW':=hW
 obtain⟨p,q,hA,hV,rfl,hfz,_⟩:=hW
 refine⟨ds,gs,p ++ q,[],p,[],hW', ?_, ?_, ?_,hb.frame _,fun h=>by cases h⟩
 ·rw[hres,hr]
  exact trodAll_mk1 (shut_bool h4 true)
 ·rw[hargs]
  refine Xhd hl hb (fun t ht=>?_) (fun x hx=>hlt x (by simp[hx])) hA
  have:=List.all_eq_true.1 hread t ht
  simpa using this
 ·rw[hv,hsv]
  rfl
end
end
section
section
open Go.ChangeShapes Go.WideShapes Go.ChangeAt
section
variable {H:Type} {enc:TypeId×Value→H} {P:Program} {w:World} {base:Nat} {spare:Nat→Bool} {held:Bool}
theorem Xdz {t:TypeId} {fs:Array Field} {fuel:Nat} {cs:List Value} {x:DataW H×List MemPlace} (ht:P.underlying t=some (.struct fs)) (h:DataW.trod enc P w base spare held fuel t cs=some x) :
  cs.length=P.cellsOf t∧∃ n,∀(i:Nat) (f:Field),fs[i]?=some f→∃ y,DataW.trod enc P w base spare held n f.type ((cs.drop f.offset).take (P.cellsOf f.type))=some y:=by
 obtain⟨xs,n,_,_,hl,hx,hf⟩:=DataW.trod_struct ht h
 refine⟨hl,n,fun i f hi=>?_⟩
 have hlt:i<fs.size:=(Array.getElem?_eq_some_iff.1 hi).1
 exact⟨xs[i]'(by omega),by rw[hf i f hi];exact List.getElem?_eq_getElem (by omega)⟩
theorem Xcr {t:TypeId} {k:IntKind} {fuel:Nat} {c:Value} {x:DataW H×List MemPlace} (ht:P.underlying t=some (.int k)) (h:DataW.trod enc P w base spare held fuel t [c]=some x):∃ a,c=.int k a:=by
 obtain⟨a,e,_⟩:=DataW.trod_int ht h
 exact⟨a,by simpa using e⟩
theorem Xeu {t:TypeId} {fuel:Nat} {c:Value} {x:DataW H×List MemPlace} (ht:P.underlying t=some .bool) (h:DataW.trod enc P w base spare held fuel t [c]=some x):∃ b,c=.bool b:=by
 obtain⟨b,e,_⟩:=DataW.trod_bool ht h
 exact⟨b,by simpa using e⟩
end
theorem Tryz.c3:Tryz.prog.cellsOf 3=1:=by kernel_rfl
theorem Tryz.c4:Tryz.prog.cellsOf 4=1:=by kernel_rfl
section
variable {H:Type} {enc:TypeId×Value→H} {w:World} {base:Nat} {spare:Nat→Bool} {held:Bool} {fuel:Nat} {cs:List Value} {x:DataW H×List MemPlace}
end
section
variable {H:Type} {enc:TypeId×Value→H} {P:Program} {w:World} {base:Nat} {spare:Nat→Bool} {held:Bool}
theorem Xqh {r:Reach} {b0:Nat} {t:TypeId} {fs:Array Field} {v:Value} {d:DataW H} {p:List MemPlace} (hs:P.underlying t=some (.struct fs))
  (hv:Value.okWide P w r b0 t v) (h:DataW.Trod enc P w base spare held t v d p):∃ cs n,v=.agg cs∧DataW.trod enc P w base spare held n t cs.toList=some (d,p):=by
 obtain⟨cs,rfl,_⟩:=okWide_struct hs hv
 obtain⟨n,hn⟩:=h
 exact⟨cs,n,rfl,hn⟩
end
end
section
open Go.ChangeShapes Go.WideShapes Go.ChangeAt
theorem Tryz.cMem:Tryz.prog.cellsOf 24=1:=by kernel_rfl
theorem Tryz.cInts:Tryz.prog.cellsOf 22=1:=by kernel_rfl
section
variable {H:Type} {enc:TypeId×Value→H} {w:World} {base:Nat} {spare:Nat→Bool} {held:Bool} {fuel:Nat} {cs:List Value} {x:DataW H×List MemPlace}
theorem Xoi {w:World} {a:Addr} {v:Value} (h:w.cell? a=some v):a.block<w.heap.size:=by
 rcases Nat.lt_or_ge a.block w.heap.size with hlt|hge
 ·exact hlt
 ·simp[World.cell?,Array.getElem?_eq_none hge]at h
theorem Xi3 (h:DataW.trod enc Tryz.prog w base (fun _=>true) held fuel 22 cs=some x):∃ A n c xs,cs=[.slice A n c]∧Ints w w.heap.size A n xs:=by
 rcases open_ints Tryz.underlying22 Tryz.underlying3 Tryz.c3 h with⟨hcs,_⟩|⟨a,len,cap,zs,hcs,_,hl,hm,hz,_,hc,_⟩
 ·exact⟨none,0,0,[],hcs,rfl,by unfold maxLen;omega,Row.nil_⟩
 ·rw[if_pos rfl]at hz
  refine⟨some a,len,cap,zs.take len,hcs,by simp;omega,by omega,fun h0=>?_⟩
  have h1:0<len:=by
   rcases Nat.eq_zero_or_pos len with h|h
   ·subst h;simp at h0
   ·exact h
  obtain⟨b,off,rfl,hcc⟩:=ints_at hc (by omega)
  refine⟨b,off,rfl,Xoi (hcc 0 (by omega)),fun k v hv=>?_⟩
  rw[List.getElem?_map,Option.map_eq_some_iff]at hv
  obtain⟨y,hy,rfl⟩:=hv
  have hk:k<len:=by
   have:=(List.getElem?_eq_some_iff.1 hy).1
   simp at this;omega
  rw[List.getElem?_take,if_pos hk]at hy
  rw[hcc k (by omega)]
  simp[List.getD,hy]
theorem Xuj (h:DataW.trod enc Tryz.prog w base (fun _=>true) held fuel 24 cs=some x):∃ A n c xs,cs=[.slice A n c]∧Ints w w.heap.size A n xs:=by
 obtain⟨hl,n,hf⟩:=Xdz Tryz.underlying24 h
 rw[Tryz.cMem]at hl
 match cs,hl with
 |[c0],_=>
  obtain⟨y,hy⟩:=hf 0 _ rfl
  exact Xi3 (by simpa[Tryz.cInts]using hy)
end
end
section
open Go.ChangeShapes Go.WideShapes Go.ChangeAt
section
variable {H:Type} {enc:TypeId×Value→H} {w:World} {base:Nat} {spare:Nat→Bool} {held:Bool} {fuel:Nat} {cs:List Value} {x:DataW H×List MemPlace}
theorem Tryz.cells_ring:Tryz.prog.cellsOf 29=3:=by kernel_rfl
theorem Xlo (h:DataW.trod enc Tryz.prog w base spare held fuel 29 cs=some x):∃(p:Int) (g:Int) (t:Int),cs=[.int .i64 p,.int .i64 g,.int .i64 t]:=by
 obtain⟨hl,n,hf⟩:=Xdz Tryz.underlying29 h
 rw[Tryz.cells_ring]at hl
 match cs,hl with
 |[c0,c1,c2],_=>
  obtain⟨y0,h0⟩:=hf 0 _ rfl
  obtain⟨p,rfl⟩:=Xcr Tryz.underlying3 (by simpa[Tryz.c3]using h0)
  obtain⟨y1,h1⟩:=hf 1 _ rfl
  obtain⟨g,rfl⟩:=Xcr Tryz.underlying3 (by simpa[Tryz.c3]using h1)
  obtain⟨y2,h2⟩:=hf 2 _ rfl
  obtain⟨t,rfl⟩:=Xcr Tryz.underlying3 (by simpa[Tryz.c3]using h2)
  exact⟨p,g,t,rfl⟩
end
end
section
open Go.ChangeShapes Go.WideShapes Go.ChangeAt
theorem Tryz.cLine:Tryz.prog.cellsOf 58=5:=by kernel_rfl
theorem Tryz.cLines:Tryz.prog.cellsOf 27=1:=by kernel_rfl
theorem Tryz.cRing:Tryz.prog.cellsOf 29=3:=by kernel_rfl
theorem Tryz.cBrg:Tryz.prog.cellsOf 31=12:=by kernel_rfl
theorem Xg5 {α:Type} {P:Nat→α→Prop}:∀(n:Nat),(∀ i,i<n→∃ x,P i x)→∃ l:List α,l.length=n∧∀ i x,l[i]?=some x→P i x
 |0,_=>⟨[],rfl,fun i x h=>by simp at h⟩
 |n+1,h=>by
  obtain⟨l,hl,hp⟩:=Xg5 n (fun i hi=>h i (by omega))
  obtain⟨x,hx⟩:=h n (by omega)
  refine⟨l ++ [x],by simp[hl],fun i y hy=>?_⟩
  rcases Nat.lt_or_ge i n with hi|hi
  ·rw[List.getElem?_append_left (by omega)]at hy;exact hp i y hy
  ·rw[List.getElem?_append_right (by omega)]at hy
   have:i - l.length=0:=by
    have:=(List.getElem?_eq_some_iff.1 hy).1
    simp at this;omega
   rw[this]at hy
   simp at hy
   have e:i=n:=by omega
   rw[e,←hy];exact hx
section
variable {H:Type} {enc:TypeId×Value→H} {w:World} {base:Nat} {spare:Nat→Bool} {held:Bool} {fuel:Nat} {cs:List Value} {x:DataW H×List MemPlace}
theorem Tryz.cells_line:Tryz.prog.cellsOf 58=5:=by kernel_rfl
theorem Xrd (h:DataW.trod enc Tryz.prog w base spare held fuel 58 cs=some x):∃(d:Int) (p:Int) (a:Int) (r:Bool) (u:Bool),cs=[.int .i64 d,.int .i64 p,.int .i64 a,.bool r,.bool u]:=by
 obtain⟨hl,n,hf⟩:=Xdz Tryz.underlying58 h
 rw[Tryz.cells_line]at hl
 match cs,hl with
 |[c0,c1,c2,c3,c4],_=>
  obtain⟨y0,h0⟩:=hf 0 _ rfl
  obtain⟨d,rfl⟩:=Xcr Tryz.underlying3 (by simpa[Tryz.c3]using h0)
  obtain⟨y1,h1⟩:=hf 1 _ rfl
  obtain⟨p,rfl⟩:=Xcr Tryz.underlying3 (by simpa[Tryz.c3]using h1)
  obtain⟨y2,h2⟩:=hf 2 _ rfl
  obtain⟨a,rfl⟩:=Xcr Tryz.underlying3 (by simpa[Tryz.c3]using h2)
  obtain⟨y3,h3⟩:=hf 3 _ rfl
  obtain⟨r,rfl⟩:=Xeu Tryz.underlying4 (by simpa[Tryz.c4]using h3)
  obtain⟨y4,h4⟩:=hf 4 _ rfl
  obtain⟨u,rfl⟩:=Xeu Tryz.underlying4 (by simpa[Tryz.c4]using h4)
  exact⟨d,p,a,r,u,rfl⟩
theorem Xpx (h:DataW.trod enc Tryz.prog w base (fun _=>true) held fuel 27 cs=some x):∃ A n c ls,cs=[.slice A n c]∧Lines w w.heap.size A n c ls:=by
 rcases DataW.trod_slice Tryz.underlying27 h with⟨hcs,_⟩|⟨a,len,cap,elems,rest,n,_,hcs,_,hb,hl,hm,he,hel,_⟩
 ·exact⟨none,0,0,[],hcs,Xcl _ _⟩
 ·obtain⟨ls,hlen,hls⟩:=Xg5 (α:=Line) (P:=fun i x=>∀ j,j<5→w.cell? ((a.add (i * 5)).add j)=x.vals[j]?) len (fun i hi=>by
   have h1:=hel i hi
   rw[Tryz.cLine,List.getElem?_eq_getElem (by omega),Option.bind_eq_some_iff]at h1
   obtain⟨cs',h2,h3⟩:=h1
   obtain⟨d,p,q,r,u,e⟩:=Xrd h3
   obtain⟨_,_,hc⟩:=World.cells?_some h2
   subst e
   exact⟨⟨d,p,q,r,u⟩,hc⟩)
  refine⟨some a,len,cap,ls,hcs,hlen,hl,hm,(fun e=>by cases e),fun h0=>?_⟩
  rw[Xbt]at h0
  obtain⟨y,hy⟩:=Xa2 ls (k:=0) (by omega)
  have hc0:=hls 0 y hy 0 (by decide)
  obtain⟨b,off,spot⟩:=a
  have hspot:spot=none:=by
   have:=hc0
   simp only[Line.vals,List.getElem?_cons_zero]at this
   simpa[Addr.add]using World.cell?_spot this
  subst hspot
  have hcell:∀ m v,(Xav ls)[m]?=some v→w.cell? ⟨b,off+m,none⟩=some v:=by
   intro m v hv
   rw[Xh7,Option.bind_eq_some_iff]at hv
   obtain⟨z,hz,hv⟩:=hv
   have:=hls (m / 5) z hz (m % 5) (by omega)
   rw[hv]at this
   rw[Go.WideShapes.add_plain,Go.WideShapes.add_plain,show off+m / 5 * 5+m % 5=off+m by omega]at this
   exact this
  refine⟨b,off,rfl, ?_,hcell⟩
  obtain⟨v,hv⟩:=Xa2 (Xav ls) (k:=0) (by rw[Xbt];omega)
  exact Xoi (hcell 0 v hv)
theorem Xns (h:DataW.trod enc Tryz.prog w base (fun _=>true) held fuel 31 cs=some x):∃(b:Brg) (A:Option Addr) (n c:Nat),cs=((B_.b b A n c):Array Value).toList∧Lines w w.heap.size A n c b.cache:=by
 obtain⟨hl,n,hf⟩:=Xdz Tryz.underlying31 h
 rw[Tryz.cBrg]at hl
 match cs,hl with
 |[c0,c1,c2,c3,c4,c5,c6,c7,c8,c9,c10,c11],_=>
  obtain⟨y0,h0⟩:=hf 0 _ rfl
  obtain⟨y1,h1⟩:=hf 1 _ rfl
  obtain⟨y2,h2⟩:=hf 2 _ rfl
  obtain⟨y3,h3⟩:=hf 3 _ rfl
  obtain⟨y4,h4⟩:=hf 4 _ rfl
  obtain⟨y5,h5⟩:=hf 5 _ rfl
  obtain⟨y6,h6⟩:=hf 6 _ rfl
  obtain⟨y7,h7⟩:=hf 7 _ rfl
  obtain⟨mode,rfl⟩:=Xcr Tryz.underlying3 (by simpa[Tryz.c3]using h0)
  obtain⟨bs,rfl⟩:=Xcr Tryz.underlying3 (by simpa[Tryz.c3]using h1)
  obtain⟨A,m,c,ls,e2,hL⟩:=Xpx (by simpa[Tryz.cLines]using h2)
  obtain⟨p1,g1,t1,e3⟩:=Xlo (by simpa[Tryz.cRing]using h3)
  obtain⟨st,rfl⟩:=Xeu Tryz.underlying4 (by simpa[Tryz.c4]using h4)
  obtain⟨fe,rfl⟩:=Xcr Tryz.underlying3 (by simpa[Tryz.c3]using h5)
  obtain⟨p2,g2,t2,e6⟩:=Xlo (by simpa[Tryz.cRing]using h6)
  obtain⟨lo,rfl⟩:=Xeu Tryz.underlying4 (by simpa[Tryz.c4]using h7)
  obtain rfl:c2=.slice A m c:=by simpa using e2
  obtain⟨rfl,rfl,rfl⟩:c3=.int .i64 p1∧c4=.int .i64 g1∧c5=.int .i64 t1:=by simpa using e3
  obtain⟨rfl,rfl,rfl⟩:c8=.int .i64 p2∧c9=.int .i64 g2∧c10=.int .i64 t2:=by simpa using e6
  exact⟨⟨mode,bs,ls,⟨p1,g1,t1⟩,st,fe,⟨p2,g2,t2⟩,lo⟩,A,m,c,rfl,hL⟩
end
end
end
end
section
open Go.RowKit
set_option linter.unusedSimpArgs false
set_option linter.unusedVariables false
section
open Go.ChangeShapes Go.WideShapes Go.ChangeAt
theorem Tryz.cHart:Tryz.prog.cellsOf 26=3:=by kernel_rfl
section
variable {H:Type} {enc:TypeId×Value→H} {w:World} {base:Nat} {spare:Nat→Bool} {held:Bool} {fuel:Nat} {cs:List Value} {x:DataW H×List MemPlace}
set_option maxRecDepth 100000 in
theorem Xre (h:DataW.trod enc Tryz.prog w base (fun _=>true) held fuel 26 cs=some x):∃(g:Hrt) (A:Option Addr) (n c:Nat),cs=(#[.int .i64 g.at_,.slice A n c,.bool g.done]:Array Value).toList∧Ints w w.heap.size A n g.regs:=by
 obtain⟨hl,n,hf⟩:=Xdz Tryz.underlying26 h
 rw[Tryz.cHart]at hl
 match cs,hl with
 |[c0,c1,c2],_=>
  obtain⟨y0,h0⟩:=hf 0 _ rfl
  obtain⟨y1,h1⟩:=hf 1 _ rfl
  obtain⟨y2,h2⟩:=hf 2 _ rfl
  obtain⟨at_,rfl⟩:=Xcr Tryz.underlying3 (by simpa[Tryz.c3]using h0)
  obtain⟨A,m,c,xs,e1,hI⟩:=Xi3 (by simpa[Tryz.cInts]using h1)
  obtain⟨dn,rfl⟩:=Xeu Tryz.underlying4 (by simpa[Tryz.c4]using h2)
  obtain rfl:c1=.slice A m c:=by simpa using e1
  exact⟨⟨at_,xs,dn⟩,A,m,c,rfl,hI⟩
end
end
end
section
set_option maxRecDepth 100000
open Go.RowKit
set_option linter.unusedSimpArgs false
set_option linter.unusedVariables false
section
def MachAt (w:World) (B b o:Nat) (x:Mch):Prop:=
 ∃ M nm mc R nr rc L n c,(w.cell? ⟨b,o,none⟩=some (.slice M nm mc)∧w.cell? ⟨b,o+1,none⟩=some (.int .i64 x.h.at_)∧w.cell? ⟨b,o+2,none⟩=some (.slice R nr rc)∧w.cell? ⟨b,o+3,none⟩=some (.bool x.h.done) ∧
  w.cell? ⟨b,o+4,none⟩=some (.int .i64 x.b.mode)∧w.cell? ⟨b,o+5,none⟩=some (.int .i64 x.b.base)∧w.cell? ⟨b,o+6,none⟩=some (.slice L n c) ∧
  w.cell? ⟨b,o+7,none⟩=some (.int .i64 x.b.orders.page)∧w.cell? ⟨b,o+8,none⟩=some (.int .i64 x.b.orders.head)∧w.cell? ⟨b,o+9,none⟩=some (.int .i64 x.b.orders.tail) ∧
  w.cell? ⟨b,o+10,none⟩=some (.bool x.b.stopped)∧w.cell? ⟨b,o+11,none⟩=some (.int .i64 x.b.fences) ∧
  w.cell? ⟨b,o+12,none⟩=some (.int .i64 x.b.faults.page)∧w.cell? ⟨b,o+13,none⟩=some (.int .i64 x.b.faults.head)∧w.cell? ⟨b,o+14,none⟩=some (.int .i64 x.b.faults.tail)∧w.cell? ⟨b,o+15,none⟩=some (.bool x.b.lost)) ∧
  Ints w B M nm x.m∧Ints w B R nr x.h.regs∧Lines w B L n c x.b.cache
def Machs (w:World) (B:Nat) (A:Option Addr) (n c:Nat) (ms:List Mch):Prop:=
 ms.length=n∧n≤c∧c≤maxLen∧(0<n→∃ b off,A=some ⟨b,off,none⟩∧b<B∧∀ k x,ms[k]?=some x→MachAt w B b (off+k * 16) x)
section
variable {w w':World} {B B' b o n c:Nat} {A:Option Addr} {ms:List Mch} {x:Mch}
theorem MachAt.below (h:MachAt w B b o x) (hb:b<B) (hw:Below B w w'):MachAt w' B b o x:=by
 obtain⟨M,nm,mc,R,nr,rc,L,n,c,⟨c0,c1,c2,c3,c4,c5,c6,c7,c8,c9,c10,c11,c12,c13,c14,c15⟩,h1,h2,h3⟩:=h
 have k:=fun(q:Nat)=>hw.cell (p:=⟨b,q,none⟩) hb
 exact⟨M,nm,mc,R,nr,rc,L,n,c,⟨(k _).trans c0,(k _).trans c1,(k _).trans c2,(k _).trans c3,(k _).trans c4,(k _).trans c5,(k _).trans c6,(k _).trans c7,(k _).trans c8,(k _).trans c9,(k _).trans c10,(k _).trans c11,(k _).trans c12,(k _).trans c13,(k _).trans c14,(k _).trans c15⟩,h1.below hw,h2.below hw,h3.below hw⟩
theorem MachAt.more (h:MachAt w B b o x) (hB:B≤B'):MachAt w B' b o x:=by
 obtain⟨M,nm,mc,R,nr,rc,L,n,c,hc,h1,h2,h3⟩:=h
 exact⟨M,nm,mc,R,nr,rc,L,n,c,hc,h1.more hB,h2.more hB,h3.more hB⟩
theorem Machs.len (h:Machs w B A n c ms):ms.length=n:=h.1
theorem Machs.cap (h:Machs w B A n c ms):n≤c∧c≤9223372036854775807:=⟨h.2.1,by have:=h.2.2.1;unfold maxLen at this;omega⟩
theorem Machs.at_ (h:Machs w B A n c ms) (hn:0<n):∃ b off,A=some ⟨b,off,none⟩∧b<B∧∀ k x,ms[k]?=some x→MachAt w B b (off+k * 16) x:=h.2.2.2 hn
theorem Machs.more (h:Machs w B A n c ms) (hB:B≤B'):Machs w B' A n c ms:=⟨h.1,h.2.1,h.2.2.1,fun hn=>by
 obtain⟨b,off,e,hb,hc⟩:=h.2.2.2 hn
 exact⟨b,off,e,by omega,fun k x hx=>(hc k x hx).more hB⟩⟩
theorem Machs.below (h:Machs w B A n c ms) (hw:Below B w w'):Machs w' B A n c ms:=⟨h.1,h.2.1,h.2.2.1,fun hn=>by
 obtain⟨b,off,e,hb,hc⟩:=h.2.2.2 hn
 exact⟨b,off,e,hb,fun k x hx=>(hc k x hx).below hb hw⟩⟩
theorem Machs.take (h:Machs w B A n c ms) {k:Nat} (hk:k≤n):Machs w B A k c (ms.take k):=
 ⟨by rw[List.length_take,h.1];omega,Nat.le_trans hk h.2.1,h.2.2.1,fun h0=>by
  obtain⟨b,off,e,hb,hc⟩:=h.2.2.2 (by omega)
  refine⟨b,off,e,hb,fun j x hx=>?_⟩
  rw[List.getElem?_take]at hx
  split at hx
  ·exact hc j x hx
  ·cases hx⟩
end
end
section
section
open Go.ChangeShapes Go.WideShapes Go.ChangeAt
theorem Tryz.cMach:Tryz.prog.cellsOf 33=16:=by kernel_rfl
section
variable {H:Type} {enc:TypeId×Value→H} {w:World} {base:Nat} {spare:Nat→Bool} {held:Bool} {fuel:Nat} {cs:List Value} {x:DataW H×List MemPlace}
theorem Xlp (h:DataW.trod enc Tryz.prog w base (fun _=>true) held fuel 33 cs=some x):∃(y:Mch) (M R L:Option Addr) (nm mc nr rc n c:Nat),cs=((M_.m y M nm mc R nr rc L n c):Array Value).toList∧Ints w w.heap.size M nm y.m∧Ints w w.heap.size R nr y.h.regs∧Lines w w.heap.size L n c y.b.cache:=by
 obtain⟨hl,n,hf⟩:=Xdz Tryz.underlying33 h
 rw[Tryz.cMach]at hl
 match cs,hl with
 |[c0,c1,c2,c3,c4,c5,c6,c7,c8,c9,c10,c11,c12,c13,c14,c15],_=>
  obtain⟨y0,h0⟩:=hf 0 _ rfl
  obtain⟨y1,h1⟩:=hf 1 _ rfl
  obtain⟨y2,h2⟩:=hf 2 _ rfl
  obtain⟨M,nm,mc,xs,e0,hM⟩:=Xuj (by simpa[Tryz.cMem]using h0)
  obtain⟨g,R,nr,rc,e1,hR⟩:=Xre (by simpa[Tryz.cHart]using h1)
  obtain⟨b,L,m,c,e2,hL⟩:=Xns (by simpa[Tryz.cBrg]using h2)
  obtain rfl:c0=.slice M nm mc:=by simpa using e0
  obtain⟨rfl,rfl,rfl⟩:c1=.int .i64 g.at_∧c2=.slice R nr rc∧c3=.bool g.done:=by simpa using e1
  obtain⟨rfl,rfl,rfl,rfl,rfl,rfl,rfl,rfl,rfl,rfl,rfl,rfl⟩:c4=.int .i64 b.mode∧c5=.int .i64 b.base∧c6=.slice L m c∧c7=.int .i64 b.orders.page∧c8=.int .i64 b.orders.head∧c9=.int .i64 b.orders.tail∧c10=.bool b.stopped∧c11=.int .i64 b.fences∧c12=.int .i64 b.faults.page∧c13=.int .i64 b.faults.head∧c14=.int .i64 b.faults.tail∧c15=.bool b.lost:=by simpa using e2
  exact⟨⟨xs,g,b⟩,M,R,L,nm,mc,nr,rc,m,c,rfl,hM,hR,hL⟩
end
theorem Xmh {H:Type} {enc:TypeId×Value→H} {W:World} {b0:Nat} {v:Value} {d:DataW H} {p:List MemPlace} (hv:Value.okWide Tryz.prog W .any b0 33 v) (h:DataW.Trod enc Tryz.prog W 0 (fun _=>true) true 33 v d p) :
  ∃(y:Mch) (M R L:Option Addr) (nm mc nr rc n c:Nat),v=.agg (M_.m y M nm mc R nr rc L n c)∧Ints W W.heap.size M nm y.m∧Ints W W.heap.size R nr y.h.regs∧Lines W W.heap.size L n c y.b.cache:=by
 obtain⟨cs,n,rfl,g⟩:=Xqh Tryz.underlying33 hv h
 obtain⟨y,M,R,L,nm,mc,nr,rc,m,c,e,hM,hR,hL⟩:=Xlp g
 obtain⟨cs⟩:=cs
 simp only[]at e
 subst e
 exact⟨y,M,R,L,nm,mc,nr,rc,m,c,rfl,hM,hR,hL⟩
end
end
end
section
open Go.RowKit
set_option linter.unusedSimpArgs false
set_option linter.unusedVariables false
def HapAt (w:World) (B b o:Nat) (x:Hap):Prop:=
 ∃ D nd cd,(w.cell? ⟨b,o,none⟩=some (.int .i64 x.kind)∧w.cell? ⟨b,o+1,none⟩=some (.int .i64 x.n)∧w.cell? ⟨b,o+2,none⟩=some (.int .i64 x.a.dev)∧w.cell? ⟨b,o+3,none⟩=some (.int .i64 x.a.at_)∧w.cell? ⟨b,o+4,none⟩=some (.int .i64 x.a.count)∧w.cell? ⟨b,o+5,none⟩=some (.bool x.a.wr)∧w.cell? ⟨b,o+6,none⟩=some (.slice D nd cd))∧Ints w B D nd x.a.data
def Haps (w:World) (B:Nat) (A:Option Addr) (n c:Nat) (hs:List Hap):Prop:=
 hs.length=n∧n≤c∧c≤maxLen∧(0<n→∃ b off,A=some ⟨b,off,none⟩∧b<B∧∀ k x,hs[k]?=some x→HapAt w B b (off+k * 7) x)
section
variable {w w':World} {B B' b o n c:Nat} {A:Option Addr} {hs:List Hap} {x:Hap}
theorem HapAt.below (h:HapAt w B b o x) (hb:b<B) (hw:Below B w w'):HapAt w' B b o x:=by
 obtain⟨D,nd,cd,⟨c0,c1,c2,c3,c4,c5,c6⟩,h1⟩:=h
 have k:=fun(q:Nat)=>hw.cell (p:=⟨b,q,none⟩) hb
 exact⟨D,nd,cd,⟨(k _).trans c0,(k _).trans c1,(k _).trans c2,(k _).trans c3,(k _).trans c4,(k _).trans c5,(k _).trans c6⟩,h1.below hw⟩
theorem HapAt.more (h:HapAt w B b o x) (hB:B≤B'):HapAt w B' b o x:=by
 obtain⟨D,nd,cd,hc,h1⟩:=h
 exact⟨D,nd,cd,hc,h1.more hB⟩
theorem Haps.len (h:Haps w B A n c hs):hs.length=n:=h.1
theorem Haps.cap (h:Haps w B A n c hs):n≤c∧c≤9223372036854775807:=⟨h.2.1,by have:=h.2.2.1;unfold maxLen at this;omega⟩
theorem Haps.at_ (h:Haps w B A n c hs) (hn:0<n):∃ b off,A=some ⟨b,off,none⟩∧b<B∧∀ k x,hs[k]?=some x→HapAt w B b (off+k * 7) x:=h.2.2.2 hn
theorem Haps.more (h:Haps w B A n c hs) (hB:B≤B'):Haps w B' A n c hs:=⟨h.1,h.2.1,h.2.2.1,fun hn=>by
 obtain⟨b,off,e,hb,hc⟩:=h.2.2.2 hn
 exact⟨b,off,e,by omega,fun k x hx=>(hc k x hx).more hB⟩⟩
theorem Haps.below (h:Haps w B A n c hs) (hw:Below B w w'):Haps w' B A n c hs:=⟨h.1,h.2.1,h.2.2.1,fun hn=>by
 obtain⟨b,off,e,hb,hc⟩:=h.2.2.2 hn
 exact⟨b,off,e,hb,fun k x hx=>(hc k x hx).below hb hw⟩⟩
theorem Haps.take (h:Haps w B A n c hs) {k:Nat} (hk:k≤n):Haps w B A k c (hs.take k):=
 ⟨by rw[List.length_take,h.1];omega,Nat.le_trans hk h.2.1,h.2.2.1,fun h0=>by
  obtain⟨b,off,e,hb,hc⟩:=h.2.2.2 (by omega)
  refine⟨b,off,e,hb,fun j x hx=>?_⟩
  rw[List.getElem?_take]at hx
  split at hx
  ·exact hc j x hx
  ·cases hx⟩
theorem Xmo {D:Option Addr} {nd cd:Nat} (h:w.cell? ⟨b,o,none⟩=some (.int .i64 x.kind)∧w.cell? ⟨b,o+1,none⟩=some (.int .i64 x.n)∧w.cell? ⟨b,o+2,none⟩=some (.int .i64 x.a.dev)∧w.cell? ⟨b,o+3,none⟩=some (.int .i64 x.a.at_)∧w.cell? ⟨b,o+4,none⟩=some (.int .i64 x.a.count)∧w.cell? ⟨b,o+5,none⟩=some (.bool x.a.wr)∧w.cell? ⟨b,o+6,none⟩=some (.slice D nd cd)):w.rangeAt b o [.int .i64 x.kind,.int .i64 x.n,.int .i64 x.a.dev,.int .i64 x.a.at_,.int .i64 x.a.count,.bool x.a.wr,.slice D nd cd]:=by
 obtain⟨h0,h1,h2,h3,h4,h5,h6⟩:=h
 intro j v hj
 match j,hj with
 |0,hj=>simp at hj;subst hj;exact h0
 |1,hj=>simp at hj;subst hj;exact h1
 |2,hj=>simp at hj;subst hj;exact h2
 |3,hj=>simp at hj;subst hj;exact h3
 |4,hj=>simp at hj;subst hj;exact h4
 |5,hj=>simp at hj;subst hj;exact h5
 |6,hj=>simp at hj;subst hj;exact h6
 |k+7,hj=>simp at hj
end
theorem Xiy {w W:World} {A:Option Addr} {n c:Nat} {hs:List Hap} (hx:Haps w w.heap.size A n c hs) (h:Below w.heap.size w W):Haps W W.heap.size A n c hs:=(hx.below h).more h.size
theorem Tryz.sizeHap:(Tryz.prog.info? 37).map (·.size)=some 7:=by kernel_rfl
end
section
set_option maxRecDepth 100000
open Go.RowKit
set_option linter.unusedSimpArgs false
set_option linter.unusedVariables false
section
section
open Go.ChangeShapes Go.WideShapes Go.ChangeAt
theorem Tryz.cAsk:Tryz.prog.cellsOf 35=5:=by kernel_rfl
section
variable {H:Type} {enc:TypeId×Value→H} {w:World} {base:Nat} {spare:Nat→Bool} {held:Bool} {fuel:Nat} {cs:List Value} {x:DataW H×List MemPlace}
theorem Xul (h:DataW.trod enc Tryz.prog w base (fun _=>true) held fuel 35 cs=some x):∃(a:Ask) (D:Option Addr) (n c:Nat),cs=(#[.int .i64 a.dev,.int .i64 a.at_,.int .i64 a.count,.bool a.wr,.slice D n c]:Array Value).toList∧Ints w w.heap.size D n a.data:=by
 obtain⟨hl,n,hf⟩:=Xdz Tryz.underlying35 h
 rw[Tryz.cAsk]at hl
 match cs,hl with
 |[c0,c1,c2,c3,c4],_=>
  obtain⟨y0,h0⟩:=hf 0 _ rfl
  obtain⟨y1,h1⟩:=hf 1 _ rfl
  obtain⟨y2,h2⟩:=hf 2 _ rfl
  obtain⟨y3,h3⟩:=hf 3 _ rfl
  obtain⟨y4,h4⟩:=hf 4 _ rfl
  obtain⟨dv,rfl⟩:=Xcr Tryz.underlying3 (by simpa[Tryz.c3]using h0)
  obtain⟨at_,rfl⟩:=Xcr Tryz.underlying3 (by simpa[Tryz.c3]using h1)
  obtain⟨ct,rfl⟩:=Xcr Tryz.underlying3 (by simpa[Tryz.c3]using h2)
  obtain⟨wr,rfl⟩:=Xeu Tryz.underlying4 (by simpa[Tryz.c4]using h3)
  obtain⟨D,m,c,xs,e4,hD⟩:=Xi3 (by simpa[Tryz.cInts]using h4)
  obtain rfl:c4=.slice D m c:=by simpa using e4
  exact⟨⟨dv,at_,ct,wr,xs⟩,D,m,c,rfl,hD⟩
end
end
end
section
section
open Go.ChangeShapes Go.WideShapes Go.ChangeAt
theorem Tryz.cHap:Tryz.prog.cellsOf 37=7:=by kernel_rfl
section
variable {H:Type} {enc:TypeId×Value→H} {w:World} {base:Nat} {spare:Nat→Bool} {held:Bool} {fuel:Nat} {cs:List Value} {x:DataW H×List MemPlace}
theorem Xuk (h:DataW.trod enc Tryz.prog w base (fun _=>true) held fuel 37 cs=some x):∃(y:Hap) (D:Option Addr) (nd cd:Nat),cs=(#[.int .i64 y.kind,.int .i64 y.n,.int .i64 y.a.dev,.int .i64 y.a.at_,.int .i64 y.a.count,.bool y.a.wr,.slice D nd cd]:Array Value).toList∧Ints w w.heap.size D nd y.a.data:=by
 obtain⟨hl,n,hf⟩:=Xdz Tryz.underlying37 h
 rw[Tryz.cHap]at hl
 match cs,hl with
 |[c0,c1,c2,c3,c4,c5,c6],_=>
  obtain⟨y0,h0⟩:=hf 0 _ rfl
  obtain⟨y1,h1⟩:=hf 1 _ rfl
  obtain⟨y2,h2⟩:=hf 2 _ rfl
  obtain⟨k,rfl⟩:=Xcr Tryz.underlying3 (by simpa[Tryz.c3]using h0)
  obtain⟨i,rfl⟩:=Xcr Tryz.underlying3 (by simpa[Tryz.c3]using h1)
  obtain⟨a,D,nd,cd,e2,hD⟩:=Xul (by simpa[Tryz.cAsk]using h2)
  obtain⟨rfl,rfl,rfl,rfl,rfl⟩:c2=.int .i64 a.dev∧c3=.int .i64 a.at_∧c4=.int .i64 a.count∧c5=.bool a.wr∧c6=.slice D nd cd:=by simpa using e2
  exact⟨⟨k,i,a⟩,D,nd,cd,rfl,hD⟩
end
theorem Xzr {H:Type} {enc:TypeId×Value→H} {W:World} {b0:Nat} {v:Value} {d:DataW H} {p:List MemPlace} (hv:Value.okWide Tryz.prog W .any b0 37 v) (h:DataW.Trod enc Tryz.prog W 0 (fun _=>true) true 37 v d p) :
  ∃(y:Hap) (D:Option Addr) (nd cd:Nat),v=.agg #[.int .i64 y.kind,.int .i64 y.n,.int .i64 y.a.dev,.int .i64 y.a.at_,.int .i64 y.a.count,.bool y.a.wr,.slice D nd cd]∧Ints W W.heap.size D nd y.a.data:=by
 obtain⟨cs,n,rfl,g⟩:=Xqh Tryz.underlying37 hv h
 obtain⟨y,D,nd,cd,e,hD⟩:=Xuk g
 obtain⟨cs⟩:=cs
 simp only[]at e
 subst e
 exact⟨y,D,nd,cd,rfl,hD⟩
end
end
end
section
set_option maxRecDepth 100000
set_option maxHeartbeats 8000000
open Go.RowKit
set_option linter.unusedSimpArgs false
set_option linter.unusedVariables false
section
def ObdC (w:World) (A0:Option Addr) (rb:Brg) (E:Int) (e:Ending) (w':World):Prop:=
 ∃ L n c,e=.returned (.tuple #[.agg (B_.b rb L n c),.int .i64 E])∧Lines w' w'.heap.size L n c rb.cache∧Below w.heap.size w w'∧Xj6 w A0 L
theorem Xwr {w w':World} {A0:Option Addr} {E:Int} (hb:Below w.heap.size w w'):ObdC w A0 .no E (.returned (.tuple #[.agg (B_.b Brg.no none 0 0),.int .i64 E])) w':=
 ⟨none,0,0,rfl,Xcl _ _,hb,fun _ h=>by cases h⟩
theorem Xxj (w:World) (g o:Nat) (u v:Value):(w.setCell ⟨g,o,none⟩ u).setCell ⟨g,o,none⟩ v=w.setCell ⟨g,o,none⟩ v:=by
 unfold World.setCell
 congr 1
 apply Array.ext_getElem?
 intro k
 simp only[Array.getElem?_modify]
 by_cases hk:g=k
 ·simp only[hk,if_true]
  cases w.heap[k]? with
  |none=>rfl
  |some x=>cases x<;>simp
 ·simp[hk]
def obC (b:Brg) (ms:List Line) (F:Int):Brg:=⟨b.mode,b.base,ms,⟨b.orders.page,(b.orders.head+1) % 8,b.orders.tail⟩,b.stopped,F,b.faults,b.lost⟩
def Brg.stop (b:Brg):Brg:=⟨b.mode,b.base,b.cache,b.orders,true,b.fences,b.faults,b.lost⟩
section
variable (xs:List Int) (m:Option Addr) (cm':Nat) (b:Brg) (A:Option Addr) (n c:Nat) (w:World)
theorem Xn5 (hs:b.stopped=true):Calls Tryz.prog 35 #[.agg #[.slice m 512 cm'],.agg (B_.b b A n c)] w (ObdC w A .no 6):=by
 go_enter Tryz.func35,Tryz.ntmps35
 go_wp2
 refine bodyPost_ret (v:=.tuple #[.agg (B_.b Brg.no none 0 0),.int .i64 6]) ?_ rfl (Xwr ?_)
 ·simp(maxDischargeDepth:=8) [results,Tryz.results35,go_sem,Brg.no,Ring.no, *]
 ·(refine bl ?_;repeat' first|with_reducible(first|assumption|constructor)|((try simp)<;>omega))
theorem Xsq (hs:b.stopped=false) (he:b.orders.head=b.orders.tail):Calls Tryz.prog 35 #[.agg #[.slice m 512 cm'],.agg (B_.b b A n c)] w (ObdC w A .no 6):=by
 have t1:(b.orders.head==b.orders.tail)=true:=by rw[beq_iff_eq];exact he
 clear he
 go_enter Tryz.func35,Tryz.ntmps35
 go_wp2
 refine bodyPost_ret (v:=.tuple #[.agg (B_.b Brg.no none 0 0),.int .i64 6]) ?_ rfl (Xwr ?_)
 ·simp(maxDischargeDepth:=8) [results,Tryz.results35,go_sem,Brg.no,Ring.no, *]
 ·(refine bl ?_;repeat' first|with_reducible(first|assumption|constructor)|((try simp)<;>omega))
variable (hx:Ints w w.heap.size m 512 xs) (hl:Lines w w.heap.size A n c b.cache) (h0:cm xs=0) (hb:ckB b=0) (hs:b.stopped=false) (hp:b.orders.head≠b.orders.tail) (v:Int) (hv:popV xs b.orders=v)
include hx hl h0 hb hs hp hv in
theorem Xxw (hr0:rdoE v≠0):Calls Tryz.prog 35 #[.agg #[.slice m 512 cm'],.agg (B_.b b A n c)] w (ObdC w A b.stop 0):=by
 have t0:(b.orders.head==b.orders.tail)=false:=beq_eq_false_iff_ne.2 hp
 have hr:=((Xbn b).1 hb).2.2.1
 unfold Xco at hr
 obtain⟨⟨r1,r2⟩,⟨r3,r4⟩,r5,r6⟩:=hr
 have hvx:=Xc7 (xs:=xs) (i:=b.orders.page * 8+b.orders.head) (Xaz h0).1 (by omega)
 obtain⟨g,off,rfl,hg,hc⟩:=hx.at_ (by omega)
 have hcv:=hc _ _ hvx
 rw[show rd xs (b.orders.page * 8+b.orders.head)=v from hv,show b.orders.page * 8=8 * b.orders.page from Int.mul_comm _ _]at hcv
 have e1:IntKind.i64.wrap (8 * b.orders.page)=8 * b.orders.page:=IntWalk.i64_in _ (by omega)
 have e2:IntKind.i64.wrap (8 * b.orders.page+b.orders.head)=8 * b.orders.page+b.orders.head:=IntWalk.i64_in _ (by omega)
 have HL:=Zh hl
 have hg2:g<w.heap.size+1:=by omega
 have hg3:g<w.heap.size+1+1:=by omega
 have t1:(rdoE v != 0)=true:=by rw[bne_iff_ne];exact hr0
 clear hx hl h0 hb hp hv hr0 hc hvx
 go_enter Tryz.func35,Tryz.ntmps35
 go_wp2_with fail
 refine(Xfu _ _).mono ?_
 rw[show rdoV v=.tuple #[.agg #[.int .i64 (rdoF v (v % 4)),.int .i64 (rdoF v (v / 4 % 8)),.int .i64 (rdoF v (v / 32))],.int .i64 (rdoE v)]from rfl]
 rintro e w1 ⟨rfl,hb1⟩
 have hz1:=hb1.size
 (try simp only[Zs]at hz1)
 have k1_0_0:=(Xa9 hb1).1 (w.heap.size+1) 0 (by(try simp)<;>omega)
 have k1_0_1:=(Xa9 hb1).1 (w.heap.size+1) 1 (by(try simp)<;>omega)
 have k1_0_2:=(Xa9 hb1).1 (w.heap.size+1) 2 (by(try simp)<;>omega)
 have k1_0_3:=(Xa9 hb1).1 (w.heap.size+1) 3 (by(try simp)<;>omega)
 have k1_0_4:=(Xa9 hb1).1 (w.heap.size+1) 4 (by(try simp)<;>omega)
 have k1_0_5:=(Xa9 hb1).1 (w.heap.size+1) 5 (by(try simp)<;>omega)
 have k1_0_6:=(Xa9 hb1).1 (w.heap.size+1) 6 (by(try simp)<;>omega)
 have k1_0_7:=(Xa9 hb1).1 (w.heap.size+1) 7 (by(try simp)<;>omega)
 have k1_0_8:=(Xa9 hb1).1 (w.heap.size+1) 8 (by(try simp)<;>omega)
 have k1_0_9:=(Xa9 hb1).1 (w.heap.size+1) 9 (by(try simp)<;>omega)
 have k1_0_10:=(Xa9 hb1).1 (w.heap.size+1) 10 (by(try simp)<;>omega)
 have k1_0_11:=(Xa9 hb1).1 (w.heap.size+1) 11 (by(try simp)<;>omega)
 obtain⟨l1_0,q1_0⟩:=(aft hb1 (w.heap.size+1) (by(try simp)<;>omega)).2
 obtain⟨k1_1,l1_1,q1_1⟩:=aft hb1 (w.heap.size+1+1) (by(try simp)<;>omega)
 simp(maxDischargeDepth:=6) [go_sem, *]at k1_0_0 k1_0_1 k1_0_2 k1_0_3 k1_0_4 k1_0_5 k1_0_6 k1_0_7 k1_0_8 k1_0_9 k1_0_10 k1_0_11 q1_0 k1_1 q1_1
 have HB1:=Zh hb1
 clear hb1
 go_wp2
 refine bodyPost_ret (v:=.tuple #[.agg (B_.b b.stop A n c),.int .i64 0]) ?_ rfl ⟨A,n,c,rfl, ?_, ?_,Xbo _ _⟩
 ·simp(maxDischargeDepth:=8) [results,Tryz.results35,go_sem,Brg.stop, *]
 ·exact Xah HL.out (bl (by repeat' first|with_reducible(first|assumption|constructor)|((try simp)<;>omega)))
 ·(refine bl ?_;repeat' first|with_reducible(first|assumption|constructor)|((try simp)<;>omega))
include hx hl h0 hb hs hp hv in
theorem Xvb (ms:List Line) (F:Int) (hr0:rdoE v=0) (hm:Xfn b.cache (v % 4) (v / 4 % 8) (v / 32)=ms) (hF:F=if v % 4=0 then(b.fences+1) % 1000 else b.fences):Calls Tryz.prog 35 #[.agg #[.slice m 512 cm'],.agg (B_.b b A n c)] w (ObdC w A (obC b ms F) 0):=by
 have t0:(b.orders.head==b.orders.tail)=false:=beq_eq_false_iff_ne.2 hp
 have hr:=((Xbn b).1 hb).2.2.1
 unfold Xco at hr
 obtain⟨⟨r1,r2⟩,⟨r3,r4⟩,r5,r6⟩:=hr
 have hvx:=Xc7 (xs:=xs) (i:=b.orders.page * 8+b.orders.head) (Xaz h0).1 (by omega)
 obtain⟨g,off,rfl,hg,hc⟩:=hx.at_ (by omega)
 have hcv:=hc _ _ hvx
 rw[show rd xs (b.orders.page * 8+b.orders.head)=v from hv,show b.orders.page * 8=8 * b.orders.page from Int.mul_comm _ _]at hcv
 have e1:IntKind.i64.wrap (8 * b.orders.page)=8 * b.orders.page:=IntWalk.i64_in _ (by omega)
 have e2:IntKind.i64.wrap (8 * b.orders.page+b.orders.head)=8 * b.orders.page+b.orders.head:=IntWalk.i64_in _ (by omega)
 have HL:=Zh hl
 have hg2:g<w.heap.size+1:=by omega
 have hg3:g<w.heap.size+1+1:=by omega
 have HM:=Zh hm
 have HRR:=Zh (show rdoV v=.tuple #[.agg #[.int .i64 (v % 4),.int .i64 (v / 4 % 8),.int .i64 (v / 32)],.int .i64 0] by simp[rdoV,rdoF,hr0])
 have hk:=(Xn3 hr0).2
 unfold OrdR at hk
 have HDE:=Zh (show Xes b.cache (v % 4)=0 from Xgc ((Xbn b).1 hb).2.1 (by omega))
 have hf:=((Xbn b).1 hb).1.2.2
 obtain⟨hf1,hf2⟩:=hf
 have HFF:=Zh hF
 have e3:IntKind.i64.wrap (b.fences+1)=b.fences+1:=IntWalk.i64_in _ (by omega)
 have e4:IntKind.i64.wrap (b.orders.head+1)=b.orders.head+1:=IntWalk.i64_in _ (by omega)
 have e5:(b.orders.head+1).tmod 8=(b.orders.head+1) % 8:=Int.tmod_eq_emod_of_nonneg (by omega)
 obtain⟨vk,hvk⟩:∃ k,v % 4=k:=⟨_,rfl⟩
 obtain⟨vd,hvd⟩:∃ k,v / 4 % 8=k:=⟨_,rfl⟩
 obtain⟨vp,hvp⟩:∃ k,v / 32=k:=⟨_,rfl⟩
 rw[hvk]at HM HRR HDE HFF
 rw[hvd]at HM HRR
 rw[hvp]at HM HRR
 clear hx hl h0 hb hp hv hr0 hm hF hk hvk hvd hvp hc hvx
 by_cases hq:vk=0
 ·have t2:(vk==0)=true:=by rw[beq_iff_eq];exact hq
  by_cases h9:b.fences+1=1000
  ·have HQ:=Zh (show 0=F by rw[HFF.out,if_pos hq,h9];rfl)
   have t3:(b.fences+1==1000)=true:=by rw[beq_iff_eq];exact h9
   have hss:=fun(W:World)=>Xxj W (w.heap.size+1) 7 (.int .i64 (b.fences+1)) (.int .i64 0)
   clear hq h9
   go_enter Tryz.func35,Tryz.ntmps35
   go_wp2_with fail
   refine(Xfu _ _).mono ?_
   rw[HRR.out]
   rintro e w1 ⟨rfl,hb1⟩
   have hz1:=hb1.size
   (try simp only[Zs]at hz1)
   obtain⟨k1_0,l1_0,q1_0⟩:=aft hb1 (w.heap.size+1) (by(try simp)<;>omega)
   obtain⟨k1_1,l1_1,q1_1⟩:=aft hb1 (w.heap.size+1+1) (by(try simp)<;>omega)
   simp(maxDischargeDepth:=6) [go_sem, *]at k1_0 q1_0 k1_1 q1_1
   have HB1:=Zh hb1
   clear hb1
   go_wp2_with fail
   refine(Xgz A n c b.cache ms vk vd vp 0 _ (Xah HL.out (bl (by repeat' first|with_reducible(first|assumption|constructor)|((try simp)<;>omega)))) HDE.out HM.out).mono ?_
   rintro e w2 ⟨A2,c2,rfl,hl2,hb2,hn2⟩
   have hz2:=hb2.size
   (try simp only[Zs]at hz2)
   obtain⟨k2_0,l2_0,q2_0⟩:=aft hb2 (w.heap.size+1) (by(try simp)<;>omega)
   obtain⟨k2_1,l2_1,q2_1⟩:=aft hb2 (w.heap.size+1+1) (by(try simp)<;>omega)
   obtain⟨k2_2,l2_2,q2_2⟩:=aft hb2 (w1.heap.size) (by(try simp)<;>omega)
   simp(maxDischargeDepth:=6) [go_sem, *]at k2_0 q2_0 k2_1 q2_1 k2_2 q2_2
   have HB2:=Zh hb2
   clear hb2
   (try simp only[Zs]at hn2)
   have HL2:=Zh hl2
   have HN2:=Zh (show ∀ ad,A2=some ad→w.heap.size+1+1<ad.block from fun ad e=>by have:=hn2 ad e;omega)
   have u1:¬w.heap.size+1=w1.heap.size:=by omega
   have u2:¬w1.heap.size=w.heap.size+1:=by omega
   clear hl2 hn2 k1_0 q1_0 l1_0 k1_1 q1_1 l1_1
   go_wp2
   refine bodyPost_ret (v:=.tuple #[.agg (B_.b (obC b ms F) A2 ms.length c2),.int .i64 0]) ?_ rfl ⟨A2,ms.length,c2,rfl, ?_, ?_, ?_⟩
   ·simp(maxDischargeDepth:=8) [results,Tryz.results35,go_sem,obC,←HQ.out, *]
   ·refine Lines.more (B:=w2.heap.size) ?_ (by simp)
    show Lines _ _ _ _ _ ms
    (repeat(first|((with_reducible refine Xb5 ?_ ?_ _);rotate_left;exact(by intro ad e h;have:=HN2.out ad e;dsimp only at h;omega))|(with_reducible exact HL2.out)))
   ·(refine bl ?_;repeat' first|with_reducible(first|assumption|constructor)|((try simp)<;>omega))
   ·intro ad e;have:=HN2.out ad e;exact Or.inr (by omega)
  ·have HQ:=Zh (show b.fences+1=F by rw[HFF.out,if_pos hq];omega)
   have t3:(b.fences+1==1000)=false:=beq_eq_false_iff_ne.2 h9
   clear hq h9
   go_enter Tryz.func35,Tryz.ntmps35
   go_wp2_with fail
   refine(Xfu _ _).mono ?_
   rw[HRR.out]
   rintro e w1 ⟨rfl,hb1⟩
   have hz1:=hb1.size
   (try simp only[Zs]at hz1)
   obtain⟨k1_0,l1_0,q1_0⟩:=aft hb1 (w.heap.size+1) (by(try simp)<;>omega)
   obtain⟨k1_1,l1_1,q1_1⟩:=aft hb1 (w.heap.size+1+1) (by(try simp)<;>omega)
   simp(maxDischargeDepth:=6) [go_sem, *]at k1_0 q1_0 k1_1 q1_1
   have HB1:=Zh hb1
   clear hb1
   go_wp2_with fail
   refine(Xgz A n c b.cache ms vk vd vp 0 _ (Xah HL.out (bl (by repeat' first|with_reducible(first|assumption|constructor)|((try simp)<;>omega)))) HDE.out HM.out).mono ?_
   rintro e w2 ⟨A2,c2,rfl,hl2,hb2,hn2⟩
   have hz2:=hb2.size
   (try simp only[Zs]at hz2)
   obtain⟨k2_0,l2_0,q2_0⟩:=aft hb2 (w.heap.size+1) (by(try simp)<;>omega)
   obtain⟨k2_1,l2_1,q2_1⟩:=aft hb2 (w.heap.size+1+1) (by(try simp)<;>omega)
   obtain⟨k2_2,l2_2,q2_2⟩:=aft hb2 (w1.heap.size) (by(try simp)<;>omega)
   simp(maxDischargeDepth:=6) [go_sem, *]at k2_0 q2_0 k2_1 q2_1 k2_2 q2_2
   have HB2:=Zh hb2
   clear hb2
   (try simp only[Zs]at hn2)
   have HL2:=Zh hl2
   have HN2:=Zh (show ∀ ad,A2=some ad→w.heap.size+1+1<ad.block from fun ad e=>by have:=hn2 ad e;omega)
   have u1:¬w.heap.size+1=w1.heap.size:=by omega
   have u2:¬w1.heap.size=w.heap.size+1:=by omega
   clear hl2 hn2 k1_0 q1_0 l1_0 k1_1 q1_1 l1_1
   go_wp2
   refine bodyPost_ret (v:=.tuple #[.agg (B_.b (obC b ms F) A2 ms.length c2),.int .i64 0]) ?_ rfl ⟨A2,ms.length,c2,rfl, ?_, ?_, ?_⟩
   ·simp(maxDischargeDepth:=8) [results,Tryz.results35,go_sem,obC,←HQ.out, *]
   ·refine Lines.more (B:=w2.heap.size) ?_ (by simp)
    show Lines _ _ _ _ _ ms
    (repeat(first|((with_reducible refine Xb5 ?_ ?_ _);rotate_left;exact(by intro ad e h;have:=HN2.out ad e;dsimp only at h;omega))|(with_reducible exact HL2.out)))
   ·(refine bl ?_;repeat' first|with_reducible(first|assumption|constructor)|((try simp)<;>omega))
   ·intro ad e;have:=HN2.out ad e;exact Or.inr (by omega)
 ·have HQ:=Zh (show b.fences=F by rw[HFF.out,if_neg hq])
  have t2:(vk==0)=false:=beq_eq_false_iff_ne.2 hq
  clear hq
  go_enter Tryz.func35,Tryz.ntmps35
  go_wp2_with fail
  refine(Xfu _ _).mono ?_
  rw[HRR.out]
  rintro e w1 ⟨rfl,hb1⟩
  have hz1:=hb1.size
  (try simp only[Zs]at hz1)
  obtain⟨k1_0,l1_0,q1_0⟩:=aft hb1 (w.heap.size+1) (by(try simp)<;>omega)
  obtain⟨k1_1,l1_1,q1_1⟩:=aft hb1 (w.heap.size+1+1) (by(try simp)<;>omega)
  simp(maxDischargeDepth:=6) [go_sem, *]at k1_0 q1_0 k1_1 q1_1
  have HB1:=Zh hb1
  clear hb1
  go_wp2_with fail
  refine(Xgz A n c b.cache ms vk vd vp 0 _ (Xah HL.out (bl (by repeat' first|with_reducible(first|assumption|constructor)|((try simp)<;>omega)))) HDE.out HM.out).mono ?_
  rintro e w2 ⟨A2,c2,rfl,hl2,hb2,hn2⟩
  have hz2:=hb2.size
  (try simp only[Zs]at hz2)
  obtain⟨k2_0,l2_0,q2_0⟩:=aft hb2 (w.heap.size+1) (by(try simp)<;>omega)
  obtain⟨k2_1,l2_1,q2_1⟩:=aft hb2 (w.heap.size+1+1) (by(try simp)<;>omega)
  obtain⟨k2_2,l2_2,q2_2⟩:=aft hb2 (w1.heap.size) (by(try simp)<;>omega)
  simp(maxDischargeDepth:=6) [go_sem, *]at k2_0 q2_0 k2_1 q2_1 k2_2 q2_2
  have HB2:=Zh hb2
  clear hb2
  (try simp only[Zs]at hn2)
  have HL2:=Zh hl2
  have HN2:=Zh (show ∀ ad,A2=some ad→w.heap.size+1+1<ad.block from fun ad e=>by have:=hn2 ad e;omega)
  have u1:¬w.heap.size+1=w1.heap.size:=by omega
  have u2:¬w1.heap.size=w.heap.size+1:=by omega
  clear hl2 hn2 k1_0 q1_0 l1_0 k1_1 q1_1 l1_1
  go_wp2
  refine bodyPost_ret (v:=.tuple #[.agg (B_.b (obC b ms F) A2 ms.length c2),.int .i64 0]) ?_ rfl ⟨A2,ms.length,c2,rfl, ?_, ?_, ?_⟩
  ·simp(maxDischargeDepth:=8) [results,Tryz.results35,go_sem,obC,←HQ.out, *]
  ·refine Lines.more (B:=w2.heap.size) ?_ (by simp)
   show Lines _ _ _ _ _ ms
   (repeat(first|((with_reducible refine Xb5 ?_ ?_ _);rotate_left;exact(by intro ad e h;have:=HN2.out ad e;dsimp only at h;omega))|(with_reducible exact HL2.out)))
  ·(refine bl ?_;repeat' first|with_reducible(first|assumption|constructor)|((try simp)<;>omega))
  ·intro ad e;have:=HN2.out ad e;exact Or.inr (by omega)
end
end
section
theorem Xws {r:Ring} (h:Xco r):lenR r=0↔r.head=r.tail:=by
 unfold Xco at h
 unfold lenR
 omega
theorem Xka (xs:List Int) (m:Option Addr) (cm':Nat) (b:Brg) (A:Option Addr) (n c:Nat) (rb:Brg) (E:Int) (w:World) (hx:Ints w w.heap.size m 512 xs) (hl:Lines w w.heap.size A n c b.cache) (h0:cm xs=0) (hb:ckB b=0) (hr:Xep xs b=rb) (hE:Xe1 xs b=E) :
  Calls Tryz.prog 35 #[.agg #[.slice m 512 cm'],.agg (B_.b b A n c)] w (ObdC w A rb E):=by
 subst hE
 subst hr
 have e:=Xxv h0 hb
 by_cases hs:b.stopped=true
 ·rw[if_pos hs]at e
  have e2:Xep xs b=.no:=by unfold Xep;rw[if_neg (by rw[e];decide)]
  rw[e,e2]
  exact Xn5 m cm' b A n c w hs
 ·have hs':b.stopped=false:=by simpa using hs
  rw[if_neg hs]at e
  have hor:=((Xbn b).1 hb).2.2.1
  by_cases hl0:lenR b.orders=0
  ·rw[if_pos hl0]at e
   have e2:Xep xs b=.no:=by unfold Xep;rw[if_neg (by rw[e];decide)]
   rw[e,e2]
   exact Xsq m cm' b A n c w hs' ((Xws hor).1 hl0)
  ·rw[if_neg hl0]at e
   have e2:Xep xs b=Xga xs b:=by unfold Xep;rw[if_pos e]
   have hne:b.orders.head≠b.orders.tail:=fun h=>hl0 ((Xws hor).2 h)
   rw[e,e2]
   by_cases hrd:rdoE (popV xs b.orders)=0
   ·have e3:Xga xs b=obC b (Xfn b.cache (popV xs b.orders % 4) (popV xs b.orders / 4 % 8) (popV xs b.orders / 32)) (if popV xs b.orders % 4=0 then(b.fences+1) % 1000 else b.fences):=by
     unfold Xga;rw[if_pos hrd];rfl
    rw[e3]
    exact Xvb xs m cm' b A n c w hx hl h0 hb hs' hne _ rfl _ _ hrd rfl rfl
   ·have e3:Xga xs b=b.stop:=by unfold Xga;rw[if_neg hrd];rfl
    rw[e3]
    exact Xxw xs m cm' b A n c w hx hl h0 hb hs' hne _ rfl hrd
end
end
end Go.Proofs.YtbopdijnojaaiadGreat
