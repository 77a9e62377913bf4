/- Blocks that are known whole, the worlds left opaque: stores and loads of parts, and a machine's rows. No statement of the seat is proved here. -/
import Derived.Test.YtbopdijnojaaiadGreatWhole
import Derived.Test.YtbopdijnojaaiadGreatDmaI
import Derived.Great.BuildSlice
namespace Go.Proofs.YtbopdijnojaaiadGreat
open Go.RowKit
set_option linter.unusedSimpArgs false
set_option linter.unusedVariables false
theorem Tryz.sizeInts:(Tryz.prog.info? 22).map (·.size)=some 1:=by kernel_rfl
theorem Tryz.sizeLines:(Tryz.prog.info? 27).map (·.size)=some 1:=by kernel_rfl
theorem Tryz.sizeMem:(Tryz.prog.info? 24).map (·.size)=some 1:=by kernel_rfl
theorem Tryz.sizeHart:(Tryz.prog.info? 26).map (·.size)=some 3:=by kernel_rfl
theorem Tryz.sizeBrg:(Tryz.prog.info? 31).map (·.size)=some 12:=by kernel_rfl
theorem Tryz.sizeAsk:(Tryz.prog.info? 35).map (·.size)=some 5:=by kernel_rfl
theorem Tryz.sizeTold:(Tryz.prog.info? 40).map (·.size)=some 4:=by kernel_rfl
theorem Tryz.sizeInt:(Tryz.prog.info? 3).map (·.size)=some 1:=by kernel_rfl
def Trn (g:Nat) (w w':World):Prop:=Chg (fun q=>q=g) w w'∧w'.heap.size=w.heap.size
section
variable {w w' W:World} {g g' B:Nat} {t:TypeId} {cs:Array Value}
theorem Trn.size (h:Trn g w w'):w'.heap.size=w.heap.size:=h.2
theorem Xrg (h:Trn g w w') {q:Nat} (hq:q<w.heap.size) (hn:q≠g):w'.heap[q]?=w.heap[q]?:=h.1.2 q hq hn
theorem Xam (h:Whl w g' t cs) (ht:Trn g w w') (hn:g'≠g):Whl w' g' t cs:=(Xrg ht (Xgv h) hn).trans h
theorem Xaw (h:Below B W w) (hB:B≤w.heap.size) (ht:Trn g w w') (hg:B≤g):Below B W w':=Xef h hB ht.1 (fun q hq e=>by omega)
theorem Xoh {P:Nat→Prop} {w0:World} (h:Chg P w0 w) (h':Below w.heap.size w w'):Chg P w0 w':=Xfo h h'
theorem Xa8 {P:Nat→Prop} (h:Below B W w) (hB:B≤w.heap.size) (hC:Chg P w w') (hP:∀ q,q<B→¬P q):Below B W w':=Xef h hB hC hP
theorem Xa6 {P:Nat→Prop} (h:Whl w g' t cs) (hC:Chg P w w') (hn:¬P g'):Whl w' g' t cs:=(hC.2 g' (Xgv h) hn).trans h
theorem Xe4 {H n c:Nat} {A:Option Addr} {xs:List Int} (h:OwnI H w A n c xs) (ht:Trn g w w') (hg:g<H):OwnI H w' A n c xs:=Xbu h ht.1 (fun ad e q=>by have:=(Xat h.2 ad e).1;omega)
theorem Xiu {H n c:Nat} {A:Option Addr} {ls:List Line} (h:OwnL H w A n c ls) (ht:Trn g w w') (hg:g<H):OwnL H w' A n c ls:=
 ⟨h.1,h.2.1,h.2.2.1,Xdc h.2.2.2 ht.1 (fun ad e q=>by have:=(Xat h.2.2.2 ad e).1;omega)⟩
theorem Xhx (hs:g<w.heap.size) (o:Nat) (u:Value):Trn g w (w.setCell ⟨g,o,none⟩ u):=⟨Xbb (P:=fun q=>q=g) (Xaq w) (p:=⟨g,o,none⟩) (Or.inl rfl) u,by simp⟩
theorem Xlq:∀(vs:List Value) (o:Nat) (w:World),g<w.heap.size→Trn g w (w.setCells g o vs)
 |[],_,w,_=>⟨Xaq w,rfl⟩
 |v :: r,o,w,h=>by
  have h1:=Xhx (w:=w) (g:=g) h o v
  have h2:=Xlq r (o+1) (w.setCell ⟨g,o,none⟩ v) (by simpa using h)
  rw[World.setCells]
  exact⟨Xa4 h1.1 h2.1,h2.2.trans h1.2⟩
theorem Xw9 {cells:Array Value} (h:Whl w g t cs):Trn g w (w.setRow g cells):=by
 refine⟨⟨?_,fun q hq hn=>setRow_other w g q cells hn⟩,by simp[World.setRow]⟩
 exact⟨rfl,rfl,rfl,by simp[World.setRow],fun k hk=>absurd hk (Nat.not_lt_zero k)⟩
def setL:Array Value→Nat→List Value→Array Value
 |cs,_,[]=>cs
 |cs,o,v :: r=>setL (cs.setIfInBounds o v) (o+1) r
theorem Xlm:∀(vs:List Value) (o:Nat) (w:World) (cs:Array Value),Whl w g t cs→Whl (w.setCells g o vs) g t (setL cs o vs)
 |[],_,_,_,h=>h
 |v :: r,o,w,cs,h=>by
  rw[World.setCells]
  exact Xlm r (o+1) _ _ (Xas h o v _ rfl)
theorem Xc4 (h:Whl w g t cs) {o n:Nat} (hn:o+n≤cs.size):w.there g o n:=fun j hj=>
 ⟨by rw[Xad h];simp;omega,Xhv h _⟩
theorem Xq9 (h:Whl w g t cs) {o:Nat} {vs:List Value} (e:(cs.toList.drop o).take vs.length=vs):w.rangeAt g o vs:=fun j v hv=>by
 rw[Xad h,←Array.getElem?_toList]
 rw[←e,List.getElem?_take,List.getElem?_drop]at hv
 split at hv
 ·exact hv
 ·cases hv
end
section
variable {P:Program} {ops:Array Oper} {rest:List Oper} {o:Oper} {a:Act} {w:World} {Q:Exit→Act→World→Prop}
theorem Xaj (hgd:o.guard=none) (ty:TypeId) (x y:Operand) (ho:o.op=.store ty x y) (g:Nat) (t:TypeId) (old cells:Array Value) (hx:a.eval x=.pointer (some ⟨g,0,none⟩)) (hy:a.eval y=.agg cells) (hg:Whl w g t old)
  (hi:(P.info? ty).map (·.size)=some cells.size) (hold:old.size=cells.size) (h1:cells.toList.all (·.oneCell')=true)
  (h:∀ w',Whl w' g t cells→Trn g w w'→wpList P ops Q rest (a.put o.dst undef) w'):wpList P ops Q (o :: rest) a w:=
 Xir hgd ty x y ho g t old cells hx hy hg hi hold (by rw[←Array.all_toList];exact h1) (h _ (Xui hg cells) (Xw9 hg))
theorem Xbl (hgd:o.guard=none) (ty:TypeId) (x y:Operand) (ho:o.op=.store ty x y) (g off:Nat) (t:TypeId) (old cells new:Array Value) (hx:a.eval x=.pointer (some ⟨g,off,none⟩)) (hy:a.eval y=.agg cells) (hg:Whl w g t old)
  (hi:(P.info? ty).map (·.size)=some cells.size) (hold:decide (off+cells.size≤old.size)=true) (h1:cells.toList.all (·.oneCell')=true) (hn:setL old off cells.toList=new)
  (h:∀ w',Whl w' g t new→Trn g w w'→wpList P ops Q rest (a.put o.dst undef) w'):wpList P ops Q (o :: rest) a w:=by
 subst hn
 exact wpList_store_mid hgd ty x y ho g off cells hx hy (Xc4 hg (of_decide_eq_true hold)) hi (by rw[←Array.all_toList];exact h1) (h _ (Xlm _ _ _ _ hg) (Xlq _ _ _ (Xgv hg)))
theorem Xau (hgd:o.guard=none) (ty:TypeId) (x y:Operand) (ho:o.op=.store ty x y) (g off:Nat) (t:TypeId) (old new:Array Value) (v:Value) (hx:a.eval x=.pointer (some ⟨g,off,none⟩)) (hy:a.eval y=v) (hg:Whl w g t old)
  (hi:(P.info? ty).map (·.size)=some 1) (hold:off<old.size) (h1:v.oneCell'=true) (hn:old.setIfInBounds off v=new)
  (h:∀ w',Whl w' g t new→Trn g w w'→wpList P ops Q rest (a.put o.dst undef) w'):wpList P ops Q (o :: rest) a w:=by
 subst hn
 refine wpList_plain hgd fun _ hK=>?_
 have hc:v.cells=#[v]:=by cases v<;>first|rfl|cases h1
 have hr:(storeVar ty ⟨g,off,none⟩ v).run P w=.ok () (w.setCell ⟨g,off,none⟩ v):=by
  have:=run_storeCells_cells (P:=P) g off [v] 0 w (fun j hj=>by
    have e:j=0:=by simpa using hj
    subst e;rw[Xad hg];simp;omega)
   (fun j hj=>Xhv hg _) (fun u hu=>by simp at hu;subst hu;exact h1)
  cases hq:P.info? ty with
  |none=>simp[hq]at hi
  |some i=>
   have hs:i.size=1:=by simpa[hq]using hi
   simp only[Nat.add_zero,World.setCells]at this
   simp[storeVar,sizeOf,typeInfo,hq,hc,hs,this]
 unfold Oper.wp execOp
 simp only[ho,hx,hy,Instr.storeAt,Instr.sureAddr,Sem.run_bind,Sem.run_pure,Result.andThen_ok,hr]
 exact hK _ _ (h _ (Xas hg _ _ _ rfl) (Xhx (Xgv hg) _ _))
theorem Xa1 (hgd:o.guard=none) (ty:TypeId) (x:Operand) (ho:o.op=.load ty x) (g off:Nat) (t:TypeId) (cs:Array Value) (vs:List Value) (hx:a.eval x=.pointer (some ⟨g,off,none⟩)) (hg:Whl w g t cs) (e:(cs.toList.drop off).take vs.length=vs)
  (d:TypeDesc) (hu:P.underlying ty=some d) (hd:d.isRow=true) (hi:(P.info? ty).map (·.size)=some vs.length)
  (h:wpList P ops Q rest (a.put o.dst (.agg vs.toArray)) w):wpList P ops Q (o :: rest) a w:=
 wpList_load_mid hgd ty x ho g off hx vs d (Xq9 hg e) hu hd hi h
end
theorem Xbx {P:Program} {w:World} {g:Nat} {t ty:TypeId} {cs:Array Value} (h:Whl w g t cs) (d:TypeDesc) (hu:P.underlying ty=some d) (hd:(match d with|.struct _|.array _ _=>true|_=>false)=true) (hi:(P.info? ty).map (·.size)=some cs.size):(loadVar ty ⟨g,0,none⟩).run P w=.ok (.agg cs) w:=run_loadVar_row w g t ty cs (0,0) d h hu hd hi
theorem Xc6 {P:Program} {fn:Func} {p q u:Tmp} {ty ty':TypeId} {tmps:Array Value} {w:World} {a b:Addr} {v1 v2 v3:Value} (h:fn.results=#[.cell p ty,.cell q ty',.tmp u]) (hp:tmps.getD p undef=.pointer (some a)) (hq:tmps.getD q undef=.pointer (some b)) (hu:tmps.getD u undef=v3)
  (e1:(loadVar ty a).run P w=.ok v1 w) (e2:(loadVar ty' b).run P w=.ok v2 w):(results fn tmps).run P w=.ok (.tuple #[v1,v2,v3]) w:=by
 have hp':tmps[p]?.getD undef=.pointer (some a):=by simpa using hp
 have hq':tmps[q]?.getD undef=.pointer (some b):=by simpa using hq
 have hu':tmps[u]?.getD undef=v3:=by simpa using hu
 simp[results,h,hp',hq',hu',asAddr,e1,e2]
def RowIn (Av:Nat→Prop) (A:Option Addr) (n:Nat):Prop:=0<n→∀ ad,A=some ad→Av ad.block
section
variable {P Av Av':Nat→Prop} {w w':World} {A:Option Addr} {n c k:Nat}
theorem RowIn.mono (h:RowIn Av A n) (ha:∀ q,Av q→Av' q):RowIn Av' A n:=fun h0 ad e=>ha _ (h h0 ad e)
theorem Xhz {xs:List Int} (h:Ints w w.heap.size A n xs):RowIn (fun q=>q<w.heap.size) A n:=fun h0 ad e=>by
 obtain⟨b,off,e',hb,_⟩:=h.2.2 (by rw[List.length_map,h.1];exact h0)
 rw[e]at e';injection e' with e';subst e';exact hb
theorem Xi6 {ls:List Line} (h:Lines w w.heap.size A n c ls):RowIn (fun q=>q<w.heap.size) A n:=fun h0 ad e=>by
 obtain⟨b,off,e',hb,_⟩:=h.at_ h0
 rw[e]at e';injection e' with e';subst e';exact hb
theorem Xp7 {ts:List Tch} (h:Tchs w w.heap.size A n c ts):RowIn (fun q=>q<w.heap.size) A n:=fun h0 ad e=>by
 obtain⟨b,off,e',hb,_⟩:=h.at_ h0
 rw[e]at e';injection e' with e';subst e';exact hb
theorem Xfp {ys:List Int} (hx:Ints w w.heap.size A k ys) (h:Chg P w w') (hA:RowIn Av A k) (hn:∀ q,P q→¬Av q):Ints w' w'.heap.size A k ys:=by
 by_cases h0:0<k
 ·exact Xfy hx h (fun ad e hp=>hn _ hp (hA h0 ad e))
 ·exact⟨hx.1,hx.2.1,fun hh=>by rw[List.length_map,hx.1]at hh;omega⟩
theorem Xkj {ls:List Line} (hx:Lines w w.heap.size A n c ls) (h:Chg P w w') (hA:RowIn Av A n) (hn:∀ q,P q→¬Av q):Lines w' w'.heap.size A n c ls:=
 Xc9 hx h (fun h0 ad e hp=>hn _ hp (hA h0 ad e))
theorem Xm0 {ts:List Tch} (hx:Tchs w w.heap.size A n c ts) (h:Chg P w w') (hA:RowIn Av A n) (hn:∀ q,P q→¬Av q):Tchs w' w'.heap.size A n c ts:=by
 by_cases h0:0<n
 ·exact Xwb hx h (fun ad e hp=>hn _ hp (hA h0 ad e))
 ·obtain⟨h1,h2,h3,h4,_⟩:=hx
  refine⟨h1,h2,h3,h4,fun hh=>?_⟩
  exfalso
  have:n=0:=by omega
  rw[this]at h1
  have:ts=[]:=List.eq_nil_of_length_eq_zero h1
  subst this
  simp[Xd0]at hh
end
structure MachV (w:World) (Av:Nat→Prop) (x:Mch) (M:Option Addr) (nm:Nat) (R:Option Addr) (nr:Nat) (L:Option Addr) (n c:Nat):Prop where
 hm:Ints w w.heap.size M nm x.m
 hr:Ints w w.heap.size R nr x.h.regs
 hl:Lines w w.heap.size L n c x.b.cache
 am:RowIn Av M nm
 ar:RowIn Av R nr
 al:RowIn Av L n
section
variable {w w':World} {Av Av' P:Nat→Prop} {x:Mch} {M R L:Option Addr} {nm nr n c:Nat}
theorem Xmk (hm:Ints w w.heap.size M nm x.m) (hr:Ints w w.heap.size R nr x.h.regs) (hl:Lines w w.heap.size L n c x.b.cache):MachV w (fun q=>q<w.heap.size) x M nm R nr L n c:=
 ⟨hm,hr,hl,Xhz hm,Xhz hr,Xi6 hl⟩
theorem MachV.since (h:MachV w Av x M nm R nr L n c) (hs:Below w.heap.size w w'):MachV w' Av x M nm R nr L n c:=⟨Xaf h.hm hs,Xaf h.hr hs,Xah h.hl hs,h.am,h.ar,h.al⟩
theorem MachV.chg (h:MachV w Av x M nm R nr L n c) (hC:Chg P w w') (hP:∀ q,P q→¬Av q):MachV w' Av x M nm R nr L n c:=
 ⟨Xfp h.hm hC h.am hP,Xfp h.hr hC h.ar hP,Xkj h.hl hC h.al hP,h.am,h.ar,h.al⟩
theorem MachV.trn {g:Nat} (h:MachV w Av x M nm R nr L n c) (hC:Trn g w w') (hg:¬Av g):MachV w' Av x M nm R nr L n c:=h.chg hC.1 (fun q e=>by rw[e];exact hg)
theorem MachV.av (h:MachV w Av x M nm R nr L n c) (ha:∀ q,Av q→Av' q):MachV w Av' x M nm R nr L n c:=⟨h.hm,h.hr,h.hl,h.am.mono ha,h.ar.mono ha,h.al.mono ha⟩
end
structure TldV (w:World) (Av:Nat→Prop) (t:Tld) (D:Option Addr) (dn:Nat) (T:Option Addr) (tn tc:Nat):Prop where
 hd:Ints w w.heap.size D dn t.data
 ht:Tchs w w.heap.size T tn tc t.touched
 ad:RowIn Av D dn
 at_:RowIn Av T tn
section
variable {w w':World} {Av Av' P:Nat→Prop} {t:Tld} {D T:Option Addr} {dn tn tc:Nat}
theorem TldV.since (h:TldV w Av t D dn T tn tc) (hs:Below w.heap.size w w'):TldV w' Av t D dn T tn tc:=⟨Xaf h.hd hs,Xe5 h.ht hs,h.ad,h.at_⟩
theorem TldV.chg (h:TldV w Av t D dn T tn tc) (hC:Chg P w w') (hP:∀ q,P q→¬Av q):TldV w' Av t D dn T tn tc:=⟨Xfp h.hd hC h.ad hP,Xm0 h.ht hC h.at_ hP,h.ad,h.at_⟩
theorem TldV.trn {g:Nat} (h:TldV w Av t D dn T tn tc) (hC:Trn g w w') (hg:¬Av g):TldV w' Av t D dn T tn tc:=h.chg hC.1 (fun q e=>by rw[e];exact hg)
theorem TldV.av (h:TldV w Av t D dn T tn tc) (ha:∀ q,Av q→Av' q):TldV w Av' t D dn T tn tc:=⟨h.hd,h.ht,h.ad.mono ha,h.at_.mono ha⟩
end
end Go.Proofs.YtbopdijnojaaiadGreat
