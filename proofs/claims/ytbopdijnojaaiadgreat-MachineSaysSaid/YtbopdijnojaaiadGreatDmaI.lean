/- The devices: how memory stands while an ask is done (laws). No statement of the seat is proved here. -/
import Derived.Test.YtbopdijnojaaiadGreatTch
import Derived.Test.YtbopdijnojaaiadGreatMem
import Derived.Test.YtbopdijnojaaiadGreatBridgeS
namespace Go.Proofs.YtbopdijnojaaiadGreat
open Go.RowKit
set_option linter.unusedSimpArgs false
set_option linter.unusedVariables false
def Chg (P:Nat→Prop) (w w':World):Prop:=Below 0 w w'∧∀ q,q<w.heap.size→¬P q→w'.heap[q]?=w.heap[q]?
section
variable {P Q:Nat→Prop} {w W W':World}
theorem Xaq (w:World):Chg P w w:=⟨Below.refl _ _,fun _ _ _=>rfl⟩
theorem Chg.size (h:Chg P w W):w.heap.size≤W.heap.size:=Below.size h.1
theorem Xa5 (h:Chg P w W):Chg P w W.drew:=⟨Below.drew h.1,h.2⟩
theorem Xa7 (h:Chg P w W) (n:Nat):Chg P w (W.drewN n):=⟨Xbs h.1 n,h.2⟩
theorem Xay (h:Chg P w W) (o:Obj):Chg P w (W.alloc o):=⟨Below.alloc h.1 (Nat.zero_le _) o,fun q hq hp=>(Below.heap_alloc W o q (Nat.lt_of_lt_of_le hq h.size)).trans (h.2 q hq hp)⟩
theorem Xbb (h:Chg P w W) {p:Addr} (hp:P p.block∨w.heap.size≤p.block) (u:Value):Chg P w (W.setCell p u):=
 ⟨Below.setCell h.1 (Nat.zero_le _) u,fun q hq hn=>(Below.heap_setCell W p u q (fun e=>by subst e;rcases hp with hp|hp;exact hn hp;omega)).trans (h.2 q hq hn)⟩
theorem Xa4 (h:Chg P w W) (h':Chg P W W'):Chg P w W':=⟨Below.trans h.1 h'.1,fun q hq hn=>(h'.2 q (Nat.lt_of_lt_of_le hq h.size) hn).trans (h.2 q hq hn)⟩
theorem Xfo (h:Chg P w W) (h':Xan W W'):Chg P w W':=⟨Below.trans h.1 (Below.mono h' (Nat.zero_le _)),fun q hq hn=>(Below.block h' q (Nat.lt_of_lt_of_le hq h.size)).trans (h.2 q hq hn)⟩
theorem Xbp (h:Chg P w W) (hPQ:∀ q,q<w.heap.size→P q→Q q):Chg Q w W:=⟨h.1,fun q hq hn=>h.2 q hq (fun hp=>hn (hPQ q hq hp))⟩
theorem Xdm {row:Option Nat} (h:Chg P w W) (hg:W.grownBy W' row) (hr:∀ k,row=some k→P k∨w.heap.size≤k):Chg P w W':=
 ⟨Below.grown h.1 hg (Nat.zero_le _) (fun _ _=>Nat.zero_le _),fun q hq hn=>(hg.block q (Nat.lt_of_lt_of_le hq h.size) (fun e=>by rcases hr q e.symm with hp|hp;exact hn hp;omega)).trans (h.2 q hq hn)⟩
theorem Xbk {p:Addr} {v:Value} (hc:w.cell? p=some v) (h:Chg P w W) (hn:¬P p.block):W.cell? p=some v:=(World.cell?_of_block (w:=w) (h.2 p.block (Xbm hc) hn)).trans hc
theorem Xb8 {p:Addr} (hl:p.block<w.heap.size) (h:Chg P w W) (hn:¬P p.block):W.frozen? p=w.frozen? p:=World.frozen?_of_block (w:=w) (h.2 p.block hl hn)
theorem Xog {B:Nat} {A:Option Addr} {vs:List Value} (hx:Row w B A vs) (hB:B≤w.heap.size) (h:Chg P w W) (hn:∀ ad,A=some ad→¬P ad.block):Row W B A vs:=fun h0=>by
 obtain⟨b,off,e,hb,hc⟩:=hx h0
 exact⟨b,off,e,hb,fun k v hv=>Xbk (hc k v hv) h (hn ⟨b,off,none⟩ e)⟩
theorem Xfy {k:Nat} {A:Option Addr} {ys:List Int} (hx:Ints w w.heap.size A k ys) (h:Chg P w W) (hn:∀ ad,A=some ad→¬P ad.block):Ints W W.heap.size A k ys:=
 ⟨hx.1,hx.2.1,(Xog hx.2.2 (Nat.le_refl _) h hn).more h.size⟩
theorem Xc9 {k d:Nat} {A:Option Addr} {ls:List Line} (hx:Lines w w.heap.size A k d ls) (h:Chg P w W) (hn:0<k→∀ ad,A=some ad→¬P ad.block):Lines W W.heap.size A k d ls:=
 ⟨hx.1,hx.2.1,hx.2.2.1,hx.2.2.2.1,fun h0=>(Xog hx.2.2.2.2 (Nat.le_refl _) h (hn (by rw[Xbt,hx.1]at h0;omega))).more h.size h0⟩
theorem Xwb {k d:Nat} {A:Option Addr} {ls:List Tch} (hx:Tchs w w.heap.size A k d ls) (h:Chg P w W) (hn:∀ ad,A=some ad→¬P ad.block):Tchs W W.heap.size A k d ls:=
 ⟨hx.1,hx.2.1,hx.2.2.1,hx.2.2.2.1,(Xog hx.2.2.2.2 (Nat.le_refl _) h hn).more h.size⟩
theorem Xdc {B size n m c:Nat} {e:TypeId} {A:Option Addr} {ys:List Value} (hx:w.ownsRow B e size (.slice A m c) n ys) (h:Chg P w W) (hn:∀ ad,A=some ad→¬P ad.block):W.ownsRow B e size (.slice A m c) n ys:=by
 have hb:=Xat hx
 obtain⟨h1,h2⟩:=hx
 refine⟨h1, ?_⟩
 rcases h2 with h2|⟨g,cap,cur,hv,hg,hh,r⟩
 ·exact Or.inl h2
 ·have hA:A=some ⟨g,0,none⟩:=by injection hv
  exact Or.inr ⟨g,cap,cur,hv,hg,(h.2 g (hb _ hA).2 (hn _ hA)).trans hh,r⟩
theorem Xbu {B n c:Nat} {A:Option Addr} {xs:List Int} (hx:OwnI B w A n c xs) (h:Chg P w W) (hn:∀ ad,A=some ad→¬P ad.block):OwnI B W A n c xs:=⟨hx.1,Xdc hx.2 h hn⟩
theorem Xhr {B n c:Nat} {A:Option Addr} {xs:List Tch} (hx:OwnT B w A n c xs) (h:Chg P w W) (hn:∀ ad,A=some ad→¬P ad.block):OwnT B W A n c xs:=⟨hx.1,hx.2.1,hx.2.2.1,Xdc hx.2.2.2 h hn⟩
theorem Xec {g n c:Nat} {b:Brg} {A:Option Addr} (hb:Xbj w g b A n c) (h:Chg P w W) (hn:¬P g):Xbj W g b A n c:=by
 obtain⟨h0,h1,h2,h3,h4,h5,h6,h7,h8,h9,h10,h11⟩:=hb
 exact⟨Xbk h0 h hn,Xbk h1 h hn,Xbk h2 h hn,Xbk h3 h hn,Xbk h4 h hn,Xbk h5 h hn,Xbk h6 h hn,Xbk h7 h hn,Xbk h8 h hn,Xbk h9 h hn,Xbk h10 h hn,Xbk h11 h hn⟩
theorem Xef {w0:World} {B:Nat} (hb:Below B w0 w) (hB:B≤w.heap.size) (h:Chg P w W) (hP:∀ q,q<B→¬P q):Below B w0 W:=
 Below.trans hb ⟨h.1.os,h.1.tape,h.1.output,h.1.size,fun k hk=>h.2 k (Nat.lt_of_lt_of_le hk hB) (hP k hk)⟩
end
theorem Xh2 {B g n c k:Nat} {w:World} {xs:List Int} (h:OwnI B w (some ⟨g,0,none⟩) n c xs) (hk:k<n) (x:Int):OwnI B (w.setCell ⟨g,k,none⟩ (.int .i64 x)) (some ⟨g,0,none⟩) n c (xs.set k x):=by
 obtain⟨g',e,_,_,_,_,hp⟩:=Xb3 h (by omega)
 injection e with e
 injection e with e
 subst e
 exact hp k x hk
theorem Xnl {B:Nat} {W w1:World} (h:Below B W w1) (hB:W.heap.size≤B):Below W.heap.size W w1:=h.mono hB
theorem Xcz {W:World} {cs:Array Value} {t:TypeId} {H:Nat} {vs:List Value} (hH:W.heap.size=H) (hv:cs.toList=vs):∀ j u,vs[j]?=some u→(W.alloc (.cells cs t)).cell? ((⟨H,0,none⟩:Addr).add j)=some u:=by
 subst hH hv
 exact World.news_of_block (heap_alloc_new W _)
theorem Xkq (x:Tch):∀ u∈x.vals,u.oneCell'=true:=by
 intro u hu
 simp[Tch.vals]at hu
 rcases hu with rfl|rfl|rfl|rfl|rfl<;>rfl
theorem Xh8 (v:Int):∀ u∈[Value.int .i64 v],u.oneCell'=true:=by
 intro u hu
 simp at hu
 subst hu;rfl
theorem Xi0 {a:Ask} {i k j:Nat} {s:Dst} {R:List Int×Brg×Tld} (h:dGo a k i s=R) (hk:k=j+1) (hp:Xet a i=s.page):dGo a j (i+1) (Xf3 a i s)=R:=by
 subst hk;rw[←h];show _=dGo a (j+1) i s;rw[dGo,if_pos hp]
theorem Xla {a:Ask} {i k j:Nat} {s:Dst} {R:List Int×Brg×Tld} (h:dGo a k i s=R) (hk:k=j+1) (hp:Xet a i≠s.page) (hf:(Xdb a i s).2.2=0):dGo a j (i+1) (Xf3 a i (Xg8 a i s))=R:=by
 subst hk;rw[←h];show _=dGo a (j+1) i s;rw[dGo,if_neg hp,if_pos hf]
theorem Xiz {a:Ask} {i k j:Nat} {s:Dst} {R:List Int×Brg×Tld} (h:dGo a k i s=R) (hk:k=j+1) (hp:Xet a i≠s.page) (hf:(Xdb a i s).2.2≠0):Xmu a i s=R:=by
 subst hk;rw[←h];show _=dGo a (j+1) i s;rw[dGo,if_neg hp,if_neg hf]
theorem Xkb (w:World) (e:TypeId) (size B H:Nat) (hH:w.heap.size=H) (hB:B≤H):(w.alloc (.cells #[] e)).ownsRow B e size (.slice (some ⟨H,0,none⟩) 0 0) 0 []:=by subst hH;exact Xcv (Xbd w e size) hB
def Xgt (w:World) (g:Nat) (t:Tld) (D:Option Addr) (dn dc:Nat) (T:Option Addr) (tn tc:Nat):Prop:=
 w.cell? ⟨g,0,none⟩=some (.bool t.done)∧w.cell? ⟨g,1,none⟩=some (.slice D dn dc)∧w.cell? ⟨g,2,none⟩=some (.int .i64 t.fault)∧w.cell? ⟨g,3,none⟩=some (.slice T tn tc)
theorem Xeb {P:Nat→Prop} {w W:World} {g dn dc tn tc:Nat} {t:Tld} {D T:Option Addr} (hb:Xgt w g t D dn dc T tn tc) (h:Chg P w W) (hn:¬P g):Xgt W g t D dn dc T tn tc:=by
 obtain⟨h0,h1,h2,h3⟩:=hb
 exact⟨Xbk h0 h hn,Xbk h1 h hn,Xbk h2 h hn,Xbk h3 h hn⟩
def Xq8 (w:World) (g:Nat) (a:Ask) (D:Option Addr) (nd cd:Nat):Prop:=
 w.cell? ⟨g,0,none⟩=some (.int .i64 a.dev)∧w.cell? ⟨g,1,none⟩=some (.int .i64 a.at_)∧w.cell? ⟨g,2,none⟩=some (.int .i64 a.count)∧w.cell? ⟨g,3,none⟩=some (.bool a.wr)∧w.cell? ⟨g,4,none⟩=some (.slice D nd cd)
theorem Xie {P:Nat→Prop} {w W:World} {g nd cd:Nat} {a:Ask} {D:Option Addr} (hb:Xq8 w g a D nd cd) (h:Chg P w W) (hn:¬P g):Xq8 W g a D nd cd:=by
 obtain⟨h0,h1,h2,h3,h4⟩:=hb
 exact⟨Xbk h0 h hn,Xbk h1 h hn,Xbk h2 h hn,Xbk h3 h hn,Xbk h4 h hn⟩
def Xbe (g gt q:Nat):Prop:=(g≤q∧q<g+6)∨q=gt
structure DmaI (w:World) (a:Ask) (AD:Option Addr) (nd cd gt gM mc:Nat) (L:Option Addr) (n c:Nat) (D:Option Addr) (dn dc:Nat) (T:Option Addr) (tn tc:Nat) (s:Dst) (W:World):Prop where
 below:Below w.heap.size w W
 gt1:w.heap.size+6≤gt
 gt2:gt<W.heap.size
 m0:W.cell? ⟨w.heap.size,0,none⟩=some (.slice (some ⟨gM,0,none⟩) 512 mc)
 br:Xbj W (w.heap.size+1) s.b L n c
 ask:Xq8 W (w.heap.size+1+1) a AD nd cd
 z3:W.cell? ⟨w.heap.size+1+1+1,0,none⟩=some (.slice none 0 0)
 z4:Xbj W (w.heap.size+1+1+1+1) .no none 0 0
 z5:Xgt W (w.heap.size+1+1+1+1+1) .no none 0 0 none 0 0
 tl:Xgt W gt ⟨false,s.data,0,s.touched⟩ D dn dc T tn tc
 fz:∀ q o,Xbe w.heap.size gt q→W.frozen? ⟨q,o,none⟩=false
 rm:OwnI (w.heap.size+6) W (some ⟨gM,0,none⟩) 512 mc s.xs
 rl:Lines W W.heap.size L n c s.b.cache
 rd:OwnI (w.heap.size+6) W D dn dc s.data
 rt:OwnT (w.heap.size+6) W T tn tc s.touched
 fM:gM≠gt
 fL:0<n→∀ ad,L=some ad→(ad.block<w.heap.size∨w.heap.size+6≤ad.block)∧ad.block≠gt∧ad.block≠gM
 fD:∀ ad,D=some ad→ad.block≠gt∧ad.block≠gM∧∀ ad',0<n→L=some ad'→ad.block≠ad'.block
 fT:∀ ad,T=some ad→ad.block≠gt∧ad.block≠gM∧(∀ ad',0<n→L=some ad'→ad.block≠ad'.block)∧∀ ad',D=some ad'→ad.block≠ad'.block
section
variable {w W W':World} {a:Ask} {AD L D T:Option Addr} {nd cd gt gM mc n c dn dc tn tc:Nat} {s:Dst}
theorem DmaI.gM1 (h:DmaI w a AD nd cd gt gM mc L n c D dn dc T tn tc s W):w.heap.size+6≤gM∧gM<W.heap.size:=Xat h.rm.2 _ rfl
theorem DmaI.bD (h:DmaI w a AD nd cd gt gM mc L n c D dn dc T tn tc s W):∀ ad,D=some ad→w.heap.size+6≤ad.block∧ad.block<W.heap.size:=Xat h.rd.2
theorem DmaI.bT (h:DmaI w a AD nd cd gt gM mc L n c D dn dc T tn tc s W):∀ ad,T=some ad→w.heap.size+6≤ad.block∧ad.block<W.heap.size:=Xat h.rt.2.2.2
theorem DmaI.mem (h:DmaI w a AD nd cd gt gM mc L n c D dn dc T tn tc s W) (hC:Chg (fun q=>q=gM) W W') {ys:List Int} (ho:OwnI (w.heap.size+6) W' (some ⟨gM,0,none⟩) 512 mc ys) :
  DmaI w a AD nd cd gt gM mc L n c D dn dc T tn tc ⟨ys,s.b,s.data,s.touched,s.at_,s.page⟩ W':=by
 have h1:=h.gM1
 have h2:=h.gt1
 have h3:=h.gt2
 have h4:=Below.size h.below
 have hx:∀ q,Xbe w.heap.size gt q→¬q=gM:=fun q hq e=>by
  subst e
  rcases hq with hq|hq
  ·omega
  ·exact h.fM hq
 have hz:=hC.size
 exact⟨Xef h.below h4 hC (fun q hq e=>by omega),h2,by omega,Xbk h.m0 hC (hx _ (Or.inl (by simp only[];omega))),Xec h.br hC (hx _ (Or.inl (by omega))),Xie h.ask hC (hx _ (Or.inl (by omega))),
  Xbk h.z3 hC (hx _ (Or.inl (by simp only[];omega))),Xec h.z4 hC (hx _ (Or.inl (by omega))),Xeb h.z5 hC (hx _ (Or.inl (by omega))),Xeb h.tl hC (hx _ (Or.inr rfl)),
  fun q o hq=>(Xb8 (p:=⟨q,o,none⟩) (by rcases hq with hq|hq<;>simp only[]<;>omega) hC (hx q hq)).trans (h.fz q o hq),ho,
  Xc9 h.rl hC (fun h0 ad e=>(h.fL h0 ad e).2.2),Xbu h.rd hC (fun ad e=>(h.fD ad e).2.1),Xhr h.rt hC (fun ad e=>(h.fT ad e).2.1),h.fM,h.fL,h.fD,h.fT⟩
theorem DmaI.memX {X:Nat} (h:DmaI w a AD nd cd gt gM mc L n c D dn dc T tn tc s W) (hC:Chg (fun q=>q=X) W W') (hX:w.heap.size+6≤X∧X≠gt∧X≠gM) (hL:0<n→∀ ad,L=some ad→ad.block≠X) (hD:∀ ad,D=some ad→ad.block≠X) (hT:∀ ad,T=some ad→ad.block≠X) :
  DmaI w a AD nd cd gt gM mc L n c D dn dc T tn tc s W':=by
 obtain⟨x1,x2,x3⟩:=hX
 have h2:=h.gt1
 have h3:=h.gt2
 have h4:=Below.size h.below
 have hx:∀ q,Xbe w.heap.size gt q→¬q=X:=fun q hq e=>by
  subst e
  rcases hq with hq|hq
  ·omega
  ·exact x2 hq
 have hz:=hC.size
 exact⟨Xef h.below h4 hC (fun q hq e=>by omega),h2,by omega,Xbk h.m0 hC (hx _ (Or.inl (by simp only[];omega))),Xec h.br hC (hx _ (Or.inl (by omega))),Xie h.ask hC (hx _ (Or.inl (by omega))),
  Xbk h.z3 hC (hx _ (Or.inl (by simp only[];omega))),Xec h.z4 hC (hx _ (Or.inl (by omega))),Xeb h.z5 hC (hx _ (Or.inl (by omega))),Xeb h.tl hC (hx _ (Or.inr rfl)),
  fun q o hq=>(Xb8 (p:=⟨q,o,none⟩) (by rcases hq with hq|hq<;>simp only[]<;>omega) hC (hx q hq)).trans (h.fz q o hq),Xbu h.rm hC (fun ad e=>by injection e with e;subst e;exact fun e=>x3 e.symm),
  Xc9 h.rl hC (fun h0 ad e=>hL h0 ad e),Xbu h.rd hC hD,Xhr h.rt hC hT,h.fM,h.fL,h.fD,h.fT⟩
theorem DmaI.brg (h:DmaI w a AD nd cd gt gM mc L n c D dn dc T tn tc s W) (hC:Chg (fun q=>q=w.heap.size+1) W W') (hf:∀ o,W'.frozen? ⟨w.heap.size+1,o,none⟩=false) {b':Brg} {L':Option Addr} {n' c':Nat} (hb:Xbj W' (w.heap.size+1) b' L' n' c') (hl:Lines W' W'.heap.size L' n' c' b'.cache) (hn:(L'=L∧n'=n)∨∀ ad,L'=some ad→W.heap.size≤ad.block) (at_ page:Int) :
  DmaI w a AD nd cd gt gM mc L' n' c' D dn dc T tn tc ⟨s.xs,b',s.data,s.touched,at_,page⟩ W':=by
 have h1:=h.gM1
 have h2:=h.gt1
 have h3:=h.gt2
 have h4:=Below.size h.below
 have hz:=hC.size
 have hD:=h.bD
 have hT:=h.bT
 refine⟨Xef h.below h4 hC (fun q hq e=>by omega),h2,by omega,Xbk h.m0 hC (by simp only[];omega),hb,Xie h.ask hC (by omega),
  Xbk h.z3 hC (by simp only[];omega),Xec h.z4 hC (by omega),Xeb h.z5 hC (by omega),Xeb h.tl hC (by omega), ?_,
  Xbu h.rm hC (fun ad e=>by injection e with e;subst e;simp only[];omega),hl,Xbu h.rd hC (fun ad e=>by have:=hD ad e;omega),Xhr h.rt hC (fun ad e=>by have:=hT ad e;omega),h.fM, ?_, ?_, ?_⟩
 ·intro q o hq
  by_cases e:q=w.heap.size+1
  ·rw[e];exact hf o
  ·exact(Xb8 (p:=⟨q,o,none⟩) (by rcases hq with hq|hq<;>simp only[]<;>omega) hC e).trans (h.fz q o hq)
 ·intro h0 ad e
  rcases hn with⟨rfl,rfl⟩|hn
  ·exact h.fL h0 ad e
  ·have:=hn ad e;exact⟨by omega,by omega,by omega⟩
 ·intro ad e
  obtain⟨q1,q2,q3⟩:=h.fD ad e
  refine⟨q1,q2,fun ad' h0 e'=>?_⟩
  rcases hn with⟨rfl,rfl⟩|hn
  ·exact q3 ad' h0 e'
  ·have:=hD ad e;have:=hn ad' e';omega
 ·intro ad e
  obtain⟨q1,q2,q3,q4⟩:=h.fT ad e
  refine⟨q1,q2,fun ad' h0 e'=>?_,q4⟩
  rcases hn with⟨rfl,rfl⟩|hn
  ·exact q3 ad' h0 e'
  ·have:=hT ad e;have:=hn ad' e';omega
theorem DmaI.lb (h:DmaI w a AD nd cd gt gM mc L n c D dn dc T tn tc s W):0<n→∀ ad,L=some ad→ad.block<W.heap.size:=fun h0 ad e=>by
 obtain⟨b,off,e',hb,_⟩:=h.rl.at_ h0
 rw[e]at e';injection e' with e';subst e';exact hb
theorem DmaI.brgL {W2:World} (h:DmaI w a AD nd cd gt gM mc L n c D dn dc T tn tc s W) (hS:Xan W W2) {b':Brg} {L':Option Addr} {n' c':Nat} (hl:Lines W2 W2.heap.size L' n' c' b'.cache) (hn:(L'=L∧n'=n)∨∀ ad,L'=some ad→W.heap.size≤ad.block)
  (hC:Chg (fun q=>q=w.heap.size+1) W2 W') (hf:∀ o,W'.frozen? ⟨w.heap.size+1,o,none⟩=false) (hb:Xbj W' (w.heap.size+1) b' L' n' c') (at_ page:Int) :
  DmaI w a AD nd cd gt gM mc L' n' c' D dn dc T tn tc ⟨s.xs,b',s.data,s.touched,at_,page⟩ W':=by
 refine h.brg (Xa4 (Xfo (Xaq W) hS) hC) hf hb (Xc9 hl hC (fun h0 ad e hq=>?_)) hn at_ page
 have h1:=h.gt1
 have h2:=h.gt2
 rcases hn with⟨rfl,rfl⟩|hn
 ·have:=h.fL h0 ad e;omega
 ·have:=hn ad e;omega
theorem DmaI.data (h:DmaI w a AD nd cd gt gM mc L n c D dn dc T tn tc s W) (hC:Chg (fun q=>q=gt∨∃ ad,D=some ad∧ad.block=q) W W') (hf:∀ o,W'.frozen? ⟨gt,o,none⟩=false) {gd dn' dc':Nat} {ys:List Int}
  (ho:OwnI (w.heap.size+6) W' (some ⟨gd,0,none⟩) dn' dc' ys) (hn:(∃ ad,D=some ad∧ad.block=gd)∨W.heap.size≤gd) (ht:Xgt W' gt ⟨false,ys,0,s.touched⟩ (some ⟨gd,0,none⟩) dn' dc' T tn tc) :
  DmaI w a AD nd cd gt gM mc L n c (some ⟨gd,0,none⟩) dn' dc' T tn tc ⟨s.xs,s.b,ys,s.touched,s.at_,s.page⟩ W':=by
 have h1:=h.gM1
 have h2:=h.gt1
 have h3:=h.gt2
 have h4:=Below.size h.below
 have hz:=hC.size
 have hD:=h.bD
 have hT:=h.bT
 have hL:=h.lb
 have hx:∀ q,q<w.heap.size+6→¬(q=gt∨∃ ad,D=some ad∧ad.block=q):=fun q hq e=>by
  rcases e with e|⟨ad,e,e'⟩
  ·omega
  ·have:=hD ad e;omega
 refine⟨Xef h.below h4 hC (fun q hq=>hx q (by omega)),h2,by omega,Xbk h.m0 hC (hx _ (by simp only[];omega)),Xec h.br hC (hx _ (by omega)),Xie h.ask hC (hx _ (by omega)),
  Xbk h.z3 hC (hx _ (by simp only[];omega)),Xec h.z4 hC (hx _ (by omega)),Xeb h.z5 hC (hx _ (by omega)),ht, ?_,
  Xbu h.rm hC ?_,Xc9 h.rl hC ?_,ho,Xhr h.rt hC ?_,h.fM,h.fL, ?_, ?_⟩
 ·intro q o hq
  by_cases e:q=gt
  ·rw[e];exact hf o
  ·have hq':q<w.heap.size+6:=by rcases hq with hq|hq;exact hq.2;exact absurd hq e
   exact(Xb8 (p:=⟨q,o,none⟩) (by simp only[];omega) hC (hx q hq')).trans (h.fz q o hq)
 ·intro ad e hq
  injection e with e;subst e
  rcases hq with hq|⟨ad',e',hq⟩
  ·exact h.fM hq
  ·exact(h.fD ad' e').2.1 hq
 ·intro h0 ad e hq
  rcases hq with hq|⟨ad',e',hq⟩
  ·exact(h.fL h0 ad e).2.1 hq
  ·exact(h.fD ad' e').2.2 ad h0 e hq
 ·intro ad e hq
  rcases hq with hq|⟨ad',e',hq⟩
  ·exact(h.fT ad e).1 hq
  ·exact(h.fT ad e).2.2.2 ad' e' hq.symm
 ·intro ad e
  injection e with e;subst e
  rcases hn with⟨ad',e',hq⟩|hq
  ·have:=h.fD ad' e'
   simp only[]at hq ⊢
   exact⟨by omega,by omega,fun ad2 h0 e2=>by have:=this.2.2 ad2 h0 e2;omega⟩
  ·simp only[]
   exact⟨by omega,by omega,fun ad2 h0 e2=>by have:=hL h0 ad2 e2;omega⟩
 ·intro ad e
  obtain⟨q1,q2,q3,q4⟩:=h.fT ad e
  refine⟨q1,q2,q3,fun ad' e'=>?_⟩
  injection e' with e';subst e'
  rcases hn with⟨ad',e',hq⟩|hq
  ·have:=q4 ad' e';simp only[]at hq ⊢;omega
  ·have:=hT ad e;simp only[];omega
theorem DmaI.tch (h:DmaI w a AD nd cd gt gM mc L n c D dn dc T tn tc s W) (hC:Chg (fun q=>q=gt∨∃ ad,T=some ad∧ad.block=q) W W') (hf:∀ o,W'.frozen? ⟨gt,o,none⟩=false) {gd tn' tc':Nat} {ys:List Tch}
  (ho:OwnT (w.heap.size+6) W' (some ⟨gd,0,none⟩) tn' tc' ys) (hn:(∃ ad,T=some ad∧ad.block=gd)∨W.heap.size≤gd) (ht:Xgt W' gt ⟨false,s.data,0,ys⟩ D dn dc (some ⟨gd,0,none⟩) tn' tc') :
  DmaI w a AD nd cd gt gM mc L n c D dn dc (some ⟨gd,0,none⟩) tn' tc' ⟨s.xs,s.b,s.data,ys,s.at_,s.page⟩ W':=by
 have h1:=h.gM1
 have h2:=h.gt1
 have h3:=h.gt2
 have h4:=Below.size h.below
 have hz:=hC.size
 have hD:=h.bD
 have hT:=h.bT
 have hL:=h.lb
 have hx:∀ q,q<w.heap.size+6→¬(q=gt∨∃ ad,T=some ad∧ad.block=q):=fun q hq e=>by
  rcases e with e|⟨ad,e,e'⟩
  ·omega
  ·have:=hT ad e;omega
 refine⟨Xef h.below h4 hC (fun q hq=>hx q (by omega)),h2,by omega,Xbk h.m0 hC (hx _ (by simp only[];omega)),Xec h.br hC (hx _ (by omega)),Xie h.ask hC (hx _ (by omega)),
  Xbk h.z3 hC (hx _ (by simp only[];omega)),Xec h.z4 hC (hx _ (by omega)),Xeb h.z5 hC (hx _ (by omega)),ht, ?_,
  Xbu h.rm hC ?_,Xc9 h.rl hC ?_,Xbu h.rd hC ?_,ho,h.fM,h.fL,h.fD, ?_⟩
 ·intro q o hq
  by_cases e:q=gt
  ·rw[e];exact hf o
  ·have hq':q<w.heap.size+6:=by rcases hq with hq|hq;exact hq.2;exact absurd hq e
   exact(Xb8 (p:=⟨q,o,none⟩) (by simp only[];omega) hC (hx q hq')).trans (h.fz q o hq)
 ·intro ad e hq
  injection e with e;subst e
  rcases hq with hq|⟨ad',e',hq⟩
  ·exact h.fM hq
  ·exact(h.fT ad' e').2.1 hq
 ·intro h0 ad e hq
  rcases hq with hq|⟨ad',e',hq⟩
  ·exact(h.fL h0 ad e).2.1 hq
  ·exact(h.fT ad' e').2.2.1 ad h0 e hq
 ·intro ad e hq
  rcases hq with hq|⟨ad',e',hq⟩
  ·exact(h.fD ad e).1 hq
  ·exact(h.fT ad' e').2.2.2 ad e hq
 ·intro ad e
  injection e with e;subst e
  rcases hn with⟨ad',e',hq⟩|hq
  ·have:=h.fT ad' e'
   simp only[]at hq ⊢
   exact⟨by omega,by omega,fun ad2 h0 e2=>by have:=this.2.2.1 ad2 h0 e2;omega,fun ad2 e2=>by have:=this.2.2.2 ad2 e2;omega⟩
  ·simp only[]
   exact⟨by omega,by omega,fun ad2 h0 e2=>by have:=hL h0 ad2 e2;omega,fun ad2 e2=>by have:=hD ad2 e2;omega⟩
theorem DmaI.since (h:DmaI w a AD nd cd gt gM mc L n c D dn dc T tn tc s W) (hS:Xan W W'):DmaI w a AD nd cd gt gM mc L n c D dn dc T tn tc s W':=
 h.mem (Xfo (Xaq W) hS) (h.rm.below hS)
theorem DmaI.brgz {g:Nat} (h:∀ o,W.cell? ⟨g,o,none⟩=([.int .i64 0,.int .i64 0,.slice none 0 0,.int .i64 0,.int .i64 0,.int .i64 0,.bool false,.int .i64 0,.int .i64 0,.int .i64 0,.int .i64 0,.bool false]:List Value)[o]?):Xbj W g .no none 0 0:=⟨h 0,h 1,h 2,h 3,h 4,h 5,h 6,h 7,h 8,h 9,h 10,h 11⟩
theorem DmaI.tldz {g:Nat} (h:∀ o,W.cell? ⟨g,o,none⟩=([.bool false,.slice none 0 0,.int .i64 0,.slice none 0 0]:List Value)[o]?):Xgt W g .no none 0 0 none 0 0:=⟨h 0,h 1,h 2,h 3⟩
theorem DmaI.start {xs:List Int} {b:Brg} (hb:Below w.heap.size w W) (hz:w.heap.size+6≤W.heap.size) (m0:W.cell? ⟨w.heap.size,0,none⟩=some (.slice (some ⟨gM,0,none⟩) 512 mc)) (br:Xbj W (w.heap.size+1) b L n c) (ask:Xq8 W (w.heap.size+1+1) a AD nd cd)
  (z3:W.cell? ⟨w.heap.size+1+1+1,0,none⟩=some (.slice none 0 0)) (z4:Xbj W (w.heap.size+1+1+1+1) .no none 0 0) (z5:Xgt W (w.heap.size+1+1+1+1+1) .no none 0 0 none 0 0) (fz:∀ q o,w.heap.size≤q→q<w.heap.size+6→W.frozen? ⟨q,o,none⟩=false)
  (rm:OwnI (w.heap.size+6) W (some ⟨gM,0,none⟩) 512 mc xs) (rl:Lines W W.heap.size L n c b.cache) (fL:0<n→∀ ad,L=some ad→(ad.block<w.heap.size∨w.heap.size+6≤ad.block)∧ad.block≠gM) :
  DmaI w a AD nd cd W.heap.size gM mc L n c none 0 0 none 0 0 ⟨xs,b,[],[],0,-1⟩ (W.alloc (.cells B_.t 40)):=by
 have hs:Xan W (W.alloc (.cells B_.t 40)):=Xae (Xal W) _
 have hC:Chg (fun _=>False) W (W.alloc (.cells B_.t 40)):=Xfo (Xaq W) hs
 have hg:=Xat rm.2 _ rfl
 refine⟨Below.trans hb (Below.mono hs (Below.size hb)),hz,by simp,Xak hs m0,Xa0 br hs,Xie ask hC (by simp),Xak hs z3,Xa0 z4 hs,Xeb z5 hC (by simp),⟨by simp[go_sem],by simp[go_sem],by simp[go_sem],by simp[go_sem]⟩, ?_,rm.below hs,Xb0 rl hs,⟨rfl,World.ownsRow_nil _ _ _ _⟩,Xmc _ _, ?_, ?_,(fun ad e=>nomatch e),(fun ad e=>nomatch e)⟩
 ·intro q o hq
  rcases hq with hq|hq
  ·exact(Below.frozen (p:=⟨q,o,none⟩) hs (by simp only[];omega)).trans (fz q o hq.1 hq.2)
  ·subst hq;simp[go_sem]
 ·simp only[]at hg;omega
 ·intro h0 ad e
  have h1:=fL h0 ad e
  obtain⟨b,off,e',hb,_⟩:=rl.at_ h0
  rw[e]at e';injection e' with e';subst e'
  exact⟨h1.1,by simp only[]at hb ⊢;omega,h1.2⟩
theorem Xtm {B size m cap:Nat} {e:TypeId} {g:Nat} {ys:List Value} (h:W.ownsRow B e size (.slice (some ⟨g,0,none⟩) m cap) m ys):m≤cap∧cap≤maxLen:=by
 rcases h.2 with⟨hv,_⟩|⟨g',cap',cur,hv,_,_,h1,h2,_⟩
 ·cases hv
 ·injection hv with _ _ e3;rw[e3];exact⟨h1,h2⟩
theorem Xc5 {A:Option Addr} {m c k:Nat}:(Value.slice A m c).ownBlock=some k→∃ ad,A=some ad∧ad.block=k:=by
 intro h
 cases A with
 |none=>simp[Value.ownBlock]at h
 |some ad=>exact⟨ad,rfl,by simpa[Value.ownBlock]using h⟩
theorem DmaI.tchg {WA w1:World} {g cap:Nat} {ys:List Int} {tt:Tch} (h:DmaI w a AD nd cd gt gM mc L n c D dn dc T tn tc s W) (hC:Chg (fun q=>q=gM) W WA) (ho:OwnI (w.heap.size+6) WA (some ⟨gM,0,none⟩) 512 mc ys)
  (hg:WA.grownBy w1 (Value.slice T tn tc).ownBlock) (hown:w1.ownsRow (w.heap.size+6) 76 5 (.slice (some ⟨g,0,none⟩) (tn+1) cap) (tn+1) (Xd0 s.touched ++ tt.vals)) (hat:(Value.slice T tn tc).ownBlock=some g∨g=WA.heap.size) :
  Xgt w1 gt ⟨false,s.data,0,s.touched⟩ D dn dc T tn tc∧(∀ o,w1.frozen? ⟨gt,o,none⟩=false)∧gt<w1.heap.size ∧
  DmaI w a AD nd cd gt gM mc L n c D dn dc (some ⟨g,0,none⟩) (tn+1) cap ⟨ys,s.b,s.data,s.touched ++ [tt],s.at_,s.page⟩ (w1.setCell ⟨gt,3,none⟩ (.slice (some ⟨g,0,none⟩) (tn+1) cap)):=by
 have hA:=h.mem hC ho
 have hC1:Chg (fun q=>∃ ad,T=some ad∧ad.block=q) WA w1:=Xdm (Xaq WA) hg (fun k e=>Or.inl (Xc5 e))
 have hn:¬∃ ad,T=some ad∧ad.block=gt:=fun⟨ad,e,e'⟩=>(h.fT ad e).1 e'
 have ht:=Xeb hA.tl hC1 hn
 have hz:=hA.gt2
 have hf:∀ o,w1.frozen? ⟨gt,o,none⟩=false:=fun o=>(Xb8 (p:=⟨gt,o,none⟩) (by simp only[];omega) hC1 hn).trans (hA.fz gt o (Or.inr rfl))
 have hz1:=hC1.size
 have hcap:=Xtm hown
 have hl:s.touched.length=tn:=h.rt.1
 refine⟨ht,hf,by omega, ?_⟩
 obtain⟨t0,t1,t2,t3⟩:=ht
 refine hA.tch (Xbb (P:=fun q=>q=gt∨∃ ad,T=some ad∧ad.block=q) (Xbp hC1 (fun q _ hq=>Or.inr hq)) (Or.inl (Or.inl rfl)) _) (fun o=>by simp[go_sem,hf]) ⟨by simp[hl],hcap.1,hcap.2, ?_⟩ ?_ ⟨by simp[go_sem,t0],by simp[go_sem,t1],by simp[go_sem,t2],by simp[go_sem,t3]⟩
 ·rw[Xkr]
  refine Xdc (P:=fun q=>q=gt) (w:=w1) (by simpa[Xd0]using hown) (Xbb (P:=fun q=>q=gt) (Xaq w1) (Or.inl rfl) _) (fun ad e hq=>?_)
  injection e with e
  subst e
  simp only[]at hq
  rcases hat with hat|hat
  ·exact hn (by obtain⟨ad,e,e'⟩:=Xc5 hat;exact⟨ad,e,by omega⟩)
  ·omega
 ·rcases hat with hat|hat
  ·exact Or.inl (Xc5 hat)
  ·exact Or.inr (by omega)
theorem DmaI.datag {WA w1:World} {g cap:Nat} {v:Int} (h:DmaI w a AD nd cd gt gM mc L n c D dn dc T tn tc s W) (hS:Xan W WA)
  (hg:WA.grownBy w1 (Value.slice D dn dc).ownBlock) (hown:w1.ownsRow (w.heap.size+6) 3 1 (.slice (some ⟨g,0,none⟩) (dn+1) cap) (dn+1) (s.data.map (Value.int .i64) ++ [.int .i64 v])) (hat:(Value.slice D dn dc).ownBlock=some g∨g=WA.heap.size) :
  Xgt w1 gt ⟨false,s.data,0,s.touched⟩ D dn dc T tn tc∧(∀ o,w1.frozen? ⟨gt,o,none⟩=false)∧gt<w1.heap.size ∧
  DmaI w a AD nd cd gt gM mc L n c (some ⟨g,0,none⟩) (dn+1) cap T tn tc ⟨s.xs,s.b,s.data ++ [v],s.touched,s.at_,s.page⟩ (w1.setCell ⟨gt,1,none⟩ (.slice (some ⟨g,0,none⟩) (dn+1) cap)):=by
 have hA:=h.since hS
 have hC1:Chg (fun q=>∃ ad,D=some ad∧ad.block=q) WA w1:=Xdm (Xaq WA) hg (fun k e=>Or.inl (Xc5 e))
 have hn:¬∃ ad,D=some ad∧ad.block=gt:=fun⟨ad,e,e'⟩=>(h.fD ad e).1 e'
 have ht:=Xeb hA.tl hC1 hn
 have hz:=hA.gt2
 have hf:∀ o,w1.frozen? ⟨gt,o,none⟩=false:=fun o=>(Xb8 (p:=⟨gt,o,none⟩) (by simp only[];omega) hC1 hn).trans (hA.fz gt o (Or.inr rfl))
 have hz1:=hC1.size
 have hl:s.data.length=dn:=h.rd.1
 refine⟨ht,hf,by omega, ?_⟩
 obtain⟨t0,t1,t2,t3⟩:=ht
 refine hA.data (Xbb (P:=fun q=>q=gt∨∃ ad,D=some ad∧ad.block=q) (Xbp hC1 (fun q _ hq=>Or.inr hq)) (Or.inl (Or.inl rfl)) _) (fun o=>by simp[go_sem,hf]) ⟨by simp[hl], ?_⟩ ?_ ⟨by simp[go_sem,t0],by simp[go_sem,t1],by simp[go_sem,t2],by simp[go_sem,t3]⟩
 ·refine Xdc (P:=fun q=>q=gt) (w:=w1) (by simpa using hown) (Xbb (P:=fun q=>q=gt) (Xaq w1) (Or.inl rfl) _) (fun ad e hq=>?_)
  injection e with e
  subst e
  simp only[]at hq
  rcases hat with hat|hat
  ·exact hn (by obtain⟨ad,e,e'⟩:=Xc5 hat;exact⟨ad,e,by omega⟩)
  ·omega
 ·rcases hat with hat|hat
  ·exact Or.inl (Xc5 hat)
  ·exact Or.inr (by omega)
theorem DmaI.done (h:DmaI w a AD nd cd gt gM mc L n c D dn dc T tn tc s W) (hC:Chg (Xbe w.heap.size gt) W W') :
  Ints W' W'.heap.size (some ⟨gM,0,none⟩) 512 s.xs∧Lines W' W'.heap.size L n c s.b.cache∧Ints W' W'.heap.size D dn s.data∧Tchs W' W'.heap.size T tn tc s.touched∧Below w.heap.size w W':=by
 have h1:=h.gM1
 have h2:=h.gt1
 have h4:=Below.size h.below
 have hl:s.data.length≤9223372036854775807:=by
  have:=h.rd.2
  rcases this.2 with⟨_,e⟩|⟨_,cap,_,hv,_,_,h1,h2,_⟩
  ·have:=h.rd.1;omega
  ·have:=h.rd.1;unfold maxLen at h2;omega
 refine⟨(Xbu h.rm hC (fun ad e hq=>?_)).ints (by decide),Xc9 h.rl hC (fun h0 ad e hq=>?_),(Xbu h.rd hC (fun ad e hq=>?_)).ints (by rw[h.rd.1]at hl;exact hl),(Xhr h.rt hC (fun ad e hq=>?_)).tchs,Xef h.below h4 hC (fun q hq hb=>?_)⟩
 ·injection e with e;subst e;rcases hq with hq|hq
  ·simp only[]at hq;omega
  ·exact h.fM hq
 ·have:=h.fL h0 ad e;rcases hq with hq|hq<;>omega
 ·have:=h.fD ad e;have:=h.bD ad e;rcases hq with hq|hq<;>omega
 ·have:=h.fT ad e;have:=h.bT ad e;rcases hq with hq|hq<;>omega
 ·rcases hb with hb|hb<;>omega
end
end Go.Proofs.YtbopdijnojaaiadGreat
