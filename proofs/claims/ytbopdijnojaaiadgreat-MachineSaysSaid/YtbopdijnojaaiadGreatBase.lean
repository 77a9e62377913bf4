/- The bridge: plain laws on who was let through. No program in sight, no statement of the seat is proved here. -/
import Derived.WalkKit
import Derived.WalkSpells
import Derived.WalkLawsBesides
import Derived.Deep.QuietTactic
import Derived.BigQuiet
import Derived.Lib.Hide
import Derived.Laws.OwnMore
import Derived.Deep.AppendLies
import Derived.Deep.Draws
import Derived.Maps.Views
import Derived.Laws.IdiomCopy
namespace Go.Proofs.YtbopdijnojaaiadGreat
open Go.RowKit
set_option linter.unusedSimpArgs false
set_option linter.unusedVariables false
section
theorem Xbv {k:IntKind} {a b:Int} (h:a=b):Ending.returned (.int k a)=.returned (.int k b):=by rw[h]
theorem Xbr {a b:Bool} (h:a=b):Ending.returned (.bool a)=.returned (.bool b):=by rw[h]
theorem Xcj {k l:IntKind} {a b c d:Int} (h:a=b) (h':c=d):Ending.returned (.tuple #[.int k a,.int l c])=.returned (.tuple #[.int k b,.int l d]):=by rw[h,h']
theorem Xr7 {a b c d e f:Bool} (h:a=b) (h':c=d) (h'':e=f):Ending.returned (.tuple #[.bool a,.bool c,.bool e])=.returned (.tuple #[.bool b,.bool d,.bool f]):=by rw[h,h',h'']
theorem Xag (w:World):∀ o,Below w.heap.size w (w.alloc o):=fun o=>(Below.refl _ _).alloc (Nat.le_refl _) o
theorem Xa2 {α:Type} (xs:List α) {k:Nat} (h:k<xs.length):∃ x,xs[k]?=some x:=⟨_,List.getElem?_eq_getElem h⟩
theorem Xdt {α:Type} {p:α→Bool} {xs:List α} {k:Nat} {x:α} (hx:xs[k]?=some x) (h:(xs.take k).all p=true) (hp:p x=true):(xs.take (k+1)).all p=true:=by
 rw[List.take_add_one,hx];simp[h,hp]
theorem Xjw {α:Type} {p:α→Bool} {xs:List α} {k:Nat} {x:α} (hx:xs[k]?=some x) (h:p x=false):xs.all p=false:=by
 rw[List.all_eq_false];exact⟨x,List.mem_of_getElem? hx,by simp[h]⟩
theorem Xa9 {W w1:World} (hb:Below W.heap.size W w1):(∀ b o,b<W.heap.size→w1.cell? ⟨b,o,none⟩=W.cell? ⟨b,o,none⟩)∧(∀ b o,b<W.heap.size→w1.frozen? ⟨b,o,none⟩=W.frozen? ⟨b,o,none⟩):=
 ⟨fun b o h=>hb.cell (p:=⟨b,o,none⟩) h,fun b o h=>hb.frozen (p:=⟨b,o,none⟩) h⟩
theorem Xbs {B:Nat} {a w:World} (h:Below B a w) (n:Nat):Below B a (w.drewN n):=⟨h.os,h.tape,h.output,h.size,h.block⟩
inductive Bl (B:Nat) (w:World):World→Prop
 |r:Bl B w w
 |d {W}:Bl B w W→Bl B w W.drew
 |n {W n}:Bl B w W→Bl B w (W.drewN n)
 |s {W p v}:Bl B w W→B≤p.block→Bl B w (W.setCell p v)
 |a {W o}:Bl B w W→B≤W.heap.size→Bl B w (W.alloc o)
 |t {C W W'}:Hid (Below C W W')→Bl B w W→B≤C→Bl B w W'
theorem bl {B w W} (h:Bl B w W):Below B w W:=by
 induction h with
 |r=>exact Below.refl _ _
 |d _ ih=>exact Below.drew ih
 |n _ ih=>exact Xbs ih _
 |s _ h ih=>exact Below.setCell ih h _
 |a _ h ih=>exact Below.alloc ih h _
 |t h _ hc ih=>exact Below.trans ih (h.out.mono hc)
theorem aft {W w1:World} (hb:Below W.heap.size W w1) (g:Nat) (h:g<W.heap.size):(∀ o,w1.cell? ⟨g,o,none⟩=W.cell? ⟨g,o,none⟩)∧g<w1.heap.size∧∀ o,w1.frozen? ⟨g,o,none⟩=W.frozen? ⟨g,o,none⟩:=
 ⟨fun o=>(Xa9 hb).1 g o h,Nat.lt_of_lt_of_le h hb.size,fun o=>(Xa9 hb).2 g o h⟩
theorem Zs:(∀(w:World) o,(w.alloc o).heap.size=w.heap.size+1)∧(∀(w:World) p v,(w.setCell p v).heap.size=w.heap.size)∧∀ w:World,w.drew.heap.size=w.heap.size:=⟨fun _ _=>by simp,fun _ _ _=>by simp,fun _=>by simp⟩
theorem Zh {p:Prop} (h:p):Hid p:=Lib.hid h
def Row (w:World) (B:Nat) (A:Option Addr) (vs:List Value):Prop:=
 0<vs.length→∃ b off,A=some ⟨b,off,none⟩∧b<B∧∀ k v,vs[k]?=some v→w.cell? ⟨b,off+k,none⟩=some v
section
variable {w w':World} {B B':Nat} {A:Option Addr} {vs:List Value}
theorem Row.keep (h:Row w B A vs) (hk:∀ p:Addr,p.block<B→w'.cell? p=w.cell? p):Row w' B A vs:=fun hn=>by
 obtain⟨b,off,e,hb,hc⟩:=h hn
 exact⟨b,off,e,hb,fun k v hv=>(hk _ hb).trans (hc k v hv)⟩
theorem Row.more (h:Row w B A vs) (hB:B≤B'):Row w B' A vs:=fun hn=>by
 obtain⟨b,off,e,hb,hc⟩:=h hn
 exact⟨b,off,e,by omega,hc⟩
theorem Row.below (h:Row w B A vs) (hb:Below B w w'):Row w' B A vs:=h.keep fun _ hp=>hb.cell hp
theorem Row.drew (h:Row w B A vs):Row w.drew B A vs:=h
theorem Row.alloc (h:Row w B A vs) (hB:B≤w.heap.size) (o:Obj):Row (w.alloc o) B A vs:=h.keep fun p hp=>World.cell?_alloc_lt w o p (by omega)
theorem Row.setCell (h:Row w B A vs) {p:Addr} (hB:B≤p.block) (u:Value):Row (w.setCell p u) B A vs:=
 h.keep fun q hq=>World.cell?_setCell_other w p q u (fun e=>by subst e;omega)
theorem Row.nil_:Row w B A []:=fun h=>absurd h (by simp)
theorem Row.of_own {base:Nat} {e:TypeId} {size n c:Nat} (h:w.ownsRow base e size (.slice A n c) n vs):Row w w.heap.size A vs:=fun hn=>by
 have hl:vs.length=n * size:=h.1
 have hn':0<n:=by
  rcases Nat.eq_zero_or_pos n with h0|h0
  ·subst h0;rw[Nat.zero_mul]at hl;omega
  ·exact h0
 obtain⟨g,cap,hv,_,hlt⟩:=h.form hn'
 have hA:A=some ⟨g,0,none⟩:=by injection hv
 subst hA
 have hc:=h.cells (g:=g) rfl
 refine⟨g,0,rfl,hlt,fun k v hv=>?_⟩
 rw[Nat.zero_add]
 have:=hc k v hv
 by_cases hk:k=0
 ·subst hk;simpa[Addr.add]using this
 ·simpa[Addr.add,hk]using this
end
def CutL (wc:World):List (Nat×List Value)→Prop
 |[]=>True
 |(g,cs) :: r=>(g<wc.heap.size∧∀ o,wc.cell? ⟨g,o,none⟩=cs[o]?)∧CutL wc r
def CutW (w:World) (gs:List (Nat×List Value)) (wc:World):Prop:=Below w.heap.size w wc∧CutL wc gs
def Ints (w:World) (B:Nat) (A:Option Addr) (n:Nat) (xs:List Int):Prop:=
 xs.length=n∧n≤maxLen∧Row w B A (xs.map (Value.int .i64))
section
variable {w w':World} {B B' n:Nat} {A:Option Addr} {xs:List Int}
theorem Ints.len (h:Ints w B A n xs):xs.length=n:=h.1
theorem Ints.bd (h:Ints w B A n xs):n≤9223372036854775807:=by have:=h.2.1;unfold maxLen at this;omega
theorem Ints.at_ (h:Ints w B A n xs) (hn:0<n):∃ b off,A=some ⟨b,off,none⟩∧b<B∧∀ k x,xs[k]?=some x→w.cell? ⟨b,off+k,none⟩=some (.int .i64 x):=by
 obtain⟨b,off,e,hb,hc⟩:=h.2.2 (by simpa[h.1]using hn)
 exact⟨b,off,e,hb,fun k x hx=>hc k _ (by simp[hx])⟩
theorem Ints.more (h:Ints w B A n xs) (hB:B≤B'):Ints w B' A n xs:=⟨h.1,h.2.1,h.2.2.more hB⟩
theorem Ints.below (h:Ints w B A n xs) (hb:Below B w w'):Ints w' B A n xs:=⟨h.1,h.2.1,h.2.2.below hb⟩
theorem Ints.drew (h:Ints w B A n xs):Ints w.drew B A n xs:=h
theorem Ints.alloc (h:Ints w B A n xs) (hB:B≤w.heap.size) (o:Obj):Ints (w.alloc o) B A n xs:=⟨h.1,h.2.1,h.2.2.alloc hB o⟩
theorem Ints.setCell (h:Ints w B A n xs) {p:Addr} (hB:B≤p.block) (u:Value):Ints (w.setCell p u) B A n xs:=⟨h.1,h.2.1,h.2.2.setCell hB u⟩
end
theorem Ints.of_cells {w:World} {B g n:Nat} {xs:List Int} (hl:xs.length=n) (hn:n≤9223372036854775807) (hg:g<B) (h:∀ k,w.cell? ⟨g,k,none⟩=(xs.map (Value.int .i64))[k]?):Ints w B (some ⟨g,0,none⟩) n xs:=
 ⟨hl,by unfold maxLen;omega,fun _=>⟨g,0,rfl,hg,fun k v hv=>by rw[Nat.zero_add,h k,hv]⟩⟩
end
section
structure Line where
 dev:Int
 page:Int
 at_:Int
 rd:Bool
 wr:Bool
def Line.vals (x:Line):List Value:=[.int .i64 x.dev,.int .i64 x.page,.int .i64 x.at_,.bool x.rd,.bool x.wr]
def Line.val (x:Line):Value:=.agg #[.int .i64 x.dev,.int .i64 x.page,.int .i64 x.at_,.bool x.rd,.bool x.wr]
theorem Line.ext' {x y:Line} (h1:x.dev=y.dev) (h2:x.page=y.page) (h3:x.at_=y.at_) (h4:x.rd=y.rd) (h5:x.wr=y.wr):x=y:=by
 cases x;cases y;simp only[]at *;subst h1;subst h2;subst h3;subst h4;subst h5;rfl
instance:DecidableEq Line:=fun x y=>
 if h:x.dev=y.dev∧x.page=y.page∧x.at_=y.at_∧x.rd=y.rd∧x.wr=y.wr then isTrue (Line.ext' h.1 h.2.1 h.2.2.1 h.2.2.2.1 h.2.2.2.2)else isFalse (fun e=>h (by subst e;exact⟨rfl,rfl,rfl,rfl,rfl⟩))
def Xml (x y:Line):Bool:=decide (x=y)
def eqL (xs ys:List Line):Bool:=decide (xs=ys)
def hitL (d p:Int) (x:Line):Bool:=x.dev==d&&x.page==p
def Xb7 (ls:List Line) (d p:Int):Int:=match ls.findIdx? (hitL d p)with|some k=>(k:Int)|none => -1
theorem Xgn {ls:List Line} {d p:Int} (h:∀ x∈ls,hitL d p x=false):Xb7 ls d p = -1:=by
 unfold Xb7
 rw[List.findIdx?_eq_none_iff.2 h]
theorem Xkg {ls:List Line} {d p:Int} {k:Nat} {x:Line} (hk:ls[k]?=some x) (hx:hitL d p x=true) (h:∀ y∈ls.take k,hitL d p y=false):Xb7 ls d p=(k:Int):=by
 unfold Xb7
 have hlt:k<ls.length:=(List.getElem?_eq_some_iff.1 hk).1
 have hx':ls[k]=x:=(List.getElem?_eq_some_iff.1 hk).2
 have:ls.findIdx? (hitL d p)=some k:=by
  rw[List.findIdx?_eq_some_iff_getElem]
  refine⟨hlt,by rw[hx'];exact hx,fun j hj=>?_⟩
  have:=h (ls[j]'(by omega)) (by rw[List.mem_take_iff_getElem];exact⟨j,by omega,rfl⟩)
  simp[this]
 rw[this]
theorem Xe2 (ls:List Line) (d p:Int):(Xb7 ls d p = -1∧∀ x∈ls,hitL d p x=false)∨∃(k:Nat) (x:Line),Xb7 ls d p=(k:Int)∧ls[k]?=some x∧hitL d p x=true∧∀ y∈ls.take k,hitL d p y=false:=by
 unfold Xb7
 cases h:ls.findIdx? (hitL d p)with
 |none=>left;exact⟨rfl,List.findIdx?_eq_none_iff.1 h⟩
 |some k=>
  right
  obtain⟨hk,hx,hj⟩:=List.findIdx?_eq_some_iff_getElem.1 h
  refine⟨k,ls[k],rfl,List.getElem?_eq_getElem hk,hx,fun y hy=>?_⟩
  obtain⟨j,hj',rfl⟩:=List.mem_take_iff_getElem.1 hy
  have:=hj j (by omega)
  simpa using this
theorem Xo9 {d p:Int} {x:Line}:hitL d p x=true↔x.dev=d∧x.page=p:=by simp[hitL]
theorem hitL_f {d p:Int} {x:Line}:hitL d p x=false↔¬(x.dev=d∧x.page=p):=by rw[←Xo9];simp
def Xgb (x:Line):Prop:=(0≤x.dev∧x.dev<8)∧(0≤x.page∧x.page<64)∧(0≤x.at_∧x.at_<64)
instance (x:Line):Decidable (Xgb x):=by unfold Xgb;exact inferInstance
def Xcc (x:Line):Int:=if Xgb x then(if x.rd then 0 else 3)else 2
def ckL:List Line→List Line→Int
 |_,[]=>0
 |pre,x :: r=>if Xcc x=0 then(if 0≤Xb7 pre x.dev x.page then 5 else ckL (pre ++ [x]) r)else Xcc x
def ckC (ls:List Line):Int:=if 6<ls.length then 1 else ckL [] ls
theorem Xlc {ls:List Line} (h:6<ls.length):ckC ls=1:=by simp only[ckC,if_pos h]
theorem Xld {ls:List Line} (h:ls.length≤6):ckC ls=ckL [] ls:=by simp only[ckC,if_neg (show ¬6<ls.length by omega)]
theorem Xpj {ls:List Line} {k:Nat} {x:Line} (hx:ls[k]?=some x) (h0:Xcc x=0) (hf:Xb7 (ls.take k) x.dev x.page<0):ckL (ls.take k) (ls.drop k)=ckL (ls.take (k+1)) (ls.drop (k+1)):=by
 have hk:k<ls.length:=(List.getElem?_eq_some_iff.1 hx).1
 have e:ls[k]=x:=(List.getElem?_eq_some_iff.1 hx).2
 rw[List.drop_eq_getElem_cons hk,e]
 simp only[ckL,h0,if_true]
 rw[if_neg (by omega),List.take_add_one,hx];rfl
theorem Xid {ls:List Line} {k:Nat} {x:Line} (hx:ls[k]?=some x) (h0:Xcc x≠0):ckL (ls.take k) (ls.drop k)=Xcc x:=by
 have hk:k<ls.length:=(List.getElem?_eq_some_iff.1 hx).1
 have e:ls[k]=x:=(List.getElem?_eq_some_iff.1 hx).2
 rw[List.drop_eq_getElem_cons hk,e]
 simp only[ckL,h0,if_false]
theorem Xmz {ls:List Line} {k:Nat} {x:Line} (hx:ls[k]?=some x) (h0:Xcc x=0) (hf:0≤Xb7 (ls.take k) x.dev x.page):ckL (ls.take k) (ls.drop k)=5:=by
 have hk:k<ls.length:=(List.getElem?_eq_some_iff.1 hx).1
 have e:ls[k]=x:=(List.getElem?_eq_some_iff.1 hx).2
 rw[List.drop_eq_getElem_cons hk,e]
 simp only[ckL,h0,if_true,if_pos hf]
theorem Xt8 (ls:List Line):ckL (ls.take ls.length) (ls.drop ls.length)=0:=by simp[ckL]
theorem Xs0 {x:Line} (h:¬Xgb x):Xcc x=2:=by simp only[Xcc,if_neg h]
theorem Xk3 {x:Line} (h:Xgb x) (h':x.rd=false):Xcc x=3:=by simp[Xcc,h,h']
theorem Xg2 {x:Line} (h:Xgb x) (h':x.rd=true):Xcc x=0:=by simp[Xcc,h,h']
theorem Xjd {x:Line} (h:Xcc x=0):Xgb x∧x.rd=true:=by
 unfold Xcc at h;split at h
 ·rename_i hr;split at h
  ·rename_i hd;exact⟨hr,hd⟩
  ·cases h
 ·cases h
def Xop (ls:List Line):Prop:=ls.Pairwise fun x y=>hitL y.dev y.page x=false
theorem Xw5:∀(ls pre:List Line),Xop pre→(∀ x∈pre,Xcc x=0)→(ckL pre ls=0↔Xop (pre ++ ls)∧∀ x∈pre ++ ls,Xcc x=0)
 |[],pre,ha,hl=>by rw[List.append_nil];exact⟨fun _=>⟨ha,hl⟩,fun _=>by simp[ckL]⟩
 |x :: r,pre,ha,hl=>by
  by_cases h0:Xcc x=0
  ·simp only[ckL,h0,if_true]
   by_cases hf:0≤Xb7 pre x.dev x.page
   ·rw[if_pos hf]
    refine⟨(fun h=>absurd h (by decide)),fun h=>?_⟩
    exfalso
    rcases Xe2 pre x.dev x.page with⟨e,_⟩|⟨k,y,e,hy,hh,_⟩
    ·omega
    ·have:=(List.pairwise_append.1 h.1).2.2 y (List.mem_of_getElem? hy) x (by simp)
     rw[hh]at this;cases this
   ·rw[if_neg hf]
    have hn:∀ y∈pre,hitL x.dev x.page y=false:=by
     rcases Xe2 pre x.dev x.page with⟨_,h⟩|⟨k,y,e,_⟩
     ·exact h
     ·omega
    have:=Xw5 r (pre ++ [x]) (by
     unfold Xop;rw[List.pairwise_append];refine⟨ha,by simp,fun a ha' b hb=>?_⟩
     simp at hb;subst hb;exact hn a ha') (fun y hy=>by
     rw[List.mem_append]at hy;rcases hy with hy|hy
     ·exact hl y hy
     ·simp at hy;subst hy;exact h0)
    rw[this];simp
  ·have e:ckL pre (x :: r)=Xcc x:=by simp only[ckL,h0,if_false]
   rw[e]
   exact⟨fun h=>absurd h h0,fun h=>absurd (h.2 x (by simp)) h0⟩
theorem Xcm (ls:List Line):ckC ls=0↔ls.length≤6∧Xop ls∧∀ x∈ls,Xcc x=0:=by
 by_cases h:6<ls.length
 ·rw[Xlc h];exact⟨(fun e=>absurd e (by decide)),fun e=>by omega⟩
 ·rw[Xld (by omega),Xw5 ls [] (by simp[Xop]) (by simp)]
  simp;omega
theorem Xd7 (x:Line):ckC [x]=Xcc x:=by
 rw[Xld (by simp)]
 by_cases h:Xcc x=0
 ·simp[ckL,h,Xb7]
 ·simp[ckL,h]
def Xfk (ls:List Line) (x:Line):Int:=if ckC ls=0 then(if Xcc x=0 then(if 0≤Xb7 ls x.dev x.page then 5 else 0)else Xcc x)else ckC ls
def Xfc (ls:List Line) (x:Line):List Line:=if Xfk ls x=0 then ls.drop (ls.length+1 - 6) ++ [x]else[]
theorem Xjk {ls:List Line} {x:Line} (h:Xfk ls x=0):ckC ls=0∧Xcc x=0∧Xb7 ls x.dev x.page<0:=by
 unfold Xfk at h;split at h
 ·rename_i h1;split at h
  ·rename_i h2;split at h
   ·cases h
   ·exact⟨h1,h2,by omega⟩
  ·rename_i h2;exact absurd h h2
 ·rename_i h1;exact absurd h h1
theorem Xk8 {ls:List Line} {x:Line} (h1:ckC ls=0) (h2:Xcc x=0) (h3:Xb7 ls x.dev x.page<0):Xfk ls x=0:=by
 unfold Xfk;rw[if_pos h1,if_pos h2,if_neg (by omega)]
theorem Xye {ls:List Line} {x:Line} (h1:ckC ls≠0):Xfk ls x=ckC ls:=by unfold Xfk;rw[if_neg h1]
theorem Xyd {ls:List Line} {x:Line} (h1:ckC ls=0) (h2:Xcc x≠0):Xfk ls x=Xcc x:=by unfold Xfk;rw[if_pos h1,if_neg h2]
theorem Xyc {ls:List Line} {x:Line} (h1:ckC ls=0) (h2:Xcc x=0) (h3:0≤Xb7 ls x.dev x.page):Xfk ls x=5:=by unfold Xfk;rw[if_pos h1,if_pos h2,if_pos h3]
theorem Xn8 {ls:List Line} {x:Line} (h:Xfk ls x=0):Xfc ls x=ls.drop (ls.length+1 - 6) ++ [x]:=by unfold Xfc;rw[if_pos h]
theorem Xyb {ls:List Line} {x:Line} {n:Int} (h:Xfk ls x=n) (hn:n≠0):Xfc ls x=[]:=by unfold Xfc;rw[if_neg (by rw[h];exact hn)]
theorem Xpg {ls:List Line} {d p:Int} (h:Xb7 ls d p<0):∀ y∈ls,hitL d p y=false:=by
 rcases Xe2 ls d p with⟨_,h'⟩|⟨k,y,e,_⟩
 ·exact h'
 ·omega
theorem Xya {ls:List Line} {x:Line} (h:Xfk ls x=0):ckC (Xfc ls x)=0:=by
 obtain⟨h1,h2,h3⟩:=Xjk h
 obtain⟨a1,a2,a3⟩:=(Xcm ls).1 h1
 rw[Xn8 h,Xcm]
 refine⟨by simp;omega, ?_,fun y hy=>?_⟩
 ·unfold Xop;rw[List.pairwise_append]
  refine⟨List.Pairwise.sublist (List.drop_sublist _ _) a2,by simp,fun a ha b hb=>?_⟩
  simp at hb;subst hb
  exact Xpg h3 a (List.mem_of_mem_drop ha)
 ·rw[List.mem_append]at hy;rcases hy with hy|hy
  ·exact a3 y (List.mem_of_mem_drop hy)
  ·simp at hy;subst hy;exact h2
def goes (k d p:Int) (x:Line):Bool:=k==1||(k==2&&x.dev==d)||(k==3&&(x.dev==d&&x.page==p))
def Xes (ls:List Line) (k:Int):Int:=if ckC ls=0 then(if 0≤k∧k≤3 then 0 else 3)else ckC ls
def Xfn (ls:List Line) (k d p:Int):List Line:=if Xes ls k=0 then ls.filter (fun x=>!goes k d p x)else[]
theorem Xms {ls:List Line} {k:Int} (h:Xes ls k=0):ckC ls=0∧0≤k∧k≤3:=by
 unfold Xes at h;split at h
 ·rename_i h1;split at h
  ·rename_i h2;exact⟨h1,h2⟩
  ·cases h
 ·rename_i h1;exact absurd h h1
theorem Xgc {ls:List Line} {k:Int} (h:ckC ls=0) (hk:0≤k∧k≤3):Xes ls k=0:=by unfold Xes;rw[if_pos h,if_pos hk]
theorem Xoa {ls:List Line} {k:Int} (h:ckC ls=0) (hk:¬(0≤k∧k≤3)):Xes ls k=3:=by unfold Xes;rw[if_pos h,if_neg hk]
theorem Xob {ls:List Line} {k:Int} (h:ckC ls≠0):Xes ls k=ckC ls:=by unfold Xes;rw[if_neg h]
theorem Xic {ls:List Line} {k d p:Int} (h:Xes ls k=0):Xfn ls k d p=ls.filter (fun x=>!goes k d p x):=by unfold Xfn;rw[if_pos h]
theorem Xn9 {ls:List Line} {k d p n:Int} (h:Xes ls k=n) (hn:n≠0):Xfn ls k d p=[]:=by unfold Xfn;rw[if_neg (by rw[h];exact hn)]
end
section
def Xav (ls:List Line):List Value:=ls.flatMap Line.vals
theorem Xbt:∀ ls:List Line,(Xav ls).length=ls.length * 5
 |[]=>rfl
 |x :: r=>by unfold Xav;rw[List.flatMap_cons,List.length_append];have:=Xbt r;unfold Xav at this;rw[this];simp[Line.vals];omega
theorem Xje:∀(ls:List Line) (k:Nat) (x:Line) (j:Nat),ls[k]?=some x→j<5→(Xav ls)[k * 5+j]?=x.vals[j]?
 |[],k,x,j,h,_=>by simp at h
 |y :: r,0,x,j,h,hj=>by
  simp at h;subst h
  unfold Xav
  rw[List.flatMap_cons,List.getElem?_append_left (by simp[Line.vals];omega)]
  simp
 |y :: r,k+1,x,j,h,hj=>by
  simp at h
  unfold Xav
  rw[List.flatMap_cons,List.getElem?_append_right (by simp[Line.vals];omega)]
  have:=Xje r k x j h hj
  unfold Xav at this
  rw[←this];congr 1;simp[Line.vals];omega
theorem Xer (xs ys:List Line):Xav (xs ++ ys)=Xav xs ++ Xav ys:=by unfold Xav;rw[List.flatMap_append]
theorem Xg3:∀(k:Nat) (ls:List Line),(Xav ls).take (k * 5)=Xav (ls.take k)
 |0,ls=>by simp[Xav]
 |k+1,[]=>by simp[Xav]
 |k+1,x :: r=>by
  have:=Xg3 k r
  unfold Xav at *
  rw[List.flatMap_cons,List.take_succ_cons,List.flatMap_cons,←this,show(k+1) * 5=x.vals.length+k * 5 by simp[Line.vals];omega,List.take_append]
  rw[List.take_of_length_le (by omega),Nat.add_sub_cancel_left]
theorem Xfw:∀(k:Nat) (ls:List Line),(Xav ls).drop (k * 5)=Xav (ls.drop k)
 |0,ls=>by simp[Xav]
 |k+1,[]=>by simp[Xav]
 |k+1,x :: r=>by
  have:=Xfw k r
  unfold Xav at *
  rw[List.flatMap_cons,List.drop_succ_cons,←this,show(k+1) * 5=x.vals.length+k * 5 by simp[Line.vals];omega,←List.drop_drop]
  simp
def Lines (w:World) (B:Nat) (A:Option Addr) (n c:Nat) (ls:List Line):Prop:=
 ls.length=n∧n≤c∧c≤maxLen∧(A=none→c=0)∧Row w B A (Xav ls)
def Xkl (w:World) (b o:Nat) (x:Line):Prop:=
 w.cell? ⟨b,o,none⟩=some (.int .i64 x.dev)∧w.cell? ⟨b,o+1,none⟩=some (.int .i64 x.page)∧w.cell? ⟨b,o+2,none⟩=some (.int .i64 x.at_)∧w.cell? ⟨b,o+3,none⟩=some (.bool x.rd)∧w.cell? ⟨b,o+4,none⟩=some (.bool x.wr)
section
variable {w w':World} {B B' n c:Nat} {A:Option Addr} {ls:List Line}
theorem Lines.len (h:Lines w B A n c ls):ls.length=n:=h.1
theorem Lines.cap (h:Lines w B A n c ls):n≤c∧c≤9223372036854775807:=⟨h.2.1,by have:=h.2.2.1;unfold maxLen at this;omega⟩
theorem Lines.at_ (h:Lines w B A n c ls) (hn:0<n):∃ b off,A=some ⟨b,off,none⟩∧b<B∧∀ k x,ls[k]?=some x→Xkl w b (off+k * 5) x:=by
 obtain⟨b,off,e,hb,hc⟩:=h.2.2.2.2 (by rw[Xbt,h.1];omega)
 refine⟨b,off,e,hb,fun k x hx=>?_⟩
 have:=fun j hj=>Xje ls k x j hx hj
 refine⟨?_, ?_, ?_, ?_, ?_⟩
 ·exact hc (k * 5) _ ((this 0 (by omega)).trans rfl)
 ·rw[Nat.add_assoc];exact hc (k * 5+1) _ ((this 1 (by omega)).trans rfl)
 ·rw[Nat.add_assoc];exact hc (k * 5+2) _ ((this 2 (by omega)).trans rfl)
 ·rw[Nat.add_assoc];exact hc (k * 5+3) _ ((this 3 (by omega)).trans rfl)
 ·rw[Nat.add_assoc];exact hc (k * 5+4) _ ((this 4 (by omega)).trans rfl)
theorem Lines.more (h:Lines w B A n c ls) (hB:B≤B'):Lines w B' A n c ls:=⟨h.1,h.2.1,h.2.2.1,h.2.2.2.1,h.2.2.2.2.more hB⟩
theorem Lines.below (h:Lines w B A n c ls) (hb:Below B w w'):Lines w' B A n c ls:=⟨h.1,h.2.1,h.2.2.1,h.2.2.2.1,h.2.2.2.2.below hb⟩
theorem Lines.drew (h:Lines w B A n c ls):Lines w.drew B A n c ls:=h
theorem Lines.alloc (h:Lines w B A n c ls) (hB:B≤w.heap.size) (o:Obj):Lines (w.alloc o) B A n c ls:=⟨h.1,h.2.1,h.2.2.1,h.2.2.2.1,h.2.2.2.2.alloc hB o⟩
theorem Lines.setCell (h:Lines w B A n c ls) {p:Addr} (hB:B≤p.block) (u:Value):Lines (w.setCell p u) B A n c ls:=⟨h.1,h.2.1,h.2.2.1,h.2.2.2.1,h.2.2.2.2.setCell hB u⟩
theorem Xcl (w:World) (B:Nat):Lines w B none 0 0 []:=⟨rfl,Nat.le_refl _,Nat.zero_le _,fun _=>rfl,Row.nil_⟩
theorem Lines.take (h:Lines w B A n c ls) {k:Nat} (hk:k≤n):Lines w B A k c (ls.take k):=
 ⟨by rw[List.length_take,h.1];omega,Nat.le_trans hk h.2.1,h.2.2.1,h.2.2.2.1,fun h0=>by
  have hl:0<(Xav ls).length:=by
   rw[Xbt]at *;rw[List.length_take]at h0;omega
  obtain⟨b,off,e,hb,hc⟩:=h.2.2.2.2 hl
  refine⟨b,off,e,hb,fun j v hv=>hc j v ?_⟩
  rw[←Xg3]at hv
  have hj:j<k * 5:=by have:=(List.getElem?_eq_some_iff.1 hv).1;rw[List.length_take]at this;omega
  rw[List.getElem?_take,if_pos hj]at hv
  exact hv⟩
end
end
section
section
open Go.Maps
def Xjn (f0 f1 f2 f3:Value):DataW Value:=((((DataW.map []).put (.int .i64 0) (.held f0)).put (.int .i64 1) (.held f1)).put (.int .i64 2) (.held f2)).put (.int .i64 3) (.held f3)
theorem Xgw {a b:Int} (h:a≠b):(Lit.int .i64 a)≠Lit.int .i64 b:=fun e=>h (by injection e)
theorem Xv3 {f0 f1 f2 f3:Value} {k:Int} (h:¬(0≤k∧k≤3)) (z:DataW Value):has (Xjn f0 f1 f2 f3) (.int .i64 k)=false∧(Xjn f0 f1 f2 f3).atKey (.int .i64 k) z=z:=by
 have h0:k≠0:=by omega
 have h1:k≠1:=by omega
 have h2:k≠2:=by omega
 have h3:k≠3:=by omega
 unfold Xjn
 rw[has_put_other (Xgw h3),has_put_other (Xgw h2),has_put_other (Xgw h1),has_put_other (Xgw h0),atKey_put_other (Xgw h3),atKey_put_other (Xgw h2),atKey_put_other (Xgw h1),atKey_put_other (Xgw h0)]
 exact⟨rfl,rfl⟩
theorem Xys (f0 f1 f2 f3:Value) (z:DataW Value):has (Xjn f0 f1 f2 f3) (.int .i64 0)=true∧(Xjn f0 f1 f2 f3).atKey (.int .i64 0) z=.held f0:=by
 exact⟨rfl,rfl⟩
theorem Xyr (f0 f1 f2 f3:Value) (z:DataW Value):has (Xjn f0 f1 f2 f3) (.int .i64 1)=true∧(Xjn f0 f1 f2 f3).atKey (.int .i64 1) z=.held f1:=by
 exact⟨rfl,rfl⟩
theorem Xyq (f0 f1 f2 f3:Value) (z:DataW Value):has (Xjn f0 f1 f2 f3) (.int .i64 2)=true∧(Xjn f0 f1 f2 f3).atKey (.int .i64 2) z=.held f2:=by
 exact⟨rfl,rfl⟩
theorem Xyp (f0 f1 f2 f3:Value) (z:DataW Value):has (Xjn f0 f1 f2 f3) (.int .i64 3)=true∧(Xjn f0 f1 f2 f3).atKey (.int .i64 3) z=.held f3:=by
 exact⟨rfl,rfl⟩
theorem Xx1 (ls:List Line) (q:Line→Bool) (j:Nat):((ls.take j).filter q).length≤j:=by
 have:=List.length_filter_le q (ls.take j)
 simp at this;omega
structure KeptL (q:Line→Bool) (ls zs:List Line) (i j:Nat):Prop where
 len:zs.length=ls.length
 cnt:((ls.take j).filter q).length=i
 lt:i<j
 jle:j≤ls.length
 low:zs.take i=(ls.take j).filter q
 high:∀ t,j≤t→zs[t]?=ls[t]?
theorem KeptL.start {q:Line→Bool} {ls:List Line} {k:Nat} {x:Line} (hx:ls[k]?=some x) (hq:q x=false) (hall:∀ y∈ls.take k,q y=true):KeptL q ls ls k (k+1):=by
 have hk:k<ls.length:=(List.getElem?_eq_some_iff.1 hx).1
 have e:(ls.take (k+1)).filter q=ls.take k:=by
  rw[List.take_add_one,hx,List.filter_append,List.filter_eq_self.2 hall]
  simp[hq]
 exact⟨rfl,by rw[e];simp;omega,Nat.lt_succ_self _,hk,by rw[e],fun t _=>rfl⟩
theorem KeptL.keep {q:Line→Bool} {ls zs:List Line} {i j:Nat} {x:Line} (h:KeptL q ls zs i j) (hx:ls[j]?=some x) (hq:q x=true):KeptL q ls (zs.set i x) (i+1) (j+1):=by
 have hj:j<ls.length:=(List.getElem?_eq_some_iff.1 hx).1
 have e:(ls.take (j+1)).filter q=(ls.take j).filter q ++ [x]:=by
  rw[List.take_add_one,hx,List.filter_append]
  simp[hq]
 have h1:=h.len
 have h2:=h.lt
 refine⟨by simp[h.len],by rw[e];simp[h.cnt],by omega,hj, ?_,fun t ht=>?_⟩
 ·rw[e,List.take_add_one,List.getElem?_set_self (by omega),List.take_set_of_le (Nat.le_refl _),h.low];rfl
 ·rw[List.getElem?_set_ne (by omega)];exact h.high t (by omega)
theorem KeptL.skip {q:Line→Bool} {ls zs:List Line} {i j:Nat} {x:Line} (h:KeptL q ls zs i j) (hx:ls[j]?=some x) (hq:q x=false):KeptL q ls zs i (j+1):=by
 have hj:j<ls.length:=(List.getElem?_eq_some_iff.1 hx).1
 have e:(ls.take (j+1)).filter q=(ls.take j).filter q:=by
  rw[List.take_add_one,hx,List.filter_append]
  simp[hq]
 have h2:=h.lt
 exact⟨h.len,by rw[e,h.cnt],by omega,hj,by rw[e];exact h.low,fun t ht=>h.high t (by omega)⟩
theorem KeptL.done {q:Line→Bool} {ls zs:List Line} {i j:Nat} (h:KeptL q ls zs i j) (hj:j=ls.length):zs.take i=ls.filter q∧(ls.filter q).length=i:=by
 have h1:=h.low
 have h2:=h.cnt
 rw[show ls.take j=ls from List.take_of_length_le (by omega)]at h1 h2
 exact⟨h1,h2⟩
end
section
theorem Xh7 (ls:List Line) (m:Nat):(Xav ls)[m]?=(ls[m / 5]?).bind (fun x=>x.vals[m % 5]?):=by
 have e:m=m / 5 * 5+m % 5:=by omega
 cases h:ls[m / 5]? with
 |some x=>
  have:=Xje ls (m / 5) x (m % 5) h (by omega)
  rw[←e]at this
  simpa using this
 |none=>
  have hl:ls.length≤m / 5:=by simpa using h
  simp only[Option.bind_none]
  rw[List.getElem?_eq_none]
  rw[Xbt];omega
theorem Xkn (x:Line):x.vals.length=5:=rfl
theorem Xqn {zs:List Line} {i:Nat} {x:Line} (hi:i<zs.length) (m:Nat):(Xav (zs.set i x))[m]?=if i * 5≤m∧m<i * 5+5 then x.vals[m - i * 5]? else(Xav zs)[m]?:=by
 rw[Xh7,Xh7]
 split
 ·rename_i h
  have e1:m / 5=i:=by omega
  have e2:m % 5=m - i * 5:=by omega
  rw[e1,e2,List.getElem?_set_self hi];rfl
 ·rename_i h
  rw[List.getElem?_set_ne (by omega)]
section
variable {w:World} {B n c g:Nat} {ls:List Line}
theorem Lines.cellsome (h:Lines w B (some ⟨g,0,none⟩) n c ls) {m:Nat} (hm:m<n * 5):(w.cell? ⟨g,m,none⟩).isSome=true:=by
 have hl:m<(Xav ls).length:=by rw[Xbt,h.1];exact hm
 obtain⟨b,off,e,hb,hc⟩:=h.2.2.2.2 (by omega)
 simp only[Option.some.injEq,Addr.mk.injEq,and_true]at e
 obtain⟨rfl,rfl⟩:=e
 have:=hc m _ (List.getElem?_eq_getElem hl)
 rw[Nat.zero_add]at this
 rw[this];rfl
theorem Lines.setLine (h:Lines w B (some ⟨g,0,none⟩) n c ls) {i:Nat} (hi:i<n) (x:Line):Lines (w.setCells g (i * 5) x.vals) B (some ⟨g,0,none⟩) n c (ls.set i x):=by
 have hsome:=fun(m:Nat) (hm:m<n * 5)=>h.cellsome hm
 obtain⟨h1,h2,h3,h4,h5⟩:=h
 refine⟨by simp[h1],h2,h3,(fun e=>by cases e),fun _=>?_⟩
 obtain⟨b,off,e,hb,hc⟩:=h5 (by rw[Xbt];omega)
 simp only[Option.some.injEq,Addr.mk.injEq,and_true]at e
 obtain⟨rfl,rfl⟩:=e
 refine⟨g,0,rfl,hb,fun m v hv=>?_⟩
 rw[Xqn (by omega)]at hv
 rw[Nat.zero_add]
 split at hv
 ·rename_i hm
  have hj:m - i * 5<x.vals.length:=by rw[Xkn];omega
  have:=World.cell?_setCells_in g x.vals (i * 5) w (fun j hj=>by rw[Xkn]at hj;exact hsome _ (by omega)) (m - i * 5) hj
  rw[show i * 5+(m - i * 5)=m by omega]at this
  rw[this,←hv,List.getElem?_eq_getElem hj]
 ·rename_i hm
  rw[World.cell?_setCells_out g x.vals (i * 5) w ⟨g,m,none⟩ (fun _ _=>by rw[Xkn];simp only[];omega)]
  have:=hc m v hv
  rwa [Nat.zero_add]at this
theorem Lines.cutAt (h:Lines w B (some ⟨g,0,none⟩) n c ls) {i:Nat} (hi:i≤n) (vs:List Value):Lines (w.setCells g (i * 5) vs) B (some ⟨g,0,none⟩) i c (ls.take i):=by
 obtain⟨h1,h2,h3,h4,h5⟩:=h.take hi
 refine⟨h1,h2,h3,h4,fun hl=>?_⟩
 obtain⟨b,off,e,hb,hc⟩:=h5 hl
 simp only[Option.some.injEq,Addr.mk.injEq,and_true]at e
 obtain⟨rfl,rfl⟩:=e
 refine⟨g,0,rfl,hb,fun m v hv=>?_⟩
 have hm:m<i * 5:=by
  have:=(List.getElem?_eq_some_iff.1 hv).1
  rw[Xbt,h1]at this;exact this
 rw[World.cell?_setCells_out g vs (i * 5) w _ (fun _ _=>Or.inl (by simp only[];omega))]
 exact hc m v hv
end
theorem Xff (b:Nat):∀(vs:List Value) (o:Nat) (w:World),(w.setCells b o vs).heap.size=w.heap.size
 |[],_,_=>rfl
 |v :: r,o,w=>(Xff b r (o+1) _).trans (World.size_setCell _ _ _)
theorem Xjt {B g:Nat} {a:World} (hg:B≤g):∀(vs:List Value) (o:Nat) (w:World),Below B a w→Below B a (w.setCells g o vs)
 |[],_,_,h=>h
 |v :: r,o,w,h=>Xjt hg r (o+1) _ (h.setCell hg v)
theorem Below.setLine {B g:Nat} {a w:World} (h:Below B a w) (hg:B≤g) (o:Nat) (vs:List Value):Below B a (w.setCells g o vs):=Xjt hg vs o w h
end
section
theorem Xaf {w W:World} {A:Option Addr} {n:Nat} {xs:List Int} (hx:Ints w w.heap.size A n xs) (h:Below w.heap.size w W):Ints W W.heap.size A n xs:=(hx.below h).more h.size
theorem Xah {w W:World} {A:Option Addr} {n c:Nat} {ls:List Line} (hx:Lines w w.heap.size A n c ls) (h:Below w.heap.size w W):Lines W W.heap.size A n c ls:=(hx.below h).more h.size
end
end
section
def bitI (v k:Int):Bool:=v / 2 ^ k.toNat % 2==1
theorem Xlg (v:Int):bitI v 0=(v % 2==1):=by simp[bitI]
theorem Xok (v:Int):bitI v 1=(v / 2 % 2==1):=by simp[bitI]
theorem Xq4 (v:Int):bitI v 2=(v / 4 % 2==1):=by simp[bitI]
theorem Xq3 (v:Int):bitI v 3=(v / 8 % 2==1):=by simp[bitI]
def Xjl (v:Int):Bool:=v / 1024 != 0||bitI v 2&&!bitI v 1||!bitI v 3&&bitI v 1
def enIn (v:Int):Bool:=decide (0≤v)&&decide (v≤65535)
def enK (v:Int):Bool:=enIn v&&(!bitI v 0||!Xjl v)
def enG (v:Int):Bool:=enIn v&&bitI v 0&&!Xjl v
def enP (v:Int):Int:=if enG v then v / 16 % 64 else 0
def enV (v:Int):Value:=.tuple #[.agg #[.bool (enG v),.bool (enG v&&bitI v 1),.bool (enG v&&bitI v 2),.bool (enG v&&bitI v 3),.int .i64 (enP v)],.bool (enK v)]
theorem Xin {v:Int} (h:enG v=false) (b:Bool) (hk:enK v=b):Ending.returned (.tuple #[.agg #[.bool false,.bool false,.bool false,.bool false,.int .i64 0],.bool b])=.returned (enV v):=by simp[enV,enP,h,hk]
theorem Xtx {v:Int} (h:enG v=true) (hk:enK v=true):Ending.returned (.tuple #[.agg #[.bool true,.bool (bitI v 1),.bool (bitI v 2),.bool (bitI v 3),.int .i64 (v / 16 % 64)],.bool true])=.returned (enV v):=by simp[enV,enP,h,hk]
theorem Xv2 {v:Int} (h:enG v=true):enK v=true:=by
 unfold enG at h;unfold enK;simp only[Bool.and_eq_true]at h;simp[h]
def Xjq (v:Int):Bool:=v / 1024 != 0||bitI v 2||bitI v 3||bitI v 1&&v / 16 % 64 != 0
def cxK (v:Int):Bool:=enIn v&&(!bitI v 0||!Xjq v)
def cxG (v:Int):Bool:=enIn v&&bitI v 0&&!Xjq v
def cxR (v:Int):Int:=if cxG v then v / 16 % 64 else 0
def cxV (v:Int):Value:=.tuple #[.agg #[.bool (cxG v),.bool (cxG v&&bitI v 1),.int .i64 (cxR v)],.bool (cxK v)]
theorem Xki (v:Int):cxV v=.tuple #[.agg #[.bool (cxG v),.bool (cxG v&&bitI v 1),.int .i64 (cxR v)],.bool (cxK v)]:=rfl
theorem Xjp {v:Int} (h:cxG v=false) (b:Bool) (hk:cxK v=b):Ending.returned (.tuple #[.agg #[.bool false,.bool false,.int .i64 0],.bool b])=.returned (cxV v):=by simp[cxV,cxR,h,hk]
theorem Xt4 {v:Int} (h:cxG v=true) (hk:cxK v=true):Ending.returned (.tuple #[.agg #[.bool true,.bool (bitI v 1),.int .i64 (v / 16 % 64)],.bool true])=.returned (cxV v):=by simp[cxV,cxR,h,hk]
theorem Xod {v:Int} (h:cxG v=true):cxK v=true:=by
 unfold cxG at h;unfold cxK;simp only[Bool.and_eq_true]at h;simp[h]
end
section
def Xch (x:Int):Bool:=decide (0≤x)&&decide (x≤65535)
def cm (xs:List Int):Int:=if xs.length=512 then(if xs.all Xch then 0 else 2)else 3
theorem Xw3 {xs:List Int} (h:xs.length≠512):cm xs=3:=by simp[cm,h]
theorem Xw4 {xs:List Int} {k:Nat} {x:Int} (hl:xs.length=512) (hx:xs[k]?=some x) (h:Xch x=false):cm xs=2:=by
 simp[cm,hl,Xjw hx h]
theorem cm_ok {xs:List Int} (hl:xs.length=512) (h:(xs.take 512).all Xch=true):cm xs=0:=by
 rw[List.take_of_length_le (by omega)]at h;simp[cm,hl,h]
theorem Xaz {xs:List Int} (h:cm xs=0):xs.length=512∧∀(k:Nat) (x:Int),xs[k]?=some x→0≤x∧x≤65535:=by
 unfold cm at h
 split at h
 ·rename_i hl
  split at h
  ·rename_i ha
   refine⟨hl,fun k x hx=>?_⟩
   have:=List.all_eq_true.1 ha x (List.mem_of_getElem? hx)
   simpa[Xch]using this
  ·cases h
 ·cases h
theorem Xxk {xs:List Int} {i:Int} {v:Int} (hl:xs.length=512) (hi:0≤i∧i<512):(xs.set i.toNat v)[i.toNat]?=some v:=by
 rw[List.getElem?_set_self (by omega)]
theorem Xt6 {xs:List Int} {i v:Int} (h:cm xs=0) (hv:0≤v∧v≤65535):cm (xs.set i.toNat v)=0:=by
 obtain⟨hl,ha⟩:=Xaz h
 have:(xs.set i.toNat v).all Xch=true:=by
  rw[List.all_eq_true]
  intro x hx
  obtain⟨k,hk⟩:=List.getElem?_of_mem hx
  rw[List.getElem?_set]at hk
  split at hk
  ·split at hk
   ·simp at hk;subst hk;simp[Xch,hv]
   ·cases hk
  ·have:=ha _ _ hk;simp[Xch,this]
 simp[cm,hl,this]
end
section
def rd (xs:List Int) (i:Int):Int:=xs[i.toNat]?.getD 0
theorem Xc7 {xs:List Int} {i:Int} (hl:xs.length=512) (hi:0≤i∧i<512):xs[i.toNat]?=some (rd xs i):=by
 unfold rd;rw[List.getElem?_eq_getElem (by omega)];rfl
theorem Xse {xs:List Int} {i v:Int} (hl:xs.length=512) (hi:0≤i∧i<512):rd (xs.set i.toNat v) i=v:=by
 unfold rd;rw[Xxk hl hi];rfl
structure Ent where
 v:Bool
 r:Bool
 u:Bool
 l:Bool
 p:Int
def Ent.no:Ent:=⟨false,false,false,false,0⟩
def Ent.val (e:Ent):Value:=.agg #[.bool e.v,.bool e.r,.bool e.u,.bool e.l,.int .i64 e.p]
def Xg6 (x:Int):Ent:=⟨true,bitI x 1,bitI x 2,bitI x 3,enP x⟩
theorem Xek (x:Int):0≤enP x∧enP x≤63:=by unfold enP;split<;>omega
theorem Xtz {x:Int} (h:enK x=false):enV x=.tuple #[.agg #[.bool false,.bool false,.bool false,.bool false,.int .i64 0],.bool false]:=by
 have hg:enG x=false:=by
  cases h':enG x with
  |false=>rfl
  |true=>rw[Xv2 h']at h;cases h
 simp[enV,enP,hg,h]
theorem Xty {x:Int} (h:enK x=true) (hg:enG x=false):enV x=.tuple #[.agg #[.bool false,.bool false,.bool false,.bool false,.int .i64 0],.bool true]:=by simp[enV,enP,hg,h]
theorem Xwy {x:Int} (hg:enG x=true):enV x=.tuple #[.agg #[.bool true,.bool (bitI x 1),.bool (bitI x 2),.bool (bitI x 3),.int .i64 (enP x)],.bool true]:=by simp[enV,hg,Xv2 hg]
def Xf2 (xs:List Int) (t page:Int):Ent×Int:=
 let y:=rd xs (t * 8+page % 8)
 if enK y then(if enG y then(if bitI y 3 then(Xg6 y,0)else(.no,4))else(.no,3))else(.no,4)
def Xdq (xs:List Int) (root page:Int):Ent×Int:=
 let x:=rd xs (root * 8+page / 8)
 if enK x then(if enG x then(if bitI x 3 then(if enP x % 8=0 then({ Xg6 x with p:=enP x+page % 8 },0)else(.no,4))else Xf2 xs (enP x) page)else(.no,3))else(.no,4)
def inP (root page:Int):Prop:=(0≤root∧root<64)∧(0≤page∧page<64)
instance (root page:Int):Decidable (inP root page):=by unfold inP;exact inferInstance
def Xck (xs:List Int) (root page:Int) (wr:Bool):Ent×Int:=
 let q:=Xdq xs root page
 if q.2=0 then(if q.1.r&&(!wr||q.1.u)then q else(.no,5))else(.no,q.2)
def Xhc (xs:List Int) (root page:Int) (wr:Bool):Ent×Int×Int:=
 if cm xs=0 then(if inP root page then((Xck xs root page wr).1,(Xck xs root page wr).2,0)else(.no,0,4))else(.no,0,cm xs)
def Xnp (q:Ent×Int):Prop:=(q.2=0∧q.1.v=true∧q.1.l=true∧0≤q.1.p∧q.1.p≤63)∨(q.1=.no∧(q.2=3∨q.2=4))
theorem Xvi (xs:List Int) (t page:Int):Xnp (Xf2 xs t page):=by
 unfold Xf2 Xnp
 have hp:=Xek (rd xs (t * 8+page % 8))
 dsimp only
 split
 ·split
  ·split
   ·rename_i h1 h2 h3;left;exact⟨rfl,rfl,h3,hp⟩
   ·right;exact⟨rfl,Or.inr rfl⟩
  ·right;exact⟨rfl,Or.inl rfl⟩
 ·right;exact⟨rfl,Or.inr rfl⟩
theorem Xiw (xs:List Int) (root page:Int):Xnp (Xdq xs root page):=by
 unfold Xdq
 have hp:=Xek (rd xs (root * 8+page / 8))
 dsimp only
 split
 ·split
  ·split
   ·split
    ·rename_i h1 h2 h3 h4;left;exact⟨rfl,rfl,h3,by simp only[];omega,by simp only[];omega⟩
    ·right;exact⟨rfl,Or.inr rfl⟩
   ·exact Xvi _ _ _
  ·right;exact⟨rfl,Or.inl rfl⟩
 ·right;exact⟨rfl,Or.inr rfl⟩
theorem Xln {xs:List Int} {root page:Int} {wr:Bool} (h:(Xck xs root page wr).2=0):Xck xs root page wr=Xdq xs root page∧(Xdq xs root page).2=0∧(Xdq xs root page).1.r=true∧(wr=true→(Xdq xs root page).1.u=true):=by
 unfold Xck at h ⊢
 dsimp only at h ⊢
 split at h
 ·rename_i h0
  split at h
  ·rename_i h1
   rw[if_pos h0,if_pos h1]
   simp only[Bool.and_eq_true,Bool.or_eq_true,Bool.not_eq_true']at h1
   refine⟨rfl,h0,h1.1,fun hw=>?_⟩
   rcases h1.2 with h2|h2
   ·rw[hw]at h2;cases h2
   ·exact h2
  ·cases h
 ·rename_i h0;exact absurd h h0
theorem Xoq {xs:List Int} {root page:Int} {wr:Bool} (h:(Xck xs root page wr).2≠0):(Xck xs root page wr).1=.no∧((Xck xs root page wr).2=3∨(Xck xs root page wr).2=4∨(Xck xs root page wr).2=5):=by
 have hk:=Xiw xs root page
 unfold Xck at h ⊢
 dsimp only at h ⊢
 by_cases h0:(Xdq xs root page).2=0
 ·rw[if_pos h0]at h ⊢
  by_cases h1:((Xdq xs root page).1.r&&(!wr||(Xdq xs root page).1.u))=true
  ·rw[if_pos h1]at h;exact absurd h0 h
  ·rw[if_neg h1];exact⟨rfl,Or.inr (Or.inr rfl)⟩
 ·rw[if_neg h0]
  rcases hk with hk|⟨_,hk⟩
  ·exact absurd hk.1 h0
  ·exact⟨rfl,by rcases hk with hk|hk<;>simp[hk]⟩
def Xll:List Int→List Int→List Int
 |xs,a :: b :: r=>Xll (xs.set a.toNat b) r
 |xs,_=>xs
end
section
structure Ring where
 page:Int
 head:Int
 tail:Int
def Ring.val (r:Ring):Value:=.agg #[.int .i64 r.page,.int .i64 r.head,.int .i64 r.tail]
def Ring.no:Ring:=⟨0,0,0⟩
theorem Ring.ext' {x y:Ring} (h1:x.page=y.page) (h2:x.head=y.head) (h3:x.tail=y.tail):x=y:=by
 cases x;cases y;simp only[]at *;subst h1;subst h2;subst h3;rfl
def Xco (r:Ring):Prop:=(0≤r.page∧r.page<64)∧(0≤r.head∧r.head<8)∧(0≤r.tail∧r.tail<8)
instance (r:Ring):Decidable (Xco r):=by unfold Xco;exact inferInstance
def ckR (r:Ring):Int:=if Xco r then 0 else 2
theorem Xmy {r:Ring} (h:Xco r):ckR r=0:=by simp only[ckR,if_pos h]
theorem Xof {r:Ring} (h:¬Xco r):ckR r=2:=by simp only[ckR,if_neg h]
theorem Xt7 {r:Ring} (h:ckR r=0):Xco r:=by
 unfold ckR at h;split at h
 ·assumption
 ·cases h
def lenR (r:Ring):Int:=(r.tail - r.head) % 8
def Xds (xs:List Int) (r:Ring):Int:=if cm xs=0 then ckR r else cm xs
theorem Xge {xs:List Int} {r:Ring} (h:Xds xs r=0):cm xs=0∧Xco r:=by
 unfold Xds at h;split at h
 ·rename_i h0;exact⟨h0,Xt7 h⟩
 ·rename_i h0;exact absurd h h0
theorem Xlf {xs:List Int} {r:Ring} (h:cm xs=0) (hr:Xco r):Xds xs r=0:=by unfold Xds;rw[if_pos h,Xmy hr]
def Xf9 (xs:List Int) (r:Ring) (v:Int):Int:=if Xds xs r=0 then(if 0≤v∧v≤65535 then(if lenR r=7 then 1 else 0)else 2)else Xds xs r
def Xj4 (xs:List Int) (r:Ring) (v:Int):List Int:=xs.set (r.page * 8+r.tail).toNat v
def Xqe (r:Ring):Ring:=⟨r.page,r.head,(r.tail+1) % 8⟩
def popE (xs:List Int) (r:Ring):Int:=if Xds xs r=0 then(if lenR r=0 then 6 else 0)else Xds xs r
def popV (xs:List Int) (r:Ring):Int:=rd xs (r.page * 8+r.head)
def popR (r:Ring):Ring:=⟨r.page,(r.head+1) % 8,r.tail⟩
theorem Xxs {xs:List Int} {r:Ring} {v:Int} (h:Xds xs r≠0):Xf9 xs r v=Xds xs r:=by unfold Xf9;rw[if_neg h]
theorem Xxr {xs:List Int} {r:Ring} {v:Int} (h:Xds xs r=0) (hv:¬(0≤v∧v≤65535)):Xf9 xs r v=2:=by unfold Xf9;rw[if_pos h,if_neg hv]
theorem Xsi {xs:List Int} {r:Ring} {v:Int} (h:Xds xs r=0) (hv:0≤v∧v≤65535) (hl:lenR r=7):Xf9 xs r v=1:=by unfold Xf9;rw[if_pos h,if_pos hv,if_pos hl]
theorem Xn2 {xs:List Int} {r:Ring} {v:Int} (h:Xds xs r=0) (hv:0≤v∧v≤65535) (hl:lenR r≠7):Xf9 xs r v=0:=by unfold Xf9;rw[if_pos h,if_pos hv,if_neg hl]
theorem Xl8 {xs:List Int} {r:Ring} {v:Int} (h:Xf9 xs r v=0):Xds xs r=0∧(0≤v∧v≤65535)∧lenR r≠7:=by
 unfold Xf9 at h;split at h
 ·rename_i h1;split at h
  ·rename_i h2;split at h
   ·cases h
   ·rename_i h3;exact⟨h1,h2,h3⟩
  ·cases h
 ·rename_i h1;exact absurd h h1
theorem popE_b {xs:List Int} {r:Ring} (h:Xds xs r≠0):popE xs r=Xds xs r:=by unfold popE;rw[if_neg h]
theorem popE_6 {xs:List Int} {r:Ring} (h:Xds xs r=0) (hl:lenR r=0):popE xs r=6:=by unfold popE;rw[if_pos h,if_pos hl]
theorem popE_0 {xs:List Int} {r:Ring} (h:Xds xs r=0) (hl:lenR r≠0):popE xs r=0:=by unfold popE;rw[if_pos h,if_neg hl]
theorem Xo0 {xs:List Int} {r:Ring} (h:popE xs r=0):Xds xs r=0∧lenR r≠0:=by
 unfold popE at h;split at h
 ·rename_i h1;split at h
  ·cases h
  ·rename_i h3;exact⟨h1,h3⟩
 ·rename_i h1;exact absurd h h1
end
section
instance:DecidableEq Ring:=fun x y=>
 if h:x.page=y.page∧x.head=y.head∧x.tail=y.tail then isTrue (Ring.ext' h.1 h.2.1 h.2.2)else isFalse (fun e=>h (by subst e;exact⟨rfl,rfl,rfl⟩))
structure Brg where
 mode:Int
 base:Int
 cache:List Line
 orders:Ring
 stopped:Bool
 fences:Int
 faults:Ring
 lost:Bool
inductive B_|b (b:Brg) (L:Option Addr) (n c:Nat)|z|y|t
instance (b:Brg) (L:Option Addr) (n c:Nat):CoeDep B_ (.b b L n c) (Array Value):=⟨#[.int .i64 b.mode,.int .i64 b.base,.slice L n c,.int .i64 b.orders.page,.int .i64 b.orders.head,.int .i64 b.orders.tail,.bool b.stopped,.int .i64 b.fences,.int .i64 b.faults.page,.int .i64 b.faults.head,.int .i64 b.faults.tail,.bool b.lost]⟩
instance:CoeDep B_ .z (Array Value):=⟨#[.int .i64 0,.int .i64 0,.slice none 0 0,.int .i64 0,.int .i64 0,.int .i64 0,.bool false,.int .i64 0,.int .i64 0,.int .i64 0,.int .i64 0,.bool false]⟩
instance:CoeDep B_ .y (Array Value):=⟨#[.slice none 0 0,.int .i64 0,.slice none 0 0,.bool false,.int .i64 0,.int .i64 0,.slice none 0 0,.int .i64 0,.int .i64 0,.int .i64 0,.bool false,.int .i64 0,.int .i64 0,.int .i64 0,.int .i64 0,.bool false]⟩
instance:CoeDep B_ .t (Array Value):=⟨#[.bool false,.slice none 0 0,.int .i64 0,.slice none 0 0]⟩
def Brg.no:Brg:=⟨0,0,[],.no,false,0,.no,false⟩
theorem Brg.ext' {x y:Brg} (h1:x.mode=y.mode) (h2:x.base=y.base) (h3:x.cache=y.cache) (h4:x.orders=y.orders) (h5:x.stopped=y.stopped) (h6:x.fences=y.fences) (h7:x.faults=y.faults) (h8:x.lost=y.lost):x=y:=by
 cases x;cases y;simp only[]at *;subst h1;subst h2;subst h3;subst h4;subst h5;subst h6;subst h7;subst h8;rfl
instance:DecidableEq Brg:=fun x y=>
 if h:x.mode=y.mode∧x.base=y.base∧x.cache=y.cache∧x.orders=y.orders∧x.stopped=y.stopped∧x.fences=y.fences∧x.faults=y.faults∧x.lost=y.lost then
  isTrue (Brg.ext' h.1 h.2.1 h.2.2.1 h.2.2.2.1 h.2.2.2.2.1 h.2.2.2.2.2.1 h.2.2.2.2.2.2.1 h.2.2.2.2.2.2.2)
 else isFalse (fun e=>h (by subst e;exact⟨rfl,rfl,rfl,rfl,rfl,rfl,rfl,rfl⟩))
def Xp6 (a b:Brg):Bool:=decide (a=b)
def Line.no:Line:=⟨0,0,0,false,false⟩
def brgR (b:Brg):Prop:=(0≤b.mode∧b.mode≤2)∧(0≤b.base∧b.base<64)∧(0≤b.fences∧b.fences<1000)
instance (b:Brg):Decidable (brgR b):=by unfold brgR;exact inferInstance
def ckB (b:Brg):Int:=if brgR b then(if ckC b.cache=0 then(if Xco b.orders then ckR b.faults else 2)else ckC b.cache)else 2
theorem Xbn (b:Brg):ckB b=0↔brgR b∧ckC b.cache=0∧Xco b.orders∧Xco b.faults:=by
 unfold ckB
 by_cases h1:brgR b
 ·rw[if_pos h1]
  by_cases h2:ckC b.cache=0
  ·rw[if_pos h2]
   by_cases h3:Xco b.orders
   ·rw[if_pos h3];exact⟨fun h=>⟨h1,h2,h3,Xt7 h⟩,fun h=>Xmy h.2.2.2⟩
   ·rw[if_neg h3];exact⟨(fun h=>absurd h (by decide)),fun h=>absurd h.2.2.1 h3⟩
  ·rw[if_neg h2];exact⟨fun h=>absurd h h2,fun h=>absurd h.2.1 h2⟩
 ·rw[if_neg h1];exact⟨(fun h=>absurd h (by decide)),fun h=>absurd h.1 h1⟩
def allE (xs:List Int) (b:Brg):Int:=if cm xs=0 then ckB b else cm xs
theorem Xhs {xs:List Int} {b:Brg} (h:allE xs b=0):cm xs=0∧ckB b=0:=by
 unfold allE at h;split at h
 ·rename_i h0;exact⟨h0,h⟩
 ·rename_i h0;exact absurd h h0
def Xca (xs:List Int) (b:Brg) (d p:Int) (wr:Bool):Line×Bool×Int:=
 let c:=rd xs (b.base * 8+d)
 if cxG c then
  (if bitI c 1 then(⟨d,p,p,true,true⟩,false,0)
   else(if(Xck xs (cxR c) p wr).2=0 then(⟨d,p,(Xck xs (cxR c) p wr).1.p,true,(Xck xs (cxR c) p wr).1.u⟩,true,0)else(.no,false,(Xck xs (cxR c) p wr).2)))
 else(.no,false,2)
def Xdh (xs:List Int) (b:Brg) (d p:Int) (wr:Bool):Brg×Int×Int:=
 if b.mode=0 then(b,0,1)else if b.mode=1 then(b,p,0)else
 match b.cache.find? (hitL d p)with
 |some x=>if wr&&!x.wr then(b,0,5)else(b,x.at_,0)
 |none=>((if(Xca xs b d p wr).2.1 then{ b with cache:=Xfc b.cache (Xca xs b d p wr).1 }else b),(Xca xs b d p wr).1.at_,(Xca xs b d p wr).2.2)
def inD (d p:Int):Prop:=(0≤d∧d<8)∧(0≤p∧p<64)
instance (d p:Int):Decidable (inD d p):=by unfold inD;exact inferInstance
def Xun (xs:List Int) (b:Brg) (d p:Int):Int:=if allE xs b=0 then(if inD d p then 0 else 4)else allE xs b
theorem Xrk {xs:List Int} {b:Brg} {d p:Int} (h:Xun xs b d p=0):cm xs=0∧ckB b=0∧inD d p:=by
 unfold Xun at h;split at h
 ·rename_i h0;split at h
  ·rename_i h1;exact⟨(Xhs h0).1,(Xhs h0).2,h1⟩
  ·cases h
 ·rename_i h0;exact absurd h h0
theorem Xw2 (x:Int):0≤cxR x∧cxR x≤63:=by unfold cxR;split<;>omega
theorem Xia {xs:List Int} {b:Brg} {d p:Int} {wr:Bool} (hd:inD d p) (h:(Xca xs b d p wr).2.1=true) :
  Xcc (Xca xs b d p wr).1=0∧(Xca xs b d p wr).1.dev=d∧(Xca xs b d p wr).1.page=p∧(Xca xs b d p wr).2.2=0:=by
 unfold Xca at h ⊢
 dsimp only at h ⊢
 split at h
 ·rename_i h1
  rw[if_pos h1]
  split at h
  ·cases h
  ·rename_i h2
   rw[if_neg h2]
   split at h
   ·rename_i h3
    rw[if_pos h3]
    refine⟨Xg2 ?_ rfl,rfl,rfl,rfl⟩
    obtain⟨e,h4,_,_⟩:=Xln h3
    have:=Xiw xs (cxR (rd xs (b.base * 8+d))) p
    rw[e]
    unfold Xnp at this;unfold inD at hd;unfold Xgb
    simp only[]
    rcases this with⟨_,_,_,h5⟩|⟨_,h5⟩
    ·omega
    ·omega
   ·cases h
 ·cases h
theorem Xjj {ls:List Line} {d p:Int} (h:ls.find? (hitL d p)=none):Xb7 ls d p = -1:=
 Xgn (fun x hx=>by simpa using List.find?_eq_none.1 h x hx)
theorem Xtr {ls:List Line} {d p:Int} {x:Line} (h:ls.find? (hitL d p)=some x):∃ k:Nat,Xb7 ls d p=(k:Int)∧ls[k]?=some x:=by
 rcases Xe2 ls d p with⟨_,h1⟩|⟨k,y,e,hy,hh,hn⟩
 ·have:=List.find?_some h
  rw[h1 x (List.mem_of_find?_eq_some h)]at this;cases this
 ·refine⟨k,e, ?_⟩
  rw[hy]
  obtain⟨h2,k',h3,h4,h5⟩:=List.find?_eq_some_iff_getElem.1 h
  have hk:k<ls.length:=(List.getElem?_eq_some_iff.1 hy).1
  have e1:ls[k]=y:=(List.getElem?_eq_some_iff.1 hy).2
  have:k=k':=by
   rcases Nat.lt_trichotomy k k' with hlt|rfl|hgt
   ·have:=h5 k hlt;rw[e1,hh]at this;cases this
   ·rfl
   ·have:=hn (ls[k']'(by omega)) (by rw[List.mem_take_iff_getElem];exact⟨k',by omega,rfl⟩)
    rw[h4,h2]at this;cases this
  subst this
  rw[←e1,h4]
theorem Xxb {xs:List Int} {b:Brg} {d p:Int} {wr:Bool} (h:Xun xs b d p=0):ckB (Xdh xs b d p wr).1=0:=by
 obtain⟨h1,h2,h3⟩:=Xrk h
 unfold Xdh
 split
 ·exact h2
 ·split
  ·exact h2
  ·split
   ·split<;>exact h2
   ·rename_i hf
    dsimp only
    split
    ·rename_i hk
     obtain⟨a1,a2,a3,_⟩:=Xia h3 hk
     rw[Xbn]at h2 ⊢
     refine⟨h2.1,Xya (Xk8 h2.2.1 a1 ?_),h2.2.2⟩
     rw[a2,a3,Xjj hf];decide
    ·exact h2
end
section
def Xan (w0 W:World):Prop:=Below w0.heap.size w0 W
theorem Xal (w0:World):Xan w0 w0:=Below.refl _ _
theorem Xar {w0 W:World} (h:Xan w0 W):Xan w0 W.drew:=h.drew
theorem Xae {w0 W:World} (h:Xan w0 W) (o:Obj):Xan w0 (W.alloc o):=Below.alloc h h.size o
theorem Xax {w0 W W':World} (hb:Below W.heap.size W W') (h:Xan w0 W):Xan w0 W':=Below.trans h (hb.mono h.size)
theorem Xbm {w:World} {a:Addr} {v:Value} (h:w.cell? a=some v):a.block<w.heap.size:=by
 rcases Nat.lt_or_ge a.block w.heap.size with hlt|hge
 ·exact hlt
 ·simp[World.cell?,Array.getElem?_eq_none hge]at h
theorem Xak {w0 W:World} {p:Addr} {v:Value} (h:Xan w0 W) (hc:w0.cell? p=some v):W.cell? p=some v:=(Below.cell h (Xbm hc)).trans hc
theorem Xbq {w3 W:World} {a b:Prop} (h:a∧b∧Hid (Xan w3 W)):Xan w3 W:=h.2.2
theorem Xdv {w3 W:World} {a b c d:Prop} (h:a∧b∧c∧d∧Hid (Xan w3 W)):Xan w3 W:=h.2.2.2.2
end
section
theorem Xqx {ls:List Line} {d p:Int} (h:Xb7 ls d p<0):ls.find? (hitL d p)=none:=List.find?_eq_none.2 (fun x hx=>by simp[Xpg h x hx])
end
end Go.Proofs.YtbopdijnojaaiadGreat
