/- The machine: what chapter 11's functions compute, and the plain laws on it. No program in sight, no statement of the seat is proved here. -/
import Derived.Test.YtbopdijnojaaiadGreatWord
import Derived.Test.YtbopdijnojaaiadGreatBase
import Derived.Test.YtbopdijnojaaiadGreatHartP
namespace Go.Proofs.YtbopdijnojaaiadGreat
open Go.RowKit
set_option linter.unusedSimpArgs false
set_option linter.unusedVariables false
section
structure Tch where
 dev:Int
 seen:Int
 at_:Int
 wr:Bool
 value:Int
def Tch.vals (x:Tch):List Value:=[.int .i64 x.dev,.int .i64 x.seen,.int .i64 x.at_,.bool x.wr,.int .i64 x.value]
theorem Tch.ext' {x y:Tch} (h1:x.dev=y.dev) (h2:x.seen=y.seen) (h3:x.at_=y.at_) (h4:x.wr=y.wr) (h5:x.value=y.value):x=y:=by
 cases x;cases y;simp only[]at *;subst h1;subst h2;subst h3;subst h4;subst h5;rfl
instance:DecidableEq Tch:=fun x y=>
 if h:x.dev=y.dev∧x.seen=y.seen∧x.at_=y.at_∧x.wr=y.wr∧x.value=y.value then isTrue (Tch.ext' h.1 h.2.1 h.2.2.1 h.2.2.2.1 h.2.2.2.2)else isFalse (fun e=>h (by subst e;exact⟨rfl,rfl,rfl,rfl,rfl⟩))
structure Tld where
 done:Bool
 data:List Int
 fault:Int
 touched:List Tch
def Tld.no:Tld:=⟨false,[],0,[]⟩
theorem Tld.ext' {x y:Tld} (h1:x.done=y.done) (h2:x.data=y.data) (h3:x.fault=y.fault) (h4:x.touched=y.touched):x=y:=by
 cases x;cases y;simp only[]at *;subst h1;subst h2;subst h3;subst h4;rfl
instance:DecidableEq Tld:=fun x y=>
 if h:x.done=y.done∧x.data=y.data∧x.fault=y.fault∧x.touched=y.touched then isTrue (Tld.ext' h.1 h.2.1 h.2.2.1 h.2.2.2)else isFalse (fun e=>h (by subst e;exact⟨rfl,rfl,rfl,rfl⟩))
def Xis (a b:Tld):Bool:=decide (a=b)
structure Ask where
 dev:Int
 at_:Int
 count:Int
 wr:Bool
 data:List Int
def reqR (a:Ask):Prop:=(0≤a.dev∧a.dev<8)∧0≤a.at_∧a.at_≤512 - a.count
instance (a:Ask):Decidable (reqR a):=by unfold reqR;exact inferInstance
def reqN (a:Ask):Int:=if a.wr then a.count else 0
def reqE (a:Ask):Int:=if 1≤a.count∧a.count≤20 then(if reqR a then(if(a.data.length:Int)=reqN a then(if a.data.all Xch then 0 else 2)else 3)else 4)else 1
theorem Xl1 {a:Ask} (h:¬(1≤a.count∧a.count≤20)):reqE a=1:=by unfold reqE;rw[if_neg h]
theorem Xov {a:Ask} (h:1≤a.count∧a.count≤20) (h2:¬reqR a):reqE a=4:=by unfold reqE;rw[if_pos h,if_neg h2]
theorem Xl2 {a:Ask} (h:1≤a.count∧a.count≤20) (h2:reqR a) (h3:¬(a.data.length:Int)=reqN a):reqE a=3:=by unfold reqE;rw[if_pos h,if_pos h2,if_neg h3]
theorem Xft {a:Ask} (h:reqE a=0):(1≤a.count∧a.count≤20)∧reqR a∧(a.data.length:Int)=reqN a∧∀(k:Nat) (x:Int),a.data[k]?=some x→0≤x∧x≤65535:=by
 unfold reqE at h
 split at h
 ·rename_i h1
  split at h
  ·rename_i h2
   split at h
   ·rename_i h3
    split at h
    ·rename_i h4
     exact⟨h1,h2,h3,fun k x hx=>by simpa[Xch]using List.all_eq_true.1 h4 x (List.mem_of_getElem? hx)⟩
    ·cases h
   ·cases h
  ·cases h
 ·cases h
def dmaE (xs:List Int) (b:Brg) (a:Ask):Int:=if cm xs=0 then(if ckB b=0 then reqE a else ckB b)else cm xs
structure Dst where
 xs:List Int
 b:Brg
 data:List Int
 touched:List Tch
 at_:Int
 page:Int
def dAt (a:Ask) (i:Nat) (s:Dst):Int:=s.at_ * 8+(a.at_+i) % 8
def dPut (a:Ask) (i:Nat) (s:Dst):List Int:=if a.wr then s.xs.set (dAt a i s).toNat (rd a.data i)else s.xs
def dTch (a:Ask) (i:Nat) (s:Dst):Tch:=⟨a.dev,a.at_+i,dAt a i s,a.wr,rd (dPut a i s) (dAt a i s)⟩
def Xf3 (a:Ask) (i:Nat) (s:Dst):Dst:=⟨dPut a i s,s.b,if a.wr then s.data else s.data ++ [rd (dPut a i s) (dAt a i s)],s.touched ++ [dTch a i s],s.at_,s.page⟩
def Xet (a:Ask) (i:Nat):Int:=(a.at_+i) / 8
def Xdb (a:Ask) (i:Nat) (s:Dst):Brg×Int×Int:=Xdh s.xs s.b a.dev (Xet a i) a.wr
def Xg8 (a:Ask) (i:Nat) (s:Dst):Dst:=⟨s.xs,(Xdb a i s).1,s.data,s.touched,(Xdb a i s).2.1,Xet a i⟩
def dFlt (a:Ask) (i:Nat) (s:Dst):Flt:=⟨(Xdb a i s).2.2,a.dev,Xet a i,a.wr⟩
def Xmu (a:Ask) (i:Nat) (s:Dst):List Int×Brg×Tld:=
 ((Xdu s.xs (Xdb a i s).1 (dFlt a i s).w).1,(Xdu s.xs (Xdb a i s).1 (dFlt a i s).w).2,⟨false,s.data,(Xdb a i s).2.2,s.touched⟩)
def dGo (a:Ask):Nat→Nat→Dst→List Int×Brg×Tld
 |0,_,s=>(s.xs,s.b,⟨true,s.data,0,s.touched⟩)
 |n+1,i,s=>
  if Xet a i=s.page then dGo a n (i+1) (Xf3 a i s)
  else if(Xdb a i s).2.2=0 then dGo a n (i+1) (Xf3 a i (Xg8 a i s))
  else Xmu a i s
def dmaM (xs:List Int) (b:Brg) (a:Ask):List Int×Brg×Tld:=dGo a a.count.toNat 0 ⟨xs,b,[],[],0,-1⟩
def dmaA (xs:List Int) (b:Brg) (a:Ask):List Int×Brg×Tld:=if dmaE xs b a=0 then dmaM xs b a else([],.no,.no)
theorem rng4 {x y:Int} (h:0≤x∧x≤63) (h':0≤y∧y≤5):(0≤x∧x≤63)∧(0≤y∧y≤5):=⟨h,h'⟩
theorem Xgf {xs:List Int} {b:Brg} {d p:Int} {wr:Bool} (hb:ckB b=0) (hd:inD d p):(0≤(Xdh xs b d p wr).2.1∧(Xdh xs b d p wr).2.1≤63)∧(0≤(Xdh xs b d p wr).2.2∧(Xdh xs b d p wr).2.2≤5):=by
 have hp:=hd
 unfold inD at hp
 unfold Xdh
 split
 ·(refine rng4 ?_ ?_<;>(simp only[];decide))
 ·split
  ·exact⟨⟨hp.2.1,by simp only[];omega⟩,by simp⟩
  ·split
   ·rename_i x hx
    have hl:=(Xjd (((Xcm _).1 ((Xbn b).1 hb).2.1).2.2 x (List.mem_of_find?_eq_some hx))).1
    unfold Xgb at hl
    split
    ·(refine rng4 ?_ ?_<;>(simp only[];decide))
    ·exact⟨⟨hl.2.2.1,by simp only[];omega⟩,by simp⟩
   ·simp only[]
    unfold Xca
    dsimp only
    split
    ·split
     ·exact⟨⟨hp.2.1,by simp only[];omega⟩,by simp⟩
     ·split
      ·rename_i h0
       obtain⟨e,h4,_,_⟩:=Xln h0
       have:=Xiw xs (cxR (rd xs (b.base * 8+d))) p
       rw[e]
       unfold Xnp at this
       rcases this with⟨_,_,_,h5,h6⟩|⟨_,h5⟩
       ·exact⟨⟨h5,h6⟩,by simp⟩
       ·omega
      ·rename_i h0
       obtain⟨_,h4⟩:=Xoq h0
       (refine rng4 ?_ ?_<;>simp only[]<;>first|decide|omega)
    ·(refine rng4 ?_ ?_<;>(simp only[];decide))
structure DOk (a:Ask) (i:Nat) (s:Dst):Prop where
 km:cm s.xs=0
 kb:ckB s.b=0
 kp:s.page ≠ -1→0≤s.at_∧s.at_≤63
section
variable {a:Ask} {i:Nat} {s:Dst}
theorem d_in (ha:reqE a=0) (hi:(i:Int)<a.count):inD a.dev (Xet a i)∧0≤Xet a i:=by
 obtain⟨h1,h2,_,_⟩:=Xft ha
 unfold reqR at h2
 unfold inD Xet
 omega
theorem d_data (ha:reqE a=0) (hi:(i:Int)<a.count):0≤rd a.data i∧rd a.data i≤65535:=by
 obtain⟨_,_,_,h4⟩:=Xft ha
 unfold rd
 cases e:a.data[(i:Int).toNat]?
 ·simp
 ·exact h4 _ _ e
theorem d_put (ha:reqE a=0) (hi:(i:Int)<a.count) (h:cm s.xs=0):cm (dPut a i s)=0:=by
 unfold dPut
 split
 ·exact Xt6 h (d_data ha hi)
 ·exact h
theorem DOk.word (ha:reqE a=0) (hi:(i:Int)<a.count) (h:DOk a i s):DOk a (i+1) (Xf3 a i s):=⟨d_put ha hi h.km,h.kb,h.kp⟩
theorem DOk.next (ha:reqE a=0) (hi:(i:Int)<a.count) (h:DOk a i s):DOk a i (Xg8 a i s):=
 ⟨h.km,Xxb (by unfold Xun;rw[if_pos (Xnm h.km h.kb),if_pos (d_in ha hi).1]),fun _=>(Xgf h.kb (d_in ha hi).1).1⟩
theorem Xt3 (ha:reqE a=0) (hi:(i:Int)<a.count) (h:DOk a i s) (hf:(Xdb a i s).2.2≠0):(dFlt a i s).e=0:=by
 have h1:=(Xgf (xs:=s.xs) (wr:=a.wr) h.kb (d_in ha hi).1).2
 have h2:=(d_in ha hi).1
 unfold inD at h2
 refine Xhp ?_
 unfold FltR dFlt
 unfold Xdb at hf ⊢
 simp only[]
 omega
end
theorem Xgd {xs:List Int} {b:Brg} {a:Ask} (h1:cm xs=0) (h2:ckB b=0):DOk a 0 ⟨xs,b,[],[],0,-1⟩:=⟨h1,h2,fun h=>absurd rfl h⟩
end
section
structure Mch where
 m:List Int
 h:Hrt
 b:Brg
def Mch.no:Mch:=⟨[],.no,.no⟩
theorem Mch.ext' {x y:Mch} (h1:x.m=y.m) (h2:x.h=y.h) (h3:x.b=y.b):x=y:=by
 cases x;cases y;simp only[]at *;subst h1;subst h2;subst h3;rfl
instance:DecidableEq Mch:=fun x y=>
 if h:x.m=y.m∧x.h=y.h∧x.b=y.b then isTrue (Mch.ext' h.1 h.2.1 h.2.2)else isFalse (fun e=>h (by subst e;exact⟨rfl,rfl,rfl⟩))
def Xj2 (a b:Mch):Bool:=decide (a=b)
theorem Xrx (a b:Mch):Xj2 a b=(decide (a.m=b.m)&&Xkt a.h b.h&&Xp6 a.b b.b):=by
 unfold Xj2 Xkt Xp6
 rw[Bool.eq_iff_iff]
 simp only[decide_eq_true_eq,Bool.and_eq_true]
 constructor
 ·rintro rfl;exact⟨⟨rfl,rfl⟩,rfl⟩
 ·rintro⟨⟨h1,h2⟩,h3⟩;exact Mch.ext' h1 h2 h3
inductive M_|m (x:Mch) (A:Option Addr) (a b:Nat) (B:Option Addr) (c d:Nat) (L:Option Addr) (e f:Nat)
instance (x:Mch) (A:Option Addr) (a b:Nat) (B:Option Addr) (c d:Nat) (L:Option Addr) (e f:Nat):CoeDep M_ (.m x A a b B c d L e f) (Array Value):=⟨#[.slice A a b,.int .i64 x.h.at_,.slice B c d,.bool x.h.done,.int .i64 x.b.mode,.int .i64 x.b.base,.slice L e f,.int .i64 x.b.orders.page,.int .i64 x.b.orders.head,.int .i64 x.b.orders.tail,.bool x.b.stopped,.int .i64 x.b.fences,.int .i64 x.b.faults.page,.int .i64 x.b.faults.head,.int .i64 x.b.faults.tail,.bool x.b.lost]⟩
structure Hap where
 kind:Int
 n:Int
 a:Ask
def ckM (x:Mch):Int:=if cm x.m=0 then(if ckH x.h=0 then ckB x.b else ckH x.h)else cm x.m
theorem Xct (x:Mch):ckM x=0↔cm x.m=0∧ckH x.h=0∧ckB x.b=0:=by
 unfold ckM
 by_cases h1:cm x.m=0
 ·rw[if_pos h1]
  by_cases h2:ckH x.h=0
  ·rw[if_pos h2];exact⟨fun h=>⟨h1,h2,h⟩,fun h=>h.2.2⟩
  ·rw[if_neg h2];exact⟨fun h=>absurd h h2,fun h=>absurd h.2.1 h2⟩
 ·rw[if_neg h1];exact⟨fun h=>absurd h h1,fun h=>absurd h.1 h1⟩
def hapE (x:Mch) (y:Hap):Int:=
 if y.kind=1 then(if x.h.done=true then 6 else 0)
 else if y.kind=2 then Xe1 x.m x.b
 else if y.kind=3 then reqE y.a
 else if y.kind=4 then(if 0≤y.n∧y.n<x.b.cache.length then 0 else 4)
 else 3
def hapM (x:Mch) (y:Hap):Mch×Tld:=
 if y.kind=1 then(⟨(Xee x.m x.h x.b).1,(Xee x.m x.h x.b).2.1,(Xee x.m x.h x.b).2.2⟩,.no)
 else if y.kind=2 then(⟨x.m,x.h,Xga x.m x.b⟩,.no)
 else if y.kind=3 then(⟨(dmaM x.m x.b y.a).1,x.h,(dmaM x.m x.b y.a).2.1⟩,(dmaM x.m x.b y.a).2.2)
 else(⟨x.m,x.h,{ x.b with cache:=x.b.cache.eraseIdx y.n.toNat }⟩,.no)
def doE (x:Mch) (y:Hap):Int:=if ckM x=0 then hapE x y else ckM x
def doA (x:Mch) (y:Hap):Mch×Tld:=if doE x y=0 then hapM x y else(.no,.no)
theorem Xg7 {x:Mch} {y:Hap} (h:ckM x=0):doE x y=hapE x y:=by unfold doE;rw[if_pos h]
theorem Xpd {x:Mch} {y:Hap} (hk:y.kind=1):hapE x y=if x.h.done=true then 6 else 0:=by unfold hapE;rw[if_pos hk]
theorem Xpc {x:Mch} {y:Hap} (hk:y.kind=2):hapE x y=Xe1 x.m x.b:=by unfold hapE;rw[if_neg (by omega),if_pos hk]
theorem Xpb {x:Mch} {y:Hap} (hk:y.kind=3):hapE x y=reqE y.a:=by unfold hapE;rw[if_neg (by omega),if_neg (by omega),if_pos hk]
theorem Xpa {x:Mch} {y:Hap} (hk:y.kind=4):hapE x y=if 0≤y.n∧y.n<x.b.cache.length then 0 else 4:=by unfold hapE;rw[if_neg (by omega),if_neg (by omega),if_neg (by omega),if_pos hk]
theorem Xtl {x:Mch} {y:Hap} (h1:y.kind≠1) (h2:y.kind≠2) (h3:y.kind≠3) (h4:y.kind≠4):hapE x y=3:=by unfold hapE;rw[if_neg h1,if_neg h2,if_neg h3,if_neg h4]
theorem Xtk {x:Mch} {y:Hap} (hk:y.kind=1):hapM x y=(⟨(Xee x.m x.h x.b).1,(Xee x.m x.h x.b).2.1,(Xee x.m x.h x.b).2.2⟩,.no):=by unfold hapM;rw[if_pos hk]
theorem Xtj {x:Mch} {y:Hap} (hk:y.kind=2):hapM x y=(⟨x.m,x.h,Xga x.m x.b⟩,.no):=by unfold hapM;rw[if_neg (by omega),if_pos hk]
theorem Xti {x:Mch} {y:Hap} (hk:y.kind=3):hapM x y=(⟨(dmaM x.m x.b y.a).1,x.h,(dmaM x.m x.b y.a).2.1⟩,(dmaM x.m x.b y.a).2.2):=by unfold hapM;rw[if_neg (by omega),if_neg (by omega),if_pos hk]
theorem Xth {x:Mch} {y:Hap} (hk:y.kind=4):hapM x y=(⟨x.m,x.h,{ x.b with cache:=x.b.cache.eraseIdx y.n.toNat }⟩,.no):=by unfold hapM;rw[if_neg (by omega),if_neg (by omega),if_neg (by omega)]
theorem Xrp {x:Mch} (h:ckM x=0):Xe3 x.m x.h x.b=if x.h.done=true then 6 else 0:=by
 obtain⟨h1,h2,h3⟩:=(Xct x).1 h
 unfold Xe3;rw[if_pos h1,if_pos h2,if_pos h3]
theorem Xw1 {x:Mch} (h:ckM x=0) (a:Ask):dmaE x.m x.b a=reqE a:=by
 obtain⟨h1,h2,h3⟩:=(Xct x).1 h
 unfold dmaE;rw[if_pos h1,if_pos h3]
def nxtM (x:Mch) (y:Hap):Mch:=if doE x y=0 then(hapM x y).1 else x
def runS (x:Mch):List Hap→Mch
 |[]=>x
 |y :: r=>runS (nxtM x y) r
def runT (x:Mch):List Hap→List Tld
 |[]=>[]
 |y :: r=>(doA x y).2 :: runT (nxtM x y) r
def runR (x:Mch):List Hap→List Int
 |[]=>[]
 |y :: r=>doE x y :: runR (nxtM x y) r
theorem Xr1 {x:Mch} {l:List Hap} {y:Hap}:runS x (l ++ [y])=nxtM (runS x l) y:=by
 induction l generalizing x with
 |nil=>rfl
 |cons z r ih=>exact ih
theorem Xr0 {x:Mch} {l:List Hap} {y:Hap}:runT x (l ++ [y])=runT x l ++ [(doA (runS x l) y).2]:=by
 induction l generalizing x with
 |nil=>rfl
 |cons z r ih=>simp only[List.cons_append,runT,runS,ih]
theorem Xr2 {x:Mch} {l:List Hap} {y:Hap}:runR x (l ++ [y])=runR x l ++ [doE (runS x l) y]:=by
 induction l generalizing x with
 |nil=>rfl
 |cons z r ih=>simp only[List.cons_append,runR,runS,ih]
end
end Go.Proofs.YtbopdijnojaaiadGreat
