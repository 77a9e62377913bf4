/- The hart: plain laws between the document's words and the program's. No program in sight, no statement of the seat is proved here. -/
import Derived.Test.YtbopdijnojaaiadGreatBase
import Derived.Test.YtbopdijnojaaiadGreatCode
namespace Go.Proofs.YtbopdijnojaaiadGreat
open Go.RowKit
set_option linter.unusedSimpArgs false
set_option linter.unusedVariables false
section
structure Hrt where
 at_:Int
 regs:List Int
 done:Bool
def Hrt.no:Hrt:=⟨0,[],false⟩
theorem Hrt.ext' {x y:Hrt} (h1:x.at_=y.at_) (h2:x.regs=y.regs) (h3:x.done=y.done):x=y:=by
 cases x;cases y;simp only[]at *;subst h1;subst h2;subst h3;rfl
instance:DecidableEq Hrt:=fun x y=>
 if h:x.at_=y.at_∧x.regs=y.regs∧x.done=y.done then isTrue (Hrt.ext' h.1 h.2.1 h.2.2)else isFalse (fun e=>h (by subst e;exact⟨rfl,rfl,rfl⟩))
def Xkt (a b:Hrt):Bool:=decide (a=b)
theorem Xry (a b:Hrt):Xkt a b=(decide (a.at_=b.at_)&&decide (a.regs=b.regs)&&decide (a.done=b.done)):=by
 unfold Xkt
 rw[Bool.eq_iff_iff]
 simp only[decide_eq_true_eq,Bool.and_eq_true]
 constructor
 ·rintro rfl;exact⟨⟨rfl,rfl⟩,rfl⟩
 ·rintro⟨⟨h1,h2⟩,h3⟩;exact Hrt.ext' h1 h2 h3
def ckH (h:Hrt):Int:=if h.regs.length=8 then(if 0≤h.at_∧h.at_<512 then(if h.regs.all Xch then 0 else 2)else 2)else 3
theorem Xub {h:Hrt} (h1:h.regs.length≠8):ckH h=3:=by simp[ckH,h1]
theorem Xw6 {h:Hrt} (h1:h.regs.length=8) (h2:¬(0≤h.at_∧h.at_<512)):ckH h=2:=by simp only[ckH,if_pos h1,if_neg h2]
theorem Xuc {h:Hrt} {k:Nat} {x:Int} (h1:h.regs.length=8) (h2:0≤h.at_∧h.at_<512) (hx:h.regs[k]?=some x) (h3:Xch x=false):ckH h=2:=by
 simp only[ckH,if_pos h1,if_pos h2,Xjw hx h3];rfl
theorem Xt9 {h:Hrt} (h1:h.regs.length=8) (h2:0≤h.at_∧h.at_<512) (h3:(h.regs.take 8).all Xch=true):ckH h=0:=by
 rw[List.take_of_length_le (by omega)]at h3;simp only[ckH,if_pos h1,if_pos h2,h3];rfl
theorem Xap {h:Hrt} (e:ckH h=0):h.regs.length=8∧(0≤h.at_∧h.at_<512)∧∀(k:Nat) (x:Int),h.regs[k]?=some x→0≤x∧x≤65535:=by
 unfold ckH at e
 split at e
 ·rename_i hl
  split at e
  ·rename_i ha
   split at e
   ·rename_i hw
    refine⟨hl,ha,fun k x hx=>?_⟩
    have:=List.all_eq_true.1 hw x (List.mem_of_getElem? hx)
    simpa[Xch]using this
   ·cases e
  ·cases e
 ·cases e
theorem Xua {h:Hrt} (h1:h.regs.length=8) (h2:0≤h.at_∧h.at_<512) (h3:∀(k:Nat) (x:Int),h.regs[k]?=some x→0≤x∧x≤65535):ckH h=0:=by
 refine Xt9 h1 h2 ?_
 rw[List.take_of_length_le (by omega),List.all_eq_true]
 intro x hx
 obtain⟨k,hk⟩:=List.getElem?_of_mem hx
 simpa[Xch]using h3 k x hk
def stB (b:Brg):Int:=(if b.stopped then 1 else 0)+(if b.lost then 2 else 0)
def Xf4 (b:Brg) (k:Int):Int:=rd [b.mode,b.base,b.orders.page,b.orders.tail,b.orders.head,b.faults.page,b.faults.head,b.faults.tail,b.fences,stB b] k
def Xf1 (b:Brg) (k v:Int):Brg:=
 if k=0 then{ b with mode:=v }else if k=1 then{ b with base:=v }else
 if k=2 then{ b with orders:=⟨v,b.orders.head,b.orders.tail⟩ }else if k=3 then{ b with orders:=⟨b.orders.page,b.orders.head,v⟩ }else
 if k=5 then{ b with faults:=⟨v,b.faults.head,b.faults.tail⟩ }else if k=6 then{ b with faults:=⟨b.faults.page,v,b.faults.tail⟩ }else b
def Xp5 (k:Int):Bool:=k==0||k==1||k==2||k==3||k==5||k==6
def Xbi (b:Brg) (k v:Int):Brg×Bool:=
 if k=9 then(if v=0 then({ b with stopped:=false,lost:=false },true)else(b,false))
 else if Xp5 k=true∧ckB (Xf1 b k v)=0 then(Xf1 b k v,true)else(b,false)
def Hrt.setR (h:Hrt) (a v:Int):Hrt:={ h with regs:=h.regs.set a.toNat v }
def shM (x i:Int):Int:=x * 2 ^ (min i 16).toNat % 65536
def Xcb (xs:List Int) (h:Hrt) (b:Brg) (k a c i:Int):List Int×Hrt×Brg×Bool:=
 if k=1 then(xs,h.setR a i,b,true)
 else if k=2 then(xs,h.setR a ((rd h.regs a+rd h.regs c) % 65536),b,true)
 else if k=3 then(xs,h.setR a (shM (rd h.regs a) i),b,true)
 else if k=4 then(if rd h.regs c+i<512 then(xs,h.setR a (rd xs (rd h.regs c+i)),b,true)else(xs,h,b,false))
 else if k=5 then(if rd h.regs c+i<512 then(xs.set (rd h.regs c+i).toNat (rd h.regs a),h,b,true)else(xs,h,b,false))
 else if k=6 then(if rd h.regs a=rd h.regs c then(xs,{ h with at_:=i },b,true)else(xs,h,b,true))
 else if k=7 then(xs,h,(Xbi b i (rd h.regs a)).1,(Xbi b i (rd h.regs a)).2)
 else if k=8 then(if i<10 then(xs,h.setR a (Xf4 b i),b,true)else(xs,h,b,false))
 else(xs,h,b,false)
def insK (v:Int):Int:=rdF v (v / 4096)
def insA (v:Int):Int:=rdF v (v / 512 % 8)
def insC (v:Int):Int:=rdF v (v / 64 % 8)
def insI (v:Int):Int:=rdF v (v % 64)
def Xee (xs:List Int) (h:Hrt) (b:Brg):List Int×Hrt×Brg:=
 if rdE (rd xs h.at_)=0∧(Xcb xs ⟨(h.at_+1) % 512,h.regs,h.done⟩ b (insK (rd xs h.at_)) (insA (rd xs h.at_)) (insC (rd xs h.at_)) (insI (rd xs h.at_))).2.2.2=true then
  ((Xcb xs ⟨(h.at_+1) % 512,h.regs,h.done⟩ b (insK (rd xs h.at_)) (insA (rd xs h.at_)) (insC (rd xs h.at_)) (insI (rd xs h.at_))).1,
   (Xcb xs ⟨(h.at_+1) % 512,h.regs,h.done⟩ b (insK (rd xs h.at_)) (insA (rd xs h.at_)) (insC (rd xs h.at_)) (insI (rd xs h.at_))).2.1,
   (Xcb xs ⟨(h.at_+1) % 512,h.regs,h.done⟩ b (insK (rd xs h.at_)) (insA (rd xs h.at_)) (insC (rd xs h.at_)) (insI (rd xs h.at_))).2.2.1)
 else(xs,{ h with done:=true },b)
def Xe3 (xs:List Int) (h:Hrt) (b:Brg):Int:=if cm xs=0 then(if ckH h=0 then(if ckB b=0 then(if h.done then 6 else 0)else ckB b)else ckH h)else cm xs
def Xrq (xs:List Int) (h:Hrt) (b:Brg):List Int×Hrt×Brg:=if Xe3 xs h b=0 then Xee xs h b else([],.no,.no)
theorem Xlw {xs:List Int} {h:Hrt} {b:Brg} (e:Xe3 xs h b=0):cm xs=0∧ckH h=0∧ckB b=0∧h.done=false:=by
 unfold Xe3 at e
 split at e
 ·rename_i h1
  split at e
  ·rename_i h2
   split at e
   ·rename_i h3
    split at e
    ·cases e
    ·rename_i h4;exact⟨h1,h2,h3,by simpa using h4⟩
   ·rename_i h3;exact absurd e h3
  ·rename_i h2;exact absurd e h2
 ·rename_i h1;exact absurd e h1
end
section
theorem Xcn {xs:List Int} {k:Int} (hx:∀(j:Nat) (x:Int),xs[j]?=some x→0≤x∧x≤65535):0≤rd xs k∧rd xs k≤65535:=by
 unfold rd
 cases e:xs[k.toNat]?
 ·simp
 ·exact hx _ _ e
theorem Xy6 {h:Hrt} {a v:Int} (h0:ckH h=0) (hv:0≤v∧v≤65535):ckH (h.setR a v)=0:=by
 obtain⟨h1,h2,h3⟩:=Xap h0
 refine Xua (by simp[Hrt.setR,h1]) h2 (fun k x hx=>?_)
 simp only[Hrt.setR]at hx
 rw[List.getElem?_set]at hx
 split at hx
 ·split at hx
  ·injection hx with e;subst e;exact hv
  ·cases hx
 ·exact h3 k x hx
theorem Xlb {h:Hrt} {v:Int} (h0:ckH h=0) (hv:0≤v∧v<512):ckH ⟨v,h.regs,h.done⟩=0:=by
 obtain⟨h1,_,h3⟩:=Xap h0
 exact Xua (h:=⟨v,h.regs,h.done⟩) h1 hv h3
theorem Xnj (b:Brg) (k v:Int):(Xf1 b k v).cache=b.cache∧(Xf1 b k v).fences=b.fences∧(Xf1 b k v).orders.head=b.orders.head∧(Xf1 b k v).faults.tail=b.faults.tail:=by
 unfold Xf1
 (repeat' split)<;>exact⟨rfl,rfl,rfl,rfl⟩
theorem Xnk (b:Brg) (k v:Int) (h0:ckB b=0):ckB (Xbi b k v).1=0∧(Xbi b k v).1.cache=b.cache∧(Xbi b k v).1.fences=b.fences∧(Xbi b k v).1.orders.head=b.orders.head∧(Xbi b k v).1.faults.tail=b.faults.tail:=by
 unfold Xbi
 split
 ·split
  ·refine⟨?_,rfl,rfl,rfl,rfl⟩
   rw[Xbn]at h0 ⊢;exact h0
  ·exact⟨h0,rfl,rfl,rfl,rfl⟩
 ·split
  ·rename_i h;exact⟨h.2,Xnj b k v⟩
  ·exact⟨h0,rfl,rfl,rfl,rfl⟩
theorem Xue (b:Brg) (k v:Int) (h:(Xbi b k v).2=false):(Xbi b k v).1=b:=by
 unfold Xbi at h ⊢
 split
 ·rename_i h1;rw[if_pos h1]at h
  split
  ·rename_i h2;rw[if_pos h2]at h;cases h
  ·rfl
 ·rename_i h1;rw[if_neg h1]at h
  split
  ·rename_i h2;rw[if_pos h2]at h;cases h
  ·rfl
structure Kps (xs:List Int) (h:Hrt) (b:Brg) (r:List Int×Hrt×Brg×Bool):Prop where
 km:cm r.1=0
 kh:ckH r.2.1=0
 kb:ckB r.2.2.1=0
 kd:r.2.1.done=h.done
 kc:r.2.2.1.cache=b.cache∧r.2.2.1.fences=b.fences∧r.2.2.1.orders.head=b.orders.head∧r.2.2.1.faults.tail=b.faults.tail
 one:(r.1=xs∧r.2.1.regs=h.regs)∨(r.2.2.1=b∧((r.1=xs∧∃ j v,r.2.1.regs=h.regs.set j v)∨(r.2.1.regs=h.regs∧∃ j v,r.1=xs.set j v)))
 at_:r.2.1.at_=h.at_∨(0≤r.2.1.at_∧r.2.1.at_≤63)
 no:r.2.2.2=false→r.1=xs∧r.2.1=h∧r.2.2.1=b
theorem sh_rng (u i:Int):0≤shM u i∧shM u i≤65535:=by unfold shM;omega
theorem in_rng {b:Brg} {k:Int} (h0:ckB b=0):0≤Xf4 b k∧Xf4 b k≤65535:=by
 rw[Xbn]at h0
 obtain⟨h1,_,h2,h3⟩:=h0
 unfold brgR at h1;unfold Xco at h2 h3
 unfold Xf4
 refine Xcn (fun j x hx=>?_)
 have hst:0≤stB b∧stB b≤3:=by unfold stB;(repeat' split)<;>omega
 match j,hx with
 |0,hx=>injection hx with e;subst e;omega
 |1,hx=>injection hx with e;subst e;omega
 |2,hx=>injection hx with e;subst e;omega
 |3,hx=>injection hx with e;subst e;omega
 |4,hx=>injection hx with e;subst e;omega
 |5,hx=>injection hx with e;subst e;omega
 |6,hx=>injection hx with e;subst e;omega
 |7,hx=>injection hx with e;subst e;omega
 |8,hx=>injection hx with e;subst e;omega
 |9,hx=>injection hx with e;subst e;omega
 |n+10,hx=>simp at hx
section
variable {xs:List Int} {h:Hrt} {b:Brg}
theorem Xjg (h0:cm xs=0) (h1:ckH h=0) (h2:ckB b=0) {a v:Int} (hv:0≤v∧v≤65535):Kps xs h b (xs,h.setR a v,b,true):=
 ⟨h0,Xy6 h1 hv,h2,rfl,⟨rfl,rfl,rfl,rfl⟩,Or.inr ⟨rfl,Or.inl ⟨rfl,a.toNat,v,rfl⟩⟩,Or.inl rfl,fun e=>by cases e⟩
theorem Xmm (h0:cm xs=0) (h1:ckH h=0) (h2:ckB b=0) {k:Bool}:Kps xs h b (xs,h,b,k):=
 ⟨h0,h1,h2,rfl,⟨rfl,rfl,rfl,rfl⟩,Or.inl ⟨rfl,rfl⟩,Or.inl rfl,fun _=>⟨rfl,rfl,rfl⟩⟩
theorem Xkh (h0:cm xs=0) (h1:ckH h=0) (h2:ckB b=0) {k a c i:Int} (hi:0≤i∧i≤63):Kps xs h b (Xcb xs h b k a c i):=by
 have hx:=(Xaz h0).2
 have hr:=(Xap h1).2.2
 unfold Xcb
 split
 ·exact Xjg h0 h1 h2 (by omega)
 split
 ·exact Xjg h0 h1 h2 (by omega)
 split
 ·exact Xjg h0 h1 h2 (sh_rng _ _)
 split
 ·split
  ·exact Xjg h0 h1 h2 (Xcn hx)
  ·exact Xmm h0 h1 h2
 split
 ·split
  ·exact⟨Xt6 h0 (Xcn hr),h1,h2,rfl,⟨rfl,rfl,rfl,rfl⟩,Or.inr ⟨rfl,Or.inr ⟨rfl,_,_,rfl⟩⟩,Or.inl rfl,fun e=>by cases e⟩
  ·exact Xmm h0 h1 h2
 split
 ·split
  ·exact⟨h0,Xlb h1 (by omega),h2,rfl,⟨rfl,rfl,rfl,rfl⟩,Or.inl ⟨rfl,rfl⟩,Or.inr hi,fun e=>by cases e⟩
  ·exact Xmm h0 h1 h2
 split
 ·have hb:=Xnk b i (rd h.regs a) h2
  exact⟨h0,h1,hb.1,rfl,hb.2,Or.inl ⟨rfl,rfl⟩,Or.inl rfl,fun e=>⟨rfl,rfl,Xue _ _ _ e⟩⟩
 split
 ·split
  ·exact Xjg h0 h1 h2 (in_rng h2)
  ·exact Xmm h0 h1 h2
 exact Xmm h0 h1 h2
end
theorem Xix (v:Int):0≤insI v∧insI v≤63:=by unfold insI rdF;split<;>omega
end
section
def dbl (u:Int):Nat→Int
 |0=>u
 |n+1=>dbl u n * 2 % 65536
theorem Xy0 {u:Int} (h:0≤u∧u≤65535) (n:Nat):0≤dbl u n∧dbl u n≤65535:=by
 cases n with
 |zero=>exact h
 |succ n=>unfold dbl;omega
theorem Xt2 {u:Int} (h:0≤u∧u≤65535) (n:Nat):dbl u n=u * 2 ^ n % 65536:=by
 induction n with
 |zero=>unfold dbl;rw[Int.pow_zero,Int.mul_one];omega
 |succ n ih=>
  unfold dbl
  rw[ih,Int.pow_succ,←Int.mul_assoc]
  generalize u * 2 ^ n=p
  omega
theorem Xy1 {u:Int} (h:0≤u∧u≤65535) (n:Nat):dbl u (16+n)=0:=by
 induction n with
 |zero=>rw[Nat.add_zero,Xt2 h];show u * 65536 % 65536=0;omega
 |succ n ih=>show dbl u (16+n) * 2 % 65536=0;rw[ih];rfl
theorem dbl_sh {u i:Int} (h:0≤u∧u≤65535) (hi:0≤i):dbl u i.toNat=shM u i:=by
 unfold shM
 by_cases hq:i≤16
 ·rw[show min i 16=i by omega,Xt2 h]
 ·rw[show min i 16=16 by omega,show i.toNat=16+(i.toNat - 16) by omega,Xy1 h]
  show 0=u * 65536 % 65536;omega
def Xd3 (k:Int):Int:=if k=0 then 2 else if k=1 then 63 else if k=2 then 63 else if k=3 then 7 else if k=5 then 63 else if k=6 then 7 else if k=9 then 0 else -1
def Xh4 (b:Brg) (k v:Int):Brg:=if k=9 then{ b with stopped:=false,lost:=false }else Xf1 b k v
theorem Xjr {b:Brg} {k v:Int} (h0:ckB b=0) (hv:0≤v):Xbi b k v=if v≤Xd3 k then(Xh4 b k v,true)else(b,false):=by
 by_cases h9:k=9
 ·subst h9
  unfold Xbi Xh4
  rw[if_pos rfl,if_pos rfl,show Xd3 9=0 from rfl]
  by_cases h:v=0
  ·rw[if_pos h,if_pos (by omega)]
  ·rw[if_neg h,if_neg (by omega)]
 ·unfold Xbi Xh4
  rw[if_neg h9,if_neg h9]
  rw[Xbn]at h0
  obtain⟨h1,h2,h3,h4⟩:=h0
  unfold brgR at h1
  unfold Xco at h3 h4
  by_cases hs:Xp5 k=true
  ·have hk:k=0∨k=1∨k=2∨k=3∨k=5∨k=6:=by simp[Xp5]at hs;omega
   have hm:ckB (Xf1 b k v)=0↔v≤Xd3 k:=by
    rw[Xbn]
    rcases hk with rfl|rfl|rfl|rfl|rfl|rfl
    all_goals
     simp only[Xf1,Xd3,brgR,Xco,if_true,if_false,show ¬(1:Int)=0 by decide,show ¬(2:Int)=0 by decide,show ¬(2:Int)=1 by decide,show ¬(3:Int)=0 by decide,show ¬(3:Int)=1 by decide,show ¬(3:Int)=2 by decide,show ¬(5:Int)=0 by decide,show ¬(5:Int)=1 by decide,show ¬(5:Int)=2 by decide,show ¬(5:Int)=3 by decide,show ¬(6:Int)=0 by decide,show ¬(6:Int)=1 by decide,show ¬(6:Int)=2 by decide,show ¬(6:Int)=3 by decide,show ¬(6:Int)=5 by decide]
     constructor
     ·intro hh;omega
     ·intro hh;refine⟨?_,h2, ?_, ?_⟩<;>omega
   by_cases h:v≤Xd3 k
   ·rw[if_pos h,if_pos ⟨hs,hm.2 h⟩]
   ·rw[if_neg h,if_neg (fun hh=>h (hm.1 hh.2))]
  ·rw[if_neg (fun hh=>hs hh.1)]
   rw[if_neg]
   intro hh
   apply hs
   simp only[Xd3]at hh
   (repeat' split at hh)<;>first|(subst_vars;rfl)|omega
end
end Go.Proofs.YtbopdijnojaaiadGreat
