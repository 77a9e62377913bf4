/- The library's Equal at lines. No statement of the seat is proved here. -/
import Derived.Test.YtbopdijnojaaiadGreatProg
import Derived.Test.YtbopdijnojaaiadGreatBase
namespace Go.Proofs.YtbopdijnojaaiadGreat
set_option maxRecDepth 100000
set_option maxHeartbeats 4000000
open Go.RowKit
set_option linter.unusedSimpArgs false
set_option linter.unusedVariables false
section
def inB (n a b:Int):Bool:=decide (a≤n)&&decide (n≤b)
theorem Xb2 {n a b:Int} (h:a≤n∧n≤b):inB n a b=true:=by simp[inB,h]
theorem Xgs {n a b:Int} (h:¬(a≤n∧n≤b)):inB n a b=false:=by simp only[inB,Bool.and_eq_false_iff,decide_eq_false_iff_not];omega
theorem Xbc (n a b:Int) (w:World) :
  Calls Tryz.prog 38 #[.int .i64 n,.int .i64 a,.int .i64 b] w fun e w'=>e=.returned (.bool (inB n a b))∧w=w':=by
 go_enter Tryz.func38,Tryz.ntmps38
 go_wp2
 all_goals go_ret
 all_goals refine⟨Xbr ?_,rfl⟩
 all_goals (rw[Bool.eq_iff_iff];simp[inB]<;>omega)
end
section
def eqI (xs ys:List Int):Bool:=xs==ys
theorem Xtu {xs ys:List Int} (h:xs.length≠ys.length):false=eqI xs ys:=by
 symm;unfold eqI;rw[beq_eq_false_iff_ne];intro e;exact h (by rw[e])
theorem Xwx {xs ys:List Int} {k:Nat} {x y:Int} (hx:xs[k]?=some x) (hy:ys[k]?=some y) (h:(x != y)=true):false=eqI xs ys:=by
 symm;unfold eqI;rw[beq_eq_false_iff_ne];intro e;subst e;rw[hx]at hy;simp at hy h;exact h hy
theorem Xtv {xs ys:List Int} {k:Nat} (hx:xs.length=k) (hy:ys.length=k) (h:xs.take k=ys.take k):true=eqI xs ys:=by
 rw[List.take_of_length_le (by omega),List.take_of_length_le (by omega)]at h;simp[eqI,h]
theorem Xe6 {α:Type} {xs ys:List α} {k:Nat} {x y:α} (hx:xs[k]?=some x) (hy:ys[k]?=some y) (h:xs.take k=ys.take k) (e:x=y):xs.take (k+1)=ys.take (k+1):=by
 rw[List.take_add_one,List.take_add_one,hx,hy,h,e]
theorem Xgg (A B:Option Addr) (n m c d:Nat) (xs ys:List Int) (w:World) (hx:Ints w w.heap.size A n xs) (hy:Ints w w.heap.size B m ys) :
  Calls Tryz.prog 29 #[.slice A n c,.slice B m d] w fun e w'=>e=.returned (.bool (eqI xs ys))∧Below w.heap.size w w':=by
 have hn:=hx.bd
 have HX:=Zh hx;clear hx
 have HY:=Zh hy;clear hy
 by_cases hnm:n=m
 ·subst hnm
  go_enter Tryz.func29,Tryz.ntmps29
  go_wp2
  go_loopw [13,5] (fun i _ wr=>∃ k:Nat,k≤n∧i=.int .i64 k∧Hid (xs.take k=ys.take k)∧∃ q,wr=w.drewN q) (fun i _ _=>n - (intOf i).toNat)
  case atStart=>exact⟨0,by omega,rfl,by simp[Hid],0,rfl⟩
  case round=>
   obtain⟨k,hk,rfl,hall,q,rfl⟩:=hrel
   by_cases hlt:k<n
   ·obtain⟨x,hxk⟩:=Xa2 xs (k:=k) (by rw[HX.out.len];exact hlt)
    obtain⟨y,hyk⟩:=Xa2 ys (k:=k) (by rw[HY.out.len];exact hlt)
    obtain⟨b,off,rfl,hb,hc⟩:=HX.out.at_ (by omega)
    obtain⟨b',off',rfl,hb',hc'⟩:=HY.out.at_ (by omega)
    have h1:=hc k x hxk
    have h2:=hc' k y hyk
    clear hc hc'
    have HXK:=Zh hxk;clear hxk
    have HYK:=Zh hyk;clear hyk
    go_wp2
    go_quiet (fail)
    go_wp2
    ·go_ret
     exact⟨Xbr (Xwx HXK.out HYK.out ‹_›),Xbs (Xbs (Below.refl _ _) _) _⟩
    ·go_roundw
     case rel=>exact⟨k+1,by omega,by go_num,Xe6 HXK.out HYK.out hall.out (by simpa using ‹(x != y)=false›),_,rfl⟩
     case measure=>simp[intOf];omega
   ·go_wp2
    go_ret
    obtain rfl:k=n:=by omega
    exact⟨Xbr (Xtv HX.out.len HY.out.len hall.out),Xbs (Below.refl _ _) _⟩
 ·have h3:((n:Int) != (m:Int))=true:=by simp;omega
  go_enter Tryz.func29,Tryz.ntmps29
  go_wp2
  go_ret
  exact⟨Xbr (Xtu (by rw[HX.out.len,HY.out.len];exact hnm)),Below.refl _ _⟩
end
section
theorem Tryz.infoInt:(Tryz.prog.info? 3).map (fun i=>(i.zero,i.size,i.bytes))=some (some (.int .i64 0),1,8):=by kernel_rfl
def OwnI (B:Nat) (w':World) (A:Option Addr) (n c:Nat) (xs:List Int):Prop:=xs.length=n∧w'.ownsRow B 3 1 (.slice A n c) n (xs.map (Value.int .i64))
def CloneI (w:World) (n:Nat) (xs:List Int) (e:Ending) (w':World):Prop:=∃ A c,e=.returned (.slice A n c)∧OwnI w.heap.size w' A n c xs∧Below w.heap.size w w'
theorem Xbd (w:World) (e:TypeId) (size:Nat):(w.alloc (.cells #[] e)).ownsRow w.heap.size e size (.slice (some ⟨w.heap.size,0,none⟩) 0 0) 0 []:=
 ⟨by simp,Or.inr ⟨w.heap.size,0,#[],rfl,Nat.le_refl _,heap_alloc_new w _,Nat.le_refl _,Nat.zero_le _,by simp,by simp⟩⟩
theorem Xcu (xs:List Int):∀ u∈xs.map (Value.int .i64),u.oneCell'=true:=by
 intro u hu;obtain⟨x,_,rfl⟩:=List.mem_map.1 hu;rfl
theorem Xdx (b off j:Nat):(⟨b,off,none⟩:Addr).add j=⟨b,off+j,none⟩:=by
 unfold Addr.add;by_cases h:j=0<;>simp[h]
theorem Xhf (A:Option Addr) (n c:Nat) (xs:List Int) (w:World) (hx:Ints w w.heap.size A n xs) (h0:0<n) (hn:n≤1000) :
  Calls Tryz.prog 42 #[.slice A n c] w (CloneI w n xs):=by
 obtain⟨i0,hi,hz0,hz1,hz2⟩:=info_parts Tryz.infoInt
 have HX:=Zh hx
 obtain⟨b,off,rfl,hb,hc⟩:=hx.at_ h0
 have HC:=Zh hc;clear hc hx
 have HI:=Zh hi;clear hi
 have HZ0:=Zh hz0;clear hz0
 have HZ1:=Zh hz1;clear hz1
 have HZ2:=Zh hz2;clear hz2
 have heq:=fun(w:World) (a:Option Addr) (n c:Nat)=>Lib.run_eql_slice_nil (P:=Tryz.prog) w 22 3 a n c 0 0 Tryz.underlying22
 have hnew:=Zh (Xbd w 3 1)
 have hone:=Zh (Xcu xs)
 have C1:Hid ((xs.map (Value.int .i64)).length=n * 1):=by show _=_;rw[List.length_map,HX.out.len,Nat.mul_one]
 have C2:Hid (∀ j u,(xs.map (Value.int .i64))[j]?=some u→(w.alloc (.cells #[] 3)).cell? ((⟨b,off,none⟩:Addr).add j)=some u):=by
  intro j u hu
  rw[List.getElem?_map,Option.map_eq_some_iff]at hu
  obtain⟨x,hx,rfl⟩:=hu
  rw[Xdx,World.cell?_alloc_lt _ _ _ (by exact hb)]
  exact HC.out j x hx
 have C3:Hid (0+n≤maxLen):=by show _≤_;unfold maxLen;omega
 have C4:Hid ((0+n) * 8≤140737488355328):=by show _≤_;omega
 have C5:Hid (w.heap.size≤(w.alloc (.cells #[] 3)).heap.size):=by show _≤_;simp
 go_enter Tryz.func42,Tryz.ntmps42
 go_wp2_with (at_builtin;refine wpList_append_own _ rfl (.tmp 5) (.tmp 6) 22 rfl w.heap.size 3 i0 (.int .i64 0) 1 8 Tryz.underlying22 HI.out HZ0.out HZ1.out HZ2.out rfl (by decide) (.slice (some ⟨w.heap.size,0,none⟩) 0 0) 0 [] rfl hnew.out ⟨b,off,none⟩ n c (xs.map (Value.int .i64)) rfl C1.out C2.out hone.out C3.out C4.out C5.out ?_;intro v1 w1 hown1 hg1 hnil1)
 have hbw:Below w.heap.size w w1:=((Below.refl _ _).alloc (Nat.le_refl _) _).grown hg1 (by simp) (by intro k hk;simp[Value.ownBlock]at hk;omega)
 have hown:w1.ownsRow w.heap.size 3 1 v1 n (xs.map (Value.int .i64)):=by simpa using hown1
 have HO:=Zh hown
 have HBW:=Zh hbw
 obtain⟨g,cap,hv,_,_⟩:=hown.form h0
 clear hown1 hg1 hnil1 hown hbw
 subst hv
 go_wp2
 go_ret
 exact⟨_,_,rfl,⟨HX.out.len,HO.out⟩,HBW.out⟩
section
variable {B B':Nat} {w w':World} {A:Option Addr} {n c:Nat} {xs:List Int}
theorem Xcv {e:TypeId} {size:Nat} {v:Value} {ys:List Value} (h:w.ownsRow B e size v n ys) (hB:B'≤B):w.ownsRow B' e size v n ys:=by
 obtain⟨h1,h2⟩:=h
 refine⟨h1, ?_⟩
 rcases h2 with h2|⟨g,cap,cur,hv,hg,r⟩
 ·exact Or.inl h2
 ·exact Or.inr ⟨g,cap,cur,hv,Nat.le_trans hB hg,r⟩
theorem Xbz {e:TypeId} {size:Nat} {v:Value} {ys:List Value} (h:w.ownsRow B e size v n ys) (hb:Below w.heap.size w w'):w'.ownsRow B e size v n ys:=by
 obtain⟨h1,h2⟩:=h
 refine⟨h1, ?_⟩
 rcases h2 with h2|⟨g,cap,cur,hv,hg,hh,r⟩
 ·exact Or.inl h2
 ·have hlt:g<w.heap.size:=by
   rcases Nat.lt_or_ge g w.heap.size with hlt|hge
   ·exact hlt
   ·rw[Array.getElem?_eq_none hge]at hh;cases hh
  exact Or.inr ⟨g,cap,cur,hv,hg,(hb.block g hlt).trans hh,r⟩
theorem OwnI.low (h:OwnI B w A n c xs) (hB:B'≤B):OwnI B' w A n c xs:=⟨h.1,Xcv h.2 hB⟩
theorem OwnI.set (h:OwnI B w A n c xs) {p:Addr} (hp:p.block<B) (u:Value):OwnI B (w.setCell p u) A n c xs:=⟨h.1,ownsRow_setCell_below h.2 hp u⟩
theorem OwnI.below (h:OwnI B w A n c xs) (hb:Below w.heap.size w w'):OwnI B w' A n c xs:=⟨h.1,Xbz h.2 hb⟩
theorem OwnI.alloc (h:OwnI B w A n c xs) (o:Obj):OwnI B (w.alloc o) A n c xs:=h.below ((Below.refl _ _).alloc (Nat.le_refl _) o)
theorem OwnI.ints (h:OwnI B w A n c xs) (hn:n≤9223372036854775807):Ints w w.heap.size A n xs:=⟨h.1,by unfold maxLen;omega,Row.of_own h.2⟩
end
end
section
theorem Xww (x:Line) (d p:Int) (b1 b2:Nat) (w:World) (h1:w.cell? ⟨b1,0,none⟩=some (.int .i64 d)) (h2:w.cell? ⟨b2,0,none⟩=some (.int .i64 p)) :
  Calls Tryz.prog 96 #[.agg #[.int .i64 x.dev,.int .i64 x.page,.int .i64 x.at_,.bool x.rd,.bool x.wr],.pointer (some ⟨b1,0,none⟩),.pointer (some ⟨b2,0,none⟩)] w fun e w'=>e=.returned (.bool (hitL d p x))∧Below w.heap.size w w':=by
 have HB:=Zh (Xag w)
 have l1:b1<w.heap.size:=Xbm h1
 have l2:b2<w.heap.size:=Xbm h2
 by_cases hd:x.dev=d
 ·by_cases hp:x.page=p
  ·have H:=Zh (show true=hitL d p x by simp[hitL,hd,hp])
   have t1:(x.dev==d)=true:=by rw[beq_iff_eq];exact hd
   have t2:(x.page==p)=true:=by rw[beq_iff_eq];exact hp
   clear hd hp
   go_enter Tryz.func96,Tryz.ntmps96
   go_wp2
   go_ret
   exact⟨Xbr H.out,HB.out _⟩
  ·have H:=Zh (show false=hitL d p x by simp[hitL,hp])
   have t1:(x.dev==d)=true:=by rw[beq_iff_eq];exact hd
   have t2:(x.page==p)=false:=by rw[beq_eq_false_iff_ne];exact hp
   clear hd hp
   go_enter Tryz.func96,Tryz.ntmps96
   go_wp2
   go_ret
   exact⟨Xbr H.out,HB.out _⟩
 ·have H:=Zh (show false=hitL d p x by simp[hitL,hd])
  have t1:(x.dev==d)=false:=by rw[beq_eq_false_iff_ne];exact hd
  clear hd
  go_enter Tryz.func96,Tryz.ntmps96
  go_wp2
  go_ret
  exact⟨Xbr H.out,HB.out _⟩
theorem Xfj {ls:List Line} {q:Line→Bool} {k:Nat} {x:Line} (hx:ls[k]?=some x) (h:∀ y∈ls.take k,q y=false) (hq:q x=false):∀ y∈ls.take (k+1),q y=false:=by
 intro y hy
 rw[List.take_add_one,hx,List.mem_append]at hy
 rcases hy with hy|hy
 ·exact h y hy
 ·simp at hy;subst hy;exact hq
theorem Xqq (A:Option Addr) (n c:Nat) (ls:List Line) (d p:Int) (b1 b2:Nat) (w:World) (hl:Lines w w.heap.size A n c ls) (h1:w.cell? ⟨b1,0,none⟩=some (.int .i64 d)) (h2:w.cell? ⟨b2,0,none⟩=some (.int .i64 p)) :
  Calls Tryz.prog 92 #[.slice A n c,.func (.func 96) #[] #[.pointer (some ⟨b1,0,none⟩),.pointer (some ⟨b2,0,none⟩)]] w fun e w'=>e=.returned (.int .i64 (Xb7 ls d p))∧Below w.heap.size w w':=by
 have HL:=Zh hl
 have hn:=hl.cap
 have H1:=Zh h1
 have H2:=Zh h2
 clear hl h1 h2
 obtain⟨hn1,hn2⟩:=hn
 go_enter Tryz.func92,Tryz.ntmps92
 go_wp2
 go_loopw [8] (fun i wr=>∃ k:Nat,k≤n∧i=.int .i64 k∧Hid (∀ y∈ls.take k,hitL d p y=false)∧Hid (Xan w wr)) (fun i _=>n - (intOf i).toNat)
 case atStart=>exact⟨0,by omega,rfl,(fun y hy=>by simp at hy),Xal w⟩
 case round=>
  obtain⟨k,hk,rfl,hno,hs⟩:=hrel
  by_cases hlt:k<n
  ·obtain⟨x,hx⟩:=Xa2 ls (k:=k) (by rw[HL.out.len];exact hlt)
   have HX:=Zh hx
   obtain⟨b,off,rfl,hb,hc⟩:=(HL.out.below hs.out).at_ (by omega)
   obtain⟨e0,e1,e2,e3,e4⟩:=hc k x hx
   have d1:=Xak hs.out H1.out
   have d2:=Xak hs.out H2.out
   have HS:=Zh hs.out
   clear hc hx hs
   cases hq:hitL d p x
   ·have HQ:=Zh hq
    go_wp2_with fail
    refine(Xww x d p b1 b2 _ d1 d2).mono ?_
    rw[HQ.out]
    clear hq
    rintro e w1 ⟨rfl,hb1⟩
    have hz1:=hb1.size
    (try simp only[Zs]at hz1)
    have HB1:=Zh hb1
    clear hb1
    go_wp2_with fail
    go_roundw
    case rel=>exact⟨k+1,by omega,by go_num,Xfj HX.out hno.out HQ.out,Xax HB1.out HS.out⟩
    case measure=>simp[intOf];omega
   ·have HQ:=Zh hq
    go_wp2_with fail
    refine(Xww x d p b1 b2 _ d1 d2).mono ?_
    rw[HQ.out]
    clear hq
    rintro e w1 ⟨rfl,hb1⟩
    have hz1:=hb1.size
    (try simp only[Zs]at hz1)
    have HB1:=Zh hb1
    clear hb1
    go_wp2_with fail
    go_ret
    exact⟨Xbv (Xkg HX.out HQ.out hno.out).symm,Xax HB1.out HS.out⟩
  ·obtain rfl:k=n:=by omega
   go_wp2
   go_ret
   exact⟨Xbv (Xgn (fun y hy=>hno.out y (by rw[List.take_of_length_le (by rw[HL.out.len];omega)];exact hy))).symm,hs.out⟩
theorem Xcf (A:Option Addr) (n c:Nat) (ls:List Line) (d p:Int) (w:World) (hl:Lines w w.heap.size A n c ls) :
  Calls Tryz.prog 82 #[.slice A n c,.int .i64 d,.int .i64 p] w fun e w'=>e=.returned (.int .i64 (Xb7 ls d p))∧Below w.heap.size w w':=by
 have HL:=Zh hl;clear hl
 go_enter Tryz.func82,Tryz.ntmps82
 go_wp2_with fail
 refine(Xqq _ _ _ ls d p _ _ _ ((HL.out.alloc (Nat.le_refl _) _ |>.alloc (by simp) _).more (by simp;omega)) (by simp[go_sem]) (by simp[go_sem])).mono ?_
 rintro e w1 ⟨rfl,hb1⟩
 have hz1:=hb1.size
 (try simp only[Zs]at hz1)
 have HB1:=Zh hb1
 clear hb1
 go_wp2
 go_ret
 exact⟨rfl,bl (by repeat' first|with_reducible(first|assumption|constructor)|((try simp)<;>omega))⟩
end
section
theorem Tryz.infoLine:(Tryz.prog.info? 58).map (fun i=>(i.zero,i.size,i.bytes))=some (some (.agg #[.int .i64 0,.int .i64 0,.int .i64 0,.bool false,.bool false]),5,32):=by kernel_rfl
def OwnL (B:Nat) (w':World) (A:Option Addr) (n c:Nat) (ls:List Line):Prop:=ls.length=n∧n≤c∧c≤maxLen∧w'.ownsRow B 58 5 (.slice A n c) n (Xav ls)
theorem Xfh (ls:List Line):∀ u∈Xav ls,u.oneCell'=true:=by
 intro u hu
 unfold Xav at hu
 rw[List.mem_flatMap]at hu
 obtain⟨x,_,hu⟩:=hu
 simp[Line.vals]at hu
 rcases hu with rfl|rfl|rfl|rfl|rfl<;>rfl
theorem Xdn {B:Nat} {w:World} {e:TypeId} {size:Nat} {v:Value} {n:Nat} {ys:List Value} (h:w.ownsRow B e size v n ys):(v=.slice none 0 0∧n=0)∨∃ g cap,v=.slice (some ⟨g,0,none⟩) n cap∧n≤cap∧cap≤maxLen∧B≤g∧g<w.heap.size:=by
 obtain⟨_,h2⟩:=h
 rcases h2 with⟨h2,h3⟩|⟨g,cap,cur,hv,hg,hh,hnc,hcm,_⟩
 ·exact Or.inl ⟨h2,h3⟩
 ·refine Or.inr ⟨g,cap,hv,hnc,hcm,hg, ?_⟩
  rcases Nat.lt_or_ge g w.heap.size with hlt|hge
  ·exact hlt
  ·rw[Array.getElem?_eq_none hge]at hh;cases hh
def Xw8 (w:World) (n:Nat) (ls:List Line) (e:Ending) (w':World):Prop:=∃ A c,e=.returned (.slice A n c)∧OwnL w.heap.size w' A n c ls∧Below w.heap.size w w'
theorem Xxm {w:World} {B:Nat} {A:Option Addr} {vs:List Value} (h:Row w B A vs) {b off:Nat} (hA:A=some ⟨b,off,none⟩) (hb:b<B):∀ j u,vs[j]?=some u→w.cell? ⟨b,off+j,none⟩=some u:=by
 intro j u hu
 have hp:0<vs.length:=by have:=(List.getElem?_eq_some_iff.1 hu).1;omega
 obtain⟨b',off',e,_,hc⟩:=h hp
 rw[hA]at e
 simp only[Option.some.injEq,Addr.mk.injEq,and_true]at e
 obtain⟨rfl,rfl⟩:=e
 exact hc j u hu
theorem Xoe (ad:Addr) (n c:Nat) (ls:List Line) (w:World) (hlen:ls.length=n) (hc:∀ j u,(Xav ls)[j]?=some u→w.cell? (ad.add j)=some u∧(ad.add j).block<w.heap.size) (hn:n≤1000) :
  Calls Tryz.prog 66 #[.slice (some ad) n c] w (Xw8 w n ls):=by
 obtain⟨i0,hi,hz0,hz1,hz2⟩:=info_parts Tryz.infoLine
 have HC:=Zh hc;clear hc
 have HN:=Zh hlen
 have HI:=Zh hi;clear hi
 have HZ0:=Zh hz0;clear hz0
 have HZ1:=Zh hz1;clear hz1
 have HZ2:=Zh hz2;clear hz2
 have heq:=fun(w:World) (a:Option Addr) (n c:Nat)=>Lib.run_eql_slice_nil (P:=Tryz.prog) w 27 58 a n c 0 0 Tryz.underlying27
 have hnew:=Zh (Xbd w 58 5)
 have hone:=Zh (Xfh ls)
 have C1:Hid ((Xav ls).length=n * 5):=by show _=_;rw[Xbt,hlen]
 have C2:Hid (∀ j u,(Xav ls)[j]?=some u→(w.alloc (.cells #[] 58)).cell? (ad.add j)=some u):=by
  intro j u hu
  obtain⟨h1,h2⟩:=HC.out j u hu
  rw[World.cell?_alloc_lt _ _ _ h2];exact h1
 have C3:Hid (0+n≤maxLen):=by show _≤_;unfold maxLen;omega
 have C4:Hid ((0+n) * 32≤140737488355328):=by show _≤_;omega
 have C5:Hid (w.heap.size≤(w.alloc (.cells #[] 58)).heap.size):=by show _≤_;simp
 clear hlen
 go_enter Tryz.func66,Tryz.ntmps66
 go_wp2_with (at_builtin;refine wpList_append_own _ rfl (.tmp 5) (.tmp 6) 27 rfl w.heap.size 58 i0 (.agg #[.int .i64 0,.int .i64 0,.int .i64 0,.bool false,.bool false]) 5 32 Tryz.underlying27 HI.out HZ0.out HZ1.out HZ2.out rfl (by decide) (.slice (some ⟨w.heap.size,0,none⟩) 0 0) 0 [] rfl hnew.out ad n c (Xav ls) rfl C1.out C2.out hone.out C3.out C4.out C5.out ?_;intro v1 w1 hown1 hg1 hnil1)
 have hbw:Below w.heap.size w w1:=((Below.refl _ _).alloc (Nat.le_refl _) _).grown hg1 (by simp) (by intro k hk;simp[Value.ownBlock]at hk;omega)
 have hown:w1.ownsRow w.heap.size 58 5 v1 n (Xav ls):=by simpa using hown1
 have HO:=Zh hown
 have HBW:=Zh hbw
 rcases Xdn hown with⟨hv,hn0⟩|⟨g,cap,hv,hnc,hcm,_,_⟩
 ·subst hn0
  clear hown1 hg1 hnil1 hown hbw
  subst hv
  go_wp2
  go_ret
  exact⟨_,_,rfl,⟨HN.out,by omega,by unfold maxLen;omega,HO.out⟩,HBW.out⟩
 ·have HQ:=Zh (And.intro hnc hcm)
  clear hown1 hg1 hnil1 hown hbw hnc hcm
  subst hv
  go_wp2
  go_ret
  exact⟨_,_,rfl,⟨HN.out,HQ.out.1,HQ.out.2,HO.out⟩,HBW.out⟩
theorem Xcx (A:Option Addr) (n c:Nat) (ls:List Line) (w:World) (hl:Lines w w.heap.size A n c ls) (hn:n≤1000) :
  Calls Tryz.prog 66 #[.slice A n c] w (Xw8 w n ls):=by
 cases A with
 |some ad=>
  refine Xoe ad n c ls w hl.len (fun j u hu=>?_) hn
  have hp:0<(Xav ls).length:=by have:=(List.getElem?_eq_some_iff.1 hu).1;omega
  obtain⟨b,off,e,hb,hc⟩:=hl.2.2.2.2 hp
  simp only[Option.some.injEq]at e
  subst e
  rw[Xdx]
  exact⟨hc j u hu,hb⟩
 |none=>
  have hn0:n=0:=by
   rcases Nat.eq_zero_or_pos n with h|h
   ·exact h
   ·obtain⟨b,off,e,_⟩:=hl.at_ h;cases e
  subst hn0
  have hc0:=hl.2.2.2.1 rfl
  subst hc0
  have hz:ls=[]:=by have:=hl.len;exact List.length_eq_zero_iff.1 this
  subst hz
  clear hl hn
  have heq:=fun(w:World) (a:Option Addr) (n c:Nat)=>Lib.run_eql_slice_nil (P:=Tryz.prog) w 27 58 a n c 0 0 Tryz.underlying27
  go_enter Tryz.func66,Tryz.ntmps66
  go_wp2
  go_ret
  exact⟨none,0,rfl,⟨rfl,Nat.le_refl _,Nat.zero_le _,World.ownsRow_nil _ _ _ _⟩,Below.refl _ _⟩
section
variable {B B':Nat} {w w':World} {A:Option Addr} {n c:Nat} {ls:List Line}
theorem OwnL.low (h:OwnL B w A n c ls) (hB:B'≤B):OwnL B' w A n c ls:=⟨h.1,h.2.1,h.2.2.1,Xcv h.2.2.2 hB⟩
theorem OwnL.set (h:OwnL B w A n c ls) {p:Addr} (hp:p.block<B) (u:Value):OwnL B (w.setCell p u) A n c ls:=⟨h.1,h.2.1,h.2.2.1,ownsRow_setCell_below h.2.2.2 hp u⟩
theorem OwnL.below (h:OwnL B w A n c ls) (hb:Below w.heap.size w w'):OwnL B w' A n c ls:=⟨h.1,h.2.1,h.2.2.1,Xbz h.2.2.2 hb⟩
theorem OwnL.alloc (h:OwnL B w A n c ls) (o:Obj):OwnL B (w.alloc o) A n c ls:=h.below ((Below.refl _ _).alloc (Nat.le_refl _) o)
theorem OwnL.drew (h:OwnL B w A n c ls):OwnL B w.drew A n c ls:=h
theorem OwnL.lines (h:OwnL B w A n c ls):Lines w w.heap.size A n c ls:=⟨h.1,h.2.1,h.2.2.1,(fun e=>by
 subst e
 rcases Xdn h.2.2.2 with⟨hv,_⟩|⟨g,cap,hv,_⟩
 ·injection hv
 ·injection hv with e1;cases e1),Row.of_own h.2.2.2⟩
theorem Xky (w:World) (B:Nat):OwnL B w none 0 0 []:=⟨rfl,Nat.le_refl _,Nat.zero_le _,World.ownsRow_nil _ _ _ _⟩
end
end
section
theorem Xyh {xs ys:List Line} (h:xs.length≠ys.length):false=eqL xs ys:=by
 symm;unfold eqL;rw[decide_eq_false_iff_not];intro e;exact h (by rw[e])
theorem eqL_at {xs ys:List Line} {k:Nat} {x y:Line} (hx:xs[k]?=some x) (hy:ys[k]?=some y) (h:Xml x y=false):false=eqL xs ys:=by
 symm;unfold eqL;rw[decide_eq_false_iff_not];intro e;subst e;rw[hx]at hy;simp at hy;unfold Xml at h;simp[hy]at h
theorem Xyi {xs ys:List Line} {k:Nat} (hx:xs.length=k) (hy:ys.length=k) (h:xs.take k=ys.take k):true=eqL xs ys:=by
 rw[List.take_of_length_le (by omega),List.take_of_length_le (by omega)]at h;simp[eqL,h]
theorem Xqk (x y:Line):Xml x y=(x.dev==y.dev&&x.page==y.page&&x.at_==y.at_&&x.rd==y.rd&&x.wr==y.wr):=by
 unfold Xml
 by_cases h:x=y
 ·subst h;simp
 ·rw[decide_eq_false h]
  symm
  rw[Bool.eq_false_iff]
  intro hh
  simp only[Bool.and_eq_true,beq_iff_eq]at hh
  exact h (Line.ext' hh.1.1.1.1 hh.1.1.1.2 hh.1.1.2 hh.1.2 hh.2)
theorem Tryz.neqLine (x y:Line) (w:World):(binOp .neq 58 (.agg #[.int .i64 x.dev,.int .i64 x.page,.int .i64 x.at_,.bool x.rd,.bool x.wr]) (.agg #[.int .i64 y.dev,.int .i64 y.page,.int .i64 y.at_,.bool y.rd,.bool y.wr])).run Tryz.prog w=.ok (.bool (!Xml x y)) w:=by
 rw[Xqk]
 simp[go_sem]
 repeat' split
 all_goals simp_all
theorem Xlx (A B:Option Addr) (n m c d:Nat) (xs ys:List Line) (w:World) (hx:Lines w w.heap.size A n c xs) (hy:Lines w w.heap.size B m d ys) :
  Calls Tryz.prog 57 #[.slice A n c,.slice B m d] w fun e w'=>e=.returned (.bool (eqL xs ys))∧Below w.heap.size w w':=by
 have hn:=hx.cap
 have HX:=Zh hx;clear hx
 have HY:=Zh hy;clear hy
 obtain⟨hn1,hn2⟩:=hn
 by_cases hnm:n=m
 ·subst hnm
  go_enter Tryz.func57,Tryz.ntmps57
  go_wp2
  go_loopw [13,5] (fun i _ wr=>∃ k:Nat,k≤n∧i=.int .i64 k∧Hid (xs.take k=ys.take k)∧∃ q,wr=w.drewN q) (fun i _ _=>n - (intOf i).toNat)
  case atStart=>exact⟨0,by omega,rfl,by simp[Hid],0,rfl⟩
  case round=>
   obtain⟨k,hk,rfl,hall,q,rfl⟩:=hrel
   by_cases hlt:k<n
   ·obtain⟨x,hxk⟩:=Xa2 xs (k:=k) (by rw[HX.out.len];exact hlt)
    obtain⟨y,hyk⟩:=Xa2 ys (k:=k) (by rw[HY.out.len];exact hlt)
    obtain⟨b,off,rfl,hb,hc⟩:=HX.out.at_ (by omega)
    obtain⟨b',off',rfl,hb',hc'⟩:=HY.out.at_ (by omega)
    obtain⟨e0,e1,e2,e3,e4⟩:=hc k x hxk
    obtain⟨d0,d1,d2,d3,d4⟩:=hc' k y hyk
    clear hc hc'
    have HXK:=Zh hxk;clear hxk
    have HYK:=Zh hyk;clear hyk
    have hne:=fun w=>Tryz.neqLine x y w
    cases hq:Xml x y
    ·rw[hq]at hne
     have HQ:=Zh hq
     clear hq
     go_wp2
     go_quiet (fail)
     go_wp2
     go_ret
     exact⟨Xbr (eqL_at HXK.out HYK.out HQ.out),Xbs (Xbs (Below.refl _ _) _) _⟩
    ·rw[hq]at hne
     have HQ:=Zh (show x=y from of_decide_eq_true hq)
     clear hq
     go_wp2
     go_quiet (fail)
     go_wp2
     go_roundw
     case rel=>exact⟨k+1,by omega,by go_num,Xe6 HXK.out HYK.out hall.out HQ.out,_,rfl⟩
     case measure=>simp[intOf];omega
   ·go_wp2
    go_ret
    obtain rfl:k=n:=by omega
    exact⟨Xbr (Xyi HX.out.len HY.out.len hall.out),Xbs (Below.refl _ _) _⟩
 ·have h3:((n:Int) != (m:Int))=true:=by simp;omega
  go_enter Tryz.func57,Tryz.ntmps57
  go_wp2
  go_ret
  exact⟨Xbr (Xyh (by rw[HX.out.len,HY.out.len];exact hnm)),Below.refl _ _⟩
end
end Go.Proofs.YtbopdijnojaaiadGreat
