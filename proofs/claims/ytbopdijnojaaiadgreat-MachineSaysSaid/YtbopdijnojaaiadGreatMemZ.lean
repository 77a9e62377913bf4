/- The laws' own 'with': words at Xl9, of noughts. No statement of the seat is proved here. -/
import Derived.Test.YtbopdijnojaaiadGreatMem
import Derived.Deep.DeepCutAuto
import Derived.Test.YtbopdijnojaaiadGreatBase
import Derived.Deep.RegionHeld3
import Derived.Deep.DrawnRows
namespace Go.Proofs.YtbopdijnojaaiadGreat
set_option maxRecDepth 100000
set_option maxHeartbeats 4000000
open Go.RowKit
set_option linter.unusedSimpArgs false
set_option linter.unusedVariables false
section
def Xha:Array Value:=Array.replicate 512 (.int .i64 0)
theorem Xx0:∀ w:World,(Instr.makeSlice 22 (.int .i64 512) (.int .i64 512)).run Tryz.prog w=.ok (.slice (some ⟨w.heap.size,0,none⟩) 512 512) (w.alloc (.cells Xha 3)):=fun _=>by kernel_rfl
theorem Xsj (w:World):OwnI w.heap.size (w.alloc (.cells Xha 3)) (some ⟨w.heap.size,0,none⟩) 512 512 (List.replicate 512 0):=
 ⟨List.length_replicate,by rw[List.length_map,List.length_replicate],Or.inr ⟨w.heap.size,512,Xha,rfl,Nat.le_refl _,heap_alloc_new w _,Nat.le_refl _,by unfold maxLen;omega,by unfold Xha;rw[Array.size_replicate],
  by unfold Xha;rw[Array.toList_replicate,List.map_replicate,List.take_of_length_le (by rw[List.length_replicate];omega)]⟩⟩
theorem Xsb (A:Option Addr) (c:Nat) (xs:List Int) (k v:Int) (w:World) (hx:Ints w w.heap.size A 512 xs) (hk:0≤k∧k<512) :
  Calls Tryz.prog 60 #[.agg #[.slice A 512 c],.int .i64 k,.int .i64 v] w fun e w'=>∃ A' c',e=.returned (.agg #[.slice A' 512 c'])∧OwnI w.heap.size w' A' 512 c' (xs.set k.toNat v)∧Below w.heap.size w w':=by
 obtain⟨h1,h2⟩:=hk
 obtain⟨i0,hi,hz0,hz1,hz2⟩:=info_parts Tryz.infoInt
 have HX:=Zh hx
 have HL:=Zh hx.len
 obtain⟨b,off,rfl,hb,hc⟩:=hx.at_ (by decide)
 have HC:=Zh hc;clear hc hx
 have HI:=Zh hi;clear hi
 have HZ0:=Zh hz0;clear hz0
 have HZ1:=Zh hz1;clear hz1
 have HZ2:=Zh hz2;clear hz2
 have hnew:=Zh (Xbd ((w.alloc (.cells #[.slice (some ⟨b,off,none⟩) 512 c] 24)).alloc (.cells #[.slice none 0 0] 24)) 3 1)
 simp only[World.size_alloc]at hnew
 have hone:=Zh (Xcu xs)
 have C1:Hid ((xs.map (Value.int .i64)).length=512 * 1):=by show _=_;rw[List.length_map,HL.out]
 have C2:Hid (∀ j u,(xs.map (Value.int .i64))[j]?=some u→(((w.alloc (.cells #[.slice (some ⟨b,off,none⟩) 512 c] 24)).alloc (.cells #[.slice none 0 0] 24)).alloc (.cells #[] 3)).cell? ((⟨b,off,none⟩:Addr).add j)=some u):=by
  intro j u hu
  rw[List.getElem?_map,Option.map_eq_some_iff]at hu
  obtain⟨x,hx,rfl⟩:=hu
  rw[Xdx,World.cell?_alloc_lt _ _ _ (by simp;omega),World.cell?_alloc_lt _ _ _ (by simp;omega),World.cell?_alloc_lt _ _ _ (by exact hb)]
  exact HC.out j x hx
 have C3:Hid (0+512≤maxLen):=by show _≤_;unfold maxLen;omega
 have C4:Hid ((0+512) * 8≤140737488355328):=by show _≤_;omega
 have C5:Hid (w.heap.size+1+1≤(((w.alloc (.cells #[.slice (some ⟨b,off,none⟩) 512 c] 24)).alloc (.cells #[.slice none 0 0] 24)).alloc (.cells #[] 3)).heap.size):=by show _≤_;simp
 go_enter Tryz.func60,Tryz.ntmps60
 go_upto_region 2 with(at_builtin;refine wpList_append_own _ rfl (.tmp 8) (.tmp 10) 22 rfl (w.heap.size+1+1) 3 i0 (.int .i64 0) 1 8 Tryz.underlying22 HI.out HZ0.out HZ1.out HZ2.out rfl (by decide) (.slice (some ⟨w.heap.size+1+1,0,none⟩) 0 0) 0 [] rfl hnew.out ⟨b,off,none⟩ 512 c (xs.map (Value.int .i64)) rfl C1.out C2.out hone.out C3.out C4.out C5.out ?_;intro v1 w1 hown1 hg1 hnil1)
 have hbw:Below (w.heap.size+1+1) ((w.alloc (.cells #[.slice (some ⟨b,off,none⟩) 512 c] 24)).alloc (.cells #[.slice none 0 0] 24)) w1:=
  ((Below.refl _ _).alloc (by simp) _).grown hg1 (by simp) (by intro k hk;simp[Value.ownBlock]at hk;omega)
 have hown:w1.ownsRow (w.heap.size+1+1) 3 1 v1 512 (xs.map (Value.int .i64)):=by simpa using hown1
 have hb1:Below ((w.alloc (.cells #[.slice (some ⟨b,off,none⟩) 512 c] 24)).alloc (.cells #[.slice none 0 0] 24)).heap.size ((w.alloc (.cells #[.slice (some ⟨b,off,none⟩) 512 c] 24)).alloc (.cells #[.slice none 0 0] 24)) w1:=hbw.mono (by simp)
 obtain⟨g',cap,hv,_,_⟩:=hown.form (by decide)
 subst hv
 have ho1:OwnI (w.heap.size+1+1) w1 (some ⟨g',0,none⟩) 512 cap xs:=⟨HL.out,hown⟩
 clear hown1 hg1 hnil1 hown hbw
 have hz1:=hb1.size
 (try simp only[Zs]at hz1)
 obtain⟨k1_0,l1_0,q1_0⟩:=aft hb1 (w.heap.size+1) (by(try simp)<;>omega)
 simp(maxDischargeDepth:=6) [go_sem, *]at k1_0 q1_0
 have HB1:=Zh hb1
 clear hb1
 obtain⟨g,hgg,hg1,hg2,hgc,hgf,hgs⟩:=Xb3 ho1 (by decide)
 simp only[Option.some.injEq,Addr.mk.injEq,and_true]at hgg
 subst hgg
 have HGS:=Zh (hgs k.toNat v (by omega))
 obtain⟨x,hx⟩:=Xa2 xs (k:=k.toNat) (by rw[HL.out];omega)
 have hcx:=hgc _ _ hx
 clear ho1 hgc hgs hx
 go_wp2
 refine bodyPost_ret (v:=.agg #[.slice (some ⟨g',0,none⟩) 512 cap]) ?_ rfl ⟨_,_,rfl,(HGS.out.set (by simp) _).low (by omega), ?_⟩
 ·simp(maxDischargeDepth:=8) [results,Tryz.results60,go_sem, *]
 ·(refine bl ?_;repeat' first|with_reducible(first|assumption|constructor)|((try simp)<;>omega))
end
section
attribute [local go_sem ↓] Go.wp_at_zero Go.wp_at_succ
def Xl9:List Int→Prop
 |a :: _ :: r=>(0≤a∧a<512)∧Xl9 r
 |_=>True
theorem drop2 {ps:List Int} {j:Nat} {a b:Int} (ha:ps[j]?=some a) (hb:ps[j+1]?=some b):ps.drop j=a :: b :: ps.drop (j+2):=by
 have h1:j<ps.length:=(List.getElem?_eq_some_iff.1 ha).1
 have h2:j+1<ps.length:=(List.getElem?_eq_some_iff.1 hb).1
 rw[List.drop_eq_getElem_cons h1,List.drop_eq_getElem_cons h2,(List.getElem?_eq_some_iff.1 ha).2,(List.getElem?_eq_some_iff.1 hb).2]
theorem Xnr {ps xs:List Int} {j:Nat} (h:ps.length≤j+1):Xll xs (ps.drop j)=xs:=by
 match hd:ps.drop j with
 |[]=>rfl
 |[_]=>rfl
 |a :: b :: r=>have:=congrArg List.length hd;simp at this;omega
theorem Xvj (A:Option Addr) (n c:Nat) (ps:List Int) (w:World) (hx:Ints w w.heap.size A n ps) (hn:n≤100) (hp:Xl9 ps) :
  Calls Tryz.prog 54 #[.slice A n c] w fun e w'=>∃ A' c',e=.returned (.agg #[.slice A' 512 c'])∧OwnI w.heap.size w' A' 512 c' (Xll (List.replicate 512 0) ps)∧Below w.heap.size w w':=by
 have hmk:=Xx0
 have HX:=Zh hx;clear hx
 have HP:=Zh hp;clear hp
 have HO:=Zh (Xsj (w.alloc (.cells #[.slice none 0 0] 24)))
 simp only[World.size_alloc]at HO
 go_enter Tryz.func54,Tryz.ntmps54
 go_wp2
 go_loopw [4] (fun i wr=>∃ k:Nat,k≤102∧i=.int .i64 k ∧
   Hid (∃ ys,OwnI (w.heap.size+1) wr (some ⟨w.heap.size+1,0,none⟩) 512 512 ys∧Xll ys (ps.drop k)=Xll (List.replicate 512 0) ps∧Xl9 (ps.drop k)) ∧
   Hid (CutW w [(w.heap.size,[.slice none 0 0]),(w.heap.size+1+1,[.slice (some ⟨w.heap.size+1,0,none⟩) 512 512])] wr∧(∀ o,wr.frozen? ⟨w.heap.size,o,none⟩=false)))
  (fun i _=>102 - (intOf i).toNat)
 case atStart=>
  refine⟨0,by omega,rfl,⟨_,(HO.out.alloc _),rfl,HP.out⟩,⟨⟨bl (by repeat' first|with_reducible(first|assumption|constructor)|((try simp)<;>omega)),⟨by simp;omega,fun o=>by simp[go_sem]⟩,⟨by simp,fun o=>by simp[go_sem]⟩,trivial⟩,fun o=>by simp[go_sem]⟩⟩
 case round=>
  obtain⟨k,hk,rfl,hown,hcut⟩:=hrel
  have hw1:IntKind.i64.wrap ((k:Int)+1)=(k:Int)+1:=IntWalk.i64_in _ (by omega)
  obtain⟨⟨hbl,⟨l1,c1⟩,⟨l2,c2⟩,_⟩,f1⟩:=hcut.out
  have HBL:=Zh hbl
  clear hbl hcut
  obtain⟨ys,ho,hw,hpl⟩:=hown.out
  have HW:=Zh hw
  have HPL:=Zh hpl
  have HOO:=Zh ho
  clear hw hpl hown
  by_cases hlt:k+1<n
  ·obtain⟨a,ha⟩:=Xa2 ps (k:=k) (by rw[HX.out.len];omega)
   obtain⟨b,hb⟩:=Xa2 ps (k:=k+1) (by rw[HX.out.len];omega)
   have HD:=Zh (drop2 ha hb)
   obtain⟨q,off,rfl,hq,hc⟩:=HX.out.at_ (by omega)
   have hb':=Below.cell (p:=⟨q,off+k,none⟩) HBL.out hq
   have hb2:=Below.cell (p:=⟨q,off+(k+1),none⟩) HBL.out hq
   rw[hc _ _ ha]at hb'
   rw[hc _ _ hb]at hb2
   have hpl:=HPL.out
   rw[HD.out]at hpl
   obtain⟨⟨ha0,ha1⟩,hp2⟩:=hpl
   have HP2:=Zh hp2
   obtain⟨g,hg0,hg1,hg2,hgc,hgf,hgs⟩:=Xb3 ho (by decide)
   simp only[Option.some.injEq,Addr.mk.injEq,and_true]at hg0
   subst hg0
   have HGS:=Zh (hgs a.toNat b (by omega))
   obtain⟨x,hx⟩:=Xa2 ys (k:=a.toNat) (by rw[ho.1];omega)
   have hcx:=hgc _ _ hx
   have c2':=c2 0
   simp at c2'
   have hne:¬q=w.heap.size+1:=by omega
   have hne2:¬w.heap.size+1=q:=by omega
   have i0:(0:Int)≤(k:Int):=by omega
   have i1:(k:Int)<(n:Int):=by omega
   have i2:(0:Int)≤(k:Int)+1:=by omega
   have i3:(k:Int)+1<(n:Int):=by omega
   have i4:((k:Int)+1).toNat=k+1:=by omega
   clear hc ha hb hp2 hgc hgs hx ho
   go_wp2
   go_region_held3 (fun w'=>w'.cell? ⟨q,off+k,none⟩=some (.int .i64 a)∧w'.cell? ⟨q,off+(k+1),none⟩=some (.int .i64 b)∧w'.cell? ⟨w.heap.size+1+1,0,none⟩=some (.slice (some ⟨w.heap.size+1,0,none⟩) 512 512)) (go_keep) (fail)
   clear hw1 i4
   go_wp2
   go_roundw
   case rel=>
    refine⟨k+2,by omega,by go_num,⟨_,HGS.out, ?_,HP2.out⟩,⟨⟨?_,⟨by simp;omega,fun o=>?_⟩,⟨by simp;omega,fun o=>?_⟩,trivial⟩,fun o=>?_⟩⟩
    ·rw[←HW.out,HD.out,Xll]
    ·(repeat(first|(with_reducible exact Below.refl _ _)|(with_reducible refine Below.drew ?_)|(with_reducible refine Xbs ?_ _)|((with_reducible refine Below.setCell ?_ ?_ _);rotate_left;exact(by(try simp)<;>omega))|((with_reducible refine Below.alloc ?_ ?_ _);rotate_left;exact(by(try simp)<;>omega))))
     exact HBL.out
    ·show(wr.setCell _ _).cell? _=_
     rw[World.cell?_setCell_other _ _ _ _ (by simp)];exact c1 o
    ·show(wr.setCell _ _).cell? _=_
     rw[World.cell?_setCell_other _ _ _ _ (by simp)];exact c2 o
    ·show(wr.setCell _ _).frozen? _=_
     rw[World.frozen?_setCell];exact f1 o
   case measure=>simp[intOf];omega
  ·have HS:=Zh (Xnr (xs:=ys) (show ps.length≤k+1 by rw[HX.out.len];omega))
   have c1':=c1 0
   have c2':=c2 0
   clear hw1
   go_wp2
   refine bodyPost_ret (v:=.agg #[.slice (some ⟨w.heap.size+1,0,none⟩) 512 512]) ?_ rfl ⟨_,_,rfl, ?_, ?_⟩
   ·simp(maxDischargeDepth:=8) [results,Tryz.results54,go_sem, *]
   ·rw[←HW.out,HS.out];exact(HOO.out.set (by simp) _).low (by omega)
   ·(repeat(first|(with_reducible exact Below.refl _ _)|(with_reducible refine Below.drew ?_)|(with_reducible refine Xbs ?_ _)|((with_reducible refine Below.setCell ?_ ?_ _);rotate_left;exact(by(try simp)<;>omega))|((with_reducible refine Below.alloc ?_ ?_ _);rotate_left;exact(by(try simp)<;>omega))))
    exact HBL.out
end
end Go.Proofs.YtbopdijnojaaiadGreat
