/- Faults told: the walk of the document's ToldOf. No statement of the seat is proved here. -/
import Derived.Test.YtbopdijnojaaiadGreatBridgeS
import Derived.Test.YtbopdijnojaaiadGreatRingR
import Derived.Test.YtbopdijnojaaiadGreatWord
import Derived.Test.YtbopdijnojaaiadGreatWordS
import Derived.RegionTactic
namespace Go.Proofs.YtbopdijnojaaiadGreat
set_option maxRecDepth 100000
set_option maxHeartbeats 2000000
open Go.RowKit
set_option linter.unusedSimpArgs false
set_option linter.unusedVariables false
def TolC (w:World) (m A0:Option Addr) (k:Nat) (r:List Int×Brg) (E:Int) (e:Ending) (w':World):Prop:=
 ∃ A d L n c,e=.returned (.tuple #[.agg #[.slice A k d],.agg (B_.b r.2 L n c),.int .i64 E])∧Ints w' w'.heap.size A k r.1∧Lines w' w'.heap.size L n c r.2.cache∧Below w.heap.size w w'∧Xj6 w m A∧Xj6 w A0 L
theorem Xxa {w w':World} {m A0:Option Addr} {E:Int} (hb:Below w.heap.size w w'):TolC w m A0 0 ([],.no) E (.returned (.tuple #[.agg #[.slice none 0 0],.agg (B_.b Brg.no none 0 0),.int .i64 E])) w':=
 ⟨none,0,none,0,0,rfl,Xs6 _ _,Xcl _ _,hb,(fun _ h=>by cases h),fun _ h=>by cases h⟩
def Brg.lose (b:Brg):Brg:=⟨b.mode,b.base,b.cache,b.orders,b.stopped,b.fences,b.faults,true⟩
def Brg.flt (b:Brg):Brg:=⟨b.mode,b.base,b.cache,b.orders,b.stopped,b.fences,⟨b.faults.page,b.faults.head,(b.faults.tail+1) % 8⟩,b.lost⟩
section
variable (xs:List Int) (m:Option Addr) (nm cm':Nat) (b:Brg) (A:Option Addr) (n c:Nat) (fc fd fp:Int) (fw:Bool) (w:World)
theorem Xum (hf:fltE fc fd fp≠0):Calls Tryz.prog 64 #[.agg #[.slice m nm cm'],.agg (B_.b b A n c),.agg #[.int .i64 fc,.int .i64 fd,.int .i64 fp,.bool fw]] w (TolC w m A 0 ([],.no) (fltE fc fd fp)):=by
 have t1:(fltE fc fd fp != 0)=true:=by rw[bne_iff_ne];exact hf
 clear hf
 go_enter Tryz.func64,Tryz.ntmps64
 go_wp2_with fail
 refine(Xeo _ _ _ _ _).mono ?_
 rintro e w1 ⟨rfl,hb1⟩
 have hz1:=hb1.size
 (try simp only[Zs]at hz1)
 obtain⟨k1_0,l1_0,q1_0⟩:=aft hb1 (w.heap.size+1+1+1) (by(try simp)<;>omega)
 obtain⟨k1_1,l1_1,q1_1⟩:=aft hb1 (w.heap.size+1+1+1+1) (by(try simp)<;>omega)
 simp(maxDischargeDepth:=6) [go_sem, *]at k1_0 q1_0 k1_1 q1_1
 have HB1:=Zh hb1
 clear hb1
 go_wp2
 refine bodyPost_ret (v:=.tuple #[.agg #[.slice none 0 0],.agg (B_.b Brg.no none 0 0),.int .i64 (fltE fc fd fp)]) ?_ rfl (Xxa ?_)
 ·simp(maxDischargeDepth:=8) [results,Tryz.results64,go_sem,Brg.no,Ring.no, *]
 ·(refine bl ?_;repeat' first|with_reducible(first|assumption|constructor)|((try simp)<;>omega))
variable (hx:Ints w w.heap.size m 512 xs) (hl:Lines w w.heap.size A n c b.cache) (h0:cm xs=0) (hb:ckB b=0) (hf:fltE fc fd fp=0)
include hx hl hf in
theorem Xri (ht:b.lost=true):Calls Tryz.prog 64 #[.agg #[.slice m 512 cm'],.agg (B_.b b A n c),.agg #[.int .i64 fc,.int .i64 fd,.int .i64 fp,.bool fw]] w (TolC w m A 512 (xs,b) 0):=by
 have HX:=Zh hx
 have HL:=Zh hl
 have HF:=Zh hf
 have HT:=Zh ht
 clear hx hl hf ht
 go_enter Tryz.func64,Tryz.ntmps64
 go_wp2_with fail
 refine(Xeo _ _ _ _ _).mono ?_
 rw[HF.out]
 rintro e w1 ⟨rfl,hb1⟩
 have hz1:=hb1.size
 (try simp only[Zs]at hz1)
 obtain⟨k1_0,l1_0,q1_0⟩:=aft hb1 (w.heap.size) (by(try simp)<;>omega)
 obtain⟨k1_1,l1_1,q1_1⟩:=aft hb1 (w.heap.size+1) (by(try simp)<;>omega)
 obtain⟨k1_2,l1_2,q1_2⟩:=aft hb1 (w.heap.size+1+1+1) (by(try simp)<;>omega)
 obtain⟨k1_3,l1_3,q1_3⟩:=aft hb1 (w.heap.size+1+1+1+1) (by(try simp)<;>omega)
 simp(maxDischargeDepth:=6) [go_sem, *]at k1_0 q1_0 k1_1 q1_1 k1_2 q1_2 k1_3 q1_3
 have HB1:=Zh hb1
 clear hb1
 have ht:=HT.out
 go_wp2
 go_region
 all_goals
  go_wp2
  refine bodyPost_ret (v:=.tuple #[.agg #[.slice m 512 cm'],.agg (B_.b b A n c),.int .i64 0]) ?_ rfl ⟨m,cm',A,n,c,rfl, ?_, ?_, ?_, ?_,Xbo _ _⟩
  ·simp(maxDischargeDepth:=8) [results,Tryz.results64,go_sem,Brg.lose,Brg.flt, *]
  ·exact Xaf HX.out (bl (by repeat' first|with_reducible(first|assumption|constructor)|((try simp)<;>omega)))
  ·exact Xah HL.out (bl (by repeat' first|with_reducible(first|assumption|constructor)|((try simp)<;>omega)))
  ·(refine bl ?_;repeat' first|with_reducible(first|assumption|constructor)|((try simp)<;>omega))
  ·exact Xbo _ _
include hx hl hb hf in
theorem Xrj (ht:b.lost=false) (h7:lenR b.faults=7):Calls Tryz.prog 64 #[.agg #[.slice m 512 cm'],.agg (B_.b b A n c),.agg #[.int .i64 fc,.int .i64 fd,.int .i64 fp,.bool fw]] w (TolC w m A 512 (xs,b.lose) 0):=by
 have HX:=Zh hx
 have HL:=Zh hl
 have HF:=Zh hf
 have HT:=Zh ht
 have HR:=Zh (show Xco ⟨b.faults.page,b.faults.head,b.faults.tail⟩from((Xbn b).1 hb).2.2.2)
 have H7:=Zh (show lenR ⟨b.faults.page,b.faults.head,b.faults.tail⟩=7 from h7)
 clear hx hl hb hf ht h7
 go_enter Tryz.func64,Tryz.ntmps64
 go_wp2_with fail
 refine(Xeo _ _ _ _ _).mono ?_
 rw[HF.out]
 rintro e w1 ⟨rfl,hb1⟩
 have hz1:=hb1.size
 (try simp only[Zs]at hz1)
 obtain⟨k1_0,l1_0,q1_0⟩:=aft hb1 (w.heap.size) (by(try simp)<;>omega)
 obtain⟨k1_1,l1_1,q1_1⟩:=aft hb1 (w.heap.size+1) (by(try simp)<;>omega)
 obtain⟨k1_2,l1_2,q1_2⟩:=aft hb1 (w.heap.size+1+1+1) (by(try simp)<;>omega)
 obtain⟨k1_3,l1_3,q1_3⟩:=aft hb1 (w.heap.size+1+1+1+1) (by(try simp)<;>omega)
 simp(maxDischargeDepth:=6) [go_sem, *]at k1_0 q1_0 k1_1 q1_1 k1_2 q1_2 k1_3 q1_3
 have HB1:=Zh hb1
 clear hb1
 have ht:=HT.out
 go_wp2_with fail
 refine(Xf7 _ _ _ HR.out _).mono ?_
 rw[H7.out]
 rintro e w2 ⟨rfl,hb2⟩
 have hz2:=hb2.size
 (try simp only[Zs]at hz2)
 obtain⟨k2_0,l2_0,q2_0⟩:=aft hb2 (w.heap.size) (by(try simp)<;>omega)
 obtain⟨k2_1,l2_1,q2_1⟩:=aft hb2 (w.heap.size+1) (by(try simp)<;>omega)
 obtain⟨k2_2,l2_2,q2_2⟩:=aft hb2 (w.heap.size+1+1+1) (by(try simp)<;>omega)
 obtain⟨k2_3,l2_3,q2_3⟩:=aft hb2 (w.heap.size+1+1+1+1) (by(try simp)<;>omega)
 simp(maxDischargeDepth:=6) [go_sem, *]at k2_0 q2_0 k2_1 q2_1 k2_2 q2_2 k2_3 q2_3
 have HB2:=Zh hb2
 clear hb2
 clear k1_0 q1_0 l1_0 k1_1 q1_1 l1_1 k1_2 q1_2 l1_2 k1_3 q1_3 l1_3
 go_wp2
 go_region
 all_goals
  go_wp2
  refine bodyPost_ret (v:=.tuple #[.agg #[.slice m 512 cm'],.agg (B_.b b.lose A n c),.int .i64 0]) ?_ rfl ⟨m,cm',A,n,c,rfl, ?_, ?_, ?_, ?_,Xbo _ _⟩
  ·simp(maxDischargeDepth:=8) [results,Tryz.results64,go_sem,Brg.lose,Brg.flt, *]
  ·exact Xaf HX.out (bl (by repeat' first|with_reducible(first|assumption|constructor)|((try simp)<;>omega)))
  ·exact Xah HL.out (bl (by repeat' first|with_reducible(first|assumption|constructor)|((try simp)<;>omega)))
  ·(refine bl ?_;repeat' first|with_reducible(first|assumption|constructor)|((try simp)<;>omega))
  ·exact Xbo _ _
include hx hl h0 hb hf in
theorem Xrh (ht:b.lost=false) (h7:lenR b.faults≠7):Calls Tryz.prog 64 #[.agg #[.slice m 512 cm'],.agg (B_.b b A n c),.agg #[.int .i64 fc,.int .i64 fd,.int .i64 fp,.bool fw]] w (TolC w m A 512 (Xj4 xs b.faults (fltW fc fd fp fw),b.flt) 0):=by
 have HX:=Zh hx
 have HL:=Zh hl
 have HF:=Zh hf
 have HT:=Zh ht
 have HR:=Zh (show Xco ⟨b.faults.page,b.faults.head,b.faults.tail⟩from((Xbn b).1 hb).2.2.2)
 have hv:0≤fltW fc fd fp fw∧fltW fc fd fp fw≤65535:=by have:=Xk6 (f:=⟨fc,fd,fp,fw⟩) hf;unfold Flt.w at this;simp only[]at this;omega
 have HP:=Zh (show Xf9 xs ⟨b.faults.page,b.faults.head,b.faults.tail⟩ (fltW fc fd fp fw)=0 from Xn2 (Xlf h0 ((Xbn b).1 hb).2.2.2) hv h7)
 have t7:(lenR ⟨b.faults.page,b.faults.head,b.faults.tail⟩==7)=false:=beq_eq_false_iff_ne.2 h7
 obtain⟨v,hvv⟩:∃ v,fltW fc fd fp fw=v:=⟨_,rfl⟩
 rw[hvv]at HP ⊢
 have HV:=Zh hvv
 clear hx hl h0 hb hf ht h7 hv hvv
 go_enter Tryz.func64,Tryz.ntmps64
 go_wp2_with fail
 refine(Xeo _ _ _ _ _).mono ?_
 rw[HF.out,HV.out]
 rintro e w1 ⟨rfl,hb1⟩
 have hz1:=hb1.size
 (try simp only[Zs]at hz1)
 obtain⟨k1_0,l1_0,q1_0⟩:=aft hb1 (w.heap.size) (by(try simp)<;>omega)
 obtain⟨k1_1,l1_1,q1_1⟩:=aft hb1 (w.heap.size+1) (by(try simp)<;>omega)
 obtain⟨k1_2,l1_2,q1_2⟩:=aft hb1 (w.heap.size+1+1+1) (by(try simp)<;>omega)
 obtain⟨k1_3,l1_3,q1_3⟩:=aft hb1 (w.heap.size+1+1+1+1) (by(try simp)<;>omega)
 simp(maxDischargeDepth:=6) [go_sem, *]at k1_0 q1_0 k1_1 q1_1 k1_2 q1_2 k1_3 q1_3
 have HB1:=Zh hb1
 clear hb1
 have ht:=HT.out
 go_wp2_with fail
 refine(Xf7 _ _ _ HR.out _).mono ?_
 rintro e w2 ⟨rfl,hb2⟩
 have hz2:=hb2.size
 (try simp only[Zs]at hz2)
 obtain⟨k2_0,l2_0,q2_0⟩:=aft hb2 (w.heap.size) (by(try simp)<;>omega)
 obtain⟨k2_1,l2_1,q2_1⟩:=aft hb2 (w.heap.size+1) (by(try simp)<;>omega)
 obtain⟨k2_2,l2_2,q2_2⟩:=aft hb2 (w.heap.size+1+1+1) (by(try simp)<;>omega)
 obtain⟨k2_3,l2_3,q2_3⟩:=aft hb2 (w.heap.size+1+1+1+1) (by(try simp)<;>omega)
 simp(maxDischargeDepth:=6) [go_sem, *]at k2_0 q2_0 k2_1 q2_1 k2_2 q2_2 k2_3 q2_3
 have HB2:=Zh hb2
 clear hb2
 clear k1_0 q1_0 l1_0 k1_1 q1_1 l1_1 k1_2 q1_2 l1_2 k1_3 q1_3 l1_3
 go_wp2_with fail
 refine(Xqb _ _ _ xs _ _ _ _ _ (Xaf HX.out (bl (by repeat' first|with_reducible(first|assumption|constructor)|((try simp)<;>omega)))) HP.out).mono ?_
 rintro e w3 ⟨A3,c3,rfl,ho3,hb3⟩
 have hz3:=hb3.size
 (try simp only[Zs]at hz3)
 obtain⟨k3_0,l3_0,q3_0⟩:=aft hb3 (w.heap.size) (by(try simp)<;>omega)
 obtain⟨k3_1,l3_1,q3_1⟩:=aft hb3 (w.heap.size+1) (by(try simp)<;>omega)
 obtain⟨k3_2,l3_2,q3_2⟩:=aft hb3 (w.heap.size+1+1+1) (by(try simp)<;>omega)
 obtain⟨k3_3,l3_3,q3_3⟩:=aft hb3 (w.heap.size+1+1+1+1) (by(try simp)<;>omega)
 simp(maxDischargeDepth:=6) [go_sem, *]at k3_0 q3_0 k3_1 q3_1 k3_2 q3_2 k3_3 q3_3
 have HB3:=Zh hb3
 clear hb3
 have HO3:Hid (OwnI (w.heap.size+1+1+1+1+1) w3 A3 512 c3 (Xj4 xs b.faults v)):=Zh (ho3.low (by omega))
 have HP3:=Zh (Xat ho3.2)
 clear ho3 k2_0 q2_0 l2_0 k2_1 q2_1 l2_1 k2_2 q2_2 l2_2 k2_3 q2_3 l2_3
 go_wp2
 go_region
 all_goals
  go_wp2
  refine bodyPost_ret (v:=.tuple #[.agg #[.slice A3 512 c3],.agg (B_.b b.flt A n c),.int .i64 0]) ?_ rfl ⟨A3,c3,A,n,c,rfl, ?_, ?_, ?_, ?_,Xbo _ _⟩
  ·simp(maxDischargeDepth:=8) [results,Tryz.results64,go_sem,Brg.lose,Brg.flt, *]
  ·refine OwnI.ints (B:=w.heap.size+1+1+1+1+1) (c:=c3) ?_ (by decide)
   show OwnI _ _ _ _ _ (Xj4 xs b.faults v)
   (repeat(first|((with_reducible refine OwnI.set ?_ ?_ _);rotate_left;exact(by(try simp)<;>omega))|(with_reducible refine OwnI.drew_ ?_)|(with_reducible exact HO3.out)))
  ·exact Xah HL.out (bl (by repeat' first|with_reducible(first|assumption|constructor)|((try simp)<;>omega)))
  ·(refine bl ?_;repeat' first|with_reducible(first|assumption|constructor)|((try simp)<;>omega))
  ·intro ad e;have:=(HP3.out ad e).1;exact Or.inr (by omega)
include hx hl h0 hb in
theorem Xqa (E:Int) (ys:List Int) (b':Brg) (hE:fltE fc fd fp=E) (hr:(if E=0 then Xdu xs b (fltW fc fd fp fw)else([],.no))=(ys,b')) :
  Calls Tryz.prog 64 #[.agg #[.slice m 512 cm'],.agg (B_.b b A n c),.agg #[.int .i64 fc,.int .i64 fd,.int .i64 fp,.bool fw]] w (TolC w m A (if E=0 then 512 else 0) (ys,b') E):=by
 subst hE
 by_cases hf:fltE fc fd fp=0
 ·rw[if_pos hf]at hr
  rw[if_pos hf,hf]
  unfold Xdu at hr
  by_cases ht':b.lost=true
  rotate_left
  ·have ht:b.lost=false:=by simpa using ht'
   rw[if_neg ht']at hr
   by_cases h7:lenR b.faults=7
   ·rw[if_pos h7]at hr
    injection hr with h1 h2
    have e2:b'=b.lose:=h2.symm
    rw[←h1,e2]
    exact Xrj xs m cm' b A n c fc fd fp fw w hx hl hb hf ht h7
   ·rw[if_neg h7]at hr
    injection hr with h1 h2
    have e2:b'=b.flt:=h2.symm
    rw[←h1,e2]
    exact Xrh xs m cm' b A n c fc fd fp fw w hx hl h0 hb hf ht h7
  ·rw[if_pos ht']at hr
   injection hr with h1 h2
   rw[←h1,←h2]
   exact Xri xs m cm' b A n c fc fd fp fw w hx hl hf ht'
 ·rw[if_neg hf]at hr
  rw[if_neg hf]
  injection hr with h1 h2
  subst h1 h2
  exact Xum m 512 cm' b A n c fc fd fp fw w hf
end
end Go.Proofs.YtbopdijnojaaiadGreat
