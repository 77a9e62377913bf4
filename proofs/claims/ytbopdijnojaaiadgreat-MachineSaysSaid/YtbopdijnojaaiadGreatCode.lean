/- Instructions as words: what the program's and the document's functions of chapter 9 compute, and that they compute it. No statement of the seat is proved here. -/
import Derived.Test.YtbopdijnojaaiadGreatProg
import Derived.Test.YtbopdijnojaaiadGreatBits
import Derived.Test.YtbopdijnojaaiadGreatSlices
namespace Go.Proofs.YtbopdijnojaaiadGreat
set_option maxRecDepth 100000
set_option maxHeartbeats 1000000
open Go.RowKit
set_option linter.unusedSimpArgs false
set_option linter.unusedVariables false
def Xpw (k:Int):Bool:=k==1||k==3||k==7||k==8||k==2||k==4||k==5||k==6
def Xpv (k:Int):Bool:=k==2||k==4||k==5||k==6
def Xpu (k:Int):Bool:=k==1||k==3||k==7||k==8||k==4||k==5||k==6
def InsR (k a b i:Int):Prop:=0≤k∧k≤8∧0≤a∧a<8∧0≤b∧b<8∧0≤i∧i≤63
def insF (k a b i:Int):Bool:=(Xpw k||a==0)&&(Xpv k||b==0)&&(Xpu k||i==0)
instance (k a b i:Int):Decidable (InsR k a b i):=by unfold InsR;infer_instance
def insE (k a b i:Int):Int:=if InsR k a b i then(if insF k a b i then 0 else 3)else 2
def insW (k a b i:Int):Int:=if insE k a b i=0 then k * 4096+a * 512+b * 64+i else 0
theorem Xkf {k a b i:Int} (h:¬InsR k a b i):insE k a b i=2:=by simp[insE,h]
theorem Xs9 {k a b i:Int} (h:InsR k a b i) (h':insF k a b i=false):insE k a b i=3:=by simp[insE,h,h']
theorem Xmn {k a b i:Int} (h:InsR k a b i) (h':insF k a b i=true):insE k a b i=0:=by simp[insE,h,h']
theorem Xwt {k a b i:Int} (h:insE k a b i=0):insW k a b i=k * 4096+a * 512+b * 64+i:=by simp[insW,h]
theorem Xs7 {k a b i:Int} {n:Int} (h:insE k a b i=n) (hn:n≠0):insW k a b i=0:=by simp[insW,h,hn]
theorem Xvl {k a b i:Int} (h:InsR k a b i):bits .or .i64 (bits .or .i64 (bits .or .i64 (k * 4096) (a * 512)) (b * 64)) i=k * 4096+a * 512+b * 64+i:=by
 obtain⟨h1,h2,h3,h4,h5,h6,h7,h8⟩:=h
 rw[Xil 12 k.toNat (k * 4096) (a * 512) (by omega) (by omega) (by omega) (by omega) (by omega),Xil 9 (k * 8+a).toNat _ (b * 64) (by omega) (by omega) (by omega) (by omega) (by omega),
  Xil 6 (k * 64+a * 8+b).toNat _ i (by omega) (by omega) (by omega) (by omega) (by omega)]
theorem put_w {k a b i:Int} (h:InsR k a b i) (hf:insF k a b i=true):bits .or .i64 (bits .or .i64 (bits .or .i64 (k * 4096) (a * 512)) (b * 64)) i=insW k a b i:=
 (Xvl h).trans (Xwt (Xmn h hf)).symm
theorem put_n {k a b i:Int} (h:InsR k a b i) (hf:insF k a b i=false):0=insW k a b i:=(Xs7 (Xs9 h hf) (by decide)).symm
theorem Xmw (k:Int) (w:World) :
  Calls Tryz.prog 91 #[.int .i64 k] w fun e w'=>e=.returned (.tuple #[.bool (Xpw k),.bool (Xpv k),.bool (Xpu k)])∧w=w':=by
 go_enter Tryz.func91,Tryz.ntmps91
 go_wp2
 all_goals go_ret3
 all_goals refine⟨Xr7 ?_ ?_ ?_,rfl⟩
 all_goals (rw[Bool.eq_iff_iff];simp only[beq_iff_eq,beq_eq_false_iff_ne,ne_eq]at *;simp[Xpw,Xpv,Xpu]<;>omega)
theorem Xwa (k a b i:Int) (w:World) :
  Calls Tryz.prog 67 #[.agg #[.int .i64 k,.int .i64 a,.int .i64 b,.int .i64 i]] w fun e w'=>e=.returned (.tuple #[.int .i64 (insW k a b i),.int .i64 (insE k a b i)])∧Below w.heap.size w w':=by
 have HB:=Zh (Xag w)
 by_cases hR:InsR k a b i
 ·have HR:=Zh hR
  unfold InsR at hR
  obtain⟨h1,h2,h3,h4,h5,h6,h7,h8⟩:=hR
  go_enter Tryz.func67,Tryz.ntmps67
  go_wp2_with (go_at_call 91;refine(Xmw _ _).mono ?_;rintro e w' ⟨rfl,rfl⟩)
  all_goals go_ret2
  all_goals go_tidy
  all_goals (try simp only[bne_iff_ne,ne_eq,bne_eq_false_iff_eq]at *)
  all_goals simp only[Array.getD_eq_getD_getElem?,List.getElem?_toArray,List.getElem?_cons_zero,List.getElem?_cons_succ,Option.getD_some]
  all_goals first
   |(with_reducible refine⟨Xcj (put_w HR.out ?_) (Xmn HR.out ?_).symm,HB.out _⟩)<;>(simp[insF, *];done)
   |(subst_vars;refine⟨Xcj (Eq.trans ?_ (put_w HR.out ?_)) (Xmn HR.out ?_).symm,HB.out _⟩;(· simp only[Int.zero_mul]);all_goals (simp[insF, *];done))
   |(with_reducible refine⟨Xcj (put_n HR.out ?_) (Xs9 HR.out ?_).symm,HB.out _⟩)<;>(simp[insF, *];done)
 ·have HR:=Zh hR
  unfold InsR at hR
  go_enter Tryz.func67,Tryz.ntmps67
  go_wp2_with (go_at_call 91;refine(Xmw _ _).mono ?_;rintro e w' ⟨rfl,rfl⟩)
  all_goals go_ret2
  all_goals exact⟨Xcj (Xs7 (Xkf HR.out) (by decide)).symm (Xkf HR.out).symm,HB.out _⟩
def rdE (v:Int):Int:=if 0≤v∧v≤65535 then(if insE (v / 4096) (v / 512 % 8) (v / 64 % 8) (v % 64)=0 then 0 else 3)else 2
def rdF (v x:Int):Int:=if rdE v=0 then x else 0
theorem Xuw {v:Int} (h:¬(0≤v∧v≤65535)):rdE v=2:=by simp only[rdE,if_neg h]
theorem Xux {v:Int} (h:0≤v∧v≤65535) (h':insE (v / 4096) (v / 512 % 8) (v / 64 % 8) (v % 64)≠0):rdE v=3:=by simp only[rdE,if_pos h,if_neg h']
theorem rdE_0 {v:Int} (h:0≤v∧v≤65535) (h':insE (v / 4096) (v / 512 % 8) (v / 64 % 8) (v % 64)=0):rdE v=0:=by simp only[rdE,if_pos h,if_pos h']
theorem Xsg {v x n:Int} (h:rdE v=n) (hn:n≠0):rdF v x=0:=by simp[rdF,h,hn]
theorem Xnz {v x:Int} (h:rdE v=0):rdF v x=x:=by simp[rdF,h]
def insV (k a b i:Int):Value:=.agg #[.int .i64 k,.int .i64 a,.int .i64 b,.int .i64 i]
def rdV (v:Int):Value:=.tuple #[.agg #[.int .i64 (rdF v (v / 4096)),.int .i64 (rdF v (v / 512 % 8)),.int .i64 (rdF v (v / 64 % 8)),.int .i64 (rdF v (v % 64))],.int .i64 (rdE v)]
theorem Xsf {v n:Int} (h:rdE v=n) (hn:n≠0):Ending.returned (.tuple #[.agg #[.int .i64 0,.int .i64 0,.int .i64 0,.int .i64 0],.int .i64 n])=.returned (rdV v):=by simp[rdV,Xsg h hn,h]
theorem rdV_0 {v:Int} (h:rdE v=0):Ending.returned (.tuple #[.agg #[.int .i64 (v / 4096),.int .i64 (v / 512 % 8),.int .i64 (v / 64 % 8),.int .i64 (v % 64)],.int .i64 0])=.returned (rdV v):=by simp[rdV,Xnz h,h]
theorem Xmx (v:Int) (w:World):Calls Tryz.prog 43 #[.int .i64 v] w fun e w'=>e=.returned (rdV v)∧Below w.heap.size w w':=by
 have HB:=Zh (Xag w)
 by_cases hR:0≤v∧v≤65535
 ·have HR:=Zh hR
  obtain⟨h1,h2⟩:=hR
  have e1:=and7 (v / 512) (by omega) (by omega)
  have e2:=and7 (v / 64) (by omega) (by omega)
  have e3:=Xwe v (by omega) (by omega)
  go_enter Tryz.func43,Tryz.ntmps43
  go_wp2_with fail
  refine(Xwa _ _ _ _ _).mono ?_
  rintro e w1 ⟨rfl,hb1⟩
  have hz1:=hb1.size
  (try simp only[Zs]at hz1)
  obtain⟨k1_0,l1_0,q1_0⟩:=aft hb1 (w.heap.size) (by(try simp)<;>omega)
  obtain⟨k1_1,l1_1,q1_1⟩:=aft hb1 (w.heap.size+1) (by(try simp)<;>omega)
  simp(maxDischargeDepth:=6) [go_sem, *]at k1_0 q1_0 k1_1 q1_1
  have HB1:=Zh hb1
  clear hb1
  by_cases hE:insE (v / 4096) (v / 512 % 8) (v / 64 % 8) (v % 64)=0
  ·have HE:=Zh hE
   have hE2:(insE (v / 4096) (v / 512 % 8) (v / 64 % 8) (v % 64) != 0)=false:=by simp[hE]
   clear hE
   go_wp2
   refine bodyPost_ret (v:=.tuple #[.agg #[.int .i64 (v / 4096),.int .i64 (v / 512 % 8),.int .i64 (v / 64 % 8),.int .i64 (v % 64)],.int .i64 0]) ?_ rfl ⟨rdV_0 (rdE_0 HR.out HE.out), ?_⟩
   ·simp(maxDischargeDepth:=8) [results,Tryz.results43,go_sem, *]
   ·(refine bl ?_;repeat' first|with_reducible(first|assumption|constructor)|((try simp)<;>omega))
  ·have HE:=Zh hE
   have hE2:(insE (v / 4096) (v / 512 % 8) (v / 64 % 8) (v % 64) != 0)=true:=by simp[hE]
   clear hE
   go_wp2
   refine bodyPost_ret (v:=.tuple #[.agg #[.int .i64 0,.int .i64 0,.int .i64 0,.int .i64 0],.int .i64 3]) ?_ rfl ⟨Xsf (Xux HR.out HE.out) (by decide), ?_⟩
   ·simp(maxDischargeDepth:=8) [results,Tryz.results43,go_sem, *]
   ·(refine bl ?_;repeat' first|with_reducible(first|assumption|constructor)|((try simp)<;>omega))
 ·have HR:=Zh hR
  go_enter Tryz.func43,Tryz.ntmps43
  go_wp2
  all_goals refine bodyPost_ret (v:=.tuple #[.agg #[.int .i64 0,.int .i64 0,.int .i64 0,.int .i64 0],.int .i64 2]) ?_ rfl ⟨Xsf (Xuw HR.out) (by decide),HB.out _⟩
  all_goals simp[results,Tryz.results43,go_sem]
def hasB (s:ByteArray) (c:Int):Bool:=s.data.toList.any fun x=>(x.toNat:Int)==c
theorem Xvq {s:ByteArray} {c:Int} {k:Nat} (hk:k<s.size) (h:((s[k].toNat:Int)==c)=true):true=hasB s c:=by
 symm;unfold hasB;rw[List.any_eq_true]
 exact⟨s[k],by simp[ByteArray.getElem_eq_getElem_data],h⟩
theorem Xvp {s:ByteArray} {c:Int} {k:Nat} (hk:k<s.size) (hp:((s.data.toList.take k).any fun x=>(x.toNat:Int)==c)=false) (h:((s[k].toNat:Int)==c)=false) :
  ((s.data.toList.take (k+1)).any fun x=>(x.toNat:Int)==c)=false:=by
 have e:s.data.toList[k]?=some s[k]:=by
  rw[List.getElem?_eq_getElem (by simpa using hk)];rfl
 rw[List.take_add_one,e]
 simp only[Option.toList_some,List.any_append,hp,List.any_cons,List.any_nil,Bool.or_false,Bool.false_or]
 exact h
theorem Xx7 {s:ByteArray} {c:Int} {k:Nat} (hk:k≤s.size) (hk':¬k<s.size) (hp:((s.data.toList.take k).any fun x=>(x.toNat:Int)==c)=false):false=hasB s c:=by
 unfold hasB
 rw[List.take_of_length_le (by simp;omega)]at hp;exact hp.symm
theorem Xxn (c:Int) (hc:0≤c∧c<256) (s:ByteArray) (hs:s.size≤3) (a:Addr) (w:World) (ha:w.cell? a=some (.string s)) :
  Calls Tryz.prog 97 #[.int .u8 c,.pointer (some a)] w fun e w'=>e=.returned (.bool (hasB s c))∧w=w':=by
 go_enter Tryz.func97,Tryz.ntmps97
 go_wp2
 go_loop [7,4] (fun i _=>∃ k:Nat,k≤s.size∧i=.int .i64 k∧((s.data.toList.take k).any fun x=>(x.toNat:Int)==c)=false) (fun i _=>s.size - (intOf i).toNat)
 case atStart=>exact⟨0,by omega,rfl,by simp⟩
 case round=>
  obtain⟨k,hk,rfl,hall⟩:=hrel
  have HA:=Zh hall;clear hall
  by_cases hlt:k<s.size
  ·go_wp2
   ·go_ret
    exact⟨Xbr (Xvq hlt ‹_›),rfl⟩
   ·go_round
    case rel=>exact⟨k+1,by omega,by go_num,Xvp hlt HA.out ‹_›⟩
    case measure=>simp[intOf];omega
  ·go_wp2
   go_ret
   exact⟨Xbr (Xx7 hk hlt HA.out),rfl⟩
theorem insF_t {k a b i:Int} (h1:Xpw k=true∨a=0) (h2:Xpv k=true∨b=0) (h3:Xpu k=true∨i=0):insF k a b i=true:=by
 unfold insF;rcases h1 with h|h<;>rcases h2 with h'|h'<;>rcases h3 with h''|h''<;>simp[h,h',h'']
theorem Xx6 {k a b i:Int} (h:Xpw k=false) (h':a≠0):insF k a b i=false:=by unfold insF;simp[h,h']
theorem Xx5 {k a b i:Int} (h:Xpv k=false) (h':b≠0):insF k a b i=false:=by unfold insF;simp[h,h']
theorem Xx4 {k a b i:Int} (h:Xpu k=false) (h':i≠0):insF k a b i=false:=by unfold insF;simp[h,h']
def Xwu (k a b i:Int):Prop:=inB k 0 8=false∨(inB k 0 8=true∧inB a 0 7=false)∨(inB k 0 8=true∧inB a 0 7=true∧inB b 0 7=false)∨(inB k 0 8=true∧inB a 0 7=true∧inB b 0 7=true∧inB i 0 63=false)
theorem Xta {k a b i:Int} (h:¬InsR k a b i):Xwu k a b i:=by
 unfold InsR at h;unfold Xwu inB
 simp only[Bool.and_eq_true,Bool.and_eq_false_iff,decide_eq_true_eq,decide_eq_false_iff_not]
 omega
theorem Xi8 (k a b i:Int) (w:World) (h:¬InsR k a b i) :
  Calls Tryz.prog 83 #[.agg #[.int .i64 k,.int .i64 a,.int .i64 b,.int .i64 i]] w fun e w'=>e=.returned (.tuple #[.int .i64 (insW k a b i),.int .i64 (insE k a b i)])∧Below w.heap.size w w':=by
 have HB:=Zh (Xag w)
 have HR:=Zh h
 have hb:=Xta h
 clear h
 rcases hb with h1|⟨h1,h2⟩|⟨h1,h2,h3⟩|⟨h1,h2,h3,h4⟩
 all_goals
  go_enter Tryz.func83,Tryz.ntmps83
  go_wp2_with (go_at_call 38;refine(Xbc _ _ _ _).mono ?_;rintro e w' ⟨rfl,rfl⟩)
  go_ret2
  exact⟨Xcj (Xs7 (Xkf HR.out) (by decide)).symm (Xkf HR.out).symm,HB.out _⟩
def Xjh (k:Int):ByteArray:=if k=0 then⟨#[]⟩else if k=2 then⟨#[97,98]⟩else if k=4∨k=5∨k=6 then⟨#[97,98,105]⟩else⟨#[97,105]⟩
theorem Xn6 (k:Int):(Xjh k).size≤3:=by unfold Xjh;split<;>(try split)<;>(try split)<;>decide
theorem Xo7 {k:Int} (h:0≤k∧k≤8):k=0∨k=1∨k=2∨k=3∨k=4∨k=5∨k=6∨k=7∨k=8:=by omega
theorem Xvo {k:Int} (h:0≤k∧k≤8):hasB (Xjh k) 97=Xpw k:=by
 rcases Xo7 h with rfl|rfl|rfl|rfl|rfl|rfl|rfl|rfl|rfl<;>decide
theorem Xvn {k:Int} (h:0≤k∧k≤8):hasB (Xjh k) 98=Xpv k:=by
 rcases Xo7 h with rfl|rfl|rfl|rfl|rfl|rfl|rfl|rfl|rfl<;>decide
theorem Xvm {k:Int} (h:0≤k∧k≤8):hasB (Xjh k) 105=Xpu k:=by
 rcases Xo7 h with rfl|rfl|rfl|rfl|rfl|rfl|rfl|rfl|rfl<;>decide
theorem Xs8 {k:Int} (h:0≤k∧k≤8):[Value.string ⟨#[]⟩,Value.string ⟨#[97,105]⟩,Value.string ⟨#[97,98]⟩,Value.string ⟨#[97,105]⟩,Value.string ⟨#[97,98,105]⟩,Value.string ⟨#[97,98,105]⟩,Value.string ⟨#[97,98,105]⟩,Value.string ⟨#[97,105]⟩,Value.string ⟨#[97,105]⟩][k.toNat]?=some (.string (Xjh k)):=by
 rcases Xo7 h with rfl|rfl|rfl|rfl|rfl|rfl|rfl|rfl|rfl<;>rfl
theorem Xkx (k a b i:Int) (w:World) (h:InsR k a b i) :
  Calls Tryz.prog 83 #[.agg #[.int .i64 k,.int .i64 a,.int .i64 b,.int .i64 i]] w fun e w'=>e=.returned (.tuple #[.int .i64 (insW k a b i),.int .i64 (insE k a b i)])∧Below w.heap.size w w':=by
 have HR:=Zh h
 obtain⟨g1,g2,g3,g4,g5,g6,g7,g8⟩:=h
 have h1:=Xb2 (n:=k) (a:=0) (b:=8) (by omega)
 have h2:=Xb2 (n:=a) (a:=0) (b:=7) (by omega)
 have h3:=Xb2 (n:=b) (a:=0) (b:=7) (by omega)
 have h4:=Xb2 (n:=i) (a:=0) (b:=63) (by omega)
 have e1:=Xvo (k:=k) ⟨g1,g2⟩
 have e2:=Xvn (k:=k) ⟨g1,g2⟩
 have e3:=Xvm (k:=k) ⟨g1,g2⟩
 have hu:=Xs8 (k:=k) ⟨g1,g2⟩
 go_enter Tryz.func83,Tryz.ntmps83
 go_wp2_with (first|(go_at_call 38;refine(Xbc _ _ _ _).mono ?_;rintro e w' ⟨rfl,rfl⟩)|(go_at_call 97;refine(Xxn _ (by decide) (Xjh k) (Xn6 k) _ _ (by simp[go_sem])).mono ?_;rintro e w' ⟨rfl,rfl⟩))
 all_goals go_ret2
 all_goals go_tidy
 all_goals simp only[Array.getD_eq_getD_getElem?,List.getElem?_toArray,List.getElem?_cons_zero,List.getElem?_cons_succ,Option.getD_some]
 all_goals (try simp only[Bool.not_eq_true',Bool.not_eq_false',Bool.not_eq_true]at *)
 all_goals first
  |((with_reducible refine⟨Xcj (Xwt (Xmn HR.out ?_)).symm (Xmn HR.out ?_).symm, ?_⟩)<;>first|(refine insF_t ?_ ?_ ?_<;>first|(left;assumption)|(right;omega))|(refine bl ?_;repeat' first|with_reducible(first|assumption|constructor)|((try simp)<;>omega)))
  |((with_reducible refine⟨Xcj (put_n HR.out ?_) (Xs9 HR.out ?_).symm, ?_⟩)<;>first|(refine Xx6 ?_ ?_<;>first|assumption|omega)|(refine Xx5 ?_ ?_<;>first|assumption|omega)|(refine Xx4 ?_ ?_<;>first|assumption|omega)|(refine bl ?_;repeat' first|with_reducible(first|assumption|constructor)|((try simp)<;>omega)))
theorem Xny (k a b i:Int) (w:World) :
  Calls Tryz.prog 83 #[.agg #[.int .i64 k,.int .i64 a,.int .i64 b,.int .i64 i]] w fun e w'=>e=.returned (.tuple #[.int .i64 (insW k a b i),.int .i64 (insE k a b i)])∧Below w.heap.size w w':=by
 by_cases h:InsR k a b i
 ·exact Xkx k a b i w h
 ·exact Xi8 k a b i w h
theorem Xcs (v:Int) (w:World):Calls Tryz.prog 59 #[.int .i64 v] w fun e w'=>e=.returned (rdV v)∧Below w.heap.size w w':=by
 have HB:=Zh (Xag w)
 by_cases hR:0≤v∧v≤65535
 ·have HR:=Zh hR
  have hin:=Xb2 hR
  obtain⟨h1,h2⟩:=hR
  go_enter Tryz.func59,Tryz.ntmps59
  go_wp2_with (go_at_call 38;refine(Xbc _ _ _ _).mono ?_;rintro e w' ⟨rfl,rfl⟩)
  refine(Xny _ _ _ _ _).mono ?_
  rintro e w1 ⟨rfl,hb1⟩
  have hz1:=hb1.size
  (try simp only[Zs]at hz1)
  obtain⟨k1_0,l1_0,q1_0⟩:=aft hb1 (w.heap.size) (by(try simp)<;>omega)
  obtain⟨k1_1,l1_1,q1_1⟩:=aft hb1 (w.heap.size+1) (by(try simp)<;>omega)
  simp(maxDischargeDepth:=6) [go_sem, *]at k1_0 q1_0 k1_1 q1_1
  have HB1:=Zh hb1
  clear hb1
  by_cases hE:insE (v / 4096) (v / 512 % 8) (v / 64 % 8) (v % 64)=0
  ·have HE:=Zh hE
   have hE2:(insE (v / 4096) (v / 512 % 8) (v / 64 % 8) (v % 64) != 0)=false:=by simp[hE]
   clear hE
   go_wp2
   refine bodyPost_ret (v:=.tuple #[.agg #[.int .i64 (v / 4096),.int .i64 (v / 512 % 8),.int .i64 (v / 64 % 8),.int .i64 (v % 64)],.int .i64 0]) ?_ rfl ⟨rdV_0 (rdE_0 HR.out HE.out), ?_⟩
   ·simp(maxDischargeDepth:=8) [results,Tryz.results59,go_sem, *]
   ·(refine bl ?_;repeat' first|with_reducible(first|assumption|constructor)|((try simp)<;>omega))
  ·have HE:=Zh hE
   have hE2:(insE (v / 4096) (v / 512 % 8) (v / 64 % 8) (v % 64) != 0)=true:=by simp[hE]
   clear hE
   go_wp2
   refine bodyPost_ret (v:=.tuple #[.agg #[.int .i64 0,.int .i64 0,.int .i64 0,.int .i64 0],.int .i64 3]) ?_ rfl ⟨Xsf (Xux HR.out HE.out) (by decide), ?_⟩
   ·simp(maxDischargeDepth:=8) [results,Tryz.results59,go_sem, *]
   ·(refine bl ?_;repeat' first|with_reducible(first|assumption|constructor)|((try simp)<;>omega))
 ·have HR:=Zh hR
  have hin:inB v 0 65535=false:=by simp only[inB,Bool.and_eq_false_iff,decide_eq_false_iff_not];omega
  go_enter Tryz.func59,Tryz.ntmps59
  go_wp2_with (go_at_call 38;refine(Xbc _ _ _ _).mono ?_;rintro e w' ⟨rfl,rfl⟩)
  all_goals refine bodyPost_ret (v:=.tuple #[.agg #[.int .i64 0,.int .i64 0,.int .i64 0,.int .i64 0],.int .i64 2]) ?_ rfl ⟨Xsf (Xuw HR.out) (by decide),HB.out _⟩
  all_goals simp[results,Tryz.results59,go_sem]
end Go.Proofs.YtbopdijnojaaiadGreat
