/- What devices ask: the walks of the program's Check and of the document's CheckAsk. No statement of the seat is proved here. -/
import Derived.Test.YtbopdijnojaaiadGreatSlices
import Derived.Test.YtbopdijnojaaiadGreatDmaP
import Derived.IntWalk
namespace Go.Proofs.YtbopdijnojaaiadGreat
set_option maxRecDepth 100000
set_option maxHeartbeats 1000000
open Go.RowKit
set_option linter.unusedSimpArgs false
set_option linter.unusedVariables false
def askW (data:List Int):Int:=if data.all Xch then 0 else 2
theorem Xlh {data:List Int} (h:data.all Xch=true):askW data=0:=by unfold askW;rw[if_pos h]
theorem Xps {data:List Int} {k:Nat} {x:Int} (hx:data[k]?=some x) (h:Xch x=false):askW data=2:=by unfold askW;rw[Xjw hx h];rfl
theorem Xuf {α:Type} {p:α→Bool} {xs:List α} {k:Nat} (hl:xs.length=k) (h:(xs.take k).all p=true):xs.all p=true:=by rw[List.take_of_length_le (by omega)]at h;exact h
section
variable (dv at_ ct:Int) (wr:Bool) (data:List Int) (D:Option Addr) (nd cd:Nat) (w:World) (hd:Ints w w.heap.size D nd data)
include hd in
theorem Xoc (h1:1≤ct∧ct≤20) (h2:(0≤dv∧dv<8)∧0≤at_∧at_≤512 - ct) (h3:(nd:Int)=ct) :
  Calls Tryz.prog 49 #[.agg #[.int .i64 dv,.int .i64 at_,.int .i64 ct,.bool true,.slice D nd cd]] w fun e w'=>e=.returned (.int .i64 (askW data))∧Below w.heap.size w w':=by
 have HB:=Zh (Xag w)
 have HD:=Zh hd
 obtain⟨h11,h12⟩:=h1
 obtain⟨⟨h21,h22⟩,h23,h24⟩:=h2
 have e1:IntKind.i64.wrap (512 - ct)=512 - ct:=IntWalk.i64_in _ (by omega)
 have hn20:nd≤20:=by omega
 clear hd
 have g4:((nd:Int) != ct)=false:=by rw[bne_eq_false_iff_eq];exact h3
 have hpos:0<nd:=by omega
 obtain⟨b,off,rfl,hb,hc⟩:=HD.out.at_ hpos
 have HC:=Zh hc
 clear hc h3
 go_enter Tryz.func49,Tryz.ntmps49
 go_wp2
 go_loop [58,4] (fun i _=>∃ k:Nat,k≤nd∧i=.int .i64 k∧Hid ((data.take k).all Xch=true)) (fun i _=>nd - (intOf i).toNat)
 case atStart=>exact⟨0,by omega,rfl,by simp[Hid]⟩
 case round=>
  clear h11 h12 h21 h22 h23 h24 e1 g4 hpos
  obtain⟨k,hk,rfl,HA⟩:=hrel
  by_cases hlt:k<nd
  ·obtain⟨x,hx⟩:=Xa2 data (k:=k) (by rw[HD.out.len];exact hlt)
   have hcc:=HC.out k x hx
   have HX:=Zh hx;clear hx
   go_wp2
   all_goals first
    |(go_ret;exact⟨Xbv ((Xps HX.out (by simp[Xch];omega)).symm),HB.out _⟩)
    |skip
   go_round
   case rel=>exact⟨k+1,by omega,by go_num,Xdt HX.out HA.out (by simp[Xch];omega)⟩
   case measure=>simp[intOf];omega
  ·go_wp2
   obtain rfl:k=nd:=by omega
   go_ret
   exact⟨Xbv ((Xlh (Xuf HD.out.len HA.out)).symm),HB.out _⟩
include hd in
theorem Xmt (h1:1≤ct∧ct≤20) (h2:(0≤dv∧dv<8)∧0≤at_∧at_≤512 - ct) (h3:(nd:Int)=0) :
  Calls Tryz.prog 49 #[.agg #[.int .i64 dv,.int .i64 at_,.int .i64 ct,.bool false,.slice D nd cd]] w fun e w'=>e=.returned (.int .i64 (askW data))∧Below w.heap.size w w':=by
 have HB:=Zh (Xag w)
 have HD:=Zh hd
 obtain⟨h11,h12⟩:=h1
 obtain⟨⟨h21,h22⟩,h23,h24⟩:=h2
 have e1:IntKind.i64.wrap (512 - ct)=512 - ct:=IntWalk.i64_in _ (by omega)
 have hn20:nd≤20:=by omega
 clear hd
 obtain rfl:nd=0:=by omega
 have HE:=Zh (show data=[]from List.length_eq_zero_iff.1 HD.out.len)
 clear h3
 go_enter Tryz.func49,Tryz.ntmps49
 go_wp2
 go_loop [58,4] (fun i _=>i=.int .i64 0) (fun i _=>0)
 case atStart=>rfl
 case round=>
  obtain rfl:=hrel
  go_wp2
  go_ret
  exact⟨Xbv ((Xlh (by rw[HE.out];rfl)).symm),HB.out _⟩
theorem Xv8 (h1:¬(1≤ct∧ct≤20)) :
  Calls Tryz.prog 49 #[.agg #[.int .i64 dv,.int .i64 at_,.int .i64 ct,.bool wr,.slice D nd cd]] w fun e w'=>e=.returned (.int .i64 1)∧Below w.heap.size w w':=by
 have HB:=Zh (Xag w)
 have h2:ct<1∨(1≤ct∧20<ct):=by omega
 clear h1
 rcases h2 with h1|⟨h1,h2⟩
 all_goals
  go_enter Tryz.func49,Tryz.ntmps49
  go_wp2
  go_ret
  exact⟨rfl,HB.out _⟩
theorem Xyz (h1:1≤ct∧ct≤20) (h2:¬((0≤dv∧dv<8)∧0≤at_∧at_≤512 - ct)) :
  Calls Tryz.prog 49 #[.agg #[.int .i64 dv,.int .i64 at_,.int .i64 ct,.bool wr,.slice D nd cd]] w fun e w'=>e=.returned (.int .i64 4)∧Below w.heap.size w w':=by
 have HB:=Zh (Xag w)
 obtain⟨h11,h12⟩:=h1
 have e1:IntKind.i64.wrap (512 - ct)=512 - ct:=IntWalk.i64_in _ (by omega)
 have h3:dv<0∨(0≤dv∧8≤dv)∨(0≤dv∧dv<8∧at_<0)∨(0≤dv∧dv<8∧0≤at_∧512 - ct<at_):=by omega
 clear h2
 rcases h3 with h1|⟨h1,h2⟩|⟨h1,h2,h3⟩|⟨h1,h2,h3,h4⟩
 all_goals
  go_enter Tryz.func49,Tryz.ntmps49
  go_wp2
  go_ret
  exact⟨rfl,HB.out _⟩
theorem Xv9 (h1:1≤ct∧ct≤20) (h2:(0≤dv∧dv<8)∧0≤at_∧at_≤512 - ct) (hn:nd≤9223372036854775807) (h3:¬(nd:Int)=if wr then ct else 0) :
  Calls Tryz.prog 49 #[.agg #[.int .i64 dv,.int .i64 at_,.int .i64 ct,.bool wr,.slice D nd cd]] w fun e w'=>e=.returned (.int .i64 3)∧Below w.heap.size w w':=by
 have HB:=Zh (Xag w)
 obtain⟨h11,h12⟩:=h1
 obtain⟨⟨h21,h22⟩,h23,h24⟩:=h2
 have e1:IntKind.i64.wrap (512 - ct)=512 - ct:=IntWalk.i64_in _ (by omega)
 cases wr
 ·have g:0<nd:=by simp at h3;omega
  clear h3
  go_enter Tryz.func49,Tryz.ntmps49
  go_wp2
  go_ret
  exact⟨rfl,HB.out _⟩
 ·have g:((nd:Int) != ct)=true:=by rw[bne_iff_ne];simpa using h3
  clear h3
  go_enter Tryz.func49,Tryz.ntmps49
  go_wp2
  go_ret
  exact⟨rfl,HB.out _⟩
include hd in
theorem dck:Calls Tryz.prog 49 #[.agg #[.int .i64 dv,.int .i64 at_,.int .i64 ct,.bool wr,.slice D nd cd]] w fun e w'=>e=.returned (.int .i64 (reqE ⟨dv,at_,ct,wr,data⟩))∧Below w.heap.size w w':=by
 have hln:=hd.len
 by_cases h1:1≤ct∧ct≤20
 ·by_cases h2:(0≤dv∧dv<8)∧0≤at_∧at_≤512 - ct
  ·by_cases h3:(nd:Int)=if wr then ct else 0
   ·have e:reqE ⟨dv,at_,ct,wr,data⟩=askW data:=by
     unfold reqE askW;rw[if_pos h1,if_pos (show reqR ⟨dv,at_,ct,wr,data⟩from h2),if_pos (by unfold reqN;simp only[];rw[hln];exact h3)]
    rw[e]
    cases wr
    ·exact Xmt dv at_ ct data D nd cd w hd h1 h2 (by simpa using h3)
    ·exact Xoc dv at_ ct data D nd cd w hd h1 h2 (by simpa using h3)
   ·rw[Xl2 (a:=⟨dv,at_,ct,wr,data⟩) h1 h2 (by unfold reqN;simp only[];rw[hln];exact h3)]
    exact Xv9 dv at_ ct wr D nd cd w h1 h2 hd.bd h3
  ·rw[Xov (a:=⟨dv,at_,ct,wr,data⟩) h1 h2]
   exact Xyz dv at_ ct wr D nd cd w h1 h2
 ·rw[Xl1 (a:=⟨dv,at_,ct,wr,data⟩) h1]
  exact Xv8 dv at_ ct wr D nd cd w h1
end
theorem Xjo (a:Ask) (D:Option Addr) (nd cd:Nat) (w:World) (hd:Ints w w.heap.size D nd a.data) :
  Calls Tryz.prog 49 #[.agg #[.int .i64 a.dev,.int .i64 a.at_,.int .i64 a.count,.bool a.wr,.slice D nd cd]] w fun e w'=>e=.returned (.int .i64 (reqE a))∧Below w.heap.size w w':=
 dck a.dev a.at_ a.count a.wr a.data D nd cd w hd
theorem Xtb {n a b:Int} (h:inB n a b=true):a≤n∧n≤b:=by simpa[inB]using h
section
variable (dv at_ ct:Int) (wr:Bool) (data:List Int) (D:Option Addr) (nd cd:Nat) (w:World) (hd:Ints w w.heap.size D nd data)
include hd in
theorem Xn1 (h1:1≤ct∧ct≤20) (h2:(0≤dv∧dv<8)∧0≤at_∧at_≤512 - ct) (h3:(nd:Int)=ct) :
  Calls Tryz.prog 36 #[.agg #[.int .i64 dv,.int .i64 at_,.int .i64 ct,.bool true,.slice D nd cd]] w fun e w'=>e=.returned (.int .i64 (askW data))∧Below w.heap.size w w':=by
 have HB:=Zh (Xag w)
 have HD:=Zh hd
 have i1:=Xb2 h1
 have i2:=Xb2 (show 0≤dv∧dv≤7 by omega)
 have i3:=Xb2 (show 0≤at_∧at_≤512 - ct from h2.2)
 have e1:IntKind.i64.wrap (512 - ct)=512 - ct:=IntWalk.i64_in _ (by omega)
 have hn20:nd≤20:=by omega
 clear hd h1 h2
 have g4:((nd:Int) != ct)=false:=by rw[bne_eq_false_iff_eq];exact h3
 obtain⟨b,off,rfl,hb,hc⟩:=HD.out.at_ (by have:=Xtb i1;omega)
 have HC:=Zh hc
 clear hc h3
 go_enter Tryz.func36,Tryz.ntmps36
 go_wp2_with (go_at_call 38;refine(Xbc _ _ _ _).mono ?_;rintro e w' ⟨rfl,rfl⟩)
 go_loop [35,5] (fun i _=>∃ k:Nat,k≤nd∧i=.int .i64 k∧Hid ((data.take k).all Xch=true)) (fun i _=>nd - (intOf i).toNat)
 case atStart=>exact⟨0,by omega,rfl,by simp[Hid]⟩
 case round=>
  clear i1 i2 i3 e1 g4
  obtain⟨k,hk,rfl,HA⟩:=hrel
  by_cases hlt:k<nd
  ·obtain⟨x,hx⟩:=Xa2 data (k:=k) (by rw[HD.out.len];exact hlt)
   have hcc:=HC.out k x hx
   have HX:=Zh hx;clear hx
   cases hin:inB x 0 65535
   ·have HIN:=Zh (show Xch x=false from hin)
    go_wp2_with (go_at_call 38;refine(Xbc _ _ _ _).mono ?_;rintro e w' ⟨rfl,rfl⟩)
    go_ret
    exact⟨Xbv ((Xps HX.out HIN.out).symm),HB.out _⟩
   ·have HIN:=Zh (show Xch x=true from hin)
    go_wp2_with (go_at_call 38;refine(Xbc _ _ _ _).mono ?_;rintro e w' ⟨rfl,rfl⟩)
    go_round
    case rel=>exact⟨k+1,by omega,by go_num,Xdt HX.out HA.out HIN.out⟩
    case measure=>simp[intOf];omega
  ·go_wp2
   obtain rfl:k=nd:=by omega
   go_ret
   exact⟨Xbv ((Xlh (Xuf HD.out.len HA.out)).symm),HB.out _⟩
include hd in
theorem Xl7 (h1:1≤ct∧ct≤20) (h2:(0≤dv∧dv<8)∧0≤at_∧at_≤512 - ct) (h3:(nd:Int)=0) :
  Calls Tryz.prog 36 #[.agg #[.int .i64 dv,.int .i64 at_,.int .i64 ct,.bool false,.slice D nd cd]] w fun e w'=>e=.returned (.int .i64 (askW data))∧Below w.heap.size w w':=by
 have HB:=Zh (Xag w)
 have HD:=Zh hd
 have i1:=Xb2 h1
 have i2:=Xb2 (show 0≤dv∧dv≤7 by omega)
 have i3:=Xb2 (show 0≤at_∧at_≤512 - ct from h2.2)
 have e1:IntKind.i64.wrap (512 - ct)=512 - ct:=IntWalk.i64_in _ (by omega)
 have hn20:nd≤20:=by omega
 clear hd h1 h2
 obtain rfl:nd=0:=by omega
 have HE:=Zh (show data=[]from List.length_eq_zero_iff.1 HD.out.len)
 clear h3
 go_enter Tryz.func36,Tryz.ntmps36
 go_wp2_with (go_at_call 38;refine(Xbc _ _ _ _).mono ?_;rintro e w' ⟨rfl,rfl⟩)
 go_loop [35,5] (fun i _=>i=.int .i64 0) (fun i _=>0)
 case atStart=>rfl
 case round=>
  obtain rfl:=hrel
  go_wp2
  go_ret
  exact⟨Xbv ((Xlh (by rw[HE.out];rfl)).symm),HB.out _⟩
theorem Xu0 (h1:¬(1≤ct∧ct≤20)) :
  Calls Tryz.prog 36 #[.agg #[.int .i64 dv,.int .i64 at_,.int .i64 ct,.bool wr,.slice D nd cd]] w fun e w'=>e=.returned (.int .i64 1)∧Below w.heap.size w w':=by
 have HB:=Zh (Xag w)
 have i1:=Xgs h1
 clear h1
 go_enter Tryz.func36,Tryz.ntmps36
 go_wp2_with (go_at_call 38;refine(Xbc _ _ _ _).mono ?_;rintro e w' ⟨rfl,rfl⟩)
 go_ret
 exact⟨rfl,HB.out _⟩
theorem Xxp (h1:1≤ct∧ct≤20) (h2:¬((0≤dv∧dv<8)∧0≤at_∧at_≤512 - ct)) :
  Calls Tryz.prog 36 #[.agg #[.int .i64 dv,.int .i64 at_,.int .i64 ct,.bool wr,.slice D nd cd]] w fun e w'=>e=.returned (.int .i64 4)∧Below w.heap.size w w':=by
 have HB:=Zh (Xag w)
 have i1:=Xb2 h1
 have e1:IntKind.i64.wrap (512 - ct)=512 - ct:=IntWalk.i64_in _ (by omega)
 by_cases hd:0≤dv∧dv≤7
 ·have i2:=Xb2 hd
  have i3:=Xgs (show ¬(0≤at_∧at_≤512 - ct) by omega)
  clear h1 h2 hd
  go_enter Tryz.func36,Tryz.ntmps36
  go_wp2_with (go_at_call 38;refine(Xbc _ _ _ _).mono ?_;rintro e w' ⟨rfl,rfl⟩)
  go_ret
  exact⟨rfl,HB.out _⟩
 ·have i2:=Xgs hd
  clear h1 h2 hd
  go_enter Tryz.func36,Tryz.ntmps36
  go_wp2_with (go_at_call 38;refine(Xbc _ _ _ _).mono ?_;rintro e w' ⟨rfl,rfl⟩)
  go_ret
  exact⟨rfl,HB.out _⟩
theorem Xu1 (h1:1≤ct∧ct≤20) (h2:(0≤dv∧dv<8)∧0≤at_∧at_≤512 - ct) (hn:nd≤9223372036854775807) (h3:¬(nd:Int)=if wr then ct else 0) :
  Calls Tryz.prog 36 #[.agg #[.int .i64 dv,.int .i64 at_,.int .i64 ct,.bool wr,.slice D nd cd]] w fun e w'=>e=.returned (.int .i64 3)∧Below w.heap.size w w':=by
 have HB:=Zh (Xag w)
 have i1:=Xb2 h1
 have i2:=Xb2 (show 0≤dv∧dv≤7 by omega)
 have i3:=Xb2 (show 0≤at_∧at_≤512 - ct from h2.2)
 have e1:IntKind.i64.wrap (512 - ct)=512 - ct:=IntWalk.i64_in _ (by omega)
 clear h1 h2
 cases wr
 ·have g:((nd:Int) != 0)=true:=by rw[bne_iff_ne];simpa using h3
  have g2:nd≠0:=by intro e;rw[e]at g;exact absurd g (by decide)
  clear h3
  go_enter Tryz.func36,Tryz.ntmps36
  go_wp2_with (go_at_call 38;refine(Xbc _ _ _ _).mono ?_;rintro e w' ⟨rfl,rfl⟩)
  go_ret
  exact⟨rfl,HB.out _⟩
 ·have g:((nd:Int) != ct)=true:=by rw[bne_iff_ne];simpa using h3
  clear h3
  go_enter Tryz.func36,Tryz.ntmps36
  go_wp2_with (go_at_call 38;refine(Xbc _ _ _ _).mono ?_;rintro e w' ⟨rfl,rfl⟩)
  go_ret
  exact⟨rfl,HB.out _⟩
include hd in
theorem rck:Calls Tryz.prog 36 #[.agg #[.int .i64 dv,.int .i64 at_,.int .i64 ct,.bool wr,.slice D nd cd]] w fun e w'=>e=.returned (.int .i64 (reqE ⟨dv,at_,ct,wr,data⟩))∧Below w.heap.size w w':=by
 have hln:=hd.len
 by_cases h1:1≤ct∧ct≤20
 ·by_cases h2:(0≤dv∧dv<8)∧0≤at_∧at_≤512 - ct
  ·by_cases h3:(nd:Int)=if wr then ct else 0
   ·have e:reqE ⟨dv,at_,ct,wr,data⟩=askW data:=by
     unfold reqE askW;rw[if_pos h1,if_pos (show reqR ⟨dv,at_,ct,wr,data⟩from h2),if_pos (by unfold reqN;simp only[];rw[hln];exact h3)]
    rw[e]
    cases wr
    ·exact Xl7 dv at_ ct data D nd cd w hd h1 h2 (by simpa using h3)
    ·exact Xn1 dv at_ ct data D nd cd w hd h1 h2 (by simpa using h3)
   ·rw[Xl2 (a:=⟨dv,at_,ct,wr,data⟩) h1 h2 (by unfold reqN;simp only[];rw[hln];exact h3)]
    exact Xu1 dv at_ ct wr D nd cd w h1 h2 hd.bd h3
  ·rw[Xov (a:=⟨dv,at_,ct,wr,data⟩) h1 h2]
   exact Xxp dv at_ ct wr D nd cd w h1 h2
 ·rw[Xl1 (a:=⟨dv,at_,ct,wr,data⟩) h1]
  exact Xu0 dv at_ ct wr D nd cd w h1
end
theorem Xik (a:Ask) (D:Option Addr) (nd cd:Nat) (w:World) (hd:Ints w w.heap.size D nd a.data) :
  Calls Tryz.prog 36 #[.agg #[.int .i64 a.dev,.int .i64 a.at_,.int .i64 a.count,.bool a.wr,.slice D nd cd]] w fun e w'=>e=.returned (.int .i64 (reqE a))∧Below w.heap.size w w':=
 rck a.dev a.at_ a.count a.wr a.data D nd cd w hd
end Go.Proofs.YtbopdijnojaaiadGreat
