/- Slices of touches in memory, and the library's Equal at them. No statement of the seat is proved here. -/
import Derived.Test.YtbopdijnojaaiadGreatSlices
import Derived.Test.YtbopdijnojaaiadGreatDmaP
namespace Go.Proofs.YtbopdijnojaaiadGreat
set_option maxRecDepth 100000
set_option maxHeartbeats 4000000
open Go.RowKit
set_option linter.unusedSimpArgs false
set_option linter.unusedVariables false
def Xrm (x y:Tch):Bool:=decide (x=y)
def eqT (xs ys:List Tch):Bool:=decide (xs=ys)
def Xd0 (ls:List Tch):List Value:=ls.flatMap Tch.vals
theorem Xj8:∀ ls:List Tch,(Xd0 ls).length=ls.length * 5
 |[]=>rfl
 |x :: r=>by unfold Xd0;rw[List.flatMap_cons,List.length_append];have:=Xj8 r;unfold Xd0 at this;rw[this];simp[Tch.vals];omega
theorem Xlv:∀(ls:List Tch) (k:Nat) (x:Tch) (j:Nat),ls[k]?=some x→j<5→(Xd0 ls)[k * 5+j]?=x.vals[j]?
 |[],k,x,j,h,_=>by simp at h
 |y :: r,0,x,j,h,hj=>by
  simp at h;subst h
  unfold Xd0
  rw[List.flatMap_cons,List.getElem?_append_left (by simp[Tch.vals];omega)]
  simp
 |y :: r,k+1,x,j,h,hj=>by
  simp at h
  unfold Xd0
  rw[List.flatMap_cons,List.getElem?_append_right (by simp[Tch.vals];omega)]
  have:=Xlv r k x j h hj
  unfold Xd0 at this
  rw[←this];congr 1;simp[Tch.vals];omega
theorem Xkr (xs ys:List Tch):Xd0 (xs ++ ys)=Xd0 xs ++ Xd0 ys:=by unfold Xd0;rw[List.flatMap_append]
def Tchs (w:World) (B:Nat) (A:Option Addr) (n c:Nat) (ls:List Tch):Prop:=
 ls.length=n∧n≤c∧c≤maxLen∧(A=none→c=0)∧Row w B A (Xd0 ls)
def TchAt (w:World) (b o:Nat) (x:Tch):Prop:=
 w.cell? ⟨b,o,none⟩=some (.int .i64 x.dev)∧w.cell? ⟨b,o+1,none⟩=some (.int .i64 x.seen)∧w.cell? ⟨b,o+2,none⟩=some (.int .i64 x.at_)∧w.cell? ⟨b,o+3,none⟩=some (.bool x.wr)∧w.cell? ⟨b,o+4,none⟩=some (.int .i64 x.value)
section
variable {w w':World} {B B' n c:Nat} {A:Option Addr} {ls:List Tch}
theorem Tchs.len (h:Tchs w B A n c ls):ls.length=n:=h.1
theorem Tchs.cap (h:Tchs w B A n c ls):n≤c∧c≤9223372036854775807:=⟨h.2.1,by have:=h.2.2.1;unfold maxLen at this;omega⟩
theorem Tchs.at_ (h:Tchs w B A n c ls) (hn:0<n):∃ b off,A=some ⟨b,off,none⟩∧b<B∧∀ k x,ls[k]?=some x→TchAt w b (off+k * 5) x:=by
 obtain⟨b,off,e,hb,hc⟩:=h.2.2.2.2 (by rw[Xj8,h.1];omega)
 refine⟨b,off,e,hb,fun k x hx=>?_⟩
 have:=fun j hj=>Xlv ls k x j hx hj
 refine⟨?_, ?_, ?_, ?_, ?_⟩
 ·exact hc (k * 5) _ ((this 0 (by omega)).trans rfl)
 ·rw[Nat.add_assoc];exact hc (k * 5+1) _ ((this 1 (by omega)).trans rfl)
 ·rw[Nat.add_assoc];exact hc (k * 5+2) _ ((this 2 (by omega)).trans rfl)
 ·rw[Nat.add_assoc];exact hc (k * 5+3) _ ((this 3 (by omega)).trans rfl)
 ·rw[Nat.add_assoc];exact hc (k * 5+4) _ ((this 4 (by omega)).trans rfl)
theorem Tchs.more (h:Tchs w B A n c ls) (hB:B≤B'):Tchs w B' A n c ls:=⟨h.1,h.2.1,h.2.2.1,h.2.2.2.1,h.2.2.2.2.more hB⟩
theorem Tchs.below (h:Tchs w B A n c ls) (hb:Below B w w'):Tchs w' B A n c ls:=⟨h.1,h.2.1,h.2.2.1,h.2.2.2.1,h.2.2.2.2.below hb⟩
theorem Tchs.drew (h:Tchs w B A n c ls):Tchs w.drew B A n c ls:=h
theorem Tchs.alloc (h:Tchs w B A n c ls) (hB:B≤w.heap.size) (o:Obj):Tchs (w.alloc o) B A n c ls:=⟨h.1,h.2.1,h.2.2.1,h.2.2.2.1,h.2.2.2.2.alloc hB o⟩
theorem Tchs.setCell (h:Tchs w B A n c ls) {p:Addr} (hB:B≤p.block) (u:Value):Tchs (w.setCell p u) B A n c ls:=⟨h.1,h.2.1,h.2.2.1,h.2.2.2.1,h.2.2.2.2.setCell hB u⟩
theorem Xlu (w:World) (B:Nat):Tchs w B none 0 0 []:=⟨rfl,Nat.le_refl _,Nat.zero_le _,fun _=>rfl,Row.nil_⟩
end
def OwnT (B:Nat) (w':World) (A:Option Addr) (n c:Nat) (ls:List Tch):Prop:=ls.length=n∧n≤c∧c≤maxLen∧w'.ownsRow B 76 5 (.slice A n c) n (Xd0 ls)
section
variable {B B':Nat} {w w':World} {A:Option Addr} {n c:Nat} {ls:List Tch}
theorem OwnT.low (h:OwnT B w A n c ls) (hB:B'≤B):OwnT B' w A n c ls:=⟨h.1,h.2.1,h.2.2.1,Xcv h.2.2.2 hB⟩
theorem OwnT.set (h:OwnT B w A n c ls) {p:Addr} (hp:p.block<B) (u:Value):OwnT B (w.setCell p u) A n c ls:=⟨h.1,h.2.1,h.2.2.1,ownsRow_setCell_below h.2.2.2 hp u⟩
theorem OwnT.below (h:OwnT B w A n c ls) (hb:Below w.heap.size w w'):OwnT B w' A n c ls:=⟨h.1,h.2.1,h.2.2.1,Xbz h.2.2.2 hb⟩
theorem OwnT.alloc (h:OwnT B w A n c ls) (o:Obj):OwnT B (w.alloc o) A n c ls:=h.below ((Below.refl _ _).alloc (Nat.le_refl _) o)
theorem OwnT.drew (h:OwnT B w A n c ls):OwnT B w.drew A n c ls:=h
theorem OwnT.tchs (h:OwnT B w A n c ls):Tchs w w.heap.size A n c ls:=⟨h.1,h.2.1,h.2.2.1,(fun e=>by
 subst e
 rcases Xdn h.2.2.2 with⟨hv,_⟩|⟨g,cap,hv,_⟩
 ·injection hv
 ·injection hv with e1;cases e1),Row.of_own h.2.2.2⟩
theorem Xmc (w:World) (B:Nat):OwnT B w none 0 0 []:=⟨rfl,Nat.le_refl _,Nat.zero_le _,World.ownsRow_nil _ _ _ _⟩
end
theorem Tryz.infoTch:(Tryz.prog.info? 76).map (fun i=>(i.zero,i.size,i.bytes))=some (some (.agg #[.int .i64 0,.int .i64 0,.int .i64 0,.bool false,.int .i64 0]),5,40):=by kernel_rfl
theorem Xe5 {w W:World} {A:Option Addr} {n c:Nat} {ls:List Tch} (hx:Tchs w w.heap.size A n c ls) (h:Below w.heap.size w W):Tchs W W.heap.size A n c ls:=(hx.below h).more h.size
theorem Xyf {xs ys:List Tch} (h:xs.length≠ys.length):false=eqT xs ys:=by
 symm;unfold eqT;rw[decide_eq_false_iff_not];intro e;exact h (by rw[e])
theorem eqT_at {xs ys:List Tch} {k:Nat} {x y:Tch} (hx:xs[k]?=some x) (hy:ys[k]?=some y) (h:Xrm x y=false):false=eqT xs ys:=by
 symm;unfold eqT;rw[decide_eq_false_iff_not];intro e;subst e;rw[hx]at hy;simp at hy;unfold Xrm at h;simp[hy]at h
theorem Xyg {xs ys:List Tch} {k:Nat} (hx:xs.length=k) (hy:ys.length=k) (h:xs.take k=ys.take k):true=eqT xs ys:=by
 rw[List.take_of_length_le (by omega),List.take_of_length_le (by omega)]at h;simp[eqT,h]
theorem Xrl (x y:Tch):Xrm x y=(x.dev==y.dev&&x.seen==y.seen&&x.at_==y.at_&&x.wr==y.wr&&x.value==y.value):=by
 unfold Xrm
 by_cases h:x=y
 ·subst h;simp
 ·rw[decide_eq_false h]
  symm
  rw[Bool.eq_false_iff]
  intro hh
  simp only[Bool.and_eq_true,beq_iff_eq]at hh
  exact h (Tch.ext' hh.1.1.1.1 hh.1.1.1.2 hh.1.1.2 hh.1.2 hh.2)
theorem Tryz.neqTch (x y:Tch) (w:World):(binOp .neq 76 (.agg #[.int .i64 x.dev,.int .i64 x.seen,.int .i64 x.at_,.bool x.wr,.int .i64 x.value]) (.agg #[.int .i64 y.dev,.int .i64 y.seen,.int .i64 y.at_,.bool y.wr,.int .i64 y.value])).run Tryz.prog w=.ok (.bool (!Xrm x y)) w:=by
 rw[Xrl]
 simp[go_sem]
 repeat' split
 all_goals simp_all
theorem Xru (A B:Option Addr) (n m c d:Nat) (xs ys:List Tch) (w:World) (hx:Tchs w w.heap.size A n c xs) (hy:Tchs w w.heap.size B m d ys) :
  Calls Tryz.prog 32 #[.slice A n c,.slice B m d] w fun e w'=>e=.returned (.bool (eqT xs ys))∧Below w.heap.size w w':=by
 have hn:=hx.cap
 have HX:=Zh hx;clear hx
 have HY:=Zh hy;clear hy
 obtain⟨hn1,hn2⟩:=hn
 by_cases hnm:n=m
 ·subst hnm
  go_enter Tryz.func32,Tryz.ntmps32
  go_wp2
  go_loopw [13,5] (fun i _ wr=>∃ k:Nat,k≤n∧i=.int .i64 k∧Hid (xs.take k=ys.take k)∧∃ q,wr=w.drewN q) (fun i _ _=>n - (intOf i).toNat)
  case atStart=>exact⟨0,by omega,rfl,by simp[Hid],0,rfl⟩
  case round=>
   obtain⟨k,hk,rfl,hall,q,rfl⟩:=hrel
   by_cases hlt:k<n
   ·obtain⟨x,hxk⟩:=Xa2 xs (k:=k) (by rw[HX.out.len];exact hlt)
    obtain⟨y,hyk⟩:=Xa2 ys (k:=k) (by rw[HY.out.len];exact hlt)
    obtain⟨b,off,rfl,hb,hc⟩:=HX.out.at_ (by omega)
    obtain⟨b',off',rfl,hb',hc'⟩:=HY.out.at_ (by omega)
    obtain⟨e0,e1,e2,e3,e4⟩:=hc k x hxk
    obtain⟨d0,d1,d2,d3,d4⟩:=hc' k y hyk
    clear hc hc'
    have HXK:=Zh hxk;clear hxk
    have HYK:=Zh hyk;clear hyk
    have hne:=fun w=>Tryz.neqTch x y w
    cases hq:Xrm x y
    ·rw[hq]at hne
     have HQ:=Zh hq
     clear hq
     go_wp2
     go_quiet (fail)
     go_wp2
     go_ret
     exact⟨Xbr (eqT_at HXK.out HYK.out HQ.out),Xbs (Xbs (Below.refl _ _) _) _⟩
    ·rw[hq]at hne
     have HQ:=Zh (show x=y from of_decide_eq_true hq)
     clear hq
     go_wp2
     go_quiet (fail)
     go_wp2
     go_roundw
     case rel=>exact⟨k+1,by omega,by go_num,Xe6 HXK.out HYK.out hall.out HQ.out,_,rfl⟩
     case measure=>simp[intOf];omega
   ·go_wp2
    go_ret
    obtain rfl:k=n:=by omega
    exact⟨Xbr (Xyg HX.out.len HY.out.len hall.out),Xbs (Below.refl _ _) _⟩
 ·have h3:((n:Int) != (m:Int))=true:=by simp;omega
  go_enter Tryz.func32,Tryz.ntmps32
  go_wp2
  go_ret
  exact⟨Xbr (Xyf (by rw[HX.out.len,HY.out.len];exact hnm)),Below.refl _ _⟩
end Go.Proofs.YtbopdijnojaaiadGreat
