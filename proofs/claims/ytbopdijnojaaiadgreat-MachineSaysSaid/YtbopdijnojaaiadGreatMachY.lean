/- The machine: the walk of Copy. No statement of the seat is proved here. -/
import Derived.Test.YtbopdijnojaaiadGreatDrop
import Derived.Test.YtbopdijnojaaiadGreatDmaI
import Derived.Deep.RegionLaw
import Derived.Deep.DeepCutAuto
import Derived.Test.YtbopdijnojaaiadGreatWh2
import Derived.Test.YtbopdijnojaaiadGreatBridgeC
namespace Go.Proofs.YtbopdijnojaaiadGreat
set_option maxRecDepth 100000
set_option maxHeartbeats 8000000
open Go.RowKit
set_option linter.unusedSimpArgs false
set_option linter.unusedVariables false
section
theorem Xfz {P:Program} (w:World) {ops:Array Oper} {o:Oper} {a:Act} {K:Act→World→Prop} {Q:Exit→Act→World→Prop} {E:Prop} (hgd:o.guard=none) (s x:Operand) (t:TypeId)
  (ho:o.op=.call { callee:=.builtin .append,args:=#[s,x],argTypes:=#[t,t] })
  (base:Nat) (e:TypeId) (i:TypeInfo) (size:Nat) (ht:P.underlying t=some (.slice e)) (hi:P.info? e=some i) (hsize:i.size=size)
  (g n cap:Nat) (xs:List Value) (hs:a.eval s=.slice (some ⟨g,0,none⟩) n cap) (hown:w.ownsRow base e size (.slice (some ⟨g,0,none⟩) n cap) n xs)
  (ad:Addr) (m c:Nat) (news:List Value) (hx:a.eval x=.slice (some ad) m c) (hl:news.length=m * size) (hnews:∀ j u,news[j]?=some u→w.cell? (ad.add j)=some u) (h1:∀ u∈news,u.oneCell'=true)
  (hroom:n+m≤cap)
  (h:∀ w',w'.ownsRow base e size (.slice (some ⟨g,0,none⟩) (n+m) cap) (n+m) (xs ++ news)→w.grownBy w' (some g)→K (a.put o.dst (.slice (some ⟨g,0,none⟩) (n+m) cap)) w') :
  if Region.wanted o (yielded ops a.tmps)=true then Oper.wp P o a w K Q else E:=by
 have hw:Region.wanted o (yielded ops a.tmps)=true:=by simp[Region.wanted,hgd]
 rw[if_pos hw]
 obtain⟨w',hr,h2,h3⟩:=run_append_fits (P:=P) w base t o.type e i size ht hi hsize g n cap xs hown ad m c news hl hnews h1 hroom
 unfold Oper.wp execOp
 simp only[ho,resolve,invoke,builtin,Sem.run_bind,Sem.run_pure,Result.andThen_ok,List.map_toArray,List.map_cons,List.map_nil,hs,hx,hr]
 exact h w' h2 h3
theorem Xmd {B:Nat} {w:World} {g n c k:Nat} {ls:List Line} (h:OwnL B w (some ⟨g,0,none⟩) n c ls) (hk:k≤n):w.ownsRow B 58 5 (.slice (some ⟨g,0,none⟩) k c) k (Xav (ls.take k)):=by
 obtain⟨h1,h2,h3,h4,h5⟩:=h
 refine⟨by rw[Xbt,List.length_take,h1];congr 1;omega, ?_⟩
 rcases h5 with⟨h5,_⟩|⟨g',cap,cur,hv,hb,hg,hnc,hcm,hcs,ht⟩
 ·cases h5
 ·injection hv with e1 e2 e3
  injection e1 with e1
  injection e1 with e1
  subst e1 e3
  refine Or.inr ⟨g,c,cur,rfl,hb,hg,by omega,hcm,hcs, ?_⟩
  rw[←Xg3,←ht,List.take_take]
  congr 1
  omega
theorem Xmf {B:Nat} {w:World} {g n c:Nat} {xs:List Value} (h:w.ownsRow B 58 5 (.slice (some ⟨g,0,none⟩) n c) n xs):(∀ j,j<c * 5→(w.cell? ⟨g,j,none⟩).isSome=true)∧(∀ j,w.frozen? ⟨g,j,none⟩=false)∧B≤g∧g<w.heap.size:=by
 have hb:=Xat h _ rfl
 obtain⟨_,h5⟩:=h
 rcases h5 with⟨h5,_⟩|⟨g',cap,cur,hv,_,hg,hnc,hcm,hcs,ht⟩
 ·cases h5
 ·injection hv with e1 e2 e3
  injection e1 with e1
  injection e1 with e1
  subst e1 e3
  refine⟨fun j hj=>?_,fun j=>?_,hb.1,hb.2⟩
  ·simp[World.cell?,hg];omega
  ·simp[World.frozen?,hg]
theorem Xh6 {B:Nat} {w:World} {g n c:Nat} {ls:List Line} (hl:ls.length=n) (hc:n≤c) (hm:c≤maxLen) (h:w.ownsRow B 58 5 (.slice (some ⟨g,0,none⟩) n c) n (Xav ls)):Lines w w.heap.size (some ⟨g,0,none⟩) n c ls:=by
 have hb:=Xat h _ rfl
 refine⟨hl,hc,hm,(fun hh=>nomatch hh),fun h0=>⟨g,0,rfl,hb.2,fun k v hv=>?_⟩⟩
 have:=h.cellAt k (by have:=(List.getElem?_eq_some_iff.1 hv).1;rw[Xbt,hl]at this;exact this)
 rw[Nat.zero_add,this];exact hv
theorem Xda (g:Nat):∀(vs:List Value) (o:Nat) (w:World),Chg (fun q=>q=g) w (w.setCells g o vs)
 |[],_,w=>Xaq w
 |v :: r,o,w=>by
  rw[World.setCells]
  exact Xa4 (Xbb (P:=fun q=>q=g) (Xaq w) (p:=⟨g,o,none⟩) (Or.inl rfl) v) (Xda g r (o+1) _)
def DelC (w:World) (g n c k:Nat) (ls:List Line) (e:Ending) (w':World):Prop:=
 e=.returned (.slice (some ⟨g,0,none⟩) (n - 1) c)∧Lines w' w'.heap.size (some ⟨g,0,none⟩) (n - 1) c (ls.eraseIdx k)∧Chg (fun q=>q=g) w w'
def AppD (w:World) (B g n c k:Nat) (ls:List Line) (wd:World):Prop:=wd.ownsRow B 58 5 (.slice (some ⟨g,0,none⟩) (n - 1) c) (n - 1) (Xav (ls.eraseIdx k))∧Chg (fun q=>q=g) w wd
theorem Xrv (B g n c k:Nat) (ls:List Line) (w:World) (ho:OwnL B w (some ⟨g,0,none⟩) n c ls) (hk:k<n) (hn:n≤1000) (hcc:¬c=k+1) :
  Calls Tryz.prog 16 #[.slice (some ⟨g,0,none⟩) n c,.int .i64 (k:Int),.int .i64 ((k:Int)+1)] w (DelC w g n c k ls):=by
 obtain⟨i0,hi,hz0,hz1,hz2⟩:=info_parts Tryz.infoLine
 have HI:=Zh hi;clear hi
 have HZ1:=Zh hz1;clear hz1
 have HO:=Zh ho
 have hcap:n≤c:=ho.2.1
 have hmx:c≤9223372036854775807:=by have:=ho.2.2.1;unfold maxLen at this;omega
 have HLN:=Zh ho.1
 have HT:=Zh (Xmd ho (k:=k) (by omega))
 have HLL:=Zh (Xh6 ho.1 ho.2.1 ho.2.2.1 ho.2.2.2)
 have s0:(0:Int)≤(k:Int):=by omega
 have s1:(k:Int)≤(k:Int)+1:=by omega
 have s2:(k:Int)+1≤(n:Int):=by omega
 have s3:(n:Int)≤(c:Int):=by omega
 have s4:(k:Int)≤(n:Int):=by omega
 have s5:(k:Int)≤(c:Int):=by omega
 have s6:(0:Int)≤(k:Int)+1:=by omega
 have s7:(k:Int)+1≤(c:Int):=by omega
 have s8:((k:Int)+1).toNat=k+1:=by omega
 have s9:((k:Int)==(k:Int)+1)=false:=by rw[beq_eq_false_iff_ne];omega
 clear ho
 go_enter Tryz.func16,Tryz.ntmps16
 have C1:Hid ((Xav (ls.drop (k+1))).length=(n - (k+1)) * 5):=Zh (by rw[Xbt,List.length_drop,HLN.out])
 have CE:Hid (∀ W:World,W.ownsRow B 58 5 (.slice (some ⟨g,0,none⟩) (k+(n - (k+1))) c) (k+(n - (k+1))) (Xav (ls.take k) ++ Xav (ls.drop (k+1)))→W.ownsRow B 58 5 (.slice (some ⟨g,0,none⟩) (n - 1) c) (n - 1) (Xav (ls.eraseIdx k))):=Zh (fun W h=>by
  rw[show k+(n - (k+1))=n - 1 by omega,←Xer,←List.eraseIdx_eq_take_drop_succ]at h;exact h)
 go_upto_region 5 with(fail)
 go_cut [0] (fun s0 wd=>s0=.slice (some ⟨g,0,none⟩) (n - 1) c∧AppD w B g n c k ls wd)
 case first=>
  have C2:Hid (∀ j u,(Xav (ls.drop (k+1)))[j]?=some u→w.cell? ((⟨g,(k+1) * 5,none⟩:Addr).add j)=some u):=Zh (fun j u hu=>by
   rw[←Xfw,List.getElem?_drop]at hu
   have hb:=HLL.out.2.2.2.2 (by rw[Xbt,HLN.out];omega)
   obtain⟨b',o',e,_,hc⟩:=hb
   injection e with e
   injection e with e1 e2
   subst e1 e2
   rw[Go.WideShapes.add_plain,←hc _ u hu,Nat.zero_add])
  go_region_law ((refine Xfz _ (by rfl) (.tmp 22) (.tmp 25) 27 (by rfl) B 58 i0 5 Tryz.underlying27 HI.out HZ1.out g k c _ (by rfl) HT.out ⟨g,(k+1) * 5,none⟩ (n - (k+1)) (c - (k+1)) (Xav (ls.drop (k+1))) (by rfl) C1.out C2.out (Xfh _) (by omega) ?_;intro w1 hown1 hgr1))
  all_goals
   have HX:=Zh hown1
   have HG:=Zh hgr1
   clear hown1 hgr1
   go_wp2
   go_meet
   exact⟨by rw[show k+(n - (k+1))=n - 1 by omega],CE.out _ HX.out,by first|exact Xdm (Xaq w) HG.out (fun q e=>Or.inl (Option.some.inj e).symm)|exact Xdm (Xa5 (Xaq w)) HG.out (fun q e=>Or.inl (Option.some.inj e).symm)⟩
 case rest=>
  obtain⟨rfl,hA,hC⟩:=hcut
  obtain⟨hs1,hf1,hB1,hlt1⟩:=Xmf hA
  have HA:=Zh hA
  have HC:=Zh hC
  obtain⟨vs,hcl⟩:=Xg9 wc g ((n - 1) * 5) 1 (c - (n - 1)) (by decide) (fun m hm=>hs1 _ (by omega)) hf1
  have i2:(0:Int)≤((n - 1:Nat):Int):=by omega
  have i3:((n - 1:Nat):Int)≤(n:Int):=by omega
  have i4:((n - 1:Nat):Int)≤(c:Int):=by omega
  have i5:n - (n - 1)=1:=by omega
  have i6:¬c=n - 1:=by omega
  have HLT:=Zh hlt1
  clear hs1 hf1 hA hC hB1 hlt1
  go_wp2
  go_ret
  refine⟨rfl, ?_, ?_⟩
  ·have hl:=Xh6 (ls:=ls.eraseIdx k) (by rw[List.length_eraseIdx,if_pos (by rw[HLN.out];omega),HLN.out]) (by omega) (by unfold maxLen;omega) HA.out
   have:=(hl.cutAt (i:=n - 1) (Nat.le_refl _) vs).more (B':=(wc.setCells g ((n - 1) * 5) vs).heap.size) (Nat.le_of_eq (Xff g vs _ wc).symm)
   rwa [List.take_of_length_le (by rw[hl.len];exact Nat.le_refl _)]at this
  ·exact Xa4 HC.out (Xda g vs _ wc)
theorem Xp4 (B g k:Nat) (ls:List Line) (w:World) (ho:OwnL B w (some ⟨g,0,none⟩) (k+1) (k+1) ls) (hn:k+1≤1000) :
  Calls Tryz.prog 16 #[.slice (some ⟨g,0,none⟩) (k+1) (k+1),.int .i64 (k:Int),.int .i64 ((k:Int)+1)] w (DelC w g (k+1) (k+1) k ls):=by
 obtain⟨i0,hi,hz0,hz1,hz2⟩:=info_parts Tryz.infoLine
 have HI:=Zh hi;clear hi
 have HZ1:=Zh hz1;clear hz1
 have hmx:k+1≤9223372036854775807:=by have:=ho.2.2.1;unfold maxLen at this;omega
 have HLN:=Zh ho.1
 have HT:=Zh (Xmd ho (k:=k) (by omega))
 have HAL:Hid (ls.eraseIdx k=ls.take k):=Zh (by rw[List.eraseIdx_eq_take_drop_succ,List.drop_eq_nil_of_le (by rw[HLN.out];omega),List.append_nil])
 have s0:(0:Int)≤(k:Int):=by omega
 have s1:(k:Int)≤(k:Int)+1:=by omega
 have s6:(0:Int)≤(k:Int)+1:=by omega
 have s8:((k:Int)+1).toNat=k+1:=by omega
 have s9:((k:Int)==(k:Int)+1)=false:=by rw[beq_eq_false_iff_ne];omega
 clear ho
 go_enter Tryz.func16,Tryz.ntmps16
 have C1:Hid ((([]:List Value)).length=0 * 5):=Zh rfl
 have C2:Hid (∀ j u,([]:List Value)[j]?=some u→w.cell? ((⟨g,0,none⟩:Addr).add j)=some u):=Zh (fun j u hu=>by cases hu)
 go_upto_region 5 with(fail)
 go_cut [0] (fun s0 wd=>s0=.slice (some ⟨g,0,none⟩) k (k+1)∧AppD w B g (k+1) (k+1) k ls wd)
 case first=>
  go_region_law ((refine Xfz _ (by rfl) (.tmp 22) (.tmp 25) 27 (by rfl) B 58 i0 5 Tryz.underlying27 HI.out HZ1.out g k (k+1) _ (by rfl) HT.out ⟨g,0,none⟩ 0 0 [] (by rfl) C1.out C2.out (fun u hu=>nomatch hu) (by omega) ?_;intro w1 hown1 hgr1))
  all_goals
   have HX:=Zh hown1
   have HG:=Zh hgr1
   clear hown1 hgr1
   go_wp2
   go_meet
   refine⟨rfl, ?_,by first|exact Xdm (Xaq w) HG.out (fun q e=>Or.inl (Option.some.inj e).symm)|exact Xdm (Xa5 (Xaq w)) HG.out (fun q e=>Or.inl (Option.some.inj e).symm)⟩
   have:=HX.out
   rw[List.append_nil]at this
   rw[HAL.out]
   exact this
 case rest=>
  obtain⟨rfl,hA,hC⟩:=hcut
  obtain⟨hs1,hf1,hB1,hlt1⟩:=Xmf hA
  have HA:=Zh hA
  have HC:=Zh hC
  obtain⟨vs,hcl⟩:=Xg9 wc g (k * 5) 1 1 (by decide) (fun m hm=>hs1 _ (by omega)) hf1
  have i3:(k:Int)≤(k:Int)+1:=by omega
  have i5:k+1 - k=1:=by omega
  have i6:¬k+1=k:=by omega
  clear hs1 hf1 hA hC hB1 hlt1
  go_wp2
  go_ret
  refine⟨rfl, ?_, ?_⟩
  ·have hl:=Xh6 (ls:=ls.eraseIdx k) (by rw[HAL.out,List.length_take,HLN.out];omega) (by omega) (by unfold maxLen;omega) HA.out
   have:=(hl.cutAt (i:=k) (Nat.le_refl _) vs).more (B':=(wc.setCells g (k * 5) vs).heap.size) (Nat.le_of_eq (Xff g vs _ wc).symm)
   rwa [List.take_of_length_le (by rw[hl.len];exact Nat.le_refl _)]at this
  ·exact Xa4 HC.out (Xda g vs _ wc)
theorem Xp3 (B:Nat) (A:Option Addr) (n c k:Nat) (ls:List Line) (w:World) (ho:OwnL B w A n c ls) (hk:k<n) (hn:n≤1000) :
  Calls Tryz.prog 16 #[.slice A n c,.int .i64 (k:Int),.int .i64 ((k:Int)+1)] w fun e w'=>∃ g,A=some ⟨g,0,none⟩∧DelC w g n c k ls e w':=by
 obtain⟨g,hg⟩:∃ g,A=some ⟨g,0,none⟩:=by
  obtain⟨_,_,_,_,h5⟩:=ho
  rcases h5 with⟨_,h0⟩|⟨g',cap,cur,hv,_⟩
  ·omega
  ·injection hv with e1 e2 e3;exact⟨g',e1⟩
 subst hg
 by_cases hcc:c=k+1
 ·have hnc:=ho.2.1
  obtain rfl:n=k+1:=by omega
  subst hcc
  exact(Xp4 B g k ls w ho hn).mono fun e w' h=>⟨g,rfl,h⟩
 ·exact(Xrv B g n c k ls w ho hk hn hcc).mono fun e w' h=>⟨g,rfl,h⟩
end
section
theorem whl_mb {w:World} {g:Nat} {t:TypeId} {m m' a r d u0 u1 u2 u3 u4 u5 u6 u7 u8 u9 u10 u11 v0 v1 v2 v3 v4 v5 v6 v7 v8 v9 v10 v11:Value} (h:Whl w g t #[m,a,r,d,v0,v1,v2,v3,v4,v5,v6,v7,v8,v9,v10,v11]) :
  Whl (((((((((((((w.setCell ⟨g,0,none⟩ m').setCell ⟨g,4,none⟩ u0).setCell ⟨g,5,none⟩ u1).setCell ⟨g,6,none⟩ u2).setCell ⟨g,7,none⟩ u3).setCell ⟨g,8,none⟩ u4).setCell ⟨g,9,none⟩ u5).setCell ⟨g,10,none⟩ u6).setCell ⟨g,11,none⟩ u7).setCell ⟨g,12,none⟩ u8).setCell ⟨g,13,none⟩ u9).setCell ⟨g,14,none⟩ u10).setCell ⟨g,15,none⟩ u11) g t #[m',a,r,d,u0,u1,u2,u3,u4,u5,u6,u7,u8,u9,u10,u11]:=by
 have h1:=Xas h 0 m' #[m',a,r,d,v0,v1,v2,v3,v4,v5,v6,v7,v8,v9,v10,v11] rfl
 have h2:=Xas h1 4 u0 #[m',a,r,d,u0,v1,v2,v3,v4,v5,v6,v7,v8,v9,v10,v11] rfl
 have h3:=Xas h2 5 u1 #[m',a,r,d,u0,u1,v2,v3,v4,v5,v6,v7,v8,v9,v10,v11] rfl
 have h4:=Xas h3 6 u2 #[m',a,r,d,u0,u1,u2,v3,v4,v5,v6,v7,v8,v9,v10,v11] rfl
 have h5:=Xas h4 7 u3 #[m',a,r,d,u0,u1,u2,u3,v4,v5,v6,v7,v8,v9,v10,v11] rfl
 have h6:=Xas h5 8 u4 #[m',a,r,d,u0,u1,u2,u3,u4,v5,v6,v7,v8,v9,v10,v11] rfl
 have h7:=Xas h6 9 u5 #[m',a,r,d,u0,u1,u2,u3,u4,u5,v6,v7,v8,v9,v10,v11] rfl
 have h8:=Xas h7 10 u6 #[m',a,r,d,u0,u1,u2,u3,u4,u5,u6,v7,v8,v9,v10,v11] rfl
 have h9:=Xas h8 11 u7 #[m',a,r,d,u0,u1,u2,u3,u4,u5,u6,u7,v8,v9,v10,v11] rfl
 have h10:=Xas h9 12 u8 #[m',a,r,d,u0,u1,u2,u3,u4,u5,u6,u7,u8,v9,v10,v11] rfl
 have h11:=Xas h10 13 u9 #[m',a,r,d,u0,u1,u2,u3,u4,u5,u6,u7,u8,u9,v10,v11] rfl
 have h12:=Xas h11 14 u10 #[m',a,r,d,u0,u1,u2,u3,u4,u5,u6,u7,u8,u9,u10,v11] rfl
 have h13:=Xas h12 15 u11 #[m',a,r,d,u0,u1,u2,u3,u4,u5,u6,u7,u8,u9,u10,u11] rfl
 exact h13
def CopM (w0:World) (g:Nat) (x:Mch) (R:Option Addr) (nr rc n:Nat) (wd:World):Prop:=
 ∃ A d L c,Whl wd g 33 ((M_.m x A 512 d R nr rc L n c))∧OwnI w0.heap.size wd A 512 d x.m∧OwnL w0.heap.size wd L n c x.b.cache∧Chg (fun q=>q=g) w0 wd
def CopyM (w:World) (x:Mch) (nr n:Nat) (e:Ending) (w':World):Prop:=
 ∃ M mc R rc L c,e=.returned (.agg (M_.m x M 512 mc R nr rc L n c))∧OwnI w.heap.size w' M 512 mc x.m∧OwnI w.heap.size w' R nr rc x.h.regs∧OwnL w.heap.size w' L n c x.b.cache∧Below w.heap.size w w'
section
variable (x:Mch) (M R L:Option Addr) (mc rc n c:Nat) (w:World)
theorem Xim (hm:Ints w w.heap.size M 512 x.m) (hr:Ints w w.heap.size R 8 x.h.regs) (hl:Lines w w.heap.size L n c x.b.cache) (hn:n≤1000) :
  Calls Tryz.prog 12 #[.agg (M_.m x M 512 mc R 8 rc L n c)] w (CopyM w x 8 n):=by
 have HM:=Zh hm
 have HR:=Zh hr
 have HL:=Zh hl
 have HN:=Zh hn
 clear hm hr hl hn
 go_enter Tryz.func12,Tryz.ntmps12
 go_upto_region 1 with(fail)
 generalize hw0:(w.alloc (.cells (M_.m x M 512 mc R 8 rc L n c) 33)).alloc (.cells B_.y 33)=w0
 have H0:Hid (Whl w0 w.heap.size 33 ((M_.m x M 512 mc R 8 rc L n c))):=Zh (by rw[←hw0];exact Xab (Xac _ _ _ rfl) _)
 have H1:Hid (Whl w0 (w.heap.size+1) 33 B_.y):=Zh (by rw[←hw0];exact Xac _ _ _ (by simp))
 have HW:Hid (Below w.heap.size w w0):=Zh (by rw[←hw0];(refine bl ?_;repeat' first|with_reducible(first|assumption|constructor)|((try simp)<;>omega)))
 have hz:w0.heap.size=w.heap.size+1+1:=by rw[←hw0];simp
 clear hw0
 have k0:=fun o=>Xad H0.out o
 have q0:=fun o=>Xhv H0.out o
 have l0:w.heap.size<w0.heap.size:=by omega
 have hzn:=Zh hz
 go_cut [] (fun wd=>CopM w0 w.heap.size x R 8 rc n wd)
 case first=>
  clear H1
  go_region_with (first
   |(go_at_call 40;refine(Xgl M 512 mc x.m _ ?_ (by decide) (by decide)).mono ?_;(focus (refine Xaf HM.out ?_;(refine bl ?_;repeat' first|with_reducible(first|assumption|constructor)|((try simp)<;>omega));done));rintro e w4 ⟨A4,d4,rfl,ho4,hb4⟩;have hz4:=hb4.size;(try simp only[Zs]at hz4);obtain⟨k4_0,l4_0,q4_0⟩:=aft hb4 (w.heap.size) (by(try simp)<;>omega);simp(maxDischargeDepth:=6) [go_sem, *]at k4_0 q4_0;have HB4:=Zh hb4;clear hb4;have HO4:Hid (OwnI w0.heap.size w4 A4 512 d4 x.m):=Zh (ho4.low (by(try simp)<;>omega));have HP4:=Zh (Xat ho4.2);clear ho4)
   |(go_at_call 41;refine(Xdd x.b L n c _ ?_ HN.out).mono ?_;(focus (refine Xah HL.out ?_;(refine bl ?_;repeat' first|with_reducible(first|assumption|constructor)|((try simp)<;>omega));done));rintro e w5 ⟨A5,d5,rfl,ho5,hb5⟩;have hz5:=hb5.size;(try simp only[Zs]at hz5);obtain⟨k5_0,l5_0,q5_0⟩:=aft hb5 (w.heap.size) (by(try simp)<;>omega);simp(maxDischargeDepth:=6) [go_sem, *]at k5_0 q5_0;have HB5:=Zh hb5;clear hb5;have HO5:Hid (OwnL w0.heap.size w5 A5 n d5 x.b.cache):=Zh (ho5.low (by(try simp)<;>omega));have HP5:=Zh (Xat ho5.2.2.2);clear ho5))
  all_goals
   go_wp2
   go_meet
   clear k0 q0
   refine⟨A4,d4,A5,d5, ?_, ?_, ?_, ?_⟩
   ·with_reducible apply whl_mb
    (repeat(first|(with_reducible exact H0.out)|(with_reducible refine Xaa ?_ HB5.out)|(with_reducible refine Xaa ?_ HB4.out)|(with_reducible refine Xem ?_)))
   ·(repeat(first|((with_reducible refine OwnI.set ?_ ?_ _);rotate_left;exact(by(try simp)<;>omega))|(with_reducible exact HO4.out)|(with_reducible refine OwnI.below ?_ HB5.out)))
   ·(repeat(first|((with_reducible refine OwnL.set ?_ ?_ _);rotate_left;exact(by(try simp)<;>omega))|(with_reducible exact HO5.out)|(with_reducible refine OwnL.below ?_ HB4.out)))
   ·(repeat(first|(with_reducible exact Xaq _)|(with_reducible refine Xa7 ?_ _)|(with_reducible refine Xa5 ?_)|(with_reducible refine Xay ?_ _)|((with_reducible refine Xbb ?_ ?_ _);rotate_left;exact(by first|(simp;done)|(simp[Xbe];done)|(simp[Xbe];omega)|omega))|(with_reducible refine Xoh ?_ HB5.out)|(with_reducible refine Xoh ?_ HB4.out)))
 case rest=>
  obtain⟨A,d,L',c',hw1,ho1,hl1,hC⟩:=hcut
  have HB1:Hid (Below w.heap.size w wc):=Zh (Xa8 HW.out (by omega) hC (fun q hq e=>by omega))
  have HX:=Zh hw1
  have H2:=Zh (Xa6 H1.out hC (by omega))
  have hzc:=hC.size
  have HO:=Zh ho1
  have HOL:=Zh hl1
  have k2:=Xad hw1 2
  have n1:w.heap.size<w0.heap.size:=by omega
  have n2:w.heap.size+1<w0.heap.size:=by omega
  have N1:=Zh n1
  have N2:=Zh n2
  clear hw1 ho1 hl1 hC k0 q0 l0 H0 H1
  go_wp2_with fail
  refine(Xhf R 8 rc x.h.regs _ (Xaf HR.out HB1.out) (by decide) (by decide)).mono ?_
  rintro e w2 ⟨R1,d1,rfl,ho2,hb2⟩
  have HB2:=Zh hb2
  have HR2:=Zh ho2
  have hz2:=hb2.size
  clear ho2 hb2 k2
  go_wp2_with (first
   |(refine Xau rfl 22 (.tmp 16) (.tmp 14) rfl w.heap.size 2 _ _ ((M_.m x A 512 d R1 8 d1 L' n c')) (.slice R1 8 d1) rfl rfl (Xaa HX.out HB2.out) Tryz.sizeInts (of_decide_eq_true rfl) rfl rfl ?_;intro w3 H3 T3;have H2b:=Xam (Xaa H2.out HB2.out) T3 (Nat.succ_ne_self _))
   |(refine Xao rfl 33 (.tmp 1) rfl w.heap.size _ _ rfl H3 _ Tryz.underlying33 rfl Tryz.sizeMach ?_)
   |(refine Xaj rfl 33 (.tmp 2) (.tmp 17) rfl (w.heap.size+1) _ _ ((M_.m x A 512 d R1 8 d1 L' n c')) rfl rfl H2b Tryz.sizeMach rfl rfl ?_;intro w4 H4 T4))
  go_wp2
  refine bodyPost_ret (v:=.agg ((M_.m x A 512 d R1 8 d1 L' n c'))) ?_ rfl ⟨_,_,_,_,_,_,rfl, ?_, ?_, ?_, ?_⟩
  ·exact results_cell_row Tryz.results12 _ _ (w.heap.size+1) _ _ _ _ rfl H4 Tryz.underlying33 rfl Tryz.sizeMach
  ·exact(Xe4 (Xe4 (OwnI.below HO.out HB2.out) T3 N1.out) T4 N2.out).low (by omega)
  ·exact(Xe4 (Xe4 HR2.out T3 (by omega)) T4 (by omega)).low (by omega)
  ·exact(Xiu (Xiu (OwnL.below HOL.out HB2.out) T3 N1.out) T4 N2.out).low (by omega)
  ·exact Xaw (Xaw (HB1.out.trans (Below.mono HB2.out (by omega))) (by omega) T3 (Nat.le_refl _)) (by have:=T3.2;omega) T4 (by omega)
end
end
end Go.Proofs.YtbopdijnojaaiadGreat
