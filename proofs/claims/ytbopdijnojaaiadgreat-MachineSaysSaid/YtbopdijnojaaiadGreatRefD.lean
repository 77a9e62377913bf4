/- The document's cache: the walk of Dropped. No statement of the seat is proved here. -/
import Derived.Test.YtbopdijnojaaiadGreatRefC
import Derived.Test.YtbopdijnojaaiadGreatFillZ
import Derived.Deep.RegionHeld3
import Derived.Deep.DrawnRows
import Derived.Deep.DeepCutAuto
namespace Go.Proofs.YtbopdijnojaaiadGreat
set_option maxRecDepth 100000
set_option maxHeartbeats 8000000
open Go.RowKit
set_option linter.unusedSimpArgs false
set_option linter.unusedVariables false
section
attribute [local go_sem ↓] Go.wp_at_zero Go.wp_at_succ
theorem Xx2 {w1 W:World} {p0 p1 p2 p3 p4:Addr} {v0 v1 v2 v3 v4:Value} (h:Xan w1 W) (h0:w1.cell? p0=some v0) (h1:w1.cell? p1=some v1) (h2:w1.cell? p2=some v2) (h3:w1.cell? p3=some v3) (h4:w1.cell? p4=some v4):W.cell? p0=some v0∧W.cell? p1=some v1∧W.cell? p2=some v2∧W.cell? p3=some v3∧W.cell? p4=some v4∧Hid (Xan w1 W):=
 ⟨Xak h h0,Xak h h1,Xak h h2,Xak h h3,Xak h h4,h⟩
theorem Xcg {w1 W:World} {c0 c1 c2 c3 c4:Prop} (h:c0∧c1∧c2∧c3∧c4∧Hid (Xan w1 W)):Xan w1 W:=h.2.2.2.2.2
def Xe9 (w:World) (ad:Addr) (vs:List Value):Prop:=∀ j u,vs[j]?=some u→w.cell? (ad.add j)=some u
theorem Xdp {w W:World} {ad:Addr} {vs:List Value} (h:Xan w W) (hn:Xe9 w ad vs):Xe9 W ad vs:=fun j u hu=>Xak h (hn j u hu)
theorem Xc8 (w:World) (x:Line):Xe9 (w.alloc (.cells #[.int .i64 x.dev,.int .i64 x.page,.int .i64 x.at_,.bool x.rd,.bool x.wr] 58)) ⟨w.heap.size,0,none⟩ x.vals:=Xd4 w x
theorem Xke {w:World} {b off n c:Nat} {ls:List Line} (h:Lines w w.heap.size (some ⟨b,off,none⟩) n c ls):Xe9 w ⟨b,off,none⟩ (Xav ls):=fun j u hu=>by
 rw[Go.WideShapes.add_plain]
 exact Xxm h.2.2.2.2 rfl (by
  have hp:0<(Xav ls).length:=by have:=(List.getElem?_eq_some_iff.1 hu).1;omega
  obtain⟨b',off',e,hb,_⟩:=h.2.2.2.2 hp
  simp only[Option.some.injEq,Addr.mk.injEq,and_true]at e
  rw[e.1];exact hb) j u hu
theorem Xjv (b n':Nat) (A:Option Addr) (ty:TypeId) (w:World):(Builtin.append_ #[27,27] ty #[.slice (some ⟨b,0,none⟩) 0 0,.slice A 0 n']).run Tryz.prog w=.ok (.slice (some ⟨b,0,none⟩) 0 0) w:=by
 cases A<;>kernel_rfl
theorem Xf5 {P:Program} (w:World) {ops:Array Oper} {o:Oper} {a:Act} {K:Act→World→Prop} {Q:Exit→Act→World→Prop} {E:Prop} (hgd:o.guard=none) (s x:Operand) (t:TypeId)
  (ho:o.op=.call { callee:=.builtin .append,args:=#[s,x],argTypes:=#[t,t] }) (v y:Value) (hs:a.eval s=v) (hx:a.eval x=y) (hr:∀ ty,(Builtin.append_ #[t,t] ty #[v,y]).run P w=.ok v w) (h:K (a.put o.dst v) w) :
  if Region.wanted o (yielded ops a.tmps)=true then Oper.wp P o a w K Q else E:=by
 have hw:Region.wanted o (yielded ops a.tmps)=true:=by simp[Region.wanted,hgd]
 rw[if_pos hw]
 unfold Oper.wp execOp
 simp only[ho,resolve,invoke,builtin,Sem.run_bind,Sem.run_pure,Result.andThen_ok,List.map_toArray,List.map_cons,List.map_nil,hs,hx,hr]
 exact h
theorem Xme (w:World) (k B:Nat) (hk:w.heap.size=k) (hB:B≤k):OwnL B (w.alloc (.cells #[] 58)) (some ⟨k,0,none⟩) 0 0 []:=by
 subst hk
 exact⟨rfl,Nat.le_refl _,Nat.zero_le _,Xcv (Xbd w 58 5) hB⟩
theorem Xit {B:Nat} {w:World} {e:TypeId} {s g m c:Nat} {xs:List Value} (h:w.ownsRow B e s (.slice (some ⟨g,0,none⟩) (0+m) c) (0+m) ([] ++ xs)):w.ownsRow B e s (.slice (some ⟨g,0,none⟩) m c) m xs:=by rw[Nat.zero_add,List.nil_append]at h;exact h
theorem Xgk {w w':World} {row:Option Nat} {ad:Addr} {vs:List Value} (hg:w.grownBy w' row) (hne:some ad.block≠row) (h:Xe9 w ad vs):Xe9 w' ad vs:=fun j u hu=>by
 have h1:=h j u hu
 have hb:(ad.add j).block=ad.block:=by unfold Addr.add;split<;>rfl
 exact(hg.cell_far (ad.add j) (Xbm h1) (by rw[hb];exact hne)).trans h1
theorem Xg1 {w:World} {k k':Nat} {vs:List Value} (h:Xe9 w ⟨k,0,none⟩ vs) (e:k=k'):Xe9 w ⟨k',0,none⟩ vs:=by subst e;exact h
def Xlj (w:World) (n:Nat) (ls:List Line) (e:Ending) (w':World):Prop:=∃ A c,e=.returned (.tuple #[.slice A n c,.int .i64 0])∧OwnL w.heap.size w' A n c ls∧Below w.heap.size w w'
theorem Xrs (b off c:Nat) (hc:6≤c) (w:World):(Instr.slice 27 (.slice (some ⟨b,off,none⟩) 6 c) (some (.int .i64 1)) none none).run Tryz.prog w=.ok (.slice (some ⟨b,off+5,none⟩) 5 (c - 1)) w:=by
 have h1:¬c=1:=by omega
 simp[go_sem,h1,Addr.add]
theorem Xvv (A:Option Addr) (c:Nat) (ls:List Line) (x:Line) (w:World) (hl:Lines w w.heap.size A 0 c ls) (h0:ckC ls=0) (h1:Xcc x=0) (h2:Xb7 ls x.dev x.page<0) :
  Calls Tryz.prog 87 #[.slice A 0 c,.agg #[.int .i64 x.dev,.int .i64 x.page,.int .i64 x.at_,.bool x.rd,.bool x.wr]] w (Xlj w (0+1) (ls ++ [x])):=by
 obtain⟨i0,hi,hz0,hz1,hz2⟩:=info_parts Tryz.infoLine
 have HI:=Zh hi;clear hi
 have HZ0:=Zh hz0;clear hz0
 have HZ1:=Zh hz1;clear hz1
 have HZ2:=Zh hz2;clear hz2
 have HL:=Zh hl
 have hnil:=Zh (List.length_eq_zero_iff.1 hl.len)
 have hcap:=hl.cap
 have t0:(ckC ls != 0)=false:=by rw[bne_eq_false_iff_eq];exact h0
 have t1:(Xcc x != 0)=false:=by rw[bne_eq_false_iff_eq];exact h1
 have t2:decide (0≤Xb7 ls x.dev x.page)=false:=decide_eq_false (by omega)
 have HLS:Hid (ls.length=0):=Zh (by have:=hl.len;first|omega|(simp;omega))
 clear h0 h1 h2 hl
 go_enter Tryz.func87,Tryz.ntmps87
 go_wp2_with fail
 refine(Xbf _ _ _ ls _ (Xah HL.out (bl (by repeat' first|with_reducible(first|assumption|constructor)|((try simp)<;>omega))))).mono ?_
 rintro e w1 ⟨rfl,hb1⟩
 have hz1:=hb1.size
 (try simp only[Zs]at hz1)
 obtain⟨k1_0,l1_0,q1_0⟩:=aft hb1 (w.heap.size) (by(try simp)<;>omega)
 simp(maxDischargeDepth:=6) [go_sem, *]at k1_0 q1_0
 have HB1:=Zh hb1
 clear hb1
 go_wp2_with fail
 refine(Xbf _ _ _ [x] _ ((Xc0 _ x).more (by simp))).mono ?_
 rw[Xd7]
 rintro e w2 ⟨rfl,hb2⟩
 have hz2:=hb2.size
 (try simp only[Zs]at hz2)
 obtain⟨k2_0,l2_0,q2_0⟩:=aft hb2 (w.heap.size) (by(try simp)<;>omega)
 simp(maxDischargeDepth:=6) [go_sem, *]at k2_0 q2_0
 have HB2:=Zh hb2
 clear hb2
 go_wp2_with fail
 refine(Xgh _ _ _ ls _ _ _ (Xah HL.out (bl (by repeat' first|with_reducible(first|assumption|constructor)|((try simp)<;>omega))))).mono ?_
 rintro e w3 ⟨rfl,hb3⟩
 have hz3:=hb3.size
 (try simp only[Zs]at hz3)
 obtain⟨k3_0,l3_0,q3_0⟩:=aft hb3 (w.heap.size) (by(try simp)<;>omega)
 simp(maxDischargeDepth:=6) [go_sem, *]at k3_0 q3_0
 have HB3:=Zh hb3
 clear hb3
 have HBW3:=Zh (show Below w.heap.size w w3 by(refine bl ?_;repeat' first|with_reducible(first|assumption|constructor)|((try simp)<;>omega)))
 have C0:w3.cell? ⟨w.heap.size,0,none⟩=some (.int .i64 x.dev):=by simp[k3_0]
 have C1:w3.cell? ⟨w.heap.size,1,none⟩=some (.int .i64 x.page):=by simp[k3_0]
 have C2:w3.cell? ⟨w.heap.size,2,none⟩=some (.int .i64 x.at_):=by simp[k3_0]
 have C3:w3.cell? ⟨w.heap.size,3,none⟩=some (.bool x.rd):=by simp[k3_0]
 have C4:w3.cell? ⟨w.heap.size,4,none⟩=some (.bool x.wr):=by simp[k3_0]
 have HC:=Zh (And.intro C0 (And.intro C1 (And.intro C2 (And.intro C3 C4))))
 clear C0 C1 C2 C3 C4
 go_upto_region 11 with(fail)
 go_region_held3 (fun W=>W.cell? ⟨w.heap.size,0,none⟩=some (.int .i64 x.dev)∧W.cell? ⟨w.heap.size,1,none⟩=some (.int .i64 x.page)∧W.cell? ⟨w.heap.size,2,none⟩=some (.int .i64 x.at_)∧W.cell? ⟨w.heap.size,3,none⟩=some (.bool x.rd)∧W.cell? ⟨w.heap.size,4,none⟩=some (.bool x.wr)∧Hid (Xan w3 W))
  (((with_reducible refine Xx2 ?_ HC.out.1 HC.out.2.1 HC.out.2.2.1 HC.out.2.2.2.1 HC.out.2.2.2.2);(repeat(first|(with_reducible assumption)|(with_reducible exact Xal _)|(with_reducible exact Xcg (by assumption))|(with_reducible exact Xax (by assumption) (Xcg (by assumption)))|(with_reducible refine Xar ?_)|(with_reducible refine Xae ?_ _)|((with_reducible refine Xa3 ?_ ?_ _);rotate_left;exact(by(try simp)<;>omega))));done))
  (first
   |(refine Xf5 _ (by rfl) (.tmp 31) (.tmp 32) 27 (by rfl) (.slice (some ⟨w3.heap.size,0,none⟩) 0 0) (.slice A 0 c) (by rfl) (by rfl) (fun ty=>Xjv _ _ _ ty _) ?_)
   |(refine Xf5 _ (by rfl) (.tmp 31) (.tmp 32) 27 (by rfl) (.slice (some ⟨w3.heap.size+1,0,none⟩) 0 0) (.slice A 0 c) (by rfl) (by rfl) (fun ty=>Xjv _ _ _ ty _) ?_)
   |(refine step_append_lies _ (by rfl) (.tmp 33) (.tmp 35) 27 (by rfl) w3.heap.size 58 i0 (.agg #[.int .i64 0,.int .i64 0,.int .i64 0,.bool false,.bool false]) 5 32 Tryz.underlying27 HI.out HZ0.out HZ1.out HZ2.out (by rfl) (by decide) (.slice (some ⟨w3.heap.size,0,none⟩) 0 0) 0 [] (by rfl) (((Xme w3.drew w3.heap.size w3.heap.size (by simp) (Nat.le_refl _)).alloc _).2.2.2) ⟨w3.heap.size+1,0,none⟩ 1 1 x.vals (by rfl) (by rfl) (Xg1 (Xc8 (w3.drew.alloc (.cells #[] 58)) x) (by simp)) (Xby x) (by decide) (by unfold maxLen;omega) (by omega) (by(try simp)<;>omega) _ rfl ?_;intro g6 cap6 w6 hown6 hgrow6 hat6 hlt6;have hs6:Xan w3 w6:=Below.grown (Xcg (by assumption)) hgrow6 (by(try simp)<;>omega) (by intro q hq;simp[Value.ownBlock]at hq;omega))
   |(refine step_append_lies _ (by rfl) (.tmp 33) (.tmp 35) 27 (by rfl) w3.heap.size 58 i0 (.agg #[.int .i64 0,.int .i64 0,.int .i64 0,.bool false,.bool false]) 5 32 Tryz.underlying27 HI.out HZ0.out HZ1.out HZ2.out (by rfl) (by decide) (.slice (some ⟨w3.heap.size+1,0,none⟩) 0 0) 0 [] (by rfl) ((Xme (w3.drew.alloc (.cells #[.int .i64 x.dev,.int .i64 x.page,.int .i64 x.at_,.bool x.rd,.bool x.wr] 58)) (w3.heap.size+1) w3.heap.size (by simp) (by omega)).2.2.2) ⟨w3.heap.size,0,none⟩ 1 1 x.vals (by rfl) (by rfl) (Xdp (Xae (Xal _) _) (Xg1 (Xc8 w3.drew x) (by simp))) (Xby x) (by decide) (by unfold maxLen;omega) (by omega) (by(try simp)<;>omega) _ rfl ?_;intro g6 cap6 w6 hown6 hgrow6 hat6 hlt6;have hs6:Xan w3 w6:=Below.grown (Xcg (by assumption)) hgrow6 (by(try simp)<;>omega) (by intro q hq;simp[Value.ownBlock]at hq;omega)))
 all_goals
  have HS6:=Zh hs6
  have HO6:=Zh (Xde HLS.out (by rw[hnil.out];exact hown6))
  clear hown6
  go_wp2
  go_ret2
  exact⟨some ⟨g6,0,none⟩,cap6,rfl,HO6.out.low (Below.size HBW3.out),HBW3.out.trans (Below.mono HS6.out (Below.size HBW3.out))⟩
theorem Xvx (b off n c:Nat) (hn0:0<n) (hn6:n<6) (ls:List Line) (x:Line) (w:World) (hl:Lines w w.heap.size (some ⟨b,off,none⟩) n c ls) (h0:ckC ls=0) (h1:Xcc x=0) (h2:Xb7 ls x.dev x.page<0) :
  Calls Tryz.prog 87 #[.slice (some ⟨b,off,none⟩) n c,.agg #[.int .i64 x.dev,.int .i64 x.page,.int .i64 x.at_,.bool x.rd,.bool x.wr]] w (Xlj w (n+1) (ls ++ [x])):=by
 obtain⟨i0,hi,hz0,hz1,hz2⟩:=info_parts Tryz.infoLine
 have HI:=Zh hi;clear hi
 have HZ0:=Zh hz0;clear hz0
 have HZ1:=Zh hz1;clear hz1
 have HZ2:=Zh hz2;clear hz2
 have HL:=Zh hl
 have hcap:=hl.cap
 have t0:(ckC ls != 0)=false:=by rw[bne_eq_false_iff_eq];exact h0
 have t1:(Xcc x != 0)=false:=by rw[bne_eq_false_iff_eq];exact h1
 have t2:decide (0≤Xb7 ls x.dev x.page)=false:=decide_eq_false (by omega)
 have t3:((n:Int)==6)=false:=beq_eq_false_iff_ne.2 (by omega)
 have HLEN:=Zh (show(Xav ls).length=n * 5 by rw[Xbt];have:=hl.len;first|omega|(simp;omega))
 have HONE:=Zh (Xfh ls)
 have HLS:Hid (ls.length=n):=Zh (by have:=hl.len;first|omega|(simp;omega))
 clear h0 h1 h2 hl
 go_enter Tryz.func87,Tryz.ntmps87
 go_wp2_with fail
 refine(Xbf _ _ _ ls _ (Xah HL.out (bl (by repeat' first|with_reducible(first|assumption|constructor)|((try simp)<;>omega))))).mono ?_
 rintro e w1 ⟨rfl,hb1⟩
 have hz1:=hb1.size
 (try simp only[Zs]at hz1)
 obtain⟨k1_0,l1_0,q1_0⟩:=aft hb1 (w.heap.size) (by(try simp)<;>omega)
 simp(maxDischargeDepth:=6) [go_sem, *]at k1_0 q1_0
 have HB1:=Zh hb1
 clear hb1
 go_wp2_with fail
 refine(Xbf _ _ _ [x] _ ((Xc0 _ x).more (by simp))).mono ?_
 rw[Xd7]
 rintro e w2 ⟨rfl,hb2⟩
 have hz2:=hb2.size
 (try simp only[Zs]at hz2)
 obtain⟨k2_0,l2_0,q2_0⟩:=aft hb2 (w.heap.size) (by(try simp)<;>omega)
 simp(maxDischargeDepth:=6) [go_sem, *]at k2_0 q2_0
 have HB2:=Zh hb2
 clear hb2
 go_wp2_with fail
 refine(Xgh _ _ _ ls _ _ _ (Xah HL.out (bl (by repeat' first|with_reducible(first|assumption|constructor)|((try simp)<;>omega))))).mono ?_
 rintro e w3 ⟨rfl,hb3⟩
 have hz3:=hb3.size
 (try simp only[Zs]at hz3)
 obtain⟨k3_0,l3_0,q3_0⟩:=aft hb3 (w.heap.size) (by(try simp)<;>omega)
 simp(maxDischargeDepth:=6) [go_sem, *]at k3_0 q3_0
 have HB3:=Zh hb3
 clear hb3
 have HBW3:=Zh (show Below w.heap.size w w3 by(refine bl ?_;repeat' first|with_reducible(first|assumption|constructor)|((try simp)<;>omega)))
 have C0:w3.cell? ⟨w.heap.size,0,none⟩=some (.int .i64 x.dev):=by simp[k3_0]
 have C1:w3.cell? ⟨w.heap.size,1,none⟩=some (.int .i64 x.page):=by simp[k3_0]
 have C2:w3.cell? ⟨w.heap.size,2,none⟩=some (.int .i64 x.at_):=by simp[k3_0]
 have C3:w3.cell? ⟨w.heap.size,3,none⟩=some (.bool x.rd):=by simp[k3_0]
 have C4:w3.cell? ⟨w.heap.size,4,none⟩=some (.bool x.wr):=by simp[k3_0]
 have HC:=Zh (And.intro C0 (And.intro C1 (And.intro C2 (And.intro C3 C4))))
 clear C0 C1 C2 C3 C4
 have HNW:Hid (Xe9 w3 ⟨b,off,none⟩ (Xav ls)):=Zh (Xke (Xah HL.out HBW3.out))
 go_upto_region 11 with(fail)
 go_region_held3 (fun W=>W.cell? ⟨w.heap.size,0,none⟩=some (.int .i64 x.dev)∧W.cell? ⟨w.heap.size,1,none⟩=some (.int .i64 x.page)∧W.cell? ⟨w.heap.size,2,none⟩=some (.int .i64 x.at_)∧W.cell? ⟨w.heap.size,3,none⟩=some (.bool x.rd)∧W.cell? ⟨w.heap.size,4,none⟩=some (.bool x.wr)∧Hid (Xan w3 W))
  (((with_reducible refine Xx2 ?_ HC.out.1 HC.out.2.1 HC.out.2.2.1 HC.out.2.2.2.1 HC.out.2.2.2.2);(repeat(first|(with_reducible assumption)|(with_reducible exact Xal _)|(with_reducible exact Xcg (by assumption))|(with_reducible exact Xax (by assumption) (Xcg (by assumption)))|(with_reducible refine Xar ?_)|(with_reducible refine Xae ?_ _)|((with_reducible refine Xa3 ?_ ?_ _);rotate_left;exact(by(try simp)<;>omega))));done))
  (first
   |(refine step_append_lies _ (by rfl) (.tmp 31) (.tmp 32) 27 (by rfl) w3.heap.size 58 i0 (.agg #[.int .i64 0,.int .i64 0,.int .i64 0,.bool false,.bool false]) 5 32 Tryz.underlying27 HI.out HZ0.out HZ1.out HZ2.out (by rfl) (by decide) (.slice (some ⟨w3.heap.size,0,none⟩) 0 0) 0 [] (by rfl) ((Xme w3.drew w3.heap.size w3.heap.size (by simp) (Nat.le_refl _)).2.2.2) ⟨b,off,none⟩ n c (Xav ls) (by rfl) HLEN.out (Xdp (Xcg (by assumption)) HNW.out) HONE.out (by omega) (by unfold maxLen;omega) (by omega) (by(try simp)<;>omega) _ rfl ?_;intro g cap w5 hown5 hgrow hat hlt;have hs5:Xan w3 w5:=Below.grown (Xcg (by assumption)) hgrow (by(try simp)<;>omega) (by intro q hq;simp[Value.ownBlock]at hq;omega);have hz5:=Below.size hs5)
   |(refine step_append_lies _ (by rfl) (.tmp 31) (.tmp 32) 27 (by rfl) w3.heap.size 58 i0 (.agg #[.int .i64 0,.int .i64 0,.int .i64 0,.bool false,.bool false]) 5 32 Tryz.underlying27 HI.out HZ0.out HZ1.out HZ2.out (by rfl) (by decide) (.slice (some ⟨w3.heap.size,0,none⟩) 0 0) 0 [] (by rfl) (((Xme w3.drew w3.heap.size w3.heap.size (by simp) (Nat.le_refl _)).alloc _).2.2.2) ⟨b,off,none⟩ n c (Xav ls) (by rfl) HLEN.out (Xdp (Xcg (by assumption)) HNW.out) HONE.out (by omega) (by unfold maxLen;omega) (by omega) (by(try simp)<;>omega) _ rfl ?_;intro g cap w5 hown5 hgrow hat hlt;have hs5:Xan w3 w5:=Below.grown (Xcg (by assumption)) hgrow (by(try simp)<;>omega) (by intro q hq;simp[Value.ownBlock]at hq;omega);have hz5:=Below.size hs5;have hnw5:Xe9 w5 ⟨w3.heap.size+1,0,none⟩ x.vals:=Xgk hgrow (by simp[Value.ownBlock]) (Xg1 (Xc8 (w3.drew.alloc (.cells #[] 58)) x) (by simp)))
   |(refine step_append_lies _ (by rfl) (.tmp 31) (.tmp 32) 27 (by rfl) w3.heap.size 58 i0 (.agg #[.int .i64 0,.int .i64 0,.int .i64 0,.bool false,.bool false]) 5 32 Tryz.underlying27 HI.out HZ0.out HZ1.out HZ2.out (by rfl) (by decide) (.slice (some ⟨w3.heap.size+1,0,none⟩) 0 0) 0 [] (by rfl) ((Xme (w3.drew.alloc (.cells #[.int .i64 x.dev,.int .i64 x.page,.int .i64 x.at_,.bool x.rd,.bool x.wr] 58)) (w3.heap.size+1) w3.heap.size (by simp) (by omega)).2.2.2) ⟨b,off,none⟩ n c (Xav ls) (by rfl) HLEN.out (Xdp (Xcg (by assumption)) HNW.out) HONE.out (by omega) (by unfold maxLen;omega) (by omega) (by(try simp)<;>omega) _ rfl ?_;intro g cap w5 hown5 hgrow hat hlt;have hs5:Xan w3 w5:=Below.grown (Xcg (by assumption)) hgrow (by(try simp)<;>omega) (by intro q hq;simp[Value.ownBlock]at hq;omega);have hz5:=Below.size hs5;have hnw5:Xe9 w5 ⟨w3.heap.size,0,none⟩ x.vals:=Xgk hgrow (by simp[Value.ownBlock]) (Xdp (Xae (Xal _) _) (Xg1 (Xc8 w3.drew x) (by simp))))
   |(revert hown5;intro hown5;refine step_append_lies _ (by rfl) (.tmp 33) (.tmp 35) 27 (by rfl) w3.heap.size 58 i0 (.agg #[.int .i64 0,.int .i64 0,.int .i64 0,.bool false,.bool false]) 5 32 Tryz.underlying27 HI.out HZ0.out HZ1.out HZ2.out (by rfl) (by decide) (.slice (some ⟨g,0,none⟩) (0+n) cap) (0+n) ([] ++ Xav ls) (by rfl) (Xbz hown5 (Xag w5 _)) ⟨w5.heap.size,0,none⟩ 1 1 x.vals (by rfl) (by rfl) (Xc8 w5 x) (Xby x) (by decide) (by unfold maxLen;omega) (by omega) (by(try simp)<;>omega) _ rfl ?_;intro g6 cap6 w6 hown6 hgrow6 hat6 hlt6;have hs6:Xan w3 w6:=Below.grown (Xcg (by assumption)) hgrow6 (by(try simp)<;>omega) (fun q hq=>Xei hown5 q hq))
   |(revert hnw5;intro hnw5;refine step_append_lies _ (by rfl) (.tmp 33) (.tmp 35) 27 (by rfl) w3.heap.size 58 i0 (.agg #[.int .i64 0,.int .i64 0,.int .i64 0,.bool false,.bool false]) 5 32 Tryz.underlying27 HI.out HZ0.out HZ1.out HZ2.out (by rfl) (by decide) (.slice (some ⟨g,0,none⟩) (0+n) cap) (0+n) ([] ++ Xav ls) (by rfl) hown5 _ 1 1 x.vals (by rfl) (by rfl) hnw5 (Xby x) (by decide) (by unfold maxLen;omega) (by omega) (by(try simp)<;>omega) _ rfl ?_;intro g6 cap6 w6 hown6 hgrow6 hat6 hlt6;have hs6:Xan w3 w6:=Below.grown (Xcg (by assumption)) hgrow6 (by(try simp)<;>omega) (fun q hq=>Xei hown5 q hq))
   |(revert hown5;intro hown5;refine step_append_lies _ (by rfl) (.tmp 33) (.tmp 35) 27 (by rfl) w3.heap.size 58 i0 (.agg #[.int .i64 0,.int .i64 0,.int .i64 0,.bool false,.bool false]) 5 32 Tryz.underlying27 HI.out HZ0.out HZ1.out HZ2.out (by rfl) (by decide) (.slice (some ⟨g,0,none⟩) n cap) n (Xav ls) (by rfl) (Xbz (Xit hown5) (Xag w5 _)) ⟨w5.heap.size,0,none⟩ 1 1 x.vals (by rfl) (by rfl) (Xc8 w5 x) (Xby x) (by decide) (by unfold maxLen;omega) (by omega) (by(try simp)<;>omega) _ rfl ?_;intro g6 cap6 w6 hown6 hgrow6 hat6 hlt6;have hs6:Xan w3 w6:=Below.grown (Xcg (by assumption)) hgrow6 (by(try simp)<;>omega) (fun q hq=>Xei hown5 q hq))
   |(revert hnw5;intro hnw5;refine step_append_lies _ (by rfl) (.tmp 33) (.tmp 35) 27 (by rfl) w3.heap.size 58 i0 (.agg #[.int .i64 0,.int .i64 0,.int .i64 0,.bool false,.bool false]) 5 32 Tryz.underlying27 HI.out HZ0.out HZ1.out HZ2.out (by rfl) (by decide) (.slice (some ⟨g,0,none⟩) n cap) n (Xav ls) (by rfl) (Xit hown5) _ 1 1 x.vals (by rfl) (by rfl) hnw5 (Xby x) (by decide) (by unfold maxLen;omega) (by omega) (by(try simp)<;>omega) _ rfl ?_;intro g6 cap6 w6 hown6 hgrow6 hat6 hlt6;have hs6:Xan w3 w6:=Below.grown (Xcg (by assumption)) hgrow6 (by(try simp)<;>omega) (fun q hq=>Xei hown5 q hq)))
 all_goals
  have HS6:=Zh hs6
  have HO6:=Zh (Xde HLS.out (by first|exact hown6|(rw[Nat.zero_add,List.nil_append]at hown6;exact hown6)))
  clear hown6
  go_wp2
  go_ret2
  exact⟨some ⟨g6,0,none⟩,cap6,rfl,HO6.out.low (Below.size HBW3.out),HBW3.out.trans (Below.mono HS6.out (Below.size HBW3.out))⟩
theorem Xvw (b off c:Nat) (ls:List Line) (x:Line) (w:World) (hl:Lines w w.heap.size (some ⟨b,off,none⟩) 6 c ls) (h0:ckC ls=0) (h1:Xcc x=0) (h2:Xb7 ls x.dev x.page<0) :
  Calls Tryz.prog 87 #[.slice (some ⟨b,off,none⟩) 6 c,.agg #[.int .i64 x.dev,.int .i64 x.page,.int .i64 x.at_,.bool x.rd,.bool x.wr]] w (Xlj w (5+1) (ls.drop 1 ++ [x])):=by
 obtain⟨i0,hi,hz0,hz1,hz2⟩:=info_parts Tryz.infoLine
 have HI:=Zh hi;clear hi
 have HZ0:=Zh hz0;clear hz0
 have HZ1:=Zh hz1;clear hz1
 have HZ2:=Zh hz2;clear hz2
 have HL:=Zh hl
 have hcap:=hl.cap
 have t0:(ckC ls != 0)=false:=by rw[bne_eq_false_iff_eq];exact h0
 have t1:(Xcc x != 0)=false:=by rw[bne_eq_false_iff_eq];exact h1
 have t2:decide (0≤Xb7 ls x.dev x.page)=false:=decide_eq_false (by omega)
 have hlo:=Zh (fun w=>Xrs b off c (by have:=hcap.1;omega) w)
 have HLEN:=Zh (show(Xav (ls.drop 1)).length=5 * 5 by rw[Xbt];have:=hl.len;first|omega|(simp;omega))
 have HONE:=Zh (Xfh (ls.drop 1))
 have HLS:Hid ((ls.drop 1).length=5):=Zh (by have:=hl.len;first|omega|(simp;omega))
 clear h0 h1 h2 hl
 go_enter Tryz.func87,Tryz.ntmps87
 go_wp2_with fail
 refine(Xbf _ _ _ ls _ (Xah HL.out (bl (by repeat' first|with_reducible(first|assumption|constructor)|((try simp)<;>omega))))).mono ?_
 rintro e w1 ⟨rfl,hb1⟩
 have hz1:=hb1.size
 (try simp only[Zs]at hz1)
 obtain⟨k1_0,l1_0,q1_0⟩:=aft hb1 (w.heap.size) (by(try simp)<;>omega)
 simp(maxDischargeDepth:=6) [go_sem, *]at k1_0 q1_0
 have HB1:=Zh hb1
 clear hb1
 go_wp2_with fail
 refine(Xbf _ _ _ [x] _ ((Xc0 _ x).more (by simp))).mono ?_
 rw[Xd7]
 rintro e w2 ⟨rfl,hb2⟩
 have hz2:=hb2.size
 (try simp only[Zs]at hz2)
 obtain⟨k2_0,l2_0,q2_0⟩:=aft hb2 (w.heap.size) (by(try simp)<;>omega)
 simp(maxDischargeDepth:=6) [go_sem, *]at k2_0 q2_0
 have HB2:=Zh hb2
 clear hb2
 go_wp2_with fail
 refine(Xgh _ _ _ ls _ _ _ (Xah HL.out (bl (by repeat' first|with_reducible(first|assumption|constructor)|((try simp)<;>omega))))).mono ?_
 rintro e w3 ⟨rfl,hb3⟩
 have hz3:=hb3.size
 (try simp only[Zs]at hz3)
 obtain⟨k3_0,l3_0,q3_0⟩:=aft hb3 (w.heap.size) (by(try simp)<;>omega)
 simp(maxDischargeDepth:=6) [go_sem, *]at k3_0 q3_0
 have HB3:=Zh hb3
 clear hb3
 have HBW3:=Zh (show Below w.heap.size w w3 by(refine bl ?_;repeat' first|with_reducible(first|assumption|constructor)|((try simp)<;>omega)))
 have C0:w3.cell? ⟨w.heap.size,0,none⟩=some (.int .i64 x.dev):=by simp[k3_0]
 have C1:w3.cell? ⟨w.heap.size,1,none⟩=some (.int .i64 x.page):=by simp[k3_0]
 have C2:w3.cell? ⟨w.heap.size,2,none⟩=some (.int .i64 x.at_):=by simp[k3_0]
 have C3:w3.cell? ⟨w.heap.size,3,none⟩=some (.bool x.rd):=by simp[k3_0]
 have C4:w3.cell? ⟨w.heap.size,4,none⟩=some (.bool x.wr):=by simp[k3_0]
 have HC:=Zh (And.intro C0 (And.intro C1 (And.intro C2 (And.intro C3 C4))))
 clear C0 C1 C2 C3 C4
 have HNW:Hid (Xe9 w3 ⟨b,off+5,none⟩ (Xav (ls.drop 1))):=Zh (Xke ((Xah HL.out HBW3.out).drop1))
 have hlo':=hlo.out
 go_upto_region 11 with(fail)
 go_region_held3 (fun W=>W.cell? ⟨w.heap.size,0,none⟩=some (.int .i64 x.dev)∧W.cell? ⟨w.heap.size,1,none⟩=some (.int .i64 x.page)∧W.cell? ⟨w.heap.size,2,none⟩=some (.int .i64 x.at_)∧W.cell? ⟨w.heap.size,3,none⟩=some (.bool x.rd)∧W.cell? ⟨w.heap.size,4,none⟩=some (.bool x.wr)∧Hid (Xan w3 W))
  (((with_reducible refine Xx2 ?_ HC.out.1 HC.out.2.1 HC.out.2.2.1 HC.out.2.2.2.1 HC.out.2.2.2.2);(repeat(first|(with_reducible assumption)|(with_reducible exact Xal _)|(with_reducible exact Xcg (by assumption))|(with_reducible exact Xax (by assumption) (Xcg (by assumption)))|(with_reducible refine Xar ?_)|(with_reducible refine Xae ?_ _)|((with_reducible refine Xa3 ?_ ?_ _);rotate_left;exact(by(try simp)<;>omega))));done))
  (first
   |(refine step_append_lies _ (by rfl) (.tmp 31) (.tmp 32) 27 (by rfl) w3.heap.size 58 i0 (.agg #[.int .i64 0,.int .i64 0,.int .i64 0,.bool false,.bool false]) 5 32 Tryz.underlying27 HI.out HZ0.out HZ1.out HZ2.out (by rfl) (by decide) (.slice (some ⟨w3.heap.size,0,none⟩) 0 0) 0 [] (by rfl) ((Xme w3.drew w3.heap.size w3.heap.size (by simp) (Nat.le_refl _)).2.2.2) ⟨b,off+5,none⟩ 5 (c - 1) (Xav (ls.drop 1)) (by rfl) HLEN.out (Xdp (Xcg (by assumption)) HNW.out) HONE.out (by omega) (by unfold maxLen;omega) (by omega) (by(try simp)<;>omega) _ rfl ?_;intro g cap w5 hown5 hgrow hat hlt;have hs5:Xan w3 w5:=Below.grown (Xcg (by assumption)) hgrow (by(try simp)<;>omega) (by intro q hq;simp[Value.ownBlock]at hq;omega);have hz5:=Below.size hs5)
   |(refine step_append_lies _ (by rfl) (.tmp 31) (.tmp 32) 27 (by rfl) w3.heap.size 58 i0 (.agg #[.int .i64 0,.int .i64 0,.int .i64 0,.bool false,.bool false]) 5 32 Tryz.underlying27 HI.out HZ0.out HZ1.out HZ2.out (by rfl) (by decide) (.slice (some ⟨w3.heap.size,0,none⟩) 0 0) 0 [] (by rfl) (((Xme w3.drew w3.heap.size w3.heap.size (by simp) (Nat.le_refl _)).alloc _).2.2.2) ⟨b,off+5,none⟩ 5 (c - 1) (Xav (ls.drop 1)) (by rfl) HLEN.out (Xdp (Xcg (by assumption)) HNW.out) HONE.out (by omega) (by unfold maxLen;omega) (by omega) (by(try simp)<;>omega) _ rfl ?_;intro g cap w5 hown5 hgrow hat hlt;have hs5:Xan w3 w5:=Below.grown (Xcg (by assumption)) hgrow (by(try simp)<;>omega) (by intro q hq;simp[Value.ownBlock]at hq;omega);have hz5:=Below.size hs5;have hnw5:Xe9 w5 ⟨w3.heap.size+1,0,none⟩ x.vals:=Xgk hgrow (by simp[Value.ownBlock]) (Xg1 (Xc8 (w3.drew.alloc (.cells #[] 58)) x) (by simp)))
   |(refine step_append_lies _ (by rfl) (.tmp 31) (.tmp 32) 27 (by rfl) w3.heap.size 58 i0 (.agg #[.int .i64 0,.int .i64 0,.int .i64 0,.bool false,.bool false]) 5 32 Tryz.underlying27 HI.out HZ0.out HZ1.out HZ2.out (by rfl) (by decide) (.slice (some ⟨w3.heap.size+1,0,none⟩) 0 0) 0 [] (by rfl) ((Xme (w3.drew.alloc (.cells #[.int .i64 x.dev,.int .i64 x.page,.int .i64 x.at_,.bool x.rd,.bool x.wr] 58)) (w3.heap.size+1) w3.heap.size (by simp) (by omega)).2.2.2) ⟨b,off+5,none⟩ 5 (c - 1) (Xav (ls.drop 1)) (by rfl) HLEN.out (Xdp (Xcg (by assumption)) HNW.out) HONE.out (by omega) (by unfold maxLen;omega) (by omega) (by(try simp)<;>omega) _ rfl ?_;intro g cap w5 hown5 hgrow hat hlt;have hs5:Xan w3 w5:=Below.grown (Xcg (by assumption)) hgrow (by(try simp)<;>omega) (by intro q hq;simp[Value.ownBlock]at hq;omega);have hz5:=Below.size hs5;have hnw5:Xe9 w5 ⟨w3.heap.size,0,none⟩ x.vals:=Xgk hgrow (by simp[Value.ownBlock]) (Xdp (Xae (Xal _) _) (Xg1 (Xc8 w3.drew x) (by simp))))
   |(revert hown5;intro hown5;refine step_append_lies _ (by rfl) (.tmp 33) (.tmp 35) 27 (by rfl) w3.heap.size 58 i0 (.agg #[.int .i64 0,.int .i64 0,.int .i64 0,.bool false,.bool false]) 5 32 Tryz.underlying27 HI.out HZ0.out HZ1.out HZ2.out (by rfl) (by decide) (.slice (some ⟨g,0,none⟩) (0+5) cap) (0+5) ([] ++ Xav (ls.drop 1)) (by rfl) (Xbz hown5 (Xag w5 _)) ⟨w5.heap.size,0,none⟩ 1 1 x.vals (by rfl) (by rfl) (Xc8 w5 x) (Xby x) (by decide) (by unfold maxLen;omega) (by omega) (by(try simp)<;>omega) _ rfl ?_;intro g6 cap6 w6 hown6 hgrow6 hat6 hlt6;have hs6:Xan w3 w6:=Below.grown (Xcg (by assumption)) hgrow6 (by(try simp)<;>omega) (fun q hq=>Xei hown5 q hq))
   |(revert hnw5;intro hnw5;refine step_append_lies _ (by rfl) (.tmp 33) (.tmp 35) 27 (by rfl) w3.heap.size 58 i0 (.agg #[.int .i64 0,.int .i64 0,.int .i64 0,.bool false,.bool false]) 5 32 Tryz.underlying27 HI.out HZ0.out HZ1.out HZ2.out (by rfl) (by decide) (.slice (some ⟨g,0,none⟩) (0+5) cap) (0+5) ([] ++ Xav (ls.drop 1)) (by rfl) hown5 _ 1 1 x.vals (by rfl) (by rfl) hnw5 (Xby x) (by decide) (by unfold maxLen;omega) (by omega) (by(try simp)<;>omega) _ rfl ?_;intro g6 cap6 w6 hown6 hgrow6 hat6 hlt6;have hs6:Xan w3 w6:=Below.grown (Xcg (by assumption)) hgrow6 (by(try simp)<;>omega) (fun q hq=>Xei hown5 q hq))
   |(revert hown5;intro hown5;refine step_append_lies _ (by rfl) (.tmp 33) (.tmp 35) 27 (by rfl) w3.heap.size 58 i0 (.agg #[.int .i64 0,.int .i64 0,.int .i64 0,.bool false,.bool false]) 5 32 Tryz.underlying27 HI.out HZ0.out HZ1.out HZ2.out (by rfl) (by decide) (.slice (some ⟨g,0,none⟩) 5 cap) 5 (Xav (ls.drop 1)) (by rfl) (Xbz (Xit hown5) (Xag w5 _)) ⟨w5.heap.size,0,none⟩ 1 1 x.vals (by rfl) (by rfl) (Xc8 w5 x) (Xby x) (by decide) (by unfold maxLen;omega) (by omega) (by(try simp)<;>omega) _ rfl ?_;intro g6 cap6 w6 hown6 hgrow6 hat6 hlt6;have hs6:Xan w3 w6:=Below.grown (Xcg (by assumption)) hgrow6 (by(try simp)<;>omega) (fun q hq=>Xei hown5 q hq))
   |(revert hnw5;intro hnw5;refine step_append_lies _ (by rfl) (.tmp 33) (.tmp 35) 27 (by rfl) w3.heap.size 58 i0 (.agg #[.int .i64 0,.int .i64 0,.int .i64 0,.bool false,.bool false]) 5 32 Tryz.underlying27 HI.out HZ0.out HZ1.out HZ2.out (by rfl) (by decide) (.slice (some ⟨g,0,none⟩) 5 cap) 5 (Xav (ls.drop 1)) (by rfl) (Xit hown5) _ 1 1 x.vals (by rfl) (by rfl) hnw5 (Xby x) (by decide) (by unfold maxLen;omega) (by omega) (by(try simp)<;>omega) _ rfl ?_;intro g6 cap6 w6 hown6 hgrow6 hat6 hlt6;have hs6:Xan w3 w6:=Below.grown (Xcg (by assumption)) hgrow6 (by(try simp)<;>omega) (fun q hq=>Xei hown5 q hq)))
 all_goals
  have HS6:=Zh hs6
  have HO6:=Zh (Xde HLS.out (by first|exact hown6|(rw[Nat.zero_add,List.nil_append]at hown6;exact hown6)))
  clear hown6
  go_wp2
  go_ret2
  exact⟨some ⟨g6,0,none⟩,cap6,rfl,HO6.out.low (Below.size HBW3.out),HBW3.out.trans (Below.mono HS6.out (Below.size HBW3.out))⟩
theorem Xts (A:Option Addr) (n c:Nat) (ls:List Line) (x:Line) (w:World) (hl:Lines w w.heap.size A n c ls) (hE:Xfk ls x≠0) :
  Calls Tryz.prog 87 #[.slice A n c,.agg #[.int .i64 x.dev,.int .i64 x.page,.int .i64 x.at_,.bool x.rd,.bool x.wr]] w fun e w'=>e=.returned (.tuple #[.slice none 0 0,.int .i64 (Xfk ls x)])∧Below w.heap.size w w':=by
 have HL:=Zh hl
 have HE:=Zh hE
 clear hl hE
 by_cases h0:ckC ls=0
 ·have t0:(ckC ls != 0)=false:=by rw[bne_eq_false_iff_eq];exact h0
  by_cases h1:Xcc x=0
  ·have t1:(Xcc x != 0)=false:=by rw[bne_eq_false_iff_eq];exact h1
   by_cases h2:0≤Xb7 ls x.dev x.page
   ·rw[Xyc h0 h1 h2]
    have t2:decide (0≤Xb7 ls x.dev x.page)=true:=by simpa using h2
    clear h0 h1 h2
    go_enter Tryz.func87,Tryz.ntmps87
    go_wp2_with fail
    refine(Xbf _ _ _ ls _ (Xah HL.out (bl (by repeat' first|with_reducible(first|assumption|constructor)|((try simp)<;>omega))))).mono ?_
    rintro e w1 ⟨rfl,hb1⟩
    have hz1:=hb1.size
    (try simp only[Zs]at hz1)
    obtain⟨k1_0,l1_0,q1_0⟩:=aft hb1 (w.heap.size) (by(try simp)<;>omega)
    simp(maxDischargeDepth:=6) [go_sem, *]at k1_0 q1_0
    have HB1:=Zh hb1
    clear hb1
    go_wp2_with fail
    refine(Xbf _ _ _ [x] _ ((Xc0 _ x).more (by simp))).mono ?_
    rw[Xd7]
    rintro e w2 ⟨rfl,hb2⟩
    have hz2:=hb2.size
    (try simp only[Zs]at hz2)
    obtain⟨k2_0,l2_0,q2_0⟩:=aft hb2 (w.heap.size) (by(try simp)<;>omega)
    simp(maxDischargeDepth:=6) [go_sem, *]at k2_0 q2_0
    have HB2:=Zh hb2
    clear hb2
    go_wp2_with fail
    refine(Xgh _ _ _ ls _ _ _ (Xah HL.out (bl (by repeat' first|with_reducible(first|assumption|constructor)|((try simp)<;>omega))))).mono ?_
    rintro e w3 ⟨rfl,hb3⟩
    have hz3:=hb3.size
    (try simp only[Zs]at hz3)
    have HB3:=Zh hb3
    clear hb3
    go_wp2
    go_ret2
    exact⟨rfl,bl (by repeat' first|with_reducible(first|assumption|constructor)|((try simp)<;>omega))⟩
   ·exact absurd (Xk8 h0 h1 (by omega)) HE.out
  ·rw[Xyd h0 h1]
   have t1:(Xcc x != 0)=true:=by rw[bne_iff_ne];exact h1
   clear h0 h1
   go_enter Tryz.func87,Tryz.ntmps87
   go_wp2_with fail
   refine(Xbf _ _ _ ls _ (Xah HL.out (bl (by repeat' first|with_reducible(first|assumption|constructor)|((try simp)<;>omega))))).mono ?_
   rintro e w1 ⟨rfl,hb1⟩
   have hz1:=hb1.size
   (try simp only[Zs]at hz1)
   obtain⟨k1_0,l1_0,q1_0⟩:=aft hb1 (w.heap.size) (by(try simp)<;>omega)
   simp(maxDischargeDepth:=6) [go_sem, *]at k1_0 q1_0
   have HB1:=Zh hb1
   clear hb1
   go_wp2_with fail
   refine(Xbf _ _ _ [x] _ ((Xc0 _ x).more (by simp))).mono ?_
   rw[Xd7]
   rintro e w2 ⟨rfl,hb2⟩
   have hz2:=hb2.size
   (try simp only[Zs]at hz2)
   have HB2:=Zh hb2
   clear hb2
   go_wp2
   go_ret2
   exact⟨rfl,bl (by repeat' first|with_reducible(first|assumption|constructor)|((try simp)<;>omega))⟩
 ·rw[Xye h0]
  have t0:(ckC ls != 0)=true:=by rw[bne_iff_ne];exact h0
  clear h0
  go_enter Tryz.func87,Tryz.ntmps87
  go_wp2_with fail
  refine(Xbf _ _ _ ls _ (Xah HL.out (bl (by repeat' first|with_reducible(first|assumption|constructor)|((try simp)<;>omega))))).mono ?_
  rintro e w1 ⟨rfl,hb1⟩
  have hz1:=hb1.size
  (try simp only[Zs]at hz1)
  have HB1:=Zh hb1
  clear hb1
  go_wp2
  go_ret2
  exact⟨rfl,bl (by repeat' first|with_reducible(first|assumption|constructor)|((try simp)<;>omega))⟩
theorem Xl3 (A:Option Addr) (n c:Nat) (ls:List Line) (x:Line) (w:World) (hl:Lines w w.heap.size A n c ls) (hE:Xfk ls x=0) :
  Calls Tryz.prog 87 #[.slice A n c,.agg #[.int .i64 x.dev,.int .i64 x.page,.int .i64 x.at_,.bool x.rd,.bool x.wr]] w (Xlj w (Xfc ls x).length (Xfc ls x)):=by
 obtain⟨h0,h1,h2⟩:=Xjk hE
 have hlen:=hl.len
 have h6:n≤6:=by have:=((Xcm ls).1 h0).1;omega
 rw[Xn8 hE]
 rcases Nat.eq_zero_or_pos n with hn|hn
 ·subst hn
  have e:ls.length+1 - 6=0:=by omega
  rw[e,List.drop_zero,show(ls ++ [x]).length=0+1 by rw[List.length_append,hlen];rfl]
  exact Xvv A c ls x w hl h0 h1 h2
 ·obtain⟨b,off,rfl,_,_⟩:=hl.at_ hn
  by_cases hn6:n=6
  ·subst hn6
   have e:ls.length+1 - 6=1:=by omega
   rw[e,show(ls.drop 1 ++ [x]).length=5+1 by simp;omega]
   exact Xvw b off c ls x w hl h0 h1 h2
  ·have e:ls.length+1 - 6=0:=by omega
   rw[e,List.drop_zero,show(ls ++ [x]).length=n+1 by simp;omega]
   exact Xvx b off n c hn (by omega) ls x w hl h0 h1 h2
theorem Xqc (A:Option Addr) (n c:Nat) (ls ms:List Line) (x1 x2 x3:Int) (x4 x5:Bool) (E:Int) (w:World) (hl:Lines w w.heap.size A n c ls) (hE:Xfk ls ⟨x1,x2,x3,x4,x5⟩=E) (hm:Xfc ls ⟨x1,x2,x3,x4,x5⟩=ms) :
  Calls Tryz.prog 87 #[.slice A n c,.agg #[.int .i64 x1,.int .i64 x2,.int .i64 x3,.bool x4,.bool x5]] w fun e w'=>∃ A' c',e=.returned (.tuple #[.slice A' ms.length c',.int .i64 E])∧Lines w' w'.heap.size A' ms.length c' ms∧Below w.heap.size w w'∧∀ ad,A'=some ad→w.heap.size≤ad.block:=by
 by_cases h0:E=0
 ·subst h0
  have:=Xl3 A n c ls ⟨x1,x2,x3,x4,x5⟩ w hl hE
  rw[hm]at this
  refine this.mono ?_
  rintro e w' ⟨A',c',rfl,ho,hb⟩
  exact⟨A',c',rfl,ho.lines,hb,fun ad h=>Xei ho.2.2.2 ad.block (by rw[h];rfl)⟩
 ·have:=Xts A n c ls ⟨x1,x2,x3,x4,x5⟩ w hl (by rw[hE];exact h0)
  rw[hE]at this
  refine this.mono ?_
  rintro e w' ⟨rfl,hb⟩
  have hz:ms=[]:=by rw[←hm];exact Xyb hE h0
  subst hz
  exact⟨none,0,rfl,Xcl _ _,hb,fun _ h=>by cases h⟩
end
section
theorem Xs4 {ls:List Line} {q:Line→Bool} {j:Nat} {y:Line} (hy:ls[j]?=some y):(ls.take (j+1)).filter q=(ls.take j).filter q ++ (if q y=true then[y]else[]):=by
 rw[List.take_add_one,hy,List.filter_append]
 congr 1
 simp only[Option.toList,List.filter_cons,List.filter_nil]
theorem Xqy (A:Option Addr) (n c:Nat) (ls:List Line) (k d p:Int) (w:World) (hl:Lines w w.heap.size A n c ls) (h0:Xes ls k≠0) :
  Calls Tryz.prog 62 #[.slice A n c,.agg #[.int .i64 k,.int .i64 d,.int .i64 p]] w fun e w'=>e=.returned (.tuple #[.slice none 0 0,.int .i64 (Xes ls k)])∧Below w.heap.size w w':=by
 have HL:=Zh hl
 clear hl
 by_cases hc:ckC ls=0
 ·have t0:(ckC ls != 0)=false:=by rw[bne_eq_false_iff_eq];exact hc
  have hk:¬(0≤k∧k≤3):=fun hk=>h0 (Xgc hc hk)
  have i1:inB k 0 3=false:=Xgs hk
  rw[Xoa hc hk]
  clear hc hk h0
  go_enter Tryz.func62,Tryz.ntmps62
  go_wp2_with fail
  refine(Xbf _ _ _ ls _ (Xah HL.out (bl (by repeat' first|with_reducible(first|assumption|constructor)|((try simp)<;>omega))))).mono ?_
  rintro e w1 ⟨rfl,hb1⟩
  have hz1:=hb1.size
  (try simp only[Zs]at hz1)
  obtain⟨k1_0,l1_0,q1_0⟩:=aft hb1 (w.heap.size) (by(try simp)<;>omega)
  simp(maxDischargeDepth:=6) [go_sem, *]at k1_0 q1_0
  have HB1:=Zh hb1
  clear hb1
  go_wp2_with fail
  refine(Xbc _ _ _ _).mono ?_
  rintro e w' ⟨rfl,rfl⟩
  go_wp2
  go_ret2
  exact⟨rfl,bl (by repeat' first|with_reducible(first|assumption|constructor)|((try simp)<;>omega))⟩
 ·have t0:(ckC ls != 0)=true:=by rw[bne_iff_ne];exact hc
  rw[Xob hc]
  clear hc h0
  go_enter Tryz.func62,Tryz.ntmps62
  go_wp2_with fail
  refine(Xbf _ _ _ ls _ (Xah HL.out (bl (by repeat' first|with_reducible(first|assumption|constructor)|((try simp)<;>omega))))).mono ?_
  rintro e w1 ⟨rfl,hb1⟩
  have hz1:=hb1.size
  (try simp only[Zs]at hz1)
  have HB1:=Zh hb1
  clear hb1
  go_wp2
  go_ret2
  exact⟨rfl,bl (by repeat' first|with_reducible(first|assumption|constructor)|((try simp)<;>omega))⟩
theorem Xt0 (A:Option Addr) (n c:Nat) (ls:List Line) (k d p:Int) (w:World) (hl:Lines w w.heap.size A n c ls) (h0:Xes ls k=0) :
  Calls Tryz.prog 62 #[.slice A n c,.agg #[.int .i64 k,.int .i64 d,.int .i64 p]] w fun e w'=>∃ A' c',e=.returned (.tuple #[.slice A' (Xfn ls k d p).length c',.int .i64 0])∧OwnL w.heap.size w' A' (Xfn ls k d p).length c' (Xfn ls k d p)∧Below w.heap.size w w':=by
 obtain⟨i0,hi,hz0,hz1,hz2⟩:=info_parts Tryz.infoLine
 have HI:=Zh hi;clear hi
 have HZ0:=Zh hz0;clear hz0
 have HZ1:=Zh hz1;clear hz1
 have HZ2:=Zh hz2;clear hz2
 have HL:=Zh hl
 have hcap:=hl.cap
 obtain⟨hc,hk⟩:=Xms h0
 have h6:n≤6:=by have:=((Xcm ls).1 hc).1;have:=hl.len;omega
 have t0:(ckC ls != 0)=false:=by rw[bne_eq_false_iff_eq];exact hc
 have t1:inB k 0 3=true:=Xb2 hk
 have HK:=Zh hk
 rw[Xic h0]
 clear hl hc hk h0
 go_enter Tryz.func62,Tryz.ntmps62
 go_wp2_with fail
 refine(Xbf _ _ _ ls _ (Xah HL.out (bl (by repeat' first|with_reducible(first|assumption|constructor)|((try simp)<;>omega))))).mono ?_
 rintro e w1 ⟨rfl,hb1⟩
 have HS1:=Zh (show Xan w w1 from(bl (by repeat' first|with_reducible(first|assumption|constructor)|((try simp)<;>omega)):Below w.heap.size w _).trans (hb1.mono (by simp)))
 have hz1:=hb1.size
 (try simp only[Zs]at hz1)
 obtain⟨k1_0,l1_0,q1_0⟩:=aft hb1 (w.heap.size) (by(try simp)<;>omega)
 simp(maxDischargeDepth:=6) [go_sem, *]at k1_0 q1_0
 have HB1:=Zh hb1
 clear hb1
 have o0:w1.cell? ⟨w.heap.size,0,none⟩=some (.int .i64 k):=by simp[k1_0]
 have o1:w1.cell? ⟨w.heap.size,1,none⟩=some (.int .i64 d):=by simp[k1_0]
 have o2:w1.cell? ⟨w.heap.size,2,none⟩=some (.int .i64 p):=by simp[k1_0]
 have HR:=Zh (And.intro o0 (And.intro o1 o2))
 clear o1 o2 k1_0 q1_0
 go_wp2_with (go_at_call 38;refine(Xbc _ _ _ _).mono ?_;rintro e w' ⟨rfl,rfl⟩)
 clear o0
 go_loopw [7,22] (fun s7 s22 wr=>∃(i:Nat) (A':Option Addr) (c':Nat),s7=.slice A' ((ls.take i).filter (fun x=>!goes k d p x)).length c'∧s22=.int .i64 i∧i≤n∧Hid (OwnL w1.heap.size wr A' ((ls.take i).filter (fun x=>!goes k d p x)).length c' ((ls.take i).filter (fun x=>!goes k d p x)))∧Hid (Xan w1 wr)) (fun _ i _=>n - (intOf i).toNat)
 case atStart=>exact⟨0,none,0,rfl,rfl,by omega,Xky _ _,Xal w1⟩
 case round=>
  obtain⟨i,A',c',rfl,rfl,hi,hO,hS⟩:=hrel
  have r0:=Xak hS.out HR.out.1
  have r1:=Xak hS.out HR.out.2.1
  have r2:=Xak hS.out HR.out.2.2
  have lr:w.heap.size<wr.heap.size:=Xbm r0
  have hKi:((ls.take i).filter (fun x=>!goes k d p x)).length≤i:=Xx1 _ _ _
  by_cases hlt:i<n
  ·obtain⟨y,hy⟩:=Xa2 ls (k:=i) (by rw[HL.out.len];exact hlt)
   obtain⟨b1,off1,rfl,hb1',hcc⟩:=(Xah HL.out (HS1.out.trans (Below.mono hS.out (Below.size HS1.out)))).at_ (by omega)
   obtain⟨d0,d1,d2,d3,d4⟩:=hcc i y hy
   have HSN:=Zh (Xs4 (q:=fun x=>!goes k d p x) hy)
   have i0':(0:Int)≤(i:Int):=by omega
   have i1:(i:Int)<(n:Int):=by omega
   clear hcc hy
   generalize hfil:(ls.take i).filter (fun x=>!goes k d p x)=fs at *
   go_upto_region 10 with(fail)
   go_cut [10] (fun s10 wd=>s10=.bool (goes k d p y)∧wd=wr.alloc (.cells #[.int .i64 y.dev,.int .i64 y.page,.int .i64 y.at_,.bool y.rd,.bool y.wr] 58))
   case first=>
    rcases(show k=0∨k=1∨k=2∨k=3 by have:=HK.out;omega)with hk|hk|hk|hk
    ·have q1:(k==1)=false:=by rw[hk];rfl
     have q2:(k==2)=false:=by rw[hk];rfl
     have q3:(k==3)=false:=by rw[hk];rfl
     have HG:=Zh (show false=goes k d p y by simp[goes,hk])
     clear hk
     go_wp2
     go_meet
     exact⟨congrArg Value.bool HG.out,rfl⟩
    ·have q1:(k==1)=true:=by rw[hk];rfl
     have HG:=Zh (show true=goes k d p y by simp[goes,hk])
     clear hk
     go_wp2
     go_meet
     exact⟨congrArg Value.bool HG.out,rfl⟩
    ·have q1:(k==1)=false:=by rw[hk];rfl
     have q2:(k==2)=true:=by rw[hk];rfl
     have q3:(k==3)=false:=by rw[hk];rfl
     have HG:=Zh (show(y.dev==d)=goes k d p y by simp[goes,hk])
     clear hk
     cases hd:(y.dev==d)
     ·rw[hd]at HG
      go_wp2
      go_meet
      exact⟨congrArg Value.bool HG.out,rfl⟩
     ·rw[hd]at HG
      go_wp2
      go_meet
      exact⟨congrArg Value.bool HG.out,rfl⟩
    ·have q1:(k==1)=false:=by rw[hk];rfl
     have q2:(k==2)=false:=by rw[hk];rfl
     have q3:(k==3)=true:=by rw[hk];rfl
     have HG:=Zh (show(y.dev==d&&y.page==p)=goes k d p y by simp[goes,hk])
     clear hk
     cases hd:(y.dev==d)
     ·rw[hd]at HG
      go_wp2
      go_meet
      exact⟨congrArg Value.bool HG.out,rfl⟩
     ·cases hp:(y.page==p)
      ·rw[hd,hp]at HG
       go_wp2
       go_meet
       exact⟨congrArg Value.bool HG.out,rfl⟩
      ·rw[hd,hp]at HG
       go_wp2
       go_meet
       exact⟨congrArg Value.bool HG.out,rfl⟩
   case rest=>
    obtain⟨rfl,rfl⟩:=hcut
    cases hg:goes k d p y
    ·have HE:=Zh (show(ls.take (i+1)).filter (fun x=>!goes k d p x)=fs ++ [y] by rw[HSN.out];simp[hg])
     have HV:=Zh hg
     clear hg
     have hO2:=Zh ((hO.out.alloc (.cells #[.int .i64 y.dev,.int .i64 y.page,.int .i64 y.at_,.bool y.rd,.bool y.wr] 58)).alloc (.cells #[.int .i64 y.dev,.int .i64 y.page,.int .i64 y.at_,.bool y.rd,.bool y.wr] 58))
     have hzs:=Below.size hS.out
     go_wp2_with (at_builtin;refine wpList_append_lies _ rfl (.tmp 62) (.tmp 64) 27 rfl w1.heap.size 58 i0 (.agg #[.int .i64 0,.int .i64 0,.int .i64 0,.bool false,.bool false]) 5 32 Tryz.underlying27 HI.out HZ0.out HZ1.out HZ2.out rfl (by decide) (.slice A' fs.length c') fs.length (Xav fs) rfl hO2.out.2.2.2 ⟨wr.heap.size+1,0,none⟩ 1 1 y.vals rfl rfl (Xg1 (Xc8 (wr.alloc (.cells #[.int .i64 y.dev,.int .i64 y.page,.int .i64 y.at_,.bool y.rd,.bool y.wr] 58)) y) (by simp)) (Xby y) (by decide) (by unfold maxLen;omega) (by omega) (by simp;omega) _ rfl ?_;intro g cap w6 hown6 hgrow6 hat6 hlt6)
     have hs6:Xan w1 w6:=Below.grown (Xae (Xae hS.out _) _) hgrow6 (by simp;omega) (fun q hq=>Xei hO2.out.2.2.2 q hq)
     have HS6:=Zh hs6
     have HO6:=Zh (Xde rfl hown6)
     clear hgrow6 hat6 hown6 hs6
     go_roundw
     case rel=>
      refine⟨i+1,some ⟨g,0,none⟩,cap, ?_,by go_num,hlt, ?_,HS6.out⟩
      ·rw[HE.out];simp
      ·show OwnL _ _ _ _ _ _
       rw[HE.out]
       simpa using HO6.out
     case measure=>simp[intOf];omega
    ·have HE:=Zh (show(ls.take (i+1)).filter (fun x=>!goes k d p x)=fs by rw[HSN.out];simp[hg])
     have HV:=Zh hg
     clear hg
     go_wp2
     go_roundw
     case rel=>
      refine⟨i+1,A',c', ?_,by go_num,hlt, ?_,Xae hS.out _⟩
      ·rw[HE.out]
      ·show OwnL _ _ _ _ _ _
       rw[HE.out]
       exact hO.out.alloc _
     case measure=>simp[intOf];omega
  ·obtain rfl:i=n:=by omega
   have hall:ls.take i=ls:=List.take_of_length_le (by rw[HL.out.len];omega)
   rw[hall]at hO ⊢
   go_wp2
   go_ret2
   exact⟨A',c',rfl,hO.out.low (Below.size HS1.out),HS1.out.trans (Below.mono hS.out (Below.size HS1.out))⟩
theorem Xgz (A:Option Addr) (n c:Nat) (ls ms:List Line) (k d p E:Int) (w:World) (hl:Lines w w.heap.size A n c ls) (hE:Xes ls k=E) (hm:Xfn ls k d p=ms) :
  Calls Tryz.prog 62 #[.slice A n c,.agg #[.int .i64 k,.int .i64 d,.int .i64 p]] w fun e w'=>∃ A' c',e=.returned (.tuple #[.slice A' ms.length c',.int .i64 E])∧Lines w' w'.heap.size A' ms.length c' ms∧Below w.heap.size w w'∧∀ ad,A'=some ad→w.heap.size≤ad.block:=by
 by_cases h0:E=0
 ·subst h0
  have:=Xt0 A n c ls k d p w hl hE
  rw[hm]at this
  refine this.mono ?_
  rintro e w' ⟨A',c',rfl,ho,hb⟩
  exact⟨A',c',rfl,ho.lines,hb,fun ad h=>Xei ho.2.2.2 ad.block (by rw[h];rfl)⟩
 ·have:=Xqy A n c ls k d p w hl (by rw[hE];exact h0)
  rw[hE]at this
  refine this.mono ?_
  rintro e w' ⟨rfl,hb⟩
  have hz:ms=[]:=by rw[←hm];exact Xn9 hE h0
  subst hz
  exact⟨none,0,rfl,Xcl _ _,hb,fun _ h=>by cases h⟩
end
end Go.Proofs.YtbopdijnojaaiadGreat
