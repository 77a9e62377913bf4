/- The machine: the document's Happened, whatever happens. No statement of the seat is proved here. -/
import Derived.Test.YtbopdijnojaaiadGreatWh2
import Derived.Test.YtbopdijnojaaiadGreatG2
import Derived.Lib.AppendZeros
import Derived.Test.YtbopdijnojaaiadGreatRefWA
import Derived.Test.YtbopdijnojaaiadGreatRefWB
import Derived.Test.YtbopdijnojaaiadGreatRefWC
import Derived.Test.YtbopdijnojaaiadGreatRefWD
import Derived.Test.YtbopdijnojaaiadGreatRefWE
import Derived.Test.YtbopdijnojaaiadGreatG1
import Derived.Test.YtbopdijnojaaiadGreatRefA
import Derived.Test.YtbopdijnojaaiadGreatAsk
import Derived.StillTailTactics
namespace Go.Proofs.YtbopdijnojaaiadGreat
section
set_option maxRecDepth 100000
set_option maxHeartbeats 4000000
open Go.RowKit
set_option linter.unusedSimpArgs false
set_option linter.unusedVariables false
attribute [local go_sem ↓] Go.wp_at_zero Go.wp_at_succ
section
variable {P:Program} {ops:Array Oper} {rest:List Oper} {o:Oper} {a:Act} {Q:Exit→Act→World→Prop}
theorem Xfd (w:World) (hgd:o.guard=none) (s x:Operand) (t:TypeId) (ho:o.op=.call { callee:=.builtin .append,args:=#[s,x],argTypes:=#[t,t] })
  (base:Nat) (e:TypeId) (i:TypeInfo) (z:Value) (size bytes:Nat) (ht:P.underlying t=some (.slice e)) (hi:P.info? e=some i) (hz:i.zero=some z) (hsize:i.size=size) (hby:i.bytes=bytes) (hzs:z.cells.size=size) (hsz:0<size)
  (v:Value) (n:Nat) (xs:List Value) (hs:a.eval s=v) (hown:w.ownsRow base e size v n xs) (ao:Option Addr) (m c:Nat) (news:List Value) (hx:a.eval x=.slice ao m c) (hl:news.length=m * size)
  (hnone:ao=none→m=0∧c=0) (hc:∀ ad,ao=some ad→∀ j u,news[j]?=some u→w.cell? (ad.add j)=some u) (h1:∀ u∈news,u.oneCell'=true) (h63:n+m≤maxLen) (hbytes:(n+m) * bytes≤140737488355328) (hbase:base≤w.heap.size)
  (hK:∀ v' w',w'.ownsRow base e size v' (n+m) (xs ++ news)→w.grownBy w' v.ownBlock→wpList P ops Q rest (a.put o.dst v') w'):wpList P ops Q (o :: rest) a w:=by
 refine wpList_plain hgd fun _ hK'=>?_
 cases ao with
 |some ad=>
  obtain⟨v',w',hr,h2,h3,_⟩:=run_append_own (P:=P) w base t o.type e i z size bytes ht hi hz hsize hby hzs hsz v n xs hown ad m c news hl (hc ad rfl) h1 h63 hbytes hbase
  unfold Oper.wp execOp
  simp only[ho,resolve,invoke,builtin,Sem.run_bind,Sem.run_pure,Result.andThen_ok,List.map_toArray,List.map_cons,List.map_nil,hs,hx,hr]
  exact hK' _ _ (hK v' w' h2 h3)
 |none=>
  obtain⟨rfl,rfl⟩:=hnone rfl
  have hnews:news=[]:=List.eq_nil_of_length_eq_zero (by simpa using hl)
  subst hnews
  have hr:=run_append_owned_none (P:=P) w base t o.type e i size ht hi v n xs hown
  unfold Oper.wp execOp
  simp only[ho,resolve,invoke,builtin,Sem.run_bind,Sem.run_pure,Result.andThen_ok,List.map_toArray,List.map_cons,List.map_nil,hs,hx,hr]
  exact hK' _ _ (hK v w (by simpa using hown) (World.grownBy.refl _ _))
end
theorem Xxt {w:World} {B size n:Nat} {e:TypeId} {v:Value} {ys:List Value} (h:w.ownsRow B e size v n ys):∀ k,v.ownBlock=some k→B≤k:=by
 intro k hk
 rcases Xdn h with⟨rfl,_⟩|⟨g,cap,rfl,_,_,hB,_⟩
 ·simp[Value.ownBlock]at hk
 ·simp[Value.ownBlock]at hk;omega
theorem Xjs {w W W':World} {B size n:Nat} {e:TypeId} {v:Value} {ys:List Value} (h:Below B w W) (hB:B≤W.heap.size) (ho:W.ownsRow B e size v n ys) (hg:W.grownBy W' v.ownBlock):Below B w W':=
 Xa8 h hB (Xdm (P:=fun q=>v.ownBlock=some q) (Xaq W) hg (fun k e=>Or.inl e)) (fun q hq e=>by have:=Xxt ho q e;omega)
theorem Xlz {w:World} {B:Nat} {A:Option Addr} {vs:List Value} (h:Row w B A vs):∀ ad,A=some ad→∀ j u,vs[j]?=some u→w.cell? (ad.add j)=some u:=by
 intro ad e j u hu
 obtain⟨b,off,e',_,hc⟩:=h (by have:=(List.getElem?_eq_some_iff.1 hu).1;omega)
 rw[e]at e'
 injection e' with e'
 subst e'
 rw[Xdx]
 exact hc j u hu
theorem Xqs (N:Int) (w:World) (h0:0≤N) (h1:N≤2000) :
  Calls Tryz.prog 65 #[.slice none 0 0,.int .i64 N] w fun e w'=>∃ v,e=.returned v∧w'.ownsRow w.heap.size 58 5 v 0 []∧Below w.heap.size w w':=by
 obtain⟨i0,hi,hz0,hz1,hz2⟩:=info_parts Tryz.infoLine
 obtain⟨n,rfl⟩:∃ n:Nat,N=(n:Int):=⟨N.toNat,by omega⟩
 by_cases hn:n=0
 ·subst hn
  clear hi hz0 hz1 hz2
  go_enter Tryz.func65,Tryz.ntmps65
  go_wp2
  go_ret
  exact⟨.slice none 0 0,rfl,World.ownsRow_nil _ _ _ _,Below.refl _ _⟩
 ·have happ:=Lib.run_append_nil_zeros (P:=Tryz.prog) w 27 3 27 58 i0 (.agg #[.int .i64 0,.int .i64 0,.int .i64 0,.bool false,.bool false]) .i64 .i64 Tryz.underlying27 Tryz.underlying3 hi hz0 n (by omega) (by rw[hz1];decide) (by omega) (by rw[hz2];omega)
  have hge:=grownCap_ge w n 0 58
  have hle:=grownCap_le_maxLen w n 0 58 (by unfold maxLen;omega)
  generalize grownCap w n 0 58=cap at happ hge hle
  generalize hC:(Builtin.zeroCells (Value.cells (.agg #[.int .i64 0,.int .i64 0,.int .i64 0,.bool false,.bool false])) n ++ Builtin.zeroCells (Value.cells (.agg #[.int .i64 0,.int .i64 0,.int .i64 0,.bool false,.bool false])) (cap - n))=cells at happ
  have hcs:cells.size=cap * 5:=by rw[←hC];simp[size_zeroCells,Value.cells];omega
  generalize hw1:w.drew.alloc (.cells cells 58)=w1 at happ
  have HO:=Zh (show w1.ownsRow w.heap.size 58 5 (.slice (some ⟨w.heap.size,0,none⟩) 0 cap) 0 [] by rw[←hw1];exact⟨rfl,Or.inr ⟨w.heap.size,cap,cells,rfl,Nat.le_refl _,heap_alloc_new w.drew _,Nat.zero_le _,hle,hcs,rfl⟩⟩)
  have HB:=Zh (show Below w.heap.size w w1 by rw[←hw1];exact(Below.drew (Below.refl _ _)).alloc (Nat.le_refl _) _)
  clear hC hw1 hcs hi hz0 hz1 hz2
  go_enter Tryz.func65,Tryz.ntmps65
  go_wp2_with (at_builtin;refine Lib.wpList_append_run _ rfl _ _ _ _ rfl _ _ rfl rfl _ _ happ ?_)
  go_ret
  exact⟨_,rfl,HO.out,HB.out⟩
theorem Xud (g:Nat) (A1 A2:Option Addr) (n1 c1 n2 c2:Nat) (xs ys:List Value) (w:World) (hg0:w.cell? ⟨g,0,none⟩=some (.slice A1 n1 c1)) (hg1:w.cell? ⟨g,1,none⟩=some (.slice A2 n2 c2)) (hgl:g<w.heap.size) (h1:Row w w.heap.size A1 xs) (h2:Row w w.heap.size A2 ys)
  (l1:xs.length=n1 * 5) (l2:ys.length=n2 * 5) (z1:A1=none→n1=0∧c1=0) (z2:A2=none→n2=0∧c2=0) (o1:∀ u∈xs,u.oneCell'=true) (o2:∀ u∈ys,u.oneCell'=true) (m1:n1≤1000) (m2:n2≤1000) :
  Calls Tryz.prog 39 #[.slice (some ⟨g,0,none⟩) 2 2] w fun e w'=>∃ L c,e=.returned (.slice L (n1+n2) c)∧w'.ownsRow w.heap.size 58 5 (.slice L (n1+n2) c) (n1+n2) (xs ++ ys)∧Below w.heap.size w w':=by
 obtain⟨i0,hi,hz0,hz1,hz2⟩:=info_parts Tryz.infoLine
 have HI:=Zh hi
 have HI0:=Zh hz0
 have HI1:=Zh hz1
 have HI2:=Zh hz2
 have HR1:=Zh h1
 have HR2:=Zh h2
 have HL1:=Zh l1
 have HL2:=Zh l2
 have HZ1:=Zh z1
 have HZ2:=Zh z2
 have HO1:=Zh o1
 have HO2:=Zh o2
 have HG0:=Zh hg0
 have HG1:=Zh hg1
 clear hi hz0 hz1 hz2 h1 h2 l1 l2 z1 z2 o1 o2 hg0 hg1
 go_enter Tryz.func39,Tryz.ntmps39
 go_wp2
 go_loopw [11,3] (fun s11 s3 wr=>∃ k:Nat,k≤2∧s11=.int .i64 k∧s3=.int .i64 (if k=0 then 0 else if k=1 then(n1:Int)else(n1:Int)+n2)∧Hid (wr=w)) (fun s11 _ _=>2 - (intOf s11).toNat)
 case atStart=>exact⟨0,by omega,rfl,rfl,rfl⟩
 case round=>
  obtain⟨k,hk,rfl,rfl,hw⟩:=hrel
  have hw:=hw.out
  subst hw
  have hg0:=HG0.out
  have hg1:=HG1.out
  have hk3:k=0∨k=1∨k=2:=by omega
  rcases hk3 with rfl|rfl|rfl
  ·go_wp2
   go_roundw
   case rel=>exact⟨1,by omega,rfl,by simp,by first|exact rfl|exact True.intro⟩
   case measure=>simp[intOf]
  ·go_wp2
   go_roundw
   case rel=>exact⟨2,by omega,rfl,by simp,by first|exact rfl|exact True.intro⟩
   case measure=>simp[intOf]
  ·obtain⟨w0,hw0⟩:∃ w0,w0=wr:=⟨_,rfl⟩
   subst hw0
   go_wp2_with fail
   refine(Xqs _ _ (by omega) (by omega)).mono ?_
   rintro e w1 ⟨v,rfl,ho,hb⟩
   have HV:=Zh ho
   have HB:=Zh hb
   have hz1:=hb.size
   clear ho hb hg0 hg1
   go_upto_region 11 with(fail)
   go_loopw [27,6] (fun s27 s6 wj=>∃(k:Nat) (v:Value),k≤2∧s27=.int .i64 k∧v=s6∧Hid (wj.ownsRow w0.heap.size 58 5 v (if k=0 then 0 else if k=1 then n1 else n1+n2) (if k=0 then[]else if k=1 then xs else xs ++ ys))∧Hid (Below w0.heap.size w0 wj)) (fun s27 _ _=>2 - (intOf s27).toNat)
   case atStart=>exact⟨0,v,by omega,rfl,rfl,HV.out,HB.out⟩
   case round=>
    clear HV HB hz1
    obtain⟨k,v,hk,rfl,rfl,ho,hb⟩:=hrel
    have HB:=Zh hb.out
    have hz1:=hb.out.size
    have hg0:=(hb.out.cell (p:=⟨g,0,none⟩) hgl).trans HG0.out
    have hg1:=(hb.out.cell (p:=⟨g,1,none⟩) hgl).trans HG1.out
    have R1:=Zh (Xlz (HR1.out.below hb.out))
    have R2:=Zh (Xlz (HR2.out.below hb.out))
    have hk3:k=0∨k=1∨k=2:=by omega
    rcases hk3 with rfl|rfl|rfl
    ·have HV:Hid (wr.ownsRow w0.heap.size 58 5 v 0 []):=ho
     have b1:0+n1≤maxLen:=by unfold maxLen;omega
     have b2:(0+n1) * 32≤140737488355328:=by omega
     clear ho hb
     go_wp2_with (at_builtin;refine Xfd _ rfl (.tmp 31) (.tmp 32) 27 rfl w0.heap.size 58 i0 (.agg #[.int .i64 0,.int .i64 0,.int .i64 0,.bool false,.bool false]) 5 32 Tryz.underlying27 HI.out HI0.out HI1.out HI2.out rfl (by decide) v 0 [] rfl HV.out A1 n1 c1 xs rfl HL1.out HZ1.out R1.out HO1.out b1 b2 hz1 ?_;intro v' w' ho' hg')
     go_roundw
     case rel=>exact⟨1,v',by omega,rfl,rfl,by simpa[Hid]using ho',Xjs HB.out hz1 HV.out hg'⟩
     case measure=>simp[intOf]
    ·have HV:Hid (wr.ownsRow w0.heap.size 58 5 v n1 xs):=ho
     have b1:n1+n2≤maxLen:=by unfold maxLen;omega
     have b2:(n1+n2) * 32≤140737488355328:=by omega
     clear ho hb
     go_wp2_with (at_builtin;refine Xfd _ rfl (.tmp 31) (.tmp 32) 27 rfl w0.heap.size 58 i0 (.agg #[.int .i64 0,.int .i64 0,.int .i64 0,.bool false,.bool false]) 5 32 Tryz.underlying27 HI.out HI0.out HI1.out HI2.out rfl (by decide) v n1 xs rfl HV.out A2 n2 c2 ys rfl HL2.out HZ2.out R2.out HO2.out b1 b2 hz1 ?_;intro v' w' ho' hg')
     go_roundw
     case rel=>exact⟨2,v',by omega,rfl,rfl,ho',Xjs HB.out hz1 HV.out hg'⟩
     case measure=>simp[intOf]
    ·have HV:Hid (wr.ownsRow w0.heap.size 58 5 v (n1+n2) (xs ++ ys)):=ho
     clear ho hb
     go_wp2
     go_ret
     rcases Xdn HV.out with⟨rfl,h0⟩|⟨g',cap,rfl,_⟩
     ·exact⟨none,0,by rw[h0];rfl,by rw[h0];have:=HV.out;rw[h0]at this;exact this,HB.out⟩
     ·exact⟨_,_,rfl,HV.out,HB.out⟩
end
section
set_option maxRecDepth 100000
set_option maxHeartbeats 4000000
open Go.RowKit
set_option linter.unusedSimpArgs false
set_option linter.unusedVariables false
attribute [local go_sem ↓] Go.wp_at_zero Go.wp_at_succ
def HapC (w:World) (Av:Nat→Prop) (r:Mch×Tld) (E:Int) (e:Ending) (w':World):Prop:=
 ∃ M nm mc R nr rc L n c D dn dc T tn tc,e=.returned (.tuple #[.agg (M_.m r.1 M nm mc R nr rc L n c),.agg #[.bool r.2.done,.slice D dn dc,.int .i64 r.2.fault,.slice T tn tc],.int .i64 E]) ∧
  MachV w' (fun q=>Av q∨w.heap.size≤q) r.1 M nm R nr L n c∧TldV w' (fun q=>w.heap.size≤q) r.2 D dn T tn tc∧Below w.heap.size w w'
theorem Xho {w w':World} {Av:Nat→Prop} {E:Int} (hb:Below w.heap.size w w'):HapC w Av (.no,.no) E (.returned (.tuple #[.agg B_.y,.agg B_.t,.int .i64 E])) w':=
 ⟨none,0,0,none,0,0,none,0,0,none,0,0,none,0,0,rfl,Xk2 _ _,Xed _ _,hb⟩
theorem Xu9 {xs:List Int} {b:Brg} (h:Xe1 xs b=0):(Xep xs b).cache.length≤b.cache.length:=by
 unfold Xep
 rw[if_pos h]
 unfold Xga
 split
 ·show(Xfn _ _ _ _).length≤_
  unfold Xfn
  split
  ·exact List.length_filter_le _ _
  ·exact Nat.zero_le _
 ·exact Nat.le_refl _
theorem Xji (E:Int) (w:World):Calls Tryz.prog 33 #[.int .i64 E] w fun e w'=>e=.returned (.tuple #[.agg B_.y,.agg B_.t,.int .i64 E])∧Below w.heap.size w w':=by
 go_enter Tryz.func33,Tryz.ntmps33
 go_upto_region 1 with(fail)
 generalize hw0:(w.alloc (.cells B_.y 33)).alloc (.cells B_.t 40)=w0
 have H2:=Zh (show Whl w0 w.heap.size 33 B_.y by rw[←hw0];exact Xab (Xac _ _ _ rfl) _)
 have H3:=Zh (show Whl w0 (w.heap.size+1) 40 B_.t by rw[←hw0];exact Xac _ _ _ (by simp))
 have HB:=Zh (show Below w.heap.size w w0 by rw[←hw0];(refine bl ?_;repeat' first|with_reducible(first|assumption|constructor)|((try simp)<;>omega)))
 clear hw0
 go_wp2_with (first
  |(refine Xaj rfl 33 (.tmp 2) (.tmp 5) rfl (w.heap.size) _ _ B_.y rfl rfl H2.out Tryz.sizeMach rfl rfl ?_;intro w5 h4a t4;have h5a:=Xam H3.out t4 (Nat.succ_ne_self _))
  |(refine Xaj rfl 40 (.tmp 3) (.tmp 6) rfl (w.heap.size+1) _ _ B_.t rfl rfl h5a Tryz.sizeTold rfl rfl ?_;intro w6 h5b t5;have h4b:=Xam h4a t5 (Ne.symm (Nat.succ_ne_self _))))
 go_wp2
 refine bodyPost_ret (v:=.tuple #[.agg B_.y,.agg B_.t,.int .i64 E]) ?_ rfl ⟨rfl, ?_⟩
 ·exact Xc6 Tryz.results33 rfl rfl rfl (Xbx h4b _ Tryz.underlying33 rfl Tryz.sizeMach) (Xbx h5b _ Tryz.underlying40 rfl Tryz.sizeTold)
 ·exact Xaw (Xaw HB.out HB.out.size t4 (by omega)) (by have:=t4.2;have:=HB.out.size;omega) t5 (by omega)
end
section
open Go.RowKit
set_option linter.unusedSimpArgs false
set_option linter.unusedVariables false
theorem Xx3 {v:Int} (h:rdE v=0):(0≤insK v∧insK v≤8)∧(0≤insA v∧insA v<8)∧(0≤insC v∧insC v<8):=by
 have hv:0≤v∧v≤65535:=by
  by_cases hv:0≤v∧v≤65535
  ·exact hv
  ·rw[Xuw hv]at h;cases h
 have hR:InsR (v / 4096) (v / 512 % 8) (v / 64 % 8) (v % 64):=by
  by_cases hR:InsR (v / 4096) (v / 512 % 8) (v / 64 % 8) (v % 64)
  ·exact hR
  ·rw[Xux hv (by rw[Xkf hR];decide)]at h;cases h
 unfold InsR at hR
 unfold insK insA insC
 rw[Xnz h,Xnz h,Xnz h]
 omega
theorem dm_0 (xs:List Int) (h:Hrt) (b:Brg) (a c i:Int):Xcb xs h b 0 a c i=(xs,h,b,false):=by
 unfold Xcb;rw[if_neg (by decide),if_neg (by decide),if_neg (by decide),if_neg (by decide),if_neg (by decide),if_neg (by decide),if_neg (by decide),if_neg (by decide)]
theorem dm_1 (xs:List Int) (h:Hrt) (b:Brg) (a c i:Int):Xcb xs h b 1 a c i=(xs,h.setR a i,b,true):=by
 unfold Xcb;rw[if_pos rfl]
theorem dm_2 (xs:List Int) (h:Hrt) (b:Brg) (a c i:Int):Xcb xs h b 2 a c i=(xs,h.setR a ((rd h.regs a+rd h.regs c) % 65536),b,true):=by
 unfold Xcb;rw[if_neg (by decide),if_pos rfl]
theorem dm_3 (xs:List Int) (h:Hrt) (b:Brg) (a c i:Int):Xcb xs h b 3 a c i=(xs,h.setR a (shM (rd h.regs a) i),b,true):=by
 unfold Xcb;rw[if_neg (by decide),if_neg (by decide),if_pos rfl]
theorem dm_4 (xs:List Int) (h:Hrt) (b:Brg) (a c i:Int):Xcb xs h b 4 a c i=if rd h.regs c+i<512 then(xs,h.setR a (rd xs (rd h.regs c+i)),b,true)else(xs,h,b,false):=by
 unfold Xcb;rw[if_neg (by decide),if_neg (by decide),if_neg (by decide),if_pos rfl]
theorem dm_5 (xs:List Int) (h:Hrt) (b:Brg) (a c i:Int):Xcb xs h b 5 a c i=if rd h.regs c+i<512 then(xs.set (rd h.regs c+i).toNat (rd h.regs a),h,b,true)else(xs,h,b,false):=by
 unfold Xcb;rw[if_neg (by decide),if_neg (by decide),if_neg (by decide),if_neg (by decide),if_pos rfl]
theorem dm_6 (xs:List Int) (h:Hrt) (b:Brg) (a c i:Int):Xcb xs h b 6 a c i=if rd h.regs a=rd h.regs c then(xs,{ h with at_:=i },b,true)else(xs,h,b,true):=by
 unfold Xcb;rw[if_neg (by decide),if_neg (by decide),if_neg (by decide),if_neg (by decide),if_neg (by decide),if_pos rfl]
theorem dm_7 (xs:List Int) (h:Hrt) (b:Brg) (a c i:Int):Xcb xs h b 7 a c i=(xs,h,(Xbi b i (rd h.regs a)).1,(Xbi b i (rd h.regs a)).2):=by
 unfold Xcb;rw[if_neg (by decide),if_neg (by decide),if_neg (by decide),if_neg (by decide),if_neg (by decide),if_neg (by decide),if_pos rfl]
theorem dm_8 (xs:List Int) (h:Hrt) (b:Brg) (a c i:Int):Xcb xs h b 8 a c i=if i<10 then(xs,h.setR a (Xf4 b i),b,true)else(xs,h,b,false):=by
 unfold Xcb;rw[if_neg (by decide),if_neg (by decide),if_neg (by decide),if_neg (by decide),if_neg (by decide),if_neg (by decide),if_neg (by decide),if_pos rfl]
theorem Xro {xs:List Int} {at_:Int} {rs:List Int} {b:Brg} (hE:rdE (rd xs at_)≠0):Xee xs ⟨at_,rs,false⟩ b=(xs,⟨at_,rs,true⟩,b):=by
 unfold Xee;rw[if_neg (fun q=>hE q.1)]
theorem Xrn {xs:List Int} {at_:Int} {rs:List Int} {b:Brg} {ys:List Int} {g:Hrt} {d:Brg} (hE:rdE (rd xs at_)=0) (hd:Xcb xs ⟨(at_+1) % 512,rs,false⟩ b (insK (rd xs at_)) (insA (rd xs at_)) (insC (rd xs at_)) (insI (rd xs at_))=(ys,g,d,true)):Xee xs ⟨at_,rs,false⟩ b=(ys,g,d):=by
 unfold Xee;dsimp only;rw[hd,if_pos ⟨hE,rfl⟩]
theorem Xuq {xs:List Int} {at_:Int} {rs:List Int} {b:Brg} {ys:List Int} {g:Hrt} {d:Brg} (hd:Xcb xs ⟨(at_+1) % 512,rs,false⟩ b (insK (rd xs at_)) (insA (rd xs at_)) (insC (rd xs at_)) (insI (rd xs at_))=(ys,g,d,false)):Xee xs ⟨at_,rs,false⟩ b=(xs,⟨at_,rs,true⟩,b):=by
 unfold Xee;dsimp only;rw[hd,if_neg (fun q=>by cases q.2)]
section
variable (xs:List Int) (at_:Int) (rs:List Int) (b:Brg) (M R L:Option Addr) (mc rc n c:Nat) (w:World) (hm:Ints w w.heap.size M 512 xs) (hr:Ints w w.heap.size R 8 rs) (hl:Lines w w.heap.size L n c b.cache) (c1:cm xs=0) (c2:ckH ⟨at_,rs,false⟩=0) (c3:ckB b=0)
include hm hr hl c1 c2 c3
theorem Xnx:Calls Tryz.prog 34 #[.agg #[.slice M 512 mc],.agg #[.int .i64 at_,.slice R 8 rc,.bool false],.agg (B_.b b L n c)] w (StpW w M R L n c (Xee xs ⟨at_,rs,false⟩ b)):=by
 by_cases hE:rdE (rd xs at_)=0
 ·obtain⟨iK,iA,iC⟩:=Xx3 hE
  have iI:0≤insI (rd xs at_)∧insI (rd xs at_)≤63:=by have:=Xix (rd xs at_);omega
  obtain⟨ka,ea⟩:∃ k:Nat,insA (rd xs at_)=(k:Int):=⟨(insA (rd xs at_)).toNat,by omega⟩
  obtain⟨kd,ed⟩:∃ k:Nat,insC (rd xs at_)=(k:Int):=⟨(insC (rd xs at_)).toNat,by omega⟩
  obtain⟨ki,ei⟩:∃ k:Nat,insI (rd xs at_)=(k:Int):=⟨(insI (rd xs at_)).toNat,by omega⟩
  have ha:ka<8:=by omega
  have hd:kd<8:=by omega
  have hi:ki≤63:=by omega
  have hV:∀ k,insK (rd xs at_)=k→rdV (rd xs at_)=.tuple #[.agg #[.int .i64 k,.int .i64 ka,.int .i64 kd,.int .i64 ki],.int .i64 0]:=by
   rintro k rfl;rw[←ea,←ed,←ei];unfold rdV;rw[hE];rfl
  have vb:0≤rd rs kd:=(Xcn (k:=(kd:Int)) (Xap c2).2.2).1
  have va:0≤rd rs ka:=(Xcn (k:=(ka:Int)) (Xap c2).2.2).1
  have hk:insK (rd xs at_)=0∨insK (rd xs at_)=1∨insK (rd xs at_)=2∨insK (rd xs at_)=3∨insK (rd xs at_)=4∨insK (rd xs at_)=5∨insK (rd xs at_)=6∨insK (rd xs at_)=7∨insK (rd xs at_)=8:=by omega
  have sY:∀{ys:List Int} {g:Hrt} {d:Brg} {k:Int},insK (rd xs at_)=k→Xcb xs ⟨(at_+1) % 512,rs,false⟩ b k ka kd ki=(ys,g,d,true)→Xee xs ⟨at_,rs,false⟩ b=(ys,g,d):=fun e h=>Xrn hE (by rw[e,ea,ed,ei];exact h)
  have sN:∀{ys:List Int} {g:Hrt} {d:Brg} {k:Int},insK (rd xs at_)=k→Xcb xs ⟨(at_+1) % 512,rs,false⟩ b k ka kd ki=(ys,g,d,false)→Xee xs ⟨at_,rs,false⟩ b=(xs,⟨at_,rs,true⟩,b):=fun e h=>Xuq (by rw[e,ea,ed,ei];exact h)
  rcases hk with hk|hk|hk|hk|hk|hk|hk|hk|hk
  ·rw[sN hk (dm_0 _ _ _ _ _ _)];exact stp_0 xs at_ rs b M R L mc rc n c w hm hr hl c1 c2 ka kd ki (hV _ hk) ha hd hi
  ·rw[sY hk (dm_1 _ _ _ _ _ _)];exact stp_1 xs at_ rs b M R L mc rc n c w hm hr hl c1 c2 ka kd ki (hV _ hk) ha hd hi
  ·rw[sY hk (dm_2 _ _ _ _ _ _)];exact stp_2 xs at_ rs b M R L mc rc n c w hm hr hl c1 c2 ka kd ki (hV _ hk) ha hd hi
  ·rw[sY hk (dm_3 _ _ _ _ _ _)];exact stp_3 xs at_ rs b M R L mc rc n c w hm hr hl c1 c2 ka kd ki (hV _ hk) ha hd hi
  ·by_cases hq:rd rs kd+ki<512
   ·rw[sY hk ((dm_4 _ _ _ _ _ _).trans (if_pos hq))];exact stp_4y xs at_ rs b M R L mc rc n c w hm hr hl c1 c2 ka kd ki (hV _ hk) ha hd hi hq
   ·rw[sN hk ((dm_4 _ _ _ _ _ _).trans (if_neg hq))];exact stp_4n xs at_ rs b M R L mc rc n c w hm hr hl c1 c2 ka kd ki (hV _ hk) ha hd hi hq
  ·by_cases hq:rd rs kd+ki<512
   ·rw[sY hk ((dm_5 _ _ _ _ _ _).trans (if_pos hq))];exact stp_5y xs at_ rs b M R L mc rc n c w hm hr hl c1 c2 ka kd ki (hV _ hk) ha hd hi hq
   ·rw[sN hk ((dm_5 _ _ _ _ _ _).trans (if_neg hq))];exact stp_5n xs at_ rs b M R L mc rc n c w hm hr hl c1 c2 ka kd ki (hV _ hk) ha hd hi hq
  ·by_cases hq:rd rs ka=rd rs kd
   ·rw[sY hk ((dm_6 _ _ _ _ _ _).trans (if_pos hq))];exact stp_6y xs at_ rs b M R L mc rc n c w hm hr hl c1 c2 ka kd ki (hV _ hk) ha hd hi hq
   ·rw[sY hk ((dm_6 _ _ _ _ _ _).trans (if_neg hq))];exact stp_6n xs at_ rs b M R L mc rc n c w hm hr hl c1 c2 ka kd ki (hV _ hk) ha hd hi hq
  ·by_cases hq:rd rs ka≤Xd3 ki
   ·rw[sY hk ((dm_7 _ _ _ _ _ _).trans (by show(_,_,(Xbi _ _ _).1,(Xbi _ _ _).2)=_;rw[Xjr c3 va,if_pos hq]))];exact stp_7y xs at_ rs b M R L mc rc n c w hm hr hl c1 c2 ka kd ki (hV _ hk) ha hd hi hq
   ·rw[sN hk ((dm_7 _ _ _ _ _ _).trans (by show(_,_,(Xbi _ _ _).1,(Xbi _ _ _).2)=_;rw[Xjr c3 va,if_neg hq]))];exact stp_7n xs at_ rs b M R L mc rc n c w hm hr hl c1 c2 ka kd ki (hV _ hk) ha hd hi hq
  ·by_cases hq:ki<10
   ·have hq':(ki:Int)<10:=by omega
    rw[sY hk ((dm_8 _ _ _ _ _ _).trans (if_pos hq'))];exact stp_8y xs at_ rs b M R L mc rc n c w hm hr hl c1 c2 ka kd ki (hV _ hk) ha hd hi hq
   ·have hq':¬(ki:Int)<10:=by omega
    rw[sN hk ((dm_8 _ _ _ _ _ _).trans (if_neg hq'))];exact stp_8n xs at_ rs b M R L mc rc n c w hm hr hl c1 c2 ka kd ki (hV _ hk) ha hd hi hq
 ·rw[Xro hE]
  refine Xxf xs at_ rs b M R L mc rc n c w hm hr hl c1 c2 (rdE (rd xs at_)) (by rw[bne_iff_ne];exact hE) ?_
  unfold rdV
  rw[Xsg rfl hE,Xsg rfl hE,Xsg rfl hE,Xsg rfl hE]
end
end
section
set_option maxRecDepth 100000
set_option maxHeartbeats 8000000
open Go.RowKit
set_option linter.unusedSimpArgs false
set_option linter.unusedVariables false
attribute [local go_sem ↓] Go.wp_at_zero Go.wp_at_succ
theorem Xl4 (x:Mch) (M R L:Option Addr) (mc rc n c:Nat) (w:World) (hm:Ints w w.heap.size M 512 x.m) (hr:Ints w w.heap.size R 8 x.h.regs) (hl:Lines w w.heap.size L n c x.b.cache) (h0:ckM x=0) (hd:x.h.done=false) (ys:List Int) (g:Hrt) (d:Brg) (hA:Xee x.m x.h x.b=(ys,g,d)) :
  Calls Tryz.prog 34 #[.agg #[.slice M 512 mc],.agg #[.int .i64 x.h.at_,.slice R 8 rc,.bool x.h.done],.agg (B_.b x.b L n c)] w (StpW w M R L n c (ys,g,d)):=by
 obtain⟨c1,c2,c3⟩:=(Xct x).1 h0
 obtain⟨m,⟨at_,rs,dn⟩,b⟩:=x
 simp only[]at *
 subst hd
 rw[←hA]
 exact Xnx m at_ rs b M R L mc rc n c w hm hr hl c1 c2 c3
section
variable (x:Mch) (y:Hap) (M R L AD:Option Addr) (mc rc n c nd cd:Nat) (w:World) (Av:Nat→Prop) (hv:MachV w Av x M 512 R 8 L n c) (hd:Ints w w.heap.size AD nd y.a.data) (h0:ckM x=0)
include hv hd h0
theorem hap_1d (hk:y.kind=1) (hdn:x.h.done=true):Calls Tryz.prog 11 #[.agg (M_.m x M 512 mc R 8 rc L n c),.agg #[.int .i64 y.kind,.int .i64 y.n,.int .i64 y.a.dev,.int .i64 y.a.at_,.int .i64 y.a.count,.bool y.a.wr,.slice AD nd cd]] w (HapC w Av (doA x y) (doE x y)):=by
 have e:doE x y=6:=by rw[Xg7 h0,Xpd hk,if_pos hdn]
 have e2:doA x y=(.no,.no):=by unfold doA;rw[if_neg (by rw[e];decide)]
 rw[e,e2]
 have HX:=Zh hdn
 clear e e2 hdn
 have HV:=Zh hv.lt
 have HD:=Zh hd
 have H0:=Zh h0
 have HK:=Zh hk
 clear hv hd h0 hk
 go_enter Tryz.func11,Tryz.ntmps11
 go_upto_region 3 with(fail)
 generalize hw0:((((w.alloc (.cells (M_.m x M 512 mc R 8 rc L n c) 33)).alloc (.cells #[.int .i64 y.kind,.int .i64 y.n,.int .i64 y.a.dev,.int .i64 y.a.at_,.int .i64 y.a.count,.bool y.a.wr,.slice AD nd cd] 37)).alloc (.cells B_.y 33)).alloc (.cells B_.t 40)).alloc (.cells B_.t 40)=w0
 have H2:=Zh (show Whl w0 (w.heap.size) 33 (M_.m x M 512 mc R 8 rc L n c) by rw[←hw0];exact Xab (Xab (Xab (Xab (Xac _ _ _ rfl) _) _) _) _)
 have H3:=Zh (show Whl w0 (w.heap.size+1) 37 #[.int .i64 y.kind,.int .i64 y.n,.int .i64 y.a.dev,.int .i64 y.a.at_,.int .i64 y.a.count,.bool y.a.wr,.slice AD nd cd] by rw[←hw0];exact Xab (Xab (Xab (Xac _ _ _ (by simp)) _) _) _)
 have H4:=Zh (show Whl w0 (w.heap.size+1+1) 33 B_.y by rw[←hw0];exact Xab (Xab (Xac _ _ _ (by simp)) _) _)
 have H5:=Zh (show Whl w0 (w.heap.size+1+1+1) 40 B_.t by rw[←hw0];exact Xab (Xac _ _ _ (by simp)) _)
 have H8:=Zh (show Whl w0 (w.heap.size+1+1+1+1) 40 B_.t by rw[←hw0];exact Xac _ _ _ (by simp))
 have HB:=Zh (show Below w.heap.size w w0 by rw[←hw0];(refine bl ?_;repeat' first|with_reducible(first|assumption|constructor)|((try simp)<;>omega)))
 have hz0a:w0.heap.size≤w.heap.size+5:=by rw[←hw0];simp
 have hz0b:w.heap.size+5≤w0.heap.size:=by rw[←hw0];simp
 clear hw0
 replace HV:=Zh (HV.out.since HB.out)
 replace HD:=Zh (Xaf HD.out HB.out)
 have fk:w0.cell? ⟨w.heap.size+1,0,none⟩=some (.int .i64 1):=(Xad H3.out 0).trans (by show some (Value.int .i64 y.kind)=_;rw[HK.out])
 have fd:w0.cell? ⟨w.heap.size,3,none⟩=some (.bool true):=(Xad H2.out 3).trans (by show some (Value.bool x.h.done)=_;rw[HX.out])
 go_wp2_with fail
 refine(Xji _ _).mono ?_
 rintro e wb ⟨rfl,hb⟩
 replace H2:=Zh (Xaa H2.out hb)
 replace H3:=Zh (Xaa H3.out hb)
 replace H4:=Zh (Xaa H4.out hb)
 replace H5:=Zh (Xaa H5.out hb)
 replace H8:=Zh (Xaa H8.out hb)
 replace HB:=Zh (HB.out.trans (hb.mono HB.out.size))
 clear hb fk fd
 go_wp2_with (first
  |(refine Xaj rfl 33 (.tmp 4) (.tmp 26) rfl (w.heap.size+1+1) _ _ B_.y rfl rfl H4.out Tryz.sizeMach rfl rfl ?_;intro w5 h4a t4;have h5a:=Xam H5.out t4 (Nat.succ_ne_self _))
  |(refine Xaj rfl 40 (.tmp 5) (.tmp 27) rfl (w.heap.size+1+1+1) _ _ B_.t rfl rfl h5a Tryz.sizeTold rfl rfl ?_;intro w6 h5b t5;have h4b:=Xam h4a t5 (Ne.symm (Nat.succ_ne_self _))))
 go_wp2
 refine bodyPost_ret (v:=.tuple #[.agg B_.y,.agg B_.t,.int .i64 6]) ?_ rfl (Xho ?_)
 ·exact Xc6 Tryz.results11 rfl rfl rfl (Xbx h4b _ Tryz.underlying33 rfl Tryz.sizeMach) (Xbx h5b _ Tryz.underlying40 rfl Tryz.sizeTold)
 ·exact Xaw (Xaw HB.out HB.out.size t4 (by omega)) (by have:=t4.2;have:=HB.out.size;omega) t5 (by omega)
theorem hap_1k (hk:y.kind=1) (hdn:x.h.done=false):Calls Tryz.prog 11 #[.agg (M_.m x M 512 mc R 8 rc L n c),.agg #[.int .i64 y.kind,.int .i64 y.n,.int .i64 y.a.dev,.int .i64 y.a.at_,.int .i64 y.a.count,.bool y.a.wr,.slice AD nd cd]] w (HapC w Av (doA x y) (doE x y)):=by
 obtain⟨ys,gg,d,hA⟩:∃ ys gg d,Xee x.m x.h x.b=(ys,gg,d):=⟨_,_,_,rfl⟩
 have e:doE x y=0:=by rw[Xg7 h0,Xpd hk,if_neg (by rw[hdn];decide)]
 have e2:doA x y=(⟨ys,gg,d⟩,.no):=by unfold doA;rw[if_pos e,Xtk hk,hA]
 rw[e,e2]
 have HX:=Zh hdn
 have HA:=Zh hA
 clear e e2 hdn hA
 have HV:=Zh hv.lt
 have HD:=Zh hd
 have H0:=Zh h0
 have HK:=Zh hk
 clear hv hd h0 hk
 go_enter Tryz.func11,Tryz.ntmps11
 go_upto_region 3 with(fail)
 generalize hw0:((((w.alloc (.cells (M_.m x M 512 mc R 8 rc L n c) 33)).alloc (.cells #[.int .i64 y.kind,.int .i64 y.n,.int .i64 y.a.dev,.int .i64 y.a.at_,.int .i64 y.a.count,.bool y.a.wr,.slice AD nd cd] 37)).alloc (.cells B_.y 33)).alloc (.cells B_.t 40)).alloc (.cells B_.t 40)=w0
 have H2:=Zh (show Whl w0 (w.heap.size) 33 (M_.m x M 512 mc R 8 rc L n c) by rw[←hw0];exact Xab (Xab (Xab (Xab (Xac _ _ _ rfl) _) _) _) _)
 have H3:=Zh (show Whl w0 (w.heap.size+1) 37 #[.int .i64 y.kind,.int .i64 y.n,.int .i64 y.a.dev,.int .i64 y.a.at_,.int .i64 y.a.count,.bool y.a.wr,.slice AD nd cd] by rw[←hw0];exact Xab (Xab (Xab (Xac _ _ _ (by simp)) _) _) _)
 have H4:=Zh (show Whl w0 (w.heap.size+1+1) 33 B_.y by rw[←hw0];exact Xab (Xab (Xac _ _ _ (by simp)) _) _)
 have H5:=Zh (show Whl w0 (w.heap.size+1+1+1) 40 B_.t by rw[←hw0];exact Xab (Xac _ _ _ (by simp)) _)
 have H8:=Zh (show Whl w0 (w.heap.size+1+1+1+1) 40 B_.t by rw[←hw0];exact Xac _ _ _ (by simp))
 have HB:=Zh (show Below w.heap.size w w0 by rw[←hw0];(refine bl ?_;repeat' first|with_reducible(first|assumption|constructor)|((try simp)<;>omega)))
 have hz0a:w0.heap.size≤w.heap.size+5:=by rw[←hw0];simp
 have hz0b:w.heap.size+5≤w0.heap.size:=by rw[←hw0];simp
 clear hw0
 replace HV:=Zh (HV.out.since HB.out)
 replace HD:=Zh (Xaf HD.out HB.out)
 have fk:w0.cell? ⟨w.heap.size+1,0,none⟩=some (.int .i64 1):=(Xad H3.out 0).trans (by show some (Value.int .i64 y.kind)=_;rw[HK.out])
 have fd:w0.cell? ⟨w.heap.size,3,none⟩=some (.bool false):=(Xad H2.out 3).trans (by show some (Value.bool x.h.done)=_;rw[HX.out])
 go_wp2_with (first
  |(refine Xa1 rfl 24 (.tmp 30) rfl (w.heap.size) 0 _ _ [.slice M 512 mc] rfl H2.out rfl _ Tryz.underlying24 rfl Tryz.sizeMem ?_)
  |(refine Xa1 rfl 26 (.tmp 32) rfl (w.heap.size) 1 _ _ [.int .i64 x.h.at_,.slice R 8 rc,.bool x.h.done] rfl H2.out rfl _ Tryz.underlying26 rfl Tryz.sizeHart ?_)
  |(refine Xa1 rfl 31 (.tmp 34) rfl (w.heap.size) 4 _ _ [.int .i64 x.b.mode,.int .i64 x.b.base,.slice L n c,.int .i64 x.b.orders.page,.int .i64 x.b.orders.head,.int .i64 x.b.orders.tail,.bool x.b.stopped,.int .i64 x.b.fences,.int .i64 x.b.faults.page,.int .i64 x.b.faults.head,.int .i64 x.b.faults.tail,.bool x.b.lost] rfl H2.out rfl _ Tryz.underlying31 rfl Tryz.sizeBrg ?_))
 refine(Xl4 x M R L mc rc n c _ HV.out.hm HV.out.hr HV.out.hl H0.out HX.out ys gg d HA.out).mono ?_
 rintro e w1 ⟨A,da,P,dp,rfl,hm1,hr1,hl1,hb,nA,nP⟩
 have hz1:=hb.size
 have HZ:Hid (MachV w1 (fun q=>(Av q∧q<w.heap.size)∨w.heap.size+5≤q) ⟨ys,gg,d⟩ A 512 P 8 L n c):=Zh ⟨hm1,hr1,hl1,fun _ ad e=>(nA ad e).elim (fun h=>Or.inl (HV.out.am (by decide) ad h)) (fun h=>Or.inr (by omega)),fun _ ad e=>(nP ad e).elim (fun h=>Or.inl (HV.out.ar (by decide) ad h)) (fun h=>Or.inr (by omega)),fun h0 ad e=>Or.inl (HV.out.al h0 ad e)⟩
 replace H2:=Zh (Xaa H2.out hb)
 replace H3:=Zh (Xaa H3.out hb)
 replace H4:=Zh (Xaa H4.out hb)
 replace H5:=Zh (Xaa H5.out hb)
 replace H8:=Zh (Xaa H8.out hb)
 replace HB:=Zh (HB.out.trans (hb.mono HB.out.size))
 clear hb fk fd hm1 hr1 hl1 nA nP
 go_upto_region 23 with(first
  |(refine Xbl rfl 24 (.tmp 40) (.tmp 37) rfl (w.heap.size) 0 _ _ #[.slice A 512 da] (M_.m x A 512 da R 8 rc L n c) rfl rfl H2.out Tryz.sizeMem (by kernel_rfl) rfl (by kernel_rfl) ?_;intro w2 h2a t2)
  |(refine Xbl rfl 26 (.tmp 41) (.tmp 38) rfl (w.heap.size) 1 _ _ #[.int .i64 gg.at_,.slice P 8 dp,.bool gg.done] #[.slice A 512 da,.int .i64 gg.at_,.slice P 8 dp,.bool gg.done,.int .i64 x.b.mode,.int .i64 x.b.base,.slice L n c,.int .i64 x.b.orders.page,.int .i64 x.b.orders.head,.int .i64 x.b.orders.tail,.bool x.b.stopped,.int .i64 x.b.fences,.int .i64 x.b.faults.page,.int .i64 x.b.faults.head,.int .i64 x.b.faults.tail,.bool x.b.lost] rfl rfl h2a Tryz.sizeHart (by kernel_rfl) rfl (by kernel_rfl) ?_;intro w3 h2b t3)
  |(refine Xbl rfl 31 (.tmp 42) (.tmp 39) rfl (w.heap.size) 4 _ _ (B_.b d L n c) #[.slice A 512 da,.int .i64 gg.at_,.slice P 8 dp,.bool gg.done,.int .i64 d.mode,.int .i64 d.base,.slice L n c,.int .i64 d.orders.page,.int .i64 d.orders.head,.int .i64 d.orders.tail,.bool d.stopped,.int .i64 d.fences,.int .i64 d.faults.page,.int .i64 d.faults.head,.int .i64 d.faults.tail,.bool d.lost] rfl rfl h2b Tryz.sizeBrg (by kernel_rfl) rfl (by kernel_rfl) ?_;intro w4 h2c t4))
 have c4:=Xa4 (Xa4 t2.1 t3.1) t4.1
 have hw2:=t2.2
 have hw3:=t3.2
 have hw4:=t4.2
 have V2:=Zh h2c
 have V8:=Zh (Xa6 H8.out c4 (by omega))
 have V4:=Zh (Xa6 H4.out c4 (by omega))
 have V5:=Zh (Xa6 H5.out c4 (by omega))
 replace HB:=Zh (Xa8 HB.out HB.out.size c4 (fun q hq e=>by omega))
 replace HZ:=Zh (MachV.chg (x:=⟨ys,gg,d⟩) HZ.out c4 (fun q e hq=>by omega))
 have HT:Hid (TldV w4 (fun q=>w.heap.size+5≤q) .no none 0 none 0 0):=Zh (Xed _ _)
 clear h2c t2 t3 t4 c4 H2 H3 H4 H5 H8 hw2 hw3 hw4 h2a h2b
 have R4:Hid (w4.there (w.heap.size+1+1) 0 16):=Zh (Xc4 V4.out (of_decide_eq_true rfl))
 have R5:Hid (w4.there (w.heap.size+1+1+1) 0 4):=Zh (Xc4 V5.out (of_decide_eq_true rfl))
 refine Xfg (by kernel_rfl) _ _ _ _ _ rfl rfl rfl rfl rfl rfl (by kernel_rfl) (by kernel_rfl) (by kernel_rfl) (by kernel_rfl) (by kernel_rfl) (by kernel_rfl) (by kernel_rfl) (by kernel_rfl) (by kernel_rfl) rfl rfl rfl rfl rfl 33 40 (.tmp 2) (.tmp 8) (.tmp 4) (.tmp 5) (.tmp 122) (.tmp 123) rfl rfl rfl rfl (.int .i64 0) rfl w.heap.size (w.heap.size+1+1+1+1) (w.heap.size+1+1) (w.heap.size+1+1+1) #[.slice A 512 da,.int .i64 gg.at_,.slice P 8 dp,.bool gg.done,.int .i64 d.mode,.int .i64 d.base,.slice L n c,.int .i64 d.orders.page,.int .i64 d.orders.head,.int .i64 d.orders.tail,.bool d.stopped,.int .i64 d.fences,.int .i64 d.faults.page,.int .i64 d.faults.head,.int .i64 d.faults.tail,.bool d.lost] B_.t _ _ Tryz.underlying33 Tryz.underlying40 rfl rfl Tryz.sizeMach Tryz.sizeTold rfl rfl rfl rfl rfl rfl rfl rfl (Xfb V2.out) (Xfb V8.out) R4.out R5.out (by omega) (by omega) (by omega) (by omega) (fun _ _ _ _ h=>h) (fun _ _ _ _ h=>h) ?_
 generalize hw9:(w4.drew.setCells (w.heap.size+1+1) 0 ([.slice A 512 da,.int .i64 gg.at_,.slice P 8 dp,.bool gg.done,.int .i64 d.mode,.int .i64 d.base,.slice L n c,.int .i64 d.orders.page,.int .i64 d.orders.head,.int .i64 d.orders.tail,.bool d.stopped,.int .i64 d.fences,.int .i64 d.faults.page,.int .i64 d.faults.head,.int .i64 d.faults.tail,.bool d.lost]:List Value)).setCells (w.heap.size+1+1+1) 0 ([.bool false,.slice none 0 0,.int .i64 0,.slice none 0 0]:List Value)=w9
 have C9:=Zh (show Chg (fun q=>q=w.heap.size+1+1∨q=w.heap.size+1+1+1) w4 w9 by
  rw[←hw9]
  exact Xa4 (Xa4 (Xa5 (Xaq w4)) (Xbp (Xda _ _ 0 _) (fun q _ e=>Or.inl e))) (Xbp (Xda _ _ 0 _) (fun q _ e=>Or.inr e)))
 have hq1:=Zh (show w9.rangeAt (w.heap.size+1+1) 0 ([.slice A 512 da,.int .i64 gg.at_,.slice P 8 dp,.bool gg.done,.int .i64 d.mode,.int .i64 d.base,.slice L n c,.int .i64 d.orders.page,.int .i64 d.orders.head,.int .i64 d.orders.tail,.bool d.stopped,.int .i64 d.fences,.int .i64 d.faults.page,.int .i64 d.faults.head,.int .i64 d.faults.tail,.bool d.lost]:List Value) by
  rw[←hw9]
  exact World.rangeAt_setCells_apart (World.rangeAt_setCells_same w4.drew (w.heap.size+1+1) 0 ([.slice A 512 da,.int .i64 gg.at_,.slice P 8 dp,.bool gg.done,.int .i64 d.mode,.int .i64 d.base,.slice L n c,.int .i64 d.orders.page,.int .i64 d.orders.head,.int .i64 d.orders.tail,.bool d.stopped,.int .i64 d.fences,.int .i64 d.faults.page,.int .i64 d.faults.head,.int .i64 d.faults.tail,.bool d.lost]:List Value) R4.out) _ _ _ (Or.inl (by omega)))
 have hq2:=Zh (show w9.rangeAt (w.heap.size+1+1+1) 0 ([.bool false,.slice none 0 0,.int .i64 0,.slice none 0 0]:List Value) by
  rw[←hw9]
  exact World.rangeAt_setCells_same (w4.drew.setCells (w.heap.size+1+1) 0 ([.slice A 512 da,.int .i64 gg.at_,.slice P 8 dp,.bool gg.done,.int .i64 d.mode,.int .i64 d.base,.slice L n c,.int .i64 d.orders.page,.int .i64 d.orders.head,.int .i64 d.orders.tail,.bool d.stopped,.int .i64 d.fences,.int .i64 d.faults.page,.int .i64 d.faults.head,.int .i64 d.faults.tail,.bool d.lost]:List Value)) (w.heap.size+1+1+1) 0 ([.bool false,.slice none 0 0,.int .i64 0,.slice none 0 0]:List Value) (World.there_setCells (w:=w4.drew) R5.out _ _ _))
 clear hw9
 go_wp2
 refine bodyPost_ret (v:=.tuple #[.agg #[.slice A 512 da,.int .i64 gg.at_,.slice P 8 dp,.bool gg.done,.int .i64 d.mode,.int .i64 d.base,.slice L n c,.int .i64 d.orders.page,.int .i64 d.orders.head,.int .i64 d.orders.tail,.bool d.stopped,.int .i64 d.fences,.int .i64 d.faults.page,.int .i64 d.faults.head,.int .i64 d.faults.tail,.bool d.lost],.agg B_.t,.int .i64 0]) ?_ rfl ?_
 ·exact Xc6 Tryz.results11 rfl rfl rfl (run_loadVar_mid w9 _ 0 33 ([.slice A 512 da,.int .i64 gg.at_,.slice P 8 dp,.bool gg.done,.int .i64 d.mode,.int .i64 d.base,.slice L n c,.int .i64 d.orders.page,.int .i64 d.orders.head,.int .i64 d.orders.tail,.bool d.stopped,.int .i64 d.fences,.int .i64 d.faults.page,.int .i64 d.faults.head,.int .i64 d.faults.tail,.bool d.lost]:List Value) _ hq1.out Tryz.underlying33 rfl Tryz.sizeMach) (run_loadVar_mid w9 _ 0 40 ([.bool false,.slice none 0 0,.int .i64 0,.slice none 0 0]:List Value) _ hq2.out Tryz.underlying40 rfl Tryz.sizeTold)
 ·refine⟨_,_,_,_,_,_,_,_,_,_,_,_,_,_,_,rfl, ?_, ?_, ?_⟩
  ·exact MachV.av (x:=⟨ys,gg,d⟩) (MachV.chg (x:=⟨ys,gg,d⟩) HZ.out C9.out (fun q e hq=>by omega)) (fun q hq=>by rcases hq with hq|hq;exact Or.inl hq.1;exact Or.inr (by omega))
  ·exact TldV.av (t:=.no) (TldV.chg (t:=.no) HT.out C9.out (fun q e hq=>by omega)) (fun q hq=>by omega)
  ·exact Xa8 HB.out HB.out.size C9.out (fun q hq e=>by omega)
end
end
section
set_option maxRecDepth 100000
set_option maxHeartbeats 8000000
open Go.RowKit
set_option linter.unusedSimpArgs false
set_option linter.unusedVariables false
attribute [local go_sem ↓] Go.wp_at_zero Go.wp_at_succ
section
variable (x:Mch) (y:Hap) (M R L AD:Option Addr) (mc rc n c nd cd:Nat) (w:World) (Av:Nat→Prop) (hv:MachV w Av x M 512 R 8 L n c) (hd:Ints w w.heap.size AD nd y.a.data) (h0:ckM x=0)
include hv hd h0
theorem hap_2b (hk:y.kind=2) (hE0:Xe1 x.m x.b≠0):Calls Tryz.prog 11 #[.agg (M_.m x M 512 mc R 8 rc L n c),.agg #[.int .i64 y.kind,.int .i64 y.n,.int .i64 y.a.dev,.int .i64 y.a.at_,.int .i64 y.a.count,.bool y.a.wr,.slice AD nd cd]] w (HapC w Av (doA x y) (doE x y)):=by
 obtain⟨rb,hA⟩:∃ rb,Xep x.m x.b=rb:=⟨_,rfl⟩
 obtain⟨E,hE⟩:∃ E,Xe1 x.m x.b=E:=⟨_,rfl⟩
 rw[hE]at hE0
 have e:doE x y=E:=by rw[Xg7 h0,Xpc hk,hE]
 have e2:doA x y=(.no,.no):=by unfold doA;rw[if_neg (by rw[e];exact hE0)]
 rw[e,e2]
 have t0:(E != 0)=true:=by rw[bne_iff_ne];exact hE0
 have HE:=Zh hE
 have HA:=Zh hA
 clear e e2 hE0 hE hA
 have HV:=Zh hv.lt
 have HD:=Zh hd
 have H0:=Zh h0
 have HK:=Zh hk
 clear hv hd h0 hk
 go_enter Tryz.func11,Tryz.ntmps11
 go_upto_region 3 with(fail)
 generalize hw0:((((w.alloc (.cells (M_.m x M 512 mc R 8 rc L n c) 33)).alloc (.cells #[.int .i64 y.kind,.int .i64 y.n,.int .i64 y.a.dev,.int .i64 y.a.at_,.int .i64 y.a.count,.bool y.a.wr,.slice AD nd cd] 37)).alloc (.cells B_.y 33)).alloc (.cells B_.t 40)).alloc (.cells B_.t 40)=w0
 have H2:=Zh (show Whl w0 (w.heap.size) 33 (M_.m x M 512 mc R 8 rc L n c) by rw[←hw0];exact Xab (Xab (Xab (Xab (Xac _ _ _ rfl) _) _) _) _)
 have H3:=Zh (show Whl w0 (w.heap.size+1) 37 #[.int .i64 y.kind,.int .i64 y.n,.int .i64 y.a.dev,.int .i64 y.a.at_,.int .i64 y.a.count,.bool y.a.wr,.slice AD nd cd] by rw[←hw0];exact Xab (Xab (Xab (Xac _ _ _ (by simp)) _) _) _)
 have H4:=Zh (show Whl w0 (w.heap.size+1+1) 33 B_.y by rw[←hw0];exact Xab (Xab (Xac _ _ _ (by simp)) _) _)
 have H5:=Zh (show Whl w0 (w.heap.size+1+1+1) 40 B_.t by rw[←hw0];exact Xab (Xac _ _ _ (by simp)) _)
 have H8:=Zh (show Whl w0 (w.heap.size+1+1+1+1) 40 B_.t by rw[←hw0];exact Xac _ _ _ (by simp))
 have HB:=Zh (show Below w.heap.size w w0 by rw[←hw0];(refine bl ?_;repeat' first|with_reducible(first|assumption|constructor)|((try simp)<;>omega)))
 have hz0a:w0.heap.size≤w.heap.size+5:=by rw[←hw0];simp
 have hz0b:w.heap.size+5≤w0.heap.size:=by rw[←hw0];simp
 clear hw0
 replace HV:=Zh (HV.out.since HB.out)
 replace HD:=Zh (Xaf HD.out HB.out)
 have fk:w0.cell? ⟨w.heap.size+1,0,none⟩=some (.int .i64 2):=(Xad H3.out 0).trans (by show some (Value.int .i64 y.kind)=_;rw[HK.out])
 go_wp2_with (first
  |(refine Xa1 rfl 24 (.tmp 46) rfl (w.heap.size) 0 _ _ [.slice M 512 mc] rfl H2.out rfl _ Tryz.underlying24 rfl Tryz.sizeMem ?_)
  |(refine Xa1 rfl 31 (.tmp 48) rfl (w.heap.size) 4 _ _ [.int .i64 x.b.mode,.int .i64 x.b.base,.slice L n c,.int .i64 x.b.orders.page,.int .i64 x.b.orders.head,.int .i64 x.b.orders.tail,.bool x.b.stopped,.int .i64 x.b.fences,.int .i64 x.b.faults.page,.int .i64 x.b.faults.head,.int .i64 x.b.faults.tail,.bool x.b.lost] rfl H2.out rfl _ Tryz.underlying31 rfl Tryz.sizeBrg ?_))
 refine(Xka x.m M mc x.b L n c rb E _ HV.out.hm HV.out.hl (((Xct x).1 H0.out).1) (((Xct x).1 H0.out).2.2) HA.out HE.out).mono ?_
 rintro e w1 ⟨L',n',c',rfl,hl1,hb,hN⟩
 have hz1:=hb.size
 replace H2:=Zh (Xaa H2.out hb)
 replace H3:=Zh (Xaa H3.out hb)
 replace H4:=Zh (Xaa H4.out hb)
 replace H5:=Zh (Xaa H5.out hb)
 replace H8:=Zh (Xaa H8.out hb)
 replace HB:=Zh (HB.out.trans (hb.mono HB.out.size))
 clear hb fk
 go_upto_region 11 with(first
  |(refine Xb6 rfl 31 (.tmp 9) (.tmp 51) rfl _ _ _ _ rfl rfl (by rfl) (by rfl) Tryz.sizeBrg rfl (by rfl) ?_))
 generalize hwb:w1.alloc (.cells (B_.b rb L' n' c') 31)=w2
 have H9:=Zh (show Whl w2 w1.heap.size 31 (B_.b rb L' n' c') by rw[←hwb];exact Xac _ _ _ rfl)
 have hb:Below w1.heap.size w1 w2:=by rw[←hwb];exact Xag _ _
 have hz2:w1.heap.size+1≤w2.heap.size:=by rw[←hwb];simp
 replace H2:=Zh (Xaa H2.out hb)
 replace H3:=Zh (Xaa H3.out hb)
 replace H4:=Zh (Xaa H4.out hb)
 replace H5:=Zh (Xaa H5.out hb)
 replace H8:=Zh (Xaa H8.out hb)
 replace HB:=Zh (HB.out.trans (hb.mono HB.out.size))
 clear hb hwb
 go_wp2_with fail
 refine(Xji _ _).mono ?_
 rintro e wb ⟨rfl,hb⟩
 replace H2:=Zh (Xaa H2.out hb)
 replace H3:=Zh (Xaa H3.out hb)
 replace H4:=Zh (Xaa H4.out hb)
 replace H5:=Zh (Xaa H5.out hb)
 replace H8:=Zh (Xaa H8.out hb)
 replace HB:=Zh (HB.out.trans (hb.mono HB.out.size))
 clear hb
 go_wp2_with (first
  |(refine Xaj rfl 33 (.tmp 4) (.tmp 58) rfl (w.heap.size+1+1) _ _ B_.y rfl rfl H4.out Tryz.sizeMach rfl rfl ?_;intro w5 h4a t4;have h5a:=Xam H5.out t4 (Nat.succ_ne_self _))
  |(refine Xaj rfl 40 (.tmp 5) (.tmp 59) rfl (w.heap.size+1+1+1) _ _ B_.t rfl rfl h5a Tryz.sizeTold rfl rfl ?_;intro w6 h5b t5;have h4b:=Xam h4a t5 (Ne.symm (Nat.succ_ne_self _))))
 go_wp2
 refine bodyPost_ret (v:=.tuple #[.agg B_.y,.agg B_.t,.int .i64 E]) ?_ rfl (Xho ?_)
 ·exact Xc6 Tryz.results11 rfl rfl rfl (Xbx h4b _ Tryz.underlying33 rfl Tryz.sizeMach) (Xbx h5b _ Tryz.underlying40 rfl Tryz.sizeTold)
 ·exact Xaw (Xaw HB.out HB.out.size t4 (by omega)) (by have:=t4.2;have:=HB.out.size;omega) t5 (by omega)
theorem hap_2k (hk:y.kind=2) (hE:Xe1 x.m x.b=0):Calls Tryz.prog 11 #[.agg (M_.m x M 512 mc R 8 rc L n c),.agg #[.int .i64 y.kind,.int .i64 y.n,.int .i64 y.a.dev,.int .i64 y.a.at_,.int .i64 y.a.count,.bool y.a.wr,.slice AD nd cd]] w (HapC w Av (doA x y) (doE x y)):=by
 obtain⟨rb,hA⟩:∃ rb,Xep x.m x.b=rb:=⟨_,rfl⟩
 have e:doE x y=0:=by rw[Xg7 h0,Xpc hk,hE]
 have e2:doA x y=(⟨x.m,x.h,rb⟩,.no):=by
  have hA2:=hA
  unfold Xep at hA2
  rw[if_pos hE]at hA2
  unfold doA;rw[if_pos e,Xtj hk,hA2]
 have hle:=Xu9 hE
 rw[hA]at hle
 rw[e,e2]
 have HE:=Zh hE
 have HA:=Zh hA
 have HLE:=Zh hle
 clear e e2 hE hA hle
 have HV:=Zh hv.lt
 have HD:=Zh hd
 have H0:=Zh h0
 have HK:=Zh hk
 clear hv hd h0 hk
 go_enter Tryz.func11,Tryz.ntmps11
 go_upto_region 3 with(fail)
 generalize hw0:((((w.alloc (.cells (M_.m x M 512 mc R 8 rc L n c) 33)).alloc (.cells #[.int .i64 y.kind,.int .i64 y.n,.int .i64 y.a.dev,.int .i64 y.a.at_,.int .i64 y.a.count,.bool y.a.wr,.slice AD nd cd] 37)).alloc (.cells B_.y 33)).alloc (.cells B_.t 40)).alloc (.cells B_.t 40)=w0
 have H2:=Zh (show Whl w0 (w.heap.size) 33 (M_.m x M 512 mc R 8 rc L n c) by rw[←hw0];exact Xab (Xab (Xab (Xab (Xac _ _ _ rfl) _) _) _) _)
 have H3:=Zh (show Whl w0 (w.heap.size+1) 37 #[.int .i64 y.kind,.int .i64 y.n,.int .i64 y.a.dev,.int .i64 y.a.at_,.int .i64 y.a.count,.bool y.a.wr,.slice AD nd cd] by rw[←hw0];exact Xab (Xab (Xab (Xac _ _ _ (by simp)) _) _) _)
 have H4:=Zh (show Whl w0 (w.heap.size+1+1) 33 B_.y by rw[←hw0];exact Xab (Xab (Xac _ _ _ (by simp)) _) _)
 have H5:=Zh (show Whl w0 (w.heap.size+1+1+1) 40 B_.t by rw[←hw0];exact Xab (Xac _ _ _ (by simp)) _)
 have H8:=Zh (show Whl w0 (w.heap.size+1+1+1+1) 40 B_.t by rw[←hw0];exact Xac _ _ _ (by simp))
 have HB:=Zh (show Below w.heap.size w w0 by rw[←hw0];(refine bl ?_;repeat' first|with_reducible(first|assumption|constructor)|((try simp)<;>omega)))
 have hz0a:w0.heap.size≤w.heap.size+5:=by rw[←hw0];simp
 have hz0b:w.heap.size+5≤w0.heap.size:=by rw[←hw0];simp
 clear hw0
 replace HV:=Zh (HV.out.since HB.out)
 replace HD:=Zh (Xaf HD.out HB.out)
 have fk:w0.cell? ⟨w.heap.size+1,0,none⟩=some (.int .i64 2):=(Xad H3.out 0).trans (by show some (Value.int .i64 y.kind)=_;rw[HK.out])
 go_wp2_with (first
  |(refine Xa1 rfl 24 (.tmp 46) rfl (w.heap.size) 0 _ _ [.slice M 512 mc] rfl H2.out rfl _ Tryz.underlying24 rfl Tryz.sizeMem ?_)
  |(refine Xa1 rfl 31 (.tmp 48) rfl (w.heap.size) 4 _ _ [.int .i64 x.b.mode,.int .i64 x.b.base,.slice L n c,.int .i64 x.b.orders.page,.int .i64 x.b.orders.head,.int .i64 x.b.orders.tail,.bool x.b.stopped,.int .i64 x.b.fences,.int .i64 x.b.faults.page,.int .i64 x.b.faults.head,.int .i64 x.b.faults.tail,.bool x.b.lost] rfl H2.out rfl _ Tryz.underlying31 rfl Tryz.sizeBrg ?_))
 refine(Xka x.m M mc x.b L n c rb 0 _ HV.out.hm HV.out.hl (((Xct x).1 H0.out).1) (((Xct x).1 H0.out).2.2) HA.out HE.out).mono ?_
 rintro e w1 ⟨L',n',c',rfl,hl1,hb,hN⟩
 have hz1:=hb.size
 have HZ:Hid (MachV w1 (fun q=>(Av q∧q<w.heap.size)∨w.heap.size+5≤q) ⟨x.m,x.h,rb⟩ M 512 R 8 L' n' c'):=Zh ⟨Xaf HV.out.hm hb,Xaf HV.out.hr hb,hl1,fun h0 ad e=>Or.inl (HV.out.am h0 ad e),fun h0 ad e=>Or.inl (HV.out.ar h0 ad e),fun h0 ad e=>(hN ad e).elim (fun h=>Or.inl (HV.out.al (by have h1:=HV.out.hl.len;have h2:=hl1.len;have h3:=HLE.out;omega) ad h)) (fun h=>Or.inr (by omega))⟩
 replace H2:=Zh (Xaa H2.out hb)
 replace H3:=Zh (Xaa H3.out hb)
 replace H4:=Zh (Xaa H4.out hb)
 replace H5:=Zh (Xaa H5.out hb)
 replace H8:=Zh (Xaa H8.out hb)
 replace HB:=Zh (HB.out.trans (hb.mono HB.out.size))
 clear hb fk
 go_upto_region 11 with(first
  |(refine Xb6 rfl 31 (.tmp 9) (.tmp 51) rfl _ _ _ _ rfl rfl (by rfl) (by rfl) Tryz.sizeBrg rfl (by rfl) ?_))
 generalize hwb:w1.alloc (.cells (B_.b rb L' n' c') 31)=w2
 have H9:=Zh (show Whl w2 w1.heap.size 31 (B_.b rb L' n' c') by rw[←hwb];exact Xac _ _ _ rfl)
 have hb:Below w1.heap.size w1 w2:=by rw[←hwb];exact Xag _ _
 have hz2:w1.heap.size+1≤w2.heap.size:=by rw[←hwb];simp
 replace H2:=Zh (Xaa H2.out hb)
 replace H3:=Zh (Xaa H3.out hb)
 replace H4:=Zh (Xaa H4.out hb)
 replace H5:=Zh (Xaa H5.out hb)
 replace H8:=Zh (Xaa H8.out hb)
 replace HB:=Zh (HB.out.trans (hb.mono HB.out.size))
 replace HZ:=Zh (MachV.since (x:=⟨x.m,x.h,rb⟩) HZ.out hb)
 clear hb hwb hl1 hN
 go_upto_region 23 with(first
  |(refine Xao rfl 31 (.tmp 9) rfl (w1.heap.size) _ _ rfl H9.out _ Tryz.underlying31 rfl Tryz.sizeBrg ?_)
  |(refine Xbl rfl 31 (.tmp 62) (.tmp 61) rfl (w.heap.size) 4 _ _ (B_.b rb L' n' c') #[.slice M 512 mc,.int .i64 x.h.at_,.slice R 8 rc,.bool x.h.done,.int .i64 rb.mode,.int .i64 rb.base,.slice L' n' c',.int .i64 rb.orders.page,.int .i64 rb.orders.head,.int .i64 rb.orders.tail,.bool rb.stopped,.int .i64 rb.fences,.int .i64 rb.faults.page,.int .i64 rb.faults.head,.int .i64 rb.faults.tail,.bool rb.lost] rfl rfl H2.out Tryz.sizeBrg (by kernel_rfl) rfl (by kernel_rfl) ?_;intro w3 h2a t3))
 have c3:=t3.1
 have hw3:=t3.2
 have V2:=Zh h2a
 have V8:=Zh (Xa6 H8.out c3 (by omega))
 have V4:=Zh (Xa6 H4.out c3 (by omega))
 have V5:=Zh (Xa6 H5.out c3 (by omega))
 replace HB:=Zh (Xa8 HB.out HB.out.size c3 (fun q hq e=>by omega))
 replace HZ:=Zh (MachV.chg (x:=⟨x.m,x.h,rb⟩) HZ.out c3 (fun q e hq=>by omega))
 have HT:Hid (TldV w3 (fun q=>w.heap.size+5≤q) .no none 0 none 0 0):=Zh (Xed _ _)
 clear h2a t3 c3 hw3 H2 H3 H4 H5 H8 H9
 have R4:Hid (w3.there (w.heap.size+1+1) 0 16):=Zh (Xc4 V4.out (of_decide_eq_true rfl))
 have R5:Hid (w3.there (w.heap.size+1+1+1) 0 4):=Zh (Xc4 V5.out (of_decide_eq_true rfl))
 refine Xfg (by kernel_rfl) _ _ _ _ _ rfl rfl rfl rfl rfl rfl (by kernel_rfl) (by kernel_rfl) (by kernel_rfl) (by kernel_rfl) (by kernel_rfl) (by kernel_rfl) (by kernel_rfl) (by kernel_rfl) (by kernel_rfl) rfl rfl rfl rfl rfl 33 40 (.tmp 2) (.tmp 8) (.tmp 4) (.tmp 5) (.tmp 122) (.tmp 123) rfl rfl rfl rfl (.int .i64 0) rfl w.heap.size (w.heap.size+1+1+1+1) (w.heap.size+1+1) (w.heap.size+1+1+1) #[.slice M 512 mc,.int .i64 x.h.at_,.slice R 8 rc,.bool x.h.done,.int .i64 rb.mode,.int .i64 rb.base,.slice L' n' c',.int .i64 rb.orders.page,.int .i64 rb.orders.head,.int .i64 rb.orders.tail,.bool rb.stopped,.int .i64 rb.fences,.int .i64 rb.faults.page,.int .i64 rb.faults.head,.int .i64 rb.faults.tail,.bool rb.lost] B_.t _ _ Tryz.underlying33 Tryz.underlying40 rfl rfl Tryz.sizeMach Tryz.sizeTold rfl rfl rfl rfl rfl rfl rfl rfl (Xfb V2.out) (Xfb V8.out) R4.out R5.out (by omega) (by omega) (by omega) (by omega) (fun _ _ _ _ h=>h) (fun _ _ _ _ h=>h) ?_
 generalize hw9:(w3.drew.setCells (w.heap.size+1+1) 0 ([.slice M 512 mc,.int .i64 x.h.at_,.slice R 8 rc,.bool x.h.done,.int .i64 rb.mode,.int .i64 rb.base,.slice L' n' c',.int .i64 rb.orders.page,.int .i64 rb.orders.head,.int .i64 rb.orders.tail,.bool rb.stopped,.int .i64 rb.fences,.int .i64 rb.faults.page,.int .i64 rb.faults.head,.int .i64 rb.faults.tail,.bool rb.lost]:List Value)).setCells (w.heap.size+1+1+1) 0 ([.bool false,.slice none 0 0,.int .i64 0,.slice none 0 0]:List Value)=w9
 have C9:=Zh (show Chg (fun q=>q=w.heap.size+1+1∨q=w.heap.size+1+1+1) w3 w9 by
  rw[←hw9]
  exact Xa4 (Xa4 (Xa5 (Xaq w3)) (Xbp (Xda _ _ 0 _) (fun q _ e=>Or.inl e))) (Xbp (Xda _ _ 0 _) (fun q _ e=>Or.inr e)))
 have hq1:=Zh (show w9.rangeAt (w.heap.size+1+1) 0 ([.slice M 512 mc,.int .i64 x.h.at_,.slice R 8 rc,.bool x.h.done,.int .i64 rb.mode,.int .i64 rb.base,.slice L' n' c',.int .i64 rb.orders.page,.int .i64 rb.orders.head,.int .i64 rb.orders.tail,.bool rb.stopped,.int .i64 rb.fences,.int .i64 rb.faults.page,.int .i64 rb.faults.head,.int .i64 rb.faults.tail,.bool rb.lost]:List Value) by
  rw[←hw9]
  exact World.rangeAt_setCells_apart (World.rangeAt_setCells_same w3.drew (w.heap.size+1+1) 0 ([.slice M 512 mc,.int .i64 x.h.at_,.slice R 8 rc,.bool x.h.done,.int .i64 rb.mode,.int .i64 rb.base,.slice L' n' c',.int .i64 rb.orders.page,.int .i64 rb.orders.head,.int .i64 rb.orders.tail,.bool rb.stopped,.int .i64 rb.fences,.int .i64 rb.faults.page,.int .i64 rb.faults.head,.int .i64 rb.faults.tail,.bool rb.lost]:List Value) R4.out) _ _ _ (Or.inl (by omega)))
 have hq2:=Zh (show w9.rangeAt (w.heap.size+1+1+1) 0 ([.bool false,.slice none 0 0,.int .i64 0,.slice none 0 0]:List Value) by
  rw[←hw9]
  exact World.rangeAt_setCells_same (w3.drew.setCells (w.heap.size+1+1) 0 ([.slice M 512 mc,.int .i64 x.h.at_,.slice R 8 rc,.bool x.h.done,.int .i64 rb.mode,.int .i64 rb.base,.slice L' n' c',.int .i64 rb.orders.page,.int .i64 rb.orders.head,.int .i64 rb.orders.tail,.bool rb.stopped,.int .i64 rb.fences,.int .i64 rb.faults.page,.int .i64 rb.faults.head,.int .i64 rb.faults.tail,.bool rb.lost]:List Value)) (w.heap.size+1+1+1) 0 ([.bool false,.slice none 0 0,.int .i64 0,.slice none 0 0]:List Value) (World.there_setCells (w:=w3.drew) R5.out _ _ _))
 clear hw9
 go_wp2
 refine bodyPost_ret (v:=.tuple #[.agg #[.slice M 512 mc,.int .i64 x.h.at_,.slice R 8 rc,.bool x.h.done,.int .i64 rb.mode,.int .i64 rb.base,.slice L' n' c',.int .i64 rb.orders.page,.int .i64 rb.orders.head,.int .i64 rb.orders.tail,.bool rb.stopped,.int .i64 rb.fences,.int .i64 rb.faults.page,.int .i64 rb.faults.head,.int .i64 rb.faults.tail,.bool rb.lost],.agg B_.t,.int .i64 0]) ?_ rfl ?_
 ·exact Xc6 Tryz.results11 rfl rfl rfl (run_loadVar_mid w9 _ 0 33 ([.slice M 512 mc,.int .i64 x.h.at_,.slice R 8 rc,.bool x.h.done,.int .i64 rb.mode,.int .i64 rb.base,.slice L' n' c',.int .i64 rb.orders.page,.int .i64 rb.orders.head,.int .i64 rb.orders.tail,.bool rb.stopped,.int .i64 rb.fences,.int .i64 rb.faults.page,.int .i64 rb.faults.head,.int .i64 rb.faults.tail,.bool rb.lost]:List Value) _ hq1.out Tryz.underlying33 rfl Tryz.sizeMach) (run_loadVar_mid w9 _ 0 40 ([.bool false,.slice none 0 0,.int .i64 0,.slice none 0 0]:List Value) _ hq2.out Tryz.underlying40 rfl Tryz.sizeTold)
 ·refine⟨_,_,_,_,_,_,_,_,_,_,_,_,_,_,_,rfl, ?_, ?_, ?_⟩
  ·exact MachV.av (x:=⟨x.m,x.h,rb⟩) (MachV.chg (x:=⟨x.m,x.h,rb⟩) HZ.out C9.out (fun q e hq=>by omega)) (fun q hq=>by rcases hq with hq|hq;exact Or.inl hq.1;exact Or.inr (by omega))
  ·exact TldV.av (t:=.no) (TldV.chg (t:=.no) HT.out C9.out (fun q e hq=>by omega)) (fun q hq=>by omega)
  ·exact Xa8 HB.out HB.out.size C9.out (fun q hq e=>by omega)
end
end
section
set_option maxRecDepth 100000
set_option maxHeartbeats 8000000
open Go.RowKit
set_option linter.unusedSimpArgs false
set_option linter.unusedVariables false
attribute [local go_sem ↓] Go.wp_at_zero Go.wp_at_succ
section
variable (x:Mch) (y:Hap) (M R L AD:Option Addr) (mc rc n c nd cd:Nat) (w:World) (Av:Nat→Prop) (hv:MachV w Av x M 512 R 8 L n c) (hd:Ints w w.heap.size AD nd y.a.data) (h0:ckM x=0)
include hv hd h0
theorem hap_3b (hk:y.kind=3) (hE0:reqE y.a≠0):Calls Tryz.prog 11 #[.agg (M_.m x M 512 mc R 8 rc L n c),.agg #[.int .i64 y.kind,.int .i64 y.n,.int .i64 y.a.dev,.int .i64 y.a.at_,.int .i64 y.a.count,.bool y.a.wr,.slice AD nd cd]] w (HapC w Av (doA x y) (doE x y)):=by
 obtain⟨E,hE⟩:∃ E,reqE y.a=E:=⟨_,rfl⟩
 rw[hE]at hE0
 have e:doE x y=E:=by rw[Xg7 h0,Xpb hk,hE]
 have e2:doA x y=(.no,.no):=by unfold doA;rw[if_neg (by rw[e];exact hE0)]
 rw[e,e2]
 have t0:(E != 0)=true:=by rw[bne_iff_ne];exact hE0
 have HE:=Zh hE
 clear e e2 hE0 hE
 have HV:=Zh hv.lt
 have HD:=Zh hd
 have H0:=Zh h0
 have HK:=Zh hk
 clear hv hd h0 hk
 go_enter Tryz.func11,Tryz.ntmps11
 go_upto_region 3 with(fail)
 generalize hw0:((((w.alloc (.cells (M_.m x M 512 mc R 8 rc L n c) 33)).alloc (.cells #[.int .i64 y.kind,.int .i64 y.n,.int .i64 y.a.dev,.int .i64 y.a.at_,.int .i64 y.a.count,.bool y.a.wr,.slice AD nd cd] 37)).alloc (.cells B_.y 33)).alloc (.cells B_.t 40)).alloc (.cells B_.t 40)=w0
 have H2:=Zh (show Whl w0 (w.heap.size) 33 (M_.m x M 512 mc R 8 rc L n c) by rw[←hw0];exact Xab (Xab (Xab (Xab (Xac _ _ _ rfl) _) _) _) _)
 have H3:=Zh (show Whl w0 (w.heap.size+1) 37 #[.int .i64 y.kind,.int .i64 y.n,.int .i64 y.a.dev,.int .i64 y.a.at_,.int .i64 y.a.count,.bool y.a.wr,.slice AD nd cd] by rw[←hw0];exact Xab (Xab (Xab (Xac _ _ _ (by simp)) _) _) _)
 have H4:=Zh (show Whl w0 (w.heap.size+1+1) 33 B_.y by rw[←hw0];exact Xab (Xab (Xac _ _ _ (by simp)) _) _)
 have H5:=Zh (show Whl w0 (w.heap.size+1+1+1) 40 B_.t by rw[←hw0];exact Xab (Xac _ _ _ (by simp)) _)
 have H8:=Zh (show Whl w0 (w.heap.size+1+1+1+1) 40 B_.t by rw[←hw0];exact Xac _ _ _ (by simp))
 have HB:=Zh (show Below w.heap.size w w0 by rw[←hw0];(refine bl ?_;repeat' first|with_reducible(first|assumption|constructor)|((try simp)<;>omega)))
 have hz0a:w0.heap.size≤w.heap.size+5:=by rw[←hw0];simp
 have hz0b:w.heap.size+5≤w0.heap.size:=by rw[←hw0];simp
 clear hw0
 replace HV:=Zh (HV.out.since HB.out)
 replace HD:=Zh (Xaf HD.out HB.out)
 have fk:w0.cell? ⟨w.heap.size+1,0,none⟩=some (.int .i64 3):=(Xad H3.out 0).trans (by show some (Value.int .i64 y.kind)=_;rw[HK.out])
 go_wp2_with (refine Xa1 rfl 35 (.tmp 65) rfl (w.heap.size+1) 2 _ _ [.int .i64 y.a.dev,.int .i64 y.a.at_,.int .i64 y.a.count,.bool y.a.wr,.slice AD nd cd] rfl H3.out rfl _ Tryz.underlying35 rfl Tryz.sizeAsk ?_)
 refine(Xik y.a AD nd cd _ HD.out).mono ?_
 rw[HE.out]
 rintro e w1 ⟨rfl,hb⟩
 have hz1:=hb.size
 replace H2:=Zh (Xaa H2.out hb)
 replace H3:=Zh (Xaa H3.out hb)
 replace H4:=Zh (Xaa H4.out hb)
 replace H5:=Zh (Xaa H5.out hb)
 replace H8:=Zh (Xaa H8.out hb)
 replace HB:=Zh (HB.out.trans (hb.mono HB.out.size))
 clear hb fk
 go_wp2_with fail
 refine(Xji _ _).mono ?_
 rintro e wb ⟨rfl,hb⟩
 replace H2:=Zh (Xaa H2.out hb)
 replace H3:=Zh (Xaa H3.out hb)
 replace H4:=Zh (Xaa H4.out hb)
 replace H5:=Zh (Xaa H5.out hb)
 replace H8:=Zh (Xaa H8.out hb)
 replace HB:=Zh (HB.out.trans (hb.mono HB.out.size))
 clear hb
 go_wp2_with (first
  |(refine Xaj rfl 33 (.tmp 4) (.tmp 73) rfl (w.heap.size+1+1) _ _ B_.y rfl rfl H4.out Tryz.sizeMach rfl rfl ?_;intro w5 h4a t4;have h5a:=Xam H5.out t4 (Nat.succ_ne_self _))
  |(refine Xaj rfl 40 (.tmp 5) (.tmp 74) rfl (w.heap.size+1+1+1) _ _ B_.t rfl rfl h5a Tryz.sizeTold rfl rfl ?_;intro w6 h5b t5;have h4b:=Xam h4a t5 (Ne.symm (Nat.succ_ne_self _))))
 go_wp2
 refine bodyPost_ret (v:=.tuple #[.agg B_.y,.agg B_.t,.int .i64 E]) ?_ rfl (Xho ?_)
 ·exact Xc6 Tryz.results11 rfl rfl rfl (Xbx h4b _ Tryz.underlying33 rfl Tryz.sizeMach) (Xbx h5b _ Tryz.underlying40 rfl Tryz.sizeTold)
 ·exact Xaw (Xaw HB.out HB.out.size t4 (by omega)) (by have:=t4.2;have:=HB.out.size;omega) t5 (by omega)
theorem hap_3k (hk:y.kind=3) (hE:reqE y.a=0):Calls Tryz.prog 11 #[.agg (M_.m x M 512 mc R 8 rc L n c),.agg #[.int .i64 y.kind,.int .i64 y.n,.int .i64 y.a.dev,.int .i64 y.a.at_,.int .i64 y.a.count,.bool y.a.wr,.slice AD nd cd]] w (HapC w Av (doA x y) (doE x y)):=by
 obtain⟨ys,d,t,hA⟩:∃ ys d t,dmaM x.m x.b y.a=(ys,d,t):=⟨_,_,_,rfl⟩
 have e:doE x y=0:=by rw[Xg7 h0,Xpb hk,hE]
 have e2:doA x y=(⟨ys,x.h,d⟩,t):=by unfold doA;rw[if_pos e,Xti hk,hA]
 rw[e,e2]
 have HE:=Zh hE
 have HA:=Zh hA
 clear e e2 hE hA
 have HV:=Zh hv.lt
 have HD:=Zh hd
 have H0:=Zh h0
 have HK:=Zh hk
 clear hv hd h0 hk
 go_enter Tryz.func11,Tryz.ntmps11
 go_upto_region 3 with(fail)
 generalize hw0:((((w.alloc (.cells (M_.m x M 512 mc R 8 rc L n c) 33)).alloc (.cells #[.int .i64 y.kind,.int .i64 y.n,.int .i64 y.a.dev,.int .i64 y.a.at_,.int .i64 y.a.count,.bool y.a.wr,.slice AD nd cd] 37)).alloc (.cells B_.y 33)).alloc (.cells B_.t 40)).alloc (.cells B_.t 40)=w0
 have H2:=Zh (show Whl w0 (w.heap.size) 33 (M_.m x M 512 mc R 8 rc L n c) by rw[←hw0];exact Xab (Xab (Xab (Xab (Xac _ _ _ rfl) _) _) _) _)
 have H3:=Zh (show Whl w0 (w.heap.size+1) 37 #[.int .i64 y.kind,.int .i64 y.n,.int .i64 y.a.dev,.int .i64 y.a.at_,.int .i64 y.a.count,.bool y.a.wr,.slice AD nd cd] by rw[←hw0];exact Xab (Xab (Xab (Xac _ _ _ (by simp)) _) _) _)
 have H4:=Zh (show Whl w0 (w.heap.size+1+1) 33 B_.y by rw[←hw0];exact Xab (Xab (Xac _ _ _ (by simp)) _) _)
 have H5:=Zh (show Whl w0 (w.heap.size+1+1+1) 40 B_.t by rw[←hw0];exact Xab (Xac _ _ _ (by simp)) _)
 have H8:=Zh (show Whl w0 (w.heap.size+1+1+1+1) 40 B_.t by rw[←hw0];exact Xac _ _ _ (by simp))
 have HB:=Zh (show Below w.heap.size w w0 by rw[←hw0];(refine bl ?_;repeat' first|with_reducible(first|assumption|constructor)|((try simp)<;>omega)))
 have hz0a:w0.heap.size≤w.heap.size+5:=by rw[←hw0];simp
 have hz0b:w.heap.size+5≤w0.heap.size:=by rw[←hw0];simp
 clear hw0
 replace HV:=Zh (HV.out.since HB.out)
 replace HD:=Zh (Xaf HD.out HB.out)
 have fk:w0.cell? ⟨w.heap.size+1,0,none⟩=some (.int .i64 3):=(Xad H3.out 0).trans (by show some (Value.int .i64 y.kind)=_;rw[HK.out])
 go_wp2_with (refine Xa1 rfl 35 (.tmp 65) rfl (w.heap.size+1) 2 _ _ [.int .i64 y.a.dev,.int .i64 y.a.at_,.int .i64 y.a.count,.bool y.a.wr,.slice AD nd cd] rfl H3.out rfl _ Tryz.underlying35 rfl Tryz.sizeAsk ?_)
 refine(Xik y.a AD nd cd _ HD.out).mono ?_
 rw[HE.out]
 rintro e w1 ⟨rfl,hb⟩
 have hz1:=hb.size
 replace H2:=Zh (Xaa H2.out hb)
 replace H3:=Zh (Xaa H3.out hb)
 replace H4:=Zh (Xaa H4.out hb)
 replace H5:=Zh (Xaa H5.out hb)
 replace H8:=Zh (Xaa H8.out hb)
 replace HB:=Zh (HB.out.trans (hb.mono HB.out.size))
 replace HV:=Zh (HV.out.since hb)
 replace HD:=Zh (Xaf HD.out hb)
 clear hb fk
 go_wp2_with (first
  |(refine Xa1 rfl 24 (.tmp 77) rfl (w.heap.size) 0 _ _ [.slice M 512 mc] rfl H2.out rfl _ Tryz.underlying24 rfl Tryz.sizeMem ?_)
  |(refine Xa1 rfl 31 (.tmp 79) rfl (w.heap.size) 4 _ _ [.int .i64 x.b.mode,.int .i64 x.b.base,.slice L n c,.int .i64 x.b.orders.page,.int .i64 x.b.orders.head,.int .i64 x.b.orders.tail,.bool x.b.stopped,.int .i64 x.b.fences,.int .i64 x.b.faults.page,.int .i64 x.b.faults.head,.int .i64 x.b.faults.tail,.bool x.b.lost] rfl H2.out rfl _ Tryz.underlying31 rfl Tryz.sizeBrg ?_)
  |(refine Xa1 rfl 35 (.tmp 81) rfl (w.heap.size+1) 2 _ _ [.int .i64 y.a.dev,.int .i64 y.a.at_,.int .i64 y.a.count,.bool y.a.wr,.slice AD nd cd] rfl H3.out rfl _ Tryz.underlying35 rfl Tryz.sizeAsk ?_))
 refine(Xsc x.m M mc x.b L n c y.a AD nd cd _ HV.out.hm HV.out.hl HD.out (((Xct x).1 H0.out).1) (((Xct x).1 H0.out).2.2) HE.out (ys,d,t) HA.out).mono ?_
 rintro e w2 ⟨M',mc',L',n',c',D,dn,dc,T,tn,tc,rfl,hm2,hl2,hd2,ht2,hb,fM,fL,fD,fT⟩
 have hz2:=hb.size
 have HZ:Hid (MachV w2 (fun q=>(Av q∧q<w.heap.size)∨w.heap.size+5≤q) ⟨ys,x.h,d⟩ M' 512 R 8 L' n' c'):=Zh ⟨hm2,Xaf HV.out.hr hb,hl2,fun _ ad e=>Or.inr (by have:=fM ad e;omega),fun h0 ad e=>Or.inl (HV.out.ar h0 ad e),fun h0 ad e=>by
  rcases fL with⟨e1,e2⟩|h
  ·subst e1 e2;exact Or.inl (HV.out.al h0 ad e)
  ·exact Or.inr (by have:=h ad e;omega)⟩
 have HT:Hid (TldV w2 (fun q=>w.heap.size+5≤q) t D dn T tn tc):=Zh ⟨hd2,ht2,fun _ ad e=>by have:=fD ad e;show _≤_;omega,fun _ ad e=>by have:=fT ad e;show _≤_;omega⟩
 replace H2:=Zh (Xaa H2.out hb)
 replace H3:=Zh (Xaa H3.out hb)
 replace H4:=Zh (Xaa H4.out hb)
 replace H5:=Zh (Xaa H5.out hb)
 replace H8:=Zh (Xaa H8.out hb)
 replace HB:=Zh (HB.out.trans (hb.mono HB.out.size))
 clear hb hm2 hl2 hd2 ht2 fM fL fD fT
 go_upto_region 23 with(first
  |(refine Xbl rfl 24 (.tmp 87) (.tmp 84) rfl (w.heap.size) 0 _ _ #[.slice M' 512 mc'] (M_.m x M' 512 mc' R 8 rc L n c) rfl rfl H2.out Tryz.sizeMem (by kernel_rfl) rfl (by kernel_rfl) ?_;intro w3 h2a t3;have h8a:=Xam H8.out t3 (by omega))
  |(refine Xbl rfl 31 (.tmp 88) (.tmp 85) rfl (w.heap.size) 4 _ _ (B_.b d L' n' c') #[.slice M' 512 mc',.int .i64 x.h.at_,.slice R 8 rc,.bool x.h.done,.int .i64 d.mode,.int .i64 d.base,.slice L' n' c',.int .i64 d.orders.page,.int .i64 d.orders.head,.int .i64 d.orders.tail,.bool d.stopped,.int .i64 d.fences,.int .i64 d.faults.page,.int .i64 d.faults.head,.int .i64 d.faults.tail,.bool d.lost] rfl rfl h2a Tryz.sizeBrg (by kernel_rfl) rfl (by kernel_rfl) ?_;intro w4 h2b t4;have h8b:=Xam h8a t4 (by omega))
  |(refine Xaj rfl 40 (.tmp 8) (.tmp 86) rfl (w.heap.size+1+1+1+1) _ _ #[.bool t.done,.slice D dn dc,.int .i64 t.fault,.slice T tn tc] rfl rfl h8b Tryz.sizeTold rfl rfl ?_;intro w5 h8 t5))
 have c5:Chg (fun q=>q=w.heap.size∨q=w.heap.size+1+1+1+1) w2 w5:=Xa4 (Xbp (Xa4 t3.1 t4.1) (fun q _ e=>Or.inl e)) (Xbp t5.1 (fun q _ e=>Or.inr e))
 have V2:=Zh (Xam h2b t5 (by omega))
 have V8:=Zh h8
 have V4:=Zh (Xa6 H4.out c5 (by omega))
 have V5:=Zh (Xa6 H5.out c5 (by omega))
 replace HB:=Zh (Xa8 HB.out HB.out.size c5 (fun q hq e=>by omega))
 replace HZ:=Zh (MachV.chg (x:=⟨ys,x.h,d⟩) HZ.out c5 (fun q e hq=>by omega))
 replace HT:=Zh (TldV.chg (t:=t) HT.out c5 (fun q e hq=>by omega))
 clear h2a h2b h8 h8a h8b t3 t4 t5 c5 H2 H3 H4 H5 H8
 have R4:Hid (w5.there (w.heap.size+1+1) 0 16):=Zh (Xc4 V4.out (of_decide_eq_true rfl))
 have R5:Hid (w5.there (w.heap.size+1+1+1) 0 4):=Zh (Xc4 V5.out (of_decide_eq_true rfl))
 refine Xfg (by kernel_rfl) _ _ _ _ _ rfl rfl rfl rfl rfl rfl (by kernel_rfl) (by kernel_rfl) (by kernel_rfl) (by kernel_rfl) (by kernel_rfl) (by kernel_rfl) (by kernel_rfl) (by kernel_rfl) (by kernel_rfl) rfl rfl rfl rfl rfl 33 40 (.tmp 2) (.tmp 8) (.tmp 4) (.tmp 5) (.tmp 122) (.tmp 123) rfl rfl rfl rfl (.int .i64 0) rfl w.heap.size (w.heap.size+1+1+1+1) (w.heap.size+1+1) (w.heap.size+1+1+1) #[.slice M' 512 mc',.int .i64 x.h.at_,.slice R 8 rc,.bool x.h.done,.int .i64 d.mode,.int .i64 d.base,.slice L' n' c',.int .i64 d.orders.page,.int .i64 d.orders.head,.int .i64 d.orders.tail,.bool d.stopped,.int .i64 d.fences,.int .i64 d.faults.page,.int .i64 d.faults.head,.int .i64 d.faults.tail,.bool d.lost] #[.bool t.done,.slice D dn dc,.int .i64 t.fault,.slice T tn tc] _ _ Tryz.underlying33 Tryz.underlying40 rfl rfl Tryz.sizeMach Tryz.sizeTold rfl rfl rfl rfl rfl rfl rfl rfl (Xfb V2.out) (Xfb V8.out) R4.out R5.out (by omega) (by omega) (by omega) (by omega) (fun _ _ _ _ h=>h) (fun _ _ _ _ h=>h) ?_
 generalize hw9:(w5.drew.setCells (w.heap.size+1+1) 0 ([.slice M' 512 mc',.int .i64 x.h.at_,.slice R 8 rc,.bool x.h.done,.int .i64 d.mode,.int .i64 d.base,.slice L' n' c',.int .i64 d.orders.page,.int .i64 d.orders.head,.int .i64 d.orders.tail,.bool d.stopped,.int .i64 d.fences,.int .i64 d.faults.page,.int .i64 d.faults.head,.int .i64 d.faults.tail,.bool d.lost]:List Value)).setCells (w.heap.size+1+1+1) 0 ([.bool t.done,.slice D dn dc,.int .i64 t.fault,.slice T tn tc]:List Value)=w9
 have C9:=Zh (show Chg (fun q=>q=w.heap.size+1+1∨q=w.heap.size+1+1+1) w5 w9 by
  rw[←hw9]
  exact Xa4 (Xa4 (Xa5 (Xaq w5)) (Xbp (Xda _ _ 0 _) (fun q _ e=>Or.inl e))) (Xbp (Xda _ _ 0 _) (fun q _ e=>Or.inr e)))
 have hq1:=Zh (show w9.rangeAt (w.heap.size+1+1) 0 ([.slice M' 512 mc',.int .i64 x.h.at_,.slice R 8 rc,.bool x.h.done,.int .i64 d.mode,.int .i64 d.base,.slice L' n' c',.int .i64 d.orders.page,.int .i64 d.orders.head,.int .i64 d.orders.tail,.bool d.stopped,.int .i64 d.fences,.int .i64 d.faults.page,.int .i64 d.faults.head,.int .i64 d.faults.tail,.bool d.lost]:List Value) by
  rw[←hw9]
  exact World.rangeAt_setCells_apart (World.rangeAt_setCells_same w5.drew (w.heap.size+1+1) 0 ([.slice M' 512 mc',.int .i64 x.h.at_,.slice R 8 rc,.bool x.h.done,.int .i64 d.mode,.int .i64 d.base,.slice L' n' c',.int .i64 d.orders.page,.int .i64 d.orders.head,.int .i64 d.orders.tail,.bool d.stopped,.int .i64 d.fences,.int .i64 d.faults.page,.int .i64 d.faults.head,.int .i64 d.faults.tail,.bool d.lost]:List Value) R4.out) _ _ _ (Or.inl (by omega)))
 have hq2:=Zh (show w9.rangeAt (w.heap.size+1+1+1) 0 ([.bool t.done,.slice D dn dc,.int .i64 t.fault,.slice T tn tc]:List Value) by
  rw[←hw9]
  exact World.rangeAt_setCells_same (w5.drew.setCells (w.heap.size+1+1) 0 ([.slice M' 512 mc',.int .i64 x.h.at_,.slice R 8 rc,.bool x.h.done,.int .i64 d.mode,.int .i64 d.base,.slice L' n' c',.int .i64 d.orders.page,.int .i64 d.orders.head,.int .i64 d.orders.tail,.bool d.stopped,.int .i64 d.fences,.int .i64 d.faults.page,.int .i64 d.faults.head,.int .i64 d.faults.tail,.bool d.lost]:List Value)) (w.heap.size+1+1+1) 0 ([.bool t.done,.slice D dn dc,.int .i64 t.fault,.slice T tn tc]:List Value) (World.there_setCells (w:=w5.drew) R5.out _ _ _))
 clear hw9
 go_wp2
 refine bodyPost_ret (v:=.tuple #[.agg #[.slice M' 512 mc',.int .i64 x.h.at_,.slice R 8 rc,.bool x.h.done,.int .i64 d.mode,.int .i64 d.base,.slice L' n' c',.int .i64 d.orders.page,.int .i64 d.orders.head,.int .i64 d.orders.tail,.bool d.stopped,.int .i64 d.fences,.int .i64 d.faults.page,.int .i64 d.faults.head,.int .i64 d.faults.tail,.bool d.lost],.agg #[.bool t.done,.slice D dn dc,.int .i64 t.fault,.slice T tn tc],.int .i64 0]) ?_ rfl ?_
 ·exact Xc6 Tryz.results11 rfl rfl rfl (run_loadVar_mid w9 _ 0 33 ([.slice M' 512 mc',.int .i64 x.h.at_,.slice R 8 rc,.bool x.h.done,.int .i64 d.mode,.int .i64 d.base,.slice L' n' c',.int .i64 d.orders.page,.int .i64 d.orders.head,.int .i64 d.orders.tail,.bool d.stopped,.int .i64 d.fences,.int .i64 d.faults.page,.int .i64 d.faults.head,.int .i64 d.faults.tail,.bool d.lost]:List Value) _ hq1.out Tryz.underlying33 rfl Tryz.sizeMach) (run_loadVar_mid w9 _ 0 40 ([.bool t.done,.slice D dn dc,.int .i64 t.fault,.slice T tn tc]:List Value) _ hq2.out Tryz.underlying40 rfl Tryz.sizeTold)
 ·refine⟨_,_,_,_,_,_,_,_,_,_,_,_,_,_,_,rfl, ?_, ?_, ?_⟩
  ·exact MachV.av (x:=⟨ys,x.h,d⟩) (MachV.chg (x:=⟨ys,x.h,d⟩) HZ.out C9.out (fun q e hq=>by omega)) (fun q hq=>by rcases hq with hq|hq;exact Or.inl hq.1;exact Or.inr (by omega))
  ·exact TldV.av (t:=t) (TldV.chg (t:=t) HT.out C9.out (fun q e hq=>by omega)) (fun q hq=>by omega)
  ·exact Xa8 HB.out HB.out.size C9.out (fun q hq e=>by omega)
end
end
section
set_option maxRecDepth 100000
set_option maxHeartbeats 8000000
open Go.RowKit
set_option linter.unusedSimpArgs false
set_option linter.unusedVariables false
attribute [local go_sem ↓] Go.wp_at_zero Go.wp_at_succ
theorem Lines.dropH {w:World} {B n c:Nat} {A:Option Addr} {ls:List Line} (h:Lines w B A n c ls) {j:Nat} (hj:j≤n):Lines w B (if c=j then A else A.map (·.add (j * 5))) (n - j) (c - j) (ls.drop j):=by
 obtain⟨h1,h2,h3,h4,h5⟩:=h
 refine⟨by simp[h1],by omega,by omega,fun e=>?_,fun hl=>?_⟩
 ·split at e
  ·omega
  ·have:=h4 (by simpa using e);omega
 ·have hp:0<(Xav ls).length:=by
   rw[Xbt]at *
   simp at hl ⊢
   omega
  obtain⟨b,off,e,hb,hc⟩:=h5 hp
  have hcj:¬c=j:=by
   rw[Xbt]at hl;simp at hl;omega
  rw[if_neg hcj,e]
  refine⟨b,off+j * 5,by simp[Addr.add],hb,fun m v hv=>?_⟩
  rw[←Xfw,List.getElem?_drop]at hv
  rw[Nat.add_assoc]
  exact hc _ _ hv
theorem Xrr (A:Option Addr) (n c j:Nat) (hj:j≤n) (hc:n≤c) :
  ∃ A':Option Addr,(∀ w,(Instr.slice 27 (.slice A n c) (some (.int .i64 (j:Int))) none none).run Tryz.prog w=.ok (.slice A' (n - j) (c - j)) w)∧∀ w B ls,Lines w B A n c ls→Lines w B A' (n - j) (c - j) (ls.drop j):=by
 refine⟨if c=j then A else A.map (·.add (j * 5)),fun w=>?_,fun w B ls h=>h.dropH hj⟩
 have h1:(0:Int)≤(j:Int):=by omega
 have h2:(j:Int)≤(n:Int):=by omega
 simp[go_sem,h1,h2]
theorem Xrt (A:Option Addr) (n c k:Nat) (hk:k≤c) (hc:n≤c) :
  ∀ w,(Instr.slice 27 (.slice A n c) none (some (.int .i64 (k:Int))) none).run Tryz.prog w=.ok (.slice A k c) w:=by
 intro w
 have h1:(0:Int)≤(k:Int):=by omega
 have h2:(k:Int)≤(c:Int):=by omega
 simp[go_sem,h1,h2]
section
variable (x:Mch) (y:Hap) (M R L AD:Option Addr) (mc rc n c nd cd:Nat) (w:World) (Av:Nat→Prop) (hv:MachV w Av x M 512 R 8 L n c) (hd:Ints w w.heap.size AD nd y.a.data) (h0:ckM x=0)
include hv hd h0
theorem hap_4b (hk:y.kind=4) (hn:¬(0≤y.n∧y.n<x.b.cache.length)):Calls Tryz.prog 11 #[.agg (M_.m x M 512 mc R 8 rc L n c),.agg #[.int .i64 y.kind,.int .i64 y.n,.int .i64 y.a.dev,.int .i64 y.a.at_,.int .i64 y.a.count,.bool y.a.wr,.slice AD nd cd]] w (HapC w Av (doA x y) (doE x y)):=by
 have e:doE x y=4:=by rw[Xg7 h0,Xpa hk,if_neg hn]
 have e2:doA x y=(.no,.no):=by unfold doA;rw[if_neg (by rw[e];decide)]
 have hin:inB y.n 0 ((n:Int) - 1)=false:=by
  have:=hv.hl.len
  rw[Bool.eq_false_iff]
  intro h
  have:=Xtb h
  omega
 rw[e,e2]
 clear e e2 hn
 have HV:=Zh hv.lt
 have HD:=Zh hd
 have H0:=Zh h0
 have HK:=Zh hk
 clear hv hd h0 hk
 go_enter Tryz.func11,Tryz.ntmps11
 go_upto_region 3 with(fail)
 generalize hw0:((((w.alloc (.cells (M_.m x M 512 mc R 8 rc L n c) 33)).alloc (.cells #[.int .i64 y.kind,.int .i64 y.n,.int .i64 y.a.dev,.int .i64 y.a.at_,.int .i64 y.a.count,.bool y.a.wr,.slice AD nd cd] 37)).alloc (.cells B_.y 33)).alloc (.cells B_.t 40)).alloc (.cells B_.t 40)=w0
 have H2:=Zh (show Whl w0 (w.heap.size) 33 (M_.m x M 512 mc R 8 rc L n c) by rw[←hw0];exact Xab (Xab (Xab (Xab (Xac _ _ _ rfl) _) _) _) _)
 have H3:=Zh (show Whl w0 (w.heap.size+1) 37 #[.int .i64 y.kind,.int .i64 y.n,.int .i64 y.a.dev,.int .i64 y.a.at_,.int .i64 y.a.count,.bool y.a.wr,.slice AD nd cd] by rw[←hw0];exact Xab (Xab (Xab (Xac _ _ _ (by simp)) _) _) _)
 have H4:=Zh (show Whl w0 (w.heap.size+1+1) 33 B_.y by rw[←hw0];exact Xab (Xab (Xac _ _ _ (by simp)) _) _)
 have H5:=Zh (show Whl w0 (w.heap.size+1+1+1) 40 B_.t by rw[←hw0];exact Xab (Xac _ _ _ (by simp)) _)
 have H8:=Zh (show Whl w0 (w.heap.size+1+1+1+1) 40 B_.t by rw[←hw0];exact Xac _ _ _ (by simp))
 have HB:=Zh (show Below w.heap.size w w0 by rw[←hw0];(refine bl ?_;repeat' first|with_reducible(first|assumption|constructor)|((try simp)<;>omega)))
 have hz0a:w0.heap.size≤w.heap.size+5:=by rw[←hw0];simp
 have hz0b:w.heap.size+5≤w0.heap.size:=by rw[←hw0];simp
 clear hw0
 replace HV:=Zh (HV.out.since HB.out)
 replace HD:=Zh (Xaf HD.out HB.out)
 have fk:w0.cell? ⟨w.heap.size+1,0,none⟩=some (.int .i64 4):=(Xad H3.out 0).trans (by show some (Value.int .i64 y.kind)=_;rw[HK.out])
 have fc:w0.cell? ⟨w.heap.size,6,none⟩=some (.slice L n c):=Xad H2.out 6
 have HN:=Zh (show n≤1000 by have:=((Xcm _).1 ((Xbn x.b).1 (((Xct x).1 H0.out).2.2)).2.1).1;have:=HV.out.hl.len;omega)
 have hwn:IntKind.i64.wrap ((n:Int) - 1)=(n:Int) - 1:=IntWalk.i64_in _ (by have:=HN.out;omega)
 have fn:w0.cell? ⟨w.heap.size+1,1,none⟩=some (.int .i64 y.n):=Xad H3.out 1
 go_wp2_with (first|(go_at_call 38;refine(Xbc _ _ _ _).mono ?_;rintro e w' ⟨rfl,rfl⟩))
 refine(Xji _ _).mono ?_
 rintro e wb ⟨rfl,hb⟩
 replace H2:=Zh (Xaa H2.out hb)
 replace H3:=Zh (Xaa H3.out hb)
 replace H4:=Zh (Xaa H4.out hb)
 replace H5:=Zh (Xaa H5.out hb)
 replace H8:=Zh (Xaa H8.out hb)
 replace HB:=Zh (HB.out.trans (hb.mono HB.out.size))
 clear hb fk fc fn
 go_wp2_with (first
  |(refine Xaj rfl 33 (.tmp 4) (.tmp 102) rfl (w.heap.size+1+1) _ _ B_.y rfl rfl H4.out Tryz.sizeMach rfl rfl ?_;intro w5 h4a t4;have h5a:=Xam H5.out t4 (Nat.succ_ne_self _))
  |(refine Xaj rfl 40 (.tmp 5) (.tmp 103) rfl (w.heap.size+1+1+1) _ _ B_.t rfl rfl h5a Tryz.sizeTold rfl rfl ?_;intro w6 h5b t5;have h4b:=Xam h4a t5 (Ne.symm (Nat.succ_ne_self _))))
 go_wp2
 refine bodyPost_ret (v:=.tuple #[.agg B_.y,.agg B_.t,.int .i64 4]) ?_ rfl (Xho ?_)
 ·exact Xc6 Tryz.results11 rfl rfl rfl (Xbx h4b _ Tryz.underlying33 rfl Tryz.sizeMach) (Xbx h5b _ Tryz.underlying40 rfl Tryz.sizeTold)
 ·exact Xaw (Xaw HB.out HB.out.size t4 (by omega)) (by have:=t4.2;have:=HB.out.size;omega) t5 (by omega)
theorem hap_4k (hk:y.kind=4) (k:Nat) (hn:y.n=(k:Int)) (hkl:k<x.b.cache.length):Calls Tryz.prog 11 #[.agg (M_.m x M 512 mc R 8 rc L n c),.agg #[.int .i64 y.kind,.int .i64 y.n,.int .i64 y.a.dev,.int .i64 y.a.at_,.int .i64 y.a.count,.bool y.a.wr,.slice AD nd cd]] w (HapC w Av (doA x y) (doE x y)):=by
 have e:doE x y=0:=by rw[Xg7 h0,Xpa hk,hn,if_pos (by omega)]
 have e2:doA x y=(⟨x.m,x.h,({ x.b with cache:=x.b.cache.take k ++ x.b.cache.drop (k+1) }:Brg)⟩,.no):=by
  unfold doA
  rw[if_pos e,Xth hk,hn]
  simp[List.eraseIdx_eq_take_drop_succ]
 have hln:=hv.hl.len
 have hcp:=hv.hl.cap
 have hkn:k<n:=by omega
 have hin:inB (k:Int) 0 ((n:Int) - 1)=true:=by simp[inB];omega
 obtain⟨L2,hs2,hL2⟩:=Xrr L n c (k+1) (by omega) hcp.1
 have hs1:=Xrt L n c k (by omega) hcp.1
 rw[show(((k+1:Nat)):Int)=(k:Int)+1 by omega]at hs2
 rw[e,e2]
 have HY:=Zh hn
 have HL2:=Zh hL2
 have hwk:IntKind.i64.wrap ((k:Int)+1)=(k:Int)+1:=IntWalk.i64_in _ (by have h1:=((Xcm _).1 ((Xbn x.b).1 (((Xct x).1 h0).2.2)).2.1).1;omega)
 clear e e2 hn hL2 hln hcp hkl
 have HV:=Zh hv.lt
 have HD:=Zh hd
 have H0:=Zh h0
 have HK:=Zh hk
 clear hv hd h0 hk
 go_enter Tryz.func11,Tryz.ntmps11
 go_upto_region 3 with(fail)
 generalize hw0:((((w.alloc (.cells (M_.m x M 512 mc R 8 rc L n c) 33)).alloc (.cells #[.int .i64 y.kind,.int .i64 y.n,.int .i64 y.a.dev,.int .i64 y.a.at_,.int .i64 y.a.count,.bool y.a.wr,.slice AD nd cd] 37)).alloc (.cells B_.y 33)).alloc (.cells B_.t 40)).alloc (.cells B_.t 40)=w0
 have H2:=Zh (show Whl w0 (w.heap.size) 33 (M_.m x M 512 mc R 8 rc L n c) by rw[←hw0];exact Xab (Xab (Xab (Xab (Xac _ _ _ rfl) _) _) _) _)
 have H3:=Zh (show Whl w0 (w.heap.size+1) 37 #[.int .i64 y.kind,.int .i64 y.n,.int .i64 y.a.dev,.int .i64 y.a.at_,.int .i64 y.a.count,.bool y.a.wr,.slice AD nd cd] by rw[←hw0];exact Xab (Xab (Xab (Xac _ _ _ (by simp)) _) _) _)
 have H4:=Zh (show Whl w0 (w.heap.size+1+1) 33 B_.y by rw[←hw0];exact Xab (Xab (Xac _ _ _ (by simp)) _) _)
 have H5:=Zh (show Whl w0 (w.heap.size+1+1+1) 40 B_.t by rw[←hw0];exact Xab (Xac _ _ _ (by simp)) _)
 have H8:=Zh (show Whl w0 (w.heap.size+1+1+1+1) 40 B_.t by rw[←hw0];exact Xac _ _ _ (by simp))
 have HB:=Zh (show Below w.heap.size w w0 by rw[←hw0];(refine bl ?_;repeat' first|with_reducible(first|assumption|constructor)|((try simp)<;>omega)))
 have hz0a:w0.heap.size≤w.heap.size+5:=by rw[←hw0];simp
 have hz0b:w.heap.size+5≤w0.heap.size:=by rw[←hw0];simp
 clear hw0
 replace HV:=Zh (HV.out.since HB.out)
 replace HD:=Zh (Xaf HD.out HB.out)
 have fk:w0.cell? ⟨w.heap.size+1,0,none⟩=some (.int .i64 4):=(Xad H3.out 0).trans (by show some (Value.int .i64 y.kind)=_;rw[HK.out])
 have fc:w0.cell? ⟨w.heap.size,6,none⟩=some (.slice L n c):=Xad H2.out 6
 have HN:=Zh (show n≤1000 by have:=((Xcm _).1 ((Xbn x.b).1 (((Xct x).1 H0.out).2.2)).2.1).1;have:=HV.out.hl.len;omega)
 have hwn:IntKind.i64.wrap ((n:Int) - 1)=(n:Int) - 1:=IntWalk.i64_in _ (by have:=HN.out;omega)
 have fn:w0.cell? ⟨w.heap.size+1,1,none⟩=some (.int .i64 (k:Int)):=(Xad H3.out 1).trans (by show some (Value.int .i64 y.n)=_;rw[HY.out])
 go_upto_region 22 with(first|(go_at_call 38;refine(Xbc _ _ _ _).mono ?_;rintro e w' ⟨rfl,rfl⟩))
 clear fk hin hwn
 have hlb:w.heap.size+1<w0.heap.size:=by omega
 have hla:w.heap.size<w0.heap.size:=by omega
 have Q1:=Lines.take HV.out.hl (k:=k) (by omega)
 have Q2:=HL2.out _ _ _ HV.out.hl
 go_still_tail 13,(by kernel_rfl)
 change wpList _ _ _ _ _ w0.drew
 generalize hdw:w0.drew=w2
 have hbd:Below w0.heap.size w0 w2:=by rw[←hdw];exact(Below.refl _ _).drew
 have hz2a:w2.heap.size≤w0.heap.size:=by rw[←hdw];exact Nat.le_refl _
 have hz2b:w0.heap.size≤w2.heap.size:=hbd.size
 have BW:=Zh (fun o=>show Below w0.heap.size w0 (w2.alloc o)from hbd.alloc hz2b o)
 have G0:=Zh (fun(a b:Value) (t:TypeId)=>show(w2.alloc (.cells #[a,b] t)).cell? ⟨w2.heap.size,0,none⟩=some a from Xad (Xac w2 _ _ rfl) 0)
 have G1:=Zh (fun(a b:Value) (t:TypeId)=>show(w2.alloc (.cells #[a,b] t)).cell? ⟨w2.heap.size,1,none⟩=some b from Xad (Xac w2 _ _ rfl) 1)
 have GL:=Zh (fun o=>show w2.heap.size<(w2.alloc o).heap.size by simp)
 have R1:=Zh (fun o=>(Xah Q1 (BW.out o)).2.2.2.2)
 have R2:=Zh (fun o=>(Xah Q2 (BW.out o)).2.2.2.2)
 have P1:=Zh (show(Xav (x.b.cache.take k)).length=k * 5 by rw[Xbt,Q1.1])
 have P2:=Zh (show(Xav (x.b.cache.drop (k+1))).length=(n - (k+1)) * 5 by rw[Xbt,Q2.1])
 have Z1:=Zh (show L=none→k=0∧c=0 from fun e=>by have:=Q1.2.2.2.1 e;have:=Q1.2.1;omega)
 have Z2:=Zh (show L2=none→n - (k+1)=0∧c - (k+1)=0 from fun e=>by have:=Q2.2.2.2.1 e;have:=Q2.2.1;omega)
 have O1:=Zh (Xfh (x.b.cache.take k))
 have O2:=Zh (Xfh (x.b.cache.drop (k+1)))
 have M1:=Zh (show k≤1000 by have:=HN.out;omega)
 have M2:=Zh (show n - (k+1)≤1000 by have:=HN.out;omega)
 clear Q1 Q2 hdw hs1 hs2 hwk fc fn
 go_wp2_with fail
 refine(Xud w2.heap.size L L2 k c (n - (k+1)) (c - (k+1)) (Xav (x.b.cache.take k)) (Xav (x.b.cache.drop (k+1))) _ (G0.out _ _ _) (G1.out _ _ _) (GL.out _) (R1.out _) (R2.out _) P1.out P2.out Z1.out Z2.out O1.out O2.out M1.out M2.out).mono ?_
 rintro e w1 ⟨L',c',rfl,ho1,hb1⟩
 have HO1:=Zh (Xcv ho1 (B':=w0.heap.size) (by simp;omega))
 have HB1:=Zh ((BW.out _).trans (hb1.mono (BW.out _).size))
 have X2:=Zh (Xaa H2.out HB1.out)
 have hz1:=HB1.out.size
 clear ho1 hb1 BW G0 G1 GL R1 R2
 go_upto_region 23 with(refine Xau rfl 27 (.tmp 121) (.tmp 119) rfl w.heap.size 6 _ _ (M_.m x M 512 mc R 8 rc L' (k+(n - (k+1))) c') (.slice L' (k+(n - (k+1))) c') rfl rfl X2.out Tryz.sizeLines (of_decide_eq_true rfl) rfl rfl ?_;intro w3 h3 t3)
 have c3:=t3.1
 have hw3':=t3.2
 have V2:=Zh h3
 have V8:=Zh (Xam (Xaa H8.out HB1.out) t3 (by omega))
 have V4:=Zh (Xam (Xaa H4.out HB1.out) t3 (by omega))
 have V5:=Zh (Xam (Xaa H5.out HB1.out) t3 (by omega))
 have hcap:=Xhj HO1.out
 have hlen:=HV.out.hl.len
 have OL:OwnL w0.heap.size w1 L' (k+(n - (k+1))) c' (x.b.cache.take k ++ x.b.cache.drop (k+1)):=⟨by rw[List.length_append,List.length_take,List.length_drop];omega,hcap.1,hcap.2,by rw[Xer];exact HO1.out⟩
 have BL:=Xat OL.2.2.2
 have HZ:Hid (MachV w3 (fun q=>(Av q∧q<w.heap.size)∨w.heap.size+5≤q) ⟨x.m,x.h,({ x.b with cache:=x.b.cache.take k ++ x.b.cache.drop (k+1) }:Brg)⟩ M 512 R 8 L' (k+(n - (k+1))) c'):=Zh (MachV.trn (x:=⟨x.m,x.h,({ x.b with cache:=x.b.cache.take k ++ x.b.cache.drop (k+1) }:Brg)⟩) (w:=w1) ⟨Xaf HV.out.hm HB1.out,Xaf HV.out.hr HB1.out,OL.lines,fun h0 ad e=>Or.inl (HV.out.am h0 ad e),fun h0 ad e=>Or.inl (HV.out.ar h0 ad e),fun h0 ad e=>Or.inr (by have:=(BL ad e).1;omega)⟩ t3 (fun hq=>by omega))
 replace HB:=Zh (Xaw (HB.out.trans (HB1.out.mono HB.out.size)) (by omega) t3 (Nat.le_refl _))
 have HT:Hid (TldV w3 (fun q=>w.heap.size+5≤q) .no none 0 none 0 0):=Zh (Xed _ _)
 clear h3 t3 c3 hcap hlen OL BL H2 H3 H4 H5 H8
 have R4:Hid (w3.there (w.heap.size+1+1) 0 16):=Zh (Xc4 V4.out (of_decide_eq_true rfl))
 have R5:Hid (w3.there (w.heap.size+1+1+1) 0 4):=Zh (Xc4 V5.out (of_decide_eq_true rfl))
 refine Xfg (by kernel_rfl) _ _ _ _ _ rfl rfl rfl rfl rfl rfl (by kernel_rfl) (by kernel_rfl) (by kernel_rfl) (by kernel_rfl) (by kernel_rfl) (by kernel_rfl) (by kernel_rfl) (by kernel_rfl) (by kernel_rfl) rfl rfl rfl rfl rfl 33 40 (.tmp 2) (.tmp 8) (.tmp 4) (.tmp 5) (.tmp 122) (.tmp 123) rfl rfl rfl rfl (.int .i64 0) rfl w.heap.size (w.heap.size+1+1+1+1) (w.heap.size+1+1) (w.heap.size+1+1+1) (M_.m x M 512 mc R 8 rc L' (k+(n - (k+1))) c') B_.t _ _ Tryz.underlying33 Tryz.underlying40 rfl rfl Tryz.sizeMach Tryz.sizeTold rfl rfl rfl rfl rfl rfl rfl rfl (Xfb V2.out) (Xfb V8.out) R4.out R5.out (by omega) (by omega) (by omega) (by omega) (fun _ _ _ _ h=>h) (fun _ _ _ _ h=>h) ?_
 generalize hw9:(w3.drew.setCells (w.heap.size+1+1) 0 ([.slice M 512 mc,.int .i64 x.h.at_,.slice R 8 rc,.bool x.h.done,.int .i64 x.b.mode,.int .i64 x.b.base,.slice L' (k+(n - (k+1))) c',.int .i64 x.b.orders.page,.int .i64 x.b.orders.head,.int .i64 x.b.orders.tail,.bool x.b.stopped,.int .i64 x.b.fences,.int .i64 x.b.faults.page,.int .i64 x.b.faults.head,.int .i64 x.b.faults.tail,.bool x.b.lost]:List Value)).setCells (w.heap.size+1+1+1) 0 ([.bool false,.slice none 0 0,.int .i64 0,.slice none 0 0]:List Value)=w9
 have C9:=Zh (show Chg (fun q=>q=w.heap.size+1+1∨q=w.heap.size+1+1+1) w3 w9 by
  rw[←hw9]
  exact Xa4 (Xa4 (Xa5 (Xaq w3)) (Xbp (Xda _ _ 0 _) (fun q _ e=>Or.inl e))) (Xbp (Xda _ _ 0 _) (fun q _ e=>Or.inr e)))
 have hq1:=Zh (show w9.rangeAt (w.heap.size+1+1) 0 ([.slice M 512 mc,.int .i64 x.h.at_,.slice R 8 rc,.bool x.h.done,.int .i64 x.b.mode,.int .i64 x.b.base,.slice L' (k+(n - (k+1))) c',.int .i64 x.b.orders.page,.int .i64 x.b.orders.head,.int .i64 x.b.orders.tail,.bool x.b.stopped,.int .i64 x.b.fences,.int .i64 x.b.faults.page,.int .i64 x.b.faults.head,.int .i64 x.b.faults.tail,.bool x.b.lost]:List Value) by
  rw[←hw9]
  exact World.rangeAt_setCells_apart (World.rangeAt_setCells_same w3.drew (w.heap.size+1+1) 0 ([.slice M 512 mc,.int .i64 x.h.at_,.slice R 8 rc,.bool x.h.done,.int .i64 x.b.mode,.int .i64 x.b.base,.slice L' (k+(n - (k+1))) c',.int .i64 x.b.orders.page,.int .i64 x.b.orders.head,.int .i64 x.b.orders.tail,.bool x.b.stopped,.int .i64 x.b.fences,.int .i64 x.b.faults.page,.int .i64 x.b.faults.head,.int .i64 x.b.faults.tail,.bool x.b.lost]:List Value) R4.out) _ _ _ (Or.inl (by omega)))
 have hq2:=Zh (show w9.rangeAt (w.heap.size+1+1+1) 0 ([.bool false,.slice none 0 0,.int .i64 0,.slice none 0 0]:List Value) by
  rw[←hw9]
  exact World.rangeAt_setCells_same (w3.drew.setCells (w.heap.size+1+1) 0 ([.slice M 512 mc,.int .i64 x.h.at_,.slice R 8 rc,.bool x.h.done,.int .i64 x.b.mode,.int .i64 x.b.base,.slice L' (k+(n - (k+1))) c',.int .i64 x.b.orders.page,.int .i64 x.b.orders.head,.int .i64 x.b.orders.tail,.bool x.b.stopped,.int .i64 x.b.fences,.int .i64 x.b.faults.page,.int .i64 x.b.faults.head,.int .i64 x.b.faults.tail,.bool x.b.lost]:List Value)) (w.heap.size+1+1+1) 0 ([.bool false,.slice none 0 0,.int .i64 0,.slice none 0 0]:List Value) (World.there_setCells (w:=w3.drew) R5.out _ _ _))
 clear hw9
 go_wp2
 refine bodyPost_ret (v:=.tuple #[.agg (M_.m x M 512 mc R 8 rc L' (k+(n - (k+1))) c'),.agg B_.t,.int .i64 0]) ?_ rfl ?_
 ·exact Xc6 Tryz.results11 rfl rfl rfl (run_loadVar_mid w9 _ 0 33 ([.slice M 512 mc,.int .i64 x.h.at_,.slice R 8 rc,.bool x.h.done,.int .i64 x.b.mode,.int .i64 x.b.base,.slice L' (k+(n - (k+1))) c',.int .i64 x.b.orders.page,.int .i64 x.b.orders.head,.int .i64 x.b.orders.tail,.bool x.b.stopped,.int .i64 x.b.fences,.int .i64 x.b.faults.page,.int .i64 x.b.faults.head,.int .i64 x.b.faults.tail,.bool x.b.lost]:List Value) _ hq1.out Tryz.underlying33 rfl Tryz.sizeMach) (run_loadVar_mid w9 _ 0 40 ([.bool false,.slice none 0 0,.int .i64 0,.slice none 0 0]:List Value) _ hq2.out Tryz.underlying40 rfl Tryz.sizeTold)
 ·refine⟨_,_,_,_,_,_,_,_,_,_,_,_,_,_,_,rfl, ?_, ?_, ?_⟩
  ·exact MachV.av (x:=⟨x.m,x.h,({ x.b with cache:=x.b.cache.take k ++ x.b.cache.drop (k+1) }:Brg)⟩) (MachV.chg (x:=⟨x.m,x.h,({ x.b with cache:=x.b.cache.take k ++ x.b.cache.drop (k+1) }:Brg)⟩) HZ.out C9.out (fun q e hq=>by omega)) (fun q hq=>by rcases hq with hq|hq;exact Or.inl hq.1;exact Or.inr (by omega))
  ·exact TldV.av (t:=.no) (TldV.chg (t:=.no) HT.out C9.out (fun q e hq=>by omega)) (fun q hq=>by omega)
  ·exact Xa8 HB.out HB.out.size C9.out (fun q hq e=>by omega)
theorem hap_5 (h1:y.kind≠1) (h2:y.kind≠2) (h3:y.kind≠3) (h4:y.kind≠4):Calls Tryz.prog 11 #[.agg (M_.m x M 512 mc R 8 rc L n c),.agg #[.int .i64 y.kind,.int .i64 y.n,.int .i64 y.a.dev,.int .i64 y.a.at_,.int .i64 y.a.count,.bool y.a.wr,.slice AD nd cd]] w (HapC w Av (doA x y) (doE x y)):=by
 have e:doE x y=3:=by rw[Xg7 h0,Xtl h1 h2 h3 h4]
 have e2:doA x y=(.no,.no):=by unfold doA;rw[if_neg (by rw[e];decide)]
 rw[e,e2]
 have t1:(y.kind==1)=false:=beq_eq_false_iff_ne.2 h1
 have t2:(y.kind==2)=false:=beq_eq_false_iff_ne.2 h2
 have t3:(y.kind==3)=false:=beq_eq_false_iff_ne.2 h3
 have t4:(y.kind==4)=false:=beq_eq_false_iff_ne.2 h4
 clear e e2 h1 h2 h3 h4
 have HV:=Zh hv.lt
 have HD:=Zh hd
 have H0:=Zh h0
 skip
 clear hv hd h0
 go_enter Tryz.func11,Tryz.ntmps11
 go_upto_region 3 with(fail)
 generalize hw0:((((w.alloc (.cells (M_.m x M 512 mc R 8 rc L n c) 33)).alloc (.cells #[.int .i64 y.kind,.int .i64 y.n,.int .i64 y.a.dev,.int .i64 y.a.at_,.int .i64 y.a.count,.bool y.a.wr,.slice AD nd cd] 37)).alloc (.cells B_.y 33)).alloc (.cells B_.t 40)).alloc (.cells B_.t 40)=w0
 have H2:=Zh (show Whl w0 (w.heap.size) 33 (M_.m x M 512 mc R 8 rc L n c) by rw[←hw0];exact Xab (Xab (Xab (Xab (Xac _ _ _ rfl) _) _) _) _)
 have H3:=Zh (show Whl w0 (w.heap.size+1) 37 #[.int .i64 y.kind,.int .i64 y.n,.int .i64 y.a.dev,.int .i64 y.a.at_,.int .i64 y.a.count,.bool y.a.wr,.slice AD nd cd] by rw[←hw0];exact Xab (Xab (Xab (Xac _ _ _ (by simp)) _) _) _)
 have H4:=Zh (show Whl w0 (w.heap.size+1+1) 33 B_.y by rw[←hw0];exact Xab (Xab (Xac _ _ _ (by simp)) _) _)
 have H5:=Zh (show Whl w0 (w.heap.size+1+1+1) 40 B_.t by rw[←hw0];exact Xab (Xac _ _ _ (by simp)) _)
 have H8:=Zh (show Whl w0 (w.heap.size+1+1+1+1) 40 B_.t by rw[←hw0];exact Xac _ _ _ (by simp))
 have HB:=Zh (show Below w.heap.size w w0 by rw[←hw0];(refine bl ?_;repeat' first|with_reducible(first|assumption|constructor)|((try simp)<;>omega)))
 have hz0a:w0.heap.size≤w.heap.size+5:=by rw[←hw0];simp
 have hz0b:w.heap.size+5≤w0.heap.size:=by rw[←hw0];simp
 clear hw0
 replace HV:=Zh (HV.out.since HB.out)
 replace HD:=Zh (Xaf HD.out HB.out)
 have fk:w0.cell? ⟨w.heap.size+1,0,none⟩=some (.int .i64 y.kind):=(Xad H3.out 0).trans rfl
 go_wp2_with fail
 refine(Xji _ _).mono ?_
 rintro e wb ⟨rfl,hb⟩
 replace H2:=Zh (Xaa H2.out hb)
 replace H3:=Zh (Xaa H3.out hb)
 replace H4:=Zh (Xaa H4.out hb)
 replace H5:=Zh (Xaa H5.out hb)
 replace H8:=Zh (Xaa H8.out hb)
 replace HB:=Zh (HB.out.trans (hb.mono HB.out.size))
 clear hb fk
 go_wp2_with (first
  |(refine Xaj rfl 33 (.tmp 4) (.tmp 16) rfl (w.heap.size+1+1) _ _ B_.y rfl rfl H4.out Tryz.sizeMach rfl rfl ?_;intro w5 h4a t4;have h5a:=Xam H5.out t4 (Nat.succ_ne_self _))
  |(refine Xaj rfl 40 (.tmp 5) (.tmp 17) rfl (w.heap.size+1+1+1) _ _ B_.t rfl rfl h5a Tryz.sizeTold rfl rfl ?_;intro w6 h5b t5;have h4b:=Xam h4a t5 (Ne.symm (Nat.succ_ne_self _))))
 go_wp2
 refine bodyPost_ret (v:=.tuple #[.agg B_.y,.agg B_.t,.int .i64 3]) ?_ rfl (Xho ?_)
 ·exact Xc6 Tryz.results11 rfl rfl rfl (Xbx h4b _ Tryz.underlying33 rfl Tryz.sizeMach) (Xbx h5b _ Tryz.underlying40 rfl Tryz.sizeTold)
 ·exact Xaw (Xaw HB.out HB.out.size t4 (by omega)) (by have:=t4.2;have:=HB.out.size;omega) t5 (by omega)
end
end
section
set_option maxRecDepth 100000
set_option maxHeartbeats 1000000
open Go.RowKit
set_option linter.unusedSimpArgs false
set_option linter.unusedVariables false
theorem Xl5 (x:Mch) (y:Hap) (M R L AD:Option Addr) (nm mc nr rc n c nd cd:Nat) (w:World) (Av:Nat→Prop) (hv:MachV w Av x M nm R nr L n c) (hd:Ints w w.heap.size AD nd y.a.data) (h0:ckM x=0) :
  Calls Tryz.prog 11 #[.agg (M_.m x M nm mc R nr rc L n c),.agg #[.int .i64 y.kind,.int .i64 y.n,.int .i64 y.a.dev,.int .i64 y.a.at_,.int .i64 y.a.count,.bool y.a.wr,.slice AD nd cd]] w (HapC w Av (doA x y) (doE x y)):=by
 obtain⟨c1,c2,_⟩:=(Xct x).1 h0
 obtain rfl:nm=512:=by rw[←hv.hm.len];exact(Xaz c1).1
 obtain rfl:nr=8:=by rw[←hv.hr.len];exact(Xap c2).1
 by_cases h1:y.kind=1
 ·by_cases hdn:x.h.done=true
  ·exact hap_1d x y M R L AD mc rc n c nd cd w Av hv hd h0 h1 hdn
  ·have hdn':x.h.done=false:=by simpa using hdn
   exact hap_1k x y M R L AD mc rc n c nd cd w Av hv hd h0 h1 hdn'
 by_cases h2:y.kind=2
 ·by_cases hE:Xe1 x.m x.b=0
  ·exact hap_2k x y M R L AD mc rc n c nd cd w Av hv hd h0 h2 hE
  ·exact hap_2b x y M R L AD mc rc n c nd cd w Av hv hd h0 h2 hE
 by_cases h3:y.kind=3
 ·by_cases hE:reqE y.a=0
  ·exact hap_3k x y M R L AD mc rc n c nd cd w Av hv hd h0 h3 hE
  ·exact hap_3b x y M R L AD mc rc n c nd cd w Av hv hd h0 h3 hE
 by_cases h4:y.kind=4
 ·by_cases hn:0≤y.n∧y.n<x.b.cache.length
  ·exact hap_4k x y M R L AD mc rc n c nd cd w Av hv hd h0 h4 y.n.toNat (by omega) (by omega)
  ·exact hap_4b x y M R L AD mc rc n c nd cd w Av hv hd h0 h4 hn
 exact hap_5 x y M R L AD mc rc n c nd cd w Av hv hd h0 h1 h2 h3 h4
end
end Go.Proofs.YtbopdijnojaaiadGreat
