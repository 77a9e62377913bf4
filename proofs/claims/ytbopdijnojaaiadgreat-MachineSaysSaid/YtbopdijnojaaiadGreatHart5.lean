/- The hart: what an instruction leaves in memory (laws), for the walk of does. No statement of the seat is proved here. -/
import Derived.Test.YtbopdijnojaaiadGreatHart3
import Derived.Test.YtbopdijnojaaiadGreatBridgeS
import Derived.Test.YtbopdijnojaaiadGreatRefC
import Derived.Deep.DeepCutAuto
import Derived.Test.YtbopdijnojaaiadGreatMem
namespace Go.Proofs.YtbopdijnojaaiadGreat
set_option maxRecDepth 100000
set_option maxHeartbeats 8000000
open Go.RowKit
set_option linter.unusedSimpArgs false
set_option linter.unusedVariables false
section
open Go.Maps
theorem Xpp {w:World} {g:Nat} {b:Brg} {A:Option Addr} {n c:Nat} (h:Xbj w g b A n c) (v:Int):Xbj (w.setCell ⟨g,0,none⟩ (.int .i64 v)) g { b with mode:=v } A n c:=by
 obtain⟨h0,h1,h2,h3,h4,h5,h6,h7,h8,h9,h10,h11⟩:=h;unfold Xbj;simp[go_sem, *]
theorem Xpo {w:World} {g:Nat} {b:Brg} {A:Option Addr} {n c:Nat} (h:Xbj w g b A n c) (v:Int):Xbj (w.setCell ⟨g,1,none⟩ (.int .i64 v)) g { b with base:=v } A n c:=by
 obtain⟨h0,h1,h2,h3,h4,h5,h6,h7,h8,h9,h10,h11⟩:=h;unfold Xbj;simp[go_sem, *]
theorem Xpn {w:World} {g:Nat} {b:Brg} {A:Option Addr} {n c:Nat} (h:Xbj w g b A n c) (v:Int):Xbj (w.setCell ⟨g,3,none⟩ (.int .i64 v)) g { b with orders:=⟨v,b.orders.head,b.orders.tail⟩ } A n c:=by
 obtain⟨h0,h1,h2,h3,h4,h5,h6,h7,h8,h9,h10,h11⟩:=h;unfold Xbj;simp[go_sem, *]
theorem Xpm {w:World} {g:Nat} {b:Brg} {A:Option Addr} {n c:Nat} (h:Xbj w g b A n c) (v:Int):Xbj (w.setCell ⟨g,5,none⟩ (.int .i64 v)) g { b with orders:=⟨b.orders.page,b.orders.head,v⟩ } A n c:=by
 obtain⟨h0,h1,h2,h3,h4,h5,h6,h7,h8,h9,h10,h11⟩:=h;unfold Xbj;simp[go_sem, *]
theorem Xpl {w:World} {g:Nat} {b:Brg} {A:Option Addr} {n c:Nat} (h:Xbj w g b A n c) (v:Int):Xbj (w.setCell ⟨g,8,none⟩ (.int .i64 v)) g { b with faults:=⟨v,b.faults.head,b.faults.tail⟩ } A n c:=by
 obtain⟨h0,h1,h2,h3,h4,h5,h6,h7,h8,h9,h10,h11⟩:=h;unfold Xbj;simp[go_sem, *]
theorem Xpk {w:World} {g:Nat} {b:Brg} {A:Option Addr} {n c:Nat} (h:Xbj w g b A n c) (v:Int):Xbj (w.setCell ⟨g,9,none⟩ (.int .i64 v)) g { b with faults:=⟨b.faults.page,v,b.faults.tail⟩ } A n c:=by
 obtain⟨h0,h1,h2,h3,h4,h5,h6,h7,h8,h9,h10,h11⟩:=h;unfold Xbj;simp[go_sem, *]
theorem Xq1 {w:World} {g:Nat} {b:Brg} {A:Option Addr} {n c:Nat} (h:Xbj w g b A n c):Xbj ((w.setCell ⟨g,6,none⟩ (.bool false)).setCell ⟨g,11,none⟩ (.bool false)) g { b with stopped:=false,lost:=false } A n c:=by
 obtain⟨h0,h1,h2,h3,h4,h5,h6,h7,h8,h9,h10,h11⟩:=h;unfold Xbj;simp[go_sem, *]
theorem Xd1 {g:Nat} {w w1:World} (h:Only g w w1) (hg:g<w.heap.size) (o:Nat) (u:Value):Only g w (w1.setCell ⟨g,o,none⟩ u):=
 ⟨h.1.setCell (Nat.le_refl _) _,by have:=h.2.1;simpa using this,fun q j hq hl=>by
  rw[World.cell?_setCell_other _ _ _ _ (by intro e;exact hq (by have:=congrArg Addr.block e;simp at this;omega))];exact h.2.2.1 q j hq hl,fun q j hl=>by
  rw[World.frozen?_setCell];exact h.2.2.2 q j hl⟩
theorem Xdy {g:Nat} {w w1 w2:World} (h:Only g w w1) (hg:g<w.heap.size) (hs:Xan w1 w2):Only g w w2:=
 ⟨Below.trans h.1 (Below.mono hs (by have:=h.2.1;omega)),Nat.le_trans h.2.1 hs.size,fun q j hq hl=>(Below.cell (p:=⟨q,j,none⟩) hs (Nat.lt_of_lt_of_le hl h.2.1)).trans (h.2.2.1 q j hq hl),fun q j hl=>(Below.frozen (p:=⟨q,j,none⟩) hs (Nat.lt_of_lt_of_le hl h.2.1)).trans (h.2.2.2 q j hl)⟩
def OutC (g:Nat) (A:Option Addr) (n c:Nat) (w:World) (r:Brg×Bool) (e:Ending) (w':World):Prop:=
 e=.returned (.bool r.2)∧Xbj w' g r.1 A n c∧Lines w' w'.heap.size A n c r.1.cache∧Only g w w'
theorem Xsm (b:Brg) (A:Option Addr) (n c g:Nat) (v:Int) (w:World) (hb:Xbj w g b A n c) (hfz:∀ o,w.frozen? ⟨g,o,none⟩=false) (hl:Lines w w.heap.size A n c b.cache) (hoff:∀ ad,A=some ad→ad.block≠g) :
  Calls Tryz.prog 68 #[.pointer (some ⟨g,0,none⟩),.int .i64 9,.int .i64 v] w (OutC g A n c w (Xbi b 9 v)):=by
 have HB:=Zh hb
 have HL:=Zh hl
 have HO:=Zh hoff
 have hg:=Xb9 hb
 obtain⟨_,_,_,_,_,_,b6,_,_,_,_,b11⟩:=hb
 have HS:=Zh (Xal w)
 have t9:((9:Int)==9)=true:=by decide
 unfold OutC
 clear hl hoff
 by_cases hv:v=0
 ·have tv:(v==0)=true:=by rw[beq_iff_eq];exact hv
  rw[show Xbi b 9 v=({ b with stopped:=false,lost:=false },true) by unfold Xbi;rw[if_pos rfl,if_pos hv]]
  clear hv
  go_enter Tryz.func68,Tryz.ntmps68
  go_wp2
  go_ret
  exact⟨rfl,Xq1 HB.out,(Xb5 (Xb5 HL.out HO.out _) (p:=⟨g,_,none⟩) HO.out _).more (by simp),Xd1 (Xdj hg HS.out _) hg _ _⟩
 ·have tv:(v==0)=false:=by rw[beq_eq_false_iff_ne];exact hv
  rw[show Xbi b 9 v=(b,false) by unfold Xbi;rw[if_pos rfl,if_neg hv]]
  clear hv
  go_enter Tryz.func68,Tryz.ntmps68
  go_wp2
  go_ret
  exact⟨rfl,HB.out,HL.out,Xdo hg HS.out⟩
theorem Xai {P:Program} {ops:Array Oper} {Q:Exit→Act→World→Prop} {md:Region.Mode} {S:World→Prop} {i:Nat} {d:Tmp} {oi:Oper} {v:Value} {fuel:Nat} {listed:Array Bool} {a:Act} {w:World} (hi:ops[i]?=some oi) (hd:oi.dst=some d)
  (hs:Region.noSelect ops=true) (hf:Region.free md ops listed i=true) (hr:(Region.ready md ops listed).contains i=true)
  (hQ:∀ c a w,Q (.panic c) (a.put oi.dst v) w→Q (.panic c) a w) (hy:YieldsIf P ops S oi v a) (hS:S w)
  (h:wpAnyH P md ops Q S fuel (listed.setIfInBounds i true) (a.put (some d) v) w):wpAnyH P md ops Q S (fuel+1) listed a w:=by
 rw[←hd]at h
 exact wpAnyH_take hi hs hf hr hQ hy hS h
theorem Xc1 {P:Program} (w:World) {o:Oper} {a:Act} {K:Act→World→Prop} {Q:Exit→Act→World→Prop}
  (m x:Operand) (t:TypeId) (hop:o.op=Op.lookup t m x false)
  (k e:TypeId) (K':Keyed P k) (ht:P.underlying t=some (.map k e)) {z:Value} (hz:(zeroValue e).run P w=.ok z w) (b n:Nat) (D:DataW Value)
  (hm:a.eval m=.map (some b)) (hown:w.ownsMap P k Xdw b n D) (key:Value) (kl:Lit) (hx:a.eval x=key) (hkey:keyOf P k key=some kl) (f:Value) (hD:D.atKey kl (.held z)=.held f)
  {d:Tmp} (hd:o.dst=some d) (hK:K (a.put (some d) f) w):Oper.wp P o a w K Q:=by
 obtain⟨v,ps,hrun,hv⟩:=hown.lookup K' ht hz (zd:=.held z) (zp:=[]) rfl hkey
 unfold Xdw at hv
 rw[hD]at hv
 simp only[Option.some.injEq,Prod.mk.injEq,DataW.held.injEq]at hv
 rw[hv.1]at hrun
 unfold Oper.wp
 simp[execOp,hop,hm,hx,hrun,Result.andThen]
 rw[←hd]at hK
 exact hK
set_option linter.defProp false in
def zOut {g:Nat} {k v:Int} {w:World} {Q:Ending→World→Prop}:=(by
 intro z_ hw t9
 have HS:=Zh (Xal w)
 have HW:=Zh hw
 clear hw
 have hmm:=@run_makeMap Tryz.prog
 go_enter Tryz.func68,Tryz.ntmps68
 go_upto_region 5 with(fail)
 go_cut [7] (fun s7 wd=>s7=ptrV g k∧Hid (Xan w wd))
 case first=>
  refine wp_region_held_drew (S:=fun _=>True) (by kernel_rfl) trivial (fun hTT=>?_)
  (refine Xai (i:=1) (d:=22) (v:=?_) rfl rfl (by kernel_rfl) (by kernel_rfl) (by kernel_rfl) (fun _ _ _ h=>h) (Or.inl ⟨by rfl, ?_⟩) trivial ?_;rotate_left;(· (intro w hSw;go_simp;(try with_reducible rfl)));(try simp only[Act.put,List.setIfInBounds_toArray,List.set_cons_zero,List.set_cons_succ]))
  (refine Xai (i:=2) (d:=23) (v:=?_) rfl rfl (by kernel_rfl) (by kernel_rfl) (by kernel_rfl) (fun _ _ _ h=>h) (Or.inl ⟨by rfl, ?_⟩) trivial ?_;rotate_left;(· (intro w hSw;go_simp;(try with_reducible rfl)));(try simp only[Act.put,List.setIfInBounds_toArray,List.set_cons_zero,List.set_cons_succ]))
  (refine Xai (i:=3) (d:=24) (v:=?_) rfl rfl (by kernel_rfl) (by kernel_rfl) (by kernel_rfl) (fun _ _ _ h=>h) (Or.inl ⟨by rfl, ?_⟩) trivial ?_;rotate_left;(· (intro w hSw;go_simp;(try with_reducible rfl)));(try simp only[Act.put,List.setIfInBounds_toArray,List.set_cons_zero,List.set_cons_succ]))
  (refine Xai (i:=5) (d:=25) (v:=?_) rfl rfl (by kernel_rfl) (by kernel_rfl) (by kernel_rfl) (fun _ _ _ h=>h) (Or.inl ⟨by rfl, ?_⟩) trivial ?_;rotate_left;(· (intro w hSw;go_simp;(try with_reducible rfl)));(try simp only[Act.put,List.setIfInBounds_toArray,List.set_cons_zero,List.set_cons_succ]))
  (refine Xai (i:=6) (d:=26) (v:=?_) rfl rfl (by kernel_rfl) (by kernel_rfl) (by kernel_rfl) (fun _ _ _ h=>h) (Or.inl ⟨by rfl, ?_⟩) trivial ?_;rotate_left;(· (intro w hSw;go_simp;(try with_reducible rfl)));(try simp only[Act.put,List.setIfInBounds_toArray,List.set_cons_zero,List.set_cons_succ]))
  (refine Xai (i:=7) (d:=27) (v:=?_) rfl rfl (by kernel_rfl) (by kernel_rfl) (by kernel_rfl) (fun _ _ _ h=>h) (Or.inl ⟨by rfl, ?_⟩) trivial ?_;rotate_left;(· (intro w hSw;go_simp;(try with_reducible rfl)));(try simp only[Act.put,List.setIfInBounds_toArray,List.set_cons_zero,List.set_cons_succ]))
  (refine Xai (i:=9) (d:=28) (v:=?_) rfl rfl (by kernel_rfl) (by kernel_rfl) (by kernel_rfl) (fun _ _ _ h=>h) (Or.inl ⟨by rfl, ?_⟩) trivial ?_;rotate_left;(· (intro w hSw;go_simp;(try with_reducible rfl)));(try simp only[Act.put,List.setIfInBounds_toArray,List.set_cons_zero,List.set_cons_succ]))
  (refine Xai (i:=10) (d:=29) (v:=?_) rfl rfl (by kernel_rfl) (by kernel_rfl) (by kernel_rfl) (fun _ _ _ h=>h) (Or.inl ⟨by rfl, ?_⟩) trivial ?_;rotate_left;(· (intro w hSw;go_simp;(try with_reducible rfl)));(try simp only[Act.put,List.setIfInBounds_toArray,List.set_cons_zero,List.set_cons_succ]))
  (refine Xai (i:=11) (d:=30) (v:=?_) rfl rfl (by kernel_rfl) (by kernel_rfl) (by kernel_rfl) (fun _ _ _ h=>h) (Or.inl ⟨by rfl, ?_⟩) trivial ?_;rotate_left;(· (intro w hSw;go_simp;(try with_reducible rfl)));(try simp only[Act.put,List.setIfInBounds_toArray,List.set_cons_zero,List.set_cons_succ]))
  (refine Xai (i:=12) (d:=31) (v:=?_) rfl rfl (by kernel_rfl) (by kernel_rfl) (by kernel_rfl) (fun _ _ _ h=>h) (Or.inl ⟨by rfl, ?_⟩) trivial ?_;rotate_left;(· (intro w hSw;go_simp;(try with_reducible rfl)));(try simp only[Act.put,List.setIfInBounds_toArray,List.set_cons_zero,List.set_cons_succ]))
  (refine Xai (i:=14) (d:=32) (v:=?_) rfl rfl (by kernel_rfl) (by kernel_rfl) (by kernel_rfl) (fun _ _ _ h=>h) (Or.inl ⟨by rfl, ?_⟩) trivial ?_;rotate_left;(· (intro w hSw;go_simp;(try with_reducible rfl)));(try simp only[Act.put,List.setIfInBounds_toArray,List.set_cons_zero,List.set_cons_succ]))
  (refine Xai (i:=15) (d:=33) (v:=?_) rfl rfl (by kernel_rfl) (by kernel_rfl) (by kernel_rfl) (fun _ _ _ h=>h) (Or.inl ⟨by rfl, ?_⟩) trivial ?_;rotate_left;(· (intro w hSw;go_simp;(try with_reducible rfl)));(try simp only[Act.put,List.setIfInBounds_toArray,List.set_cons_zero,List.set_cons_succ]))
  (refine Xai (i:=16) (d:=34) (v:=?_) rfl rfl (by kernel_rfl) (by kernel_rfl) (by kernel_rfl) (fun _ _ _ h=>h) (Or.inl ⟨by rfl, ?_⟩) trivial ?_;rotate_left;(· (intro w hSw;go_simp;(try with_reducible rfl)));(try simp only[Act.put,List.setIfInBounds_toArray,List.set_cons_zero,List.set_cons_succ]))
  (refine Xai (i:=17) (d:=35) (v:=?_) rfl rfl (by kernel_rfl) (by kernel_rfl) (by kernel_rfl) (fun _ _ _ h=>h) (Or.inl ⟨by rfl, ?_⟩) trivial ?_;rotate_left;(· (intro w hSw;go_simp;(try with_reducible rfl)));(try simp only[Act.put,List.setIfInBounds_toArray,List.set_cons_zero,List.set_cons_succ]))
  (refine Xai (i:=19) (d:=36) (v:=?_) rfl rfl (by kernel_rfl) (by kernel_rfl) (by kernel_rfl) (fun _ _ _ h=>h) (Or.inl ⟨by rfl, ?_⟩) trivial ?_;rotate_left;(· (intro w hSw;go_simp;(try with_reducible rfl)));(try simp only[Act.put,List.setIfInBounds_toArray,List.set_cons_zero,List.set_cons_succ]))
  (refine Xai (i:=20) (d:=37) (v:=?_) rfl rfl (by kernel_rfl) (by kernel_rfl) (by kernel_rfl) (fun _ _ _ h=>h) (Or.inl ⟨by rfl, ?_⟩) trivial ?_;rotate_left;(· (intro w hSw;go_simp;(try with_reducible rfl)));(try simp only[Act.put,List.setIfInBounds_toArray,List.set_cons_zero,List.set_cons_succ]))
  (refine Xai (i:=21) (d:=38) (v:=?_) rfl rfl (by kernel_rfl) (by kernel_rfl) (by kernel_rfl) (fun _ _ _ h=>h) (Or.inl ⟨by rfl, ?_⟩) trivial ?_;rotate_left;(· (intro w hSw;go_simp;(try with_reducible rfl)));(try simp only[Act.put,List.setIfInBounds_toArray,List.set_cons_zero,List.set_cons_succ]))
  (refine Xai (i:=22) (d:=39) (v:=?_) rfl rfl (by kernel_rfl) (by kernel_rfl) (by kernel_rfl) (fun _ _ _ h=>h) (Or.inl ⟨by rfl, ?_⟩) trivial ?_;rotate_left;(· (intro w hSw;go_simp;(try with_reducible rfl)));(try simp only[Act.put,List.setIfInBounds_toArray,List.set_cons_zero,List.set_cons_succ]))
  (refine Xai (i:=24) (d:=40) (v:=?_) rfl rfl (by kernel_rfl) (by kernel_rfl) (by kernel_rfl) (fun _ _ _ h=>h) (Or.inl ⟨by rfl, ?_⟩) trivial ?_;rotate_left;(· (intro w hSw;go_simp;(try with_reducible rfl)));(try simp only[Act.put,List.setIfInBounds_toArray,List.set_cons_zero,List.set_cons_succ]))
  (refine Xai (i:=25) (d:=41) (v:=?_) rfl rfl (by kernel_rfl) (by kernel_rfl) (by kernel_rfl) (fun _ _ _ h=>h) (Or.inl ⟨by rfl, ?_⟩) trivial ?_;rotate_left;(· (intro w hSw;go_simp;(try with_reducible rfl)));(try simp only[Act.put,List.setIfInBounds_toArray,List.set_cons_zero,List.set_cons_succ]))
  (refine Xai (i:=26) (d:=42) (v:=?_) rfl rfl (by kernel_rfl) (by kernel_rfl) (by kernel_rfl) (fun _ _ _ h=>h) (Or.inl ⟨by rfl, ?_⟩) trivial ?_;rotate_left;(· (intro w hSw;go_simp;(try with_reducible rfl)));(try simp only[Act.put,List.setIfInBounds_toArray,List.set_cons_zero,List.set_cons_succ]))
  (refine Xai (i:=27) (d:=43) (v:=?_) rfl rfl (by kernel_rfl) (by kernel_rfl) (by kernel_rfl) (fun _ _ _ h=>h) (Or.inl ⟨by rfl, ?_⟩) trivial ?_;rotate_left;(· (intro w hSw;go_simp;(try with_reducible rfl)));(try simp only[Act.put,List.setIfInBounds_toArray,List.set_cons_zero,List.set_cons_succ]))
  (refine Xai (i:=30) (d:=45) (v:=?_) rfl rfl (by kernel_rfl) (by kernel_rfl) (by kernel_rfl) (fun _ _ _ h=>h) (Or.inl ⟨by rfl, ?_⟩) trivial ?_;rotate_left;(· (intro w hSw;go_simp;(try with_reducible rfl)));(try simp only[Act.put,List.setIfInBounds_toArray,List.set_cons_zero,List.set_cons_succ]))
  refine wpAnyH_ready (rs:=[0]) (by kernel_rfl) (by simp) ?_
  refine AllReadyH.cons rfl (fun K hK=>?_) AllReadyH.nil
  go_simp
  refine hK.out _ _ trivial (fun _=>?_)
  clear hK K
  (try simp only[Act.put,List.setIfInBounds_toArray,List.set_cons_zero,List.set_cons_succ])
  have hown0:=World.ownsMap_made w.drew Tryz.prog 3 Xdw
  refine Xg4 (g:=g) (H:=w.heap.size) (w0:=w) (Nat.le_refl _) ⟨_,24,rfl,rfl,rfl,rfl,rfl,rfl⟩ ⟨_,27,rfl,rfl,rfl,rfl,rfl,rfl⟩ ⟨_,31,rfl,rfl,rfl,rfl,rfl,rfl⟩ ⟨_,35,rfl,rfl,rfl,rfl,rfl,rfl⟩ ⟨_,39,rfl,rfl,rfl,rfl,rfl,rfl⟩ ⟨_,43,rfl,rfl,rfl,rfl,rfl,rfl⟩ ?_ ?_ 6 false false false false false false _ 0 _ rfl hown0 rfl ⟨isMap_empty,fun k z=>by simp[bK];rfl⟩ (Xae (Xar HS.out) _)
  ·intro x0 x1 x2 x3 x4 x5 hx
   cases x0<;>cases x1<;>cases x2<;>cases x3<;>cases x4<;>cases x5<;>first|exact absurd hx (by decide)|kernel_rfl
  ·intro W D hown hD hS
   have HD:=Zh hD
   have HSS:=Zh hS
   clear hD hS
   refine Xai (i:=29) (d:=44) (v:=?_) rfl rfl (by kernel_rfl) (by kernel_rfl) (by kernel_rfl) (fun _ _ _ h=>h) (Or.inl ⟨by rfl, ?_⟩) trivial ?_
   rotate_left
   ·(intro w hSw;go_simp;(try with_reducible rfl))
   (try simp only[Act.put,List.setIfInBounds_toArray,List.set_cons_zero,List.set_cons_succ])
   refine wpAnyH_ready (rs:=[31]) (by kernel_rfl) (by simp) ?_
   refine AllReadyH.cons rfl (fun K hK=>?_) AllReadyH.nil
   rw[if_pos (by rfl)]
   refine Xc1 W _ _ 156 rfl 3 155 Tryz.keyInt Tryz.underlying156 (Tryz.zeroPtr _) w.heap.size 6 D rfl hown (.int .i64 k) (.int .i64 k) rfl (keyOf_int_mk Tryz.underlying3 HW.out) (ptrV g k) ((HD.out.2 k _).trans (Xju g k)) (d:=46) rfl ?_
   refine hK.out _ _ trivial (fun _=>?_)
   clear hK K
   (try simp only[Act.put,List.setIfInBounds_toArray,List.set_cons_zero,List.set_cons_succ])
   refine Xai (i:=32) (d:=7) (v:=?_) rfl rfl (by kernel_rfl) (by kernel_rfl) (by kernel_rfl) (fun _ _ _ h=>h) (Or.inl ⟨by rfl, ?_⟩) trivial ?_
   rotate_left
   ·(intro w hSw;go_simp;(try with_reducible rfl))
   (try simp only[Act.put,List.setIfInBounds_toArray,List.set_cons_zero,List.set_cons_succ])
   refine wpAnyH_done (by kernel_rfl) ?_ _
   go_wp2
   go_meet
   exact⟨rfl,HSS.out⟩
 case rest=>
 rename_i K_ a_
 revert t9 HS HW hmm K_ a_ wc u7 u9 u10 u11 u12 u13 u14 u15 u16 u17 u18 u19 u20 u21 u22 u23 u24 u25 u26 u27 u28 u29 u30 u31 u32 u33 u34 u35 u36 u37 u38 u39 u40 u41 u42 u43 u44 u45 u46 u47 u48 u49 u50 u51 u52 u53 u54 u55 u56 u57 u58 u59 u60 u61 u62 hcut
 exact z_.2:True∧_→(Lit.int .i64 k).wf=true→(k==9)=false→Calls Tryz.prog 68 #[.pointer (some ⟨g,0,none⟩),.int .i64 k,.int .i64 v] w Q)
theorem Xu7 (b:Brg) (A:Option Addr) (n c g:Nat) (k v:Int) (w:World) (hb:Xbj w g b A n c) (hfz:∀ o,w.frozen? ⟨g,o,none⟩=false) (hl:Lines w w.heap.size A n c b.cache) (hoff:∀ ad,A=some ad→ad.block≠g) (hw:(Lit.int .i64 k).wf=true) (hk:Xp5 k=false) (hk9:k≠9) :
  Calls Tryz.prog 68 #[.pointer (some ⟨g,0,none⟩),.int .i64 k,.int .i64 v] w (OutC g A n c w (Xbi b k v)):=by
 have HB:=Zh hb
 have HL:=Zh hl
 have HO:=Zh hoff
 have HF:=Zh hfz
 have hg:=Xb9 hb
 have HS:=Zh (Xal w)
 have HW:=Zh hw
 have hmm:=@run_makeMap Tryz.prog
 have t9:(k==9)=false:=by rw[beq_eq_false_iff_ne];exact hk9
 have hp:ptrV g k=.pointer none:=by
  unfold Xp5 at hk
  simp at hk
  unfold ptrV
  simp[hk]
 rw[show Xbi b k v=(b,false) by unfold Xbi;rw[if_neg hk9,hk];simp]
 have HP:=Zh hp
 unfold OutC
 clear hb hl hoff hw hk hk9 hfz hp
 refine zOut ⟨trivial, ?_⟩ HW.out t9
 intro t9 HS HW hmm K_ a_ wc;(iterate 55 intro);intro hcut
 obtain⟨rfl,hS⟩:=hcut
 rw[HP.out]
 go_wp2
 go_ret
 exact⟨rfl,Xa0 HB.out hS.out,Xb0 HL.out hS.out,Xdo hg hS.out⟩
theorem out_0 (b:Brg) (A:Option Addr) (n c g:Nat) (v:Int) (w:World) (hb:Xbj w g b A n c) (hfz:∀ o,w.frozen? ⟨g,o,none⟩=false) (hl:Lines w w.heap.size A n c b.cache) (hoff:∀ ad,A=some ad→ad.block≠g) (k:Int) (hk:k=0) :
  Calls Tryz.prog 68 #[.pointer (some ⟨g,0,none⟩),.int .i64 k,.int .i64 v] w (OutC g A n c w (Xbi b k v)):=by
 have hw:(Lit.int .i64 k).wf=true:=by rw[hk];decide
 have HB:=Zh hb
 have HL:=Zh hl
 have HO:=Zh hoff
 have HF:=Zh hfz
 have hg:=Xb9 hb
 have HS:=Zh (Xal w)
 have HW:=Zh hw
 have hmm:=@run_makeMap Tryz.prog
 have t9:(k==9)=false:=by rw[hk];decide
 have HP:=Zh (show ptrV g k=.pointer (some ⟨g,0,none⟩) by rw[hk];rfl)
 have HK:=Zh hk
 unfold OutC
 clear hb hl hoff hw hfz hk
 refine zOut ⟨trivial, ?_⟩ HW.out t9
 intro t9 HS HW hmm K_ a_ wc;(iterate 55 intro);intro hcut
 obtain⟨rfl,hS⟩:=hcut
 rw[HP.out]
 have hb2:=Xa0 HB.out hS.out
 have HB2:=Zh hb2
 have HL2:=Zh (Xb0 HL.out hS.out)
 have hgd:=Xb9 hb2
 have hfz2:∀ o,wc.frozen? ⟨g,o,none⟩=false:=fun o=>(Below.frozen (p:=⟨g,o,none⟩) hS.out hg).trans (HF.out o)
 have HB3:=Zh (Xpp HB2.out v)
 have HL3:=Zh ((Xb5 HL2.out (p:=⟨g,0,none⟩) HO.out (.int .i64 v)).more (B':=(wc.setCell ⟨g,0,none⟩ (.int .i64 v)).heap.size) (by simp))
 have HN3:=Zh (Xdj (o:=0) hg hS.out (.int .i64 v))
 obtain⟨c0,c1,c2,c3,c4,c5,c6,c7,c8,c9,c10,c11⟩:=hb2
 by_cases hE:ckB { b with mode:=v }=0
 ·have hE0:(ckB { b with mode:=v } != 0)=false:=by rw[bne_eq_false_iff_eq];exact hE
  have HV:=Zh (show Xbi b k v=({ b with mode:=v },true) by rw[HK.out];unfold Xbi;rw[if_neg (by decide),if_pos ⟨rfl,hE⟩];rfl)
  clear hE
  go_wp2_with fail
  refine(Xbh { b with mode:=v } A n c _ HL3.out).mono ?_
  rintro e w3 ⟨rfl,hb3⟩
  have HB4:=Zh hb3
  clear hb3 c0 c1 c2 c3 c4 c5 c6 c7 c8 c9 c10 c11
  go_wp2
  go_ret
  rw[HV.out]
  exact⟨rfl,Xa0 HB3.out HB4.out,Xb0 HL3.out HB4.out,Xdy HN3.out hg HB4.out⟩
 ·have hE0:(ckB { b with mode:=v } != 0)=true:=by rw[bne_iff_ne];exact hE
  have HV:=Zh (show Xbi b k v=(b,false) by rw[HK.out];unfold Xbi;rw[if_neg (by decide),if_neg (fun h=>hE h.2)])
  clear hE
  go_wp2_with fail
  refine(Xbh { b with mode:=v } A n c _ HL3.out).mono ?_
  rintro e w3 ⟨rfl,hb3⟩
  have HB4:=Zh hb3
  have HB5:=Zh (Xa0 HB3.out hb3)
  have hg3:=Xb9 HB5.out
  have hfz3:∀ o,w3.frozen? ⟨g,o,none⟩=false:=fun o=>(Below.frozen (p:=⟨g,o,none⟩) hb3 (by simpa using hgd)).trans (by rw[World.frozen?_setCell];exact hfz2 o)
  have k3:=Xak (p:=⟨g,0,none⟩) (v:=.int .i64 v) hb3 (by simp[go_sem, *])
  clear hb3 c0 c1 c2 c3 c4 c5 c6 c7 c8 c9 c10 c11
  go_wp2
  go_ret
  rw[HV.out]
  exact⟨rfl,Xpp HB5.out b.mode,(Xb5 (Xb0 HL3.out HB4.out) (p:=⟨g,0,none⟩) HO.out (.int .i64 b.mode)).more (by simp),Xd1 (Xdy HN3.out hg HB4.out) hg _ _⟩
theorem out_1 (b:Brg) (A:Option Addr) (n c g:Nat) (v:Int) (w:World) (hb:Xbj w g b A n c) (hfz:∀ o,w.frozen? ⟨g,o,none⟩=false) (hl:Lines w w.heap.size A n c b.cache) (hoff:∀ ad,A=some ad→ad.block≠g) (k:Int) (hk:k=1) :
  Calls Tryz.prog 68 #[.pointer (some ⟨g,0,none⟩),.int .i64 k,.int .i64 v] w (OutC g A n c w (Xbi b k v)):=by
 have hw:(Lit.int .i64 k).wf=true:=by rw[hk];decide
 have HB:=Zh hb
 have HL:=Zh hl
 have HO:=Zh hoff
 have HF:=Zh hfz
 have hg:=Xb9 hb
 have HS:=Zh (Xal w)
 have HW:=Zh hw
 have hmm:=@run_makeMap Tryz.prog
 have t9:(k==9)=false:=by rw[hk];decide
 have HP:=Zh (show ptrV g k=.pointer (some ⟨g,1,none⟩) by rw[hk];rfl)
 have HK:=Zh hk
 unfold OutC
 clear hb hl hoff hw hfz hk
 refine zOut ⟨trivial, ?_⟩ HW.out t9
 intro t9 HS HW hmm K_ a_ wc;(iterate 55 intro);intro hcut
 obtain⟨rfl,hS⟩:=hcut
 rw[HP.out]
 have hb2:=Xa0 HB.out hS.out
 have HB2:=Zh hb2
 have HL2:=Zh (Xb0 HL.out hS.out)
 have hgd:=Xb9 hb2
 have hfz2:∀ o,wc.frozen? ⟨g,o,none⟩=false:=fun o=>(Below.frozen (p:=⟨g,o,none⟩) hS.out hg).trans (HF.out o)
 have HB3:=Zh (Xpo HB2.out v)
 have HL3:=Zh ((Xb5 HL2.out (p:=⟨g,1,none⟩) HO.out (.int .i64 v)).more (B':=(wc.setCell ⟨g,1,none⟩ (.int .i64 v)).heap.size) (by simp))
 have HN3:=Zh (Xdj (o:=1) hg hS.out (.int .i64 v))
 obtain⟨c0,c1,c2,c3,c4,c5,c6,c7,c8,c9,c10,c11⟩:=hb2
 by_cases hE:ckB { b with base:=v }=0
 ·have hE0:(ckB { b with base:=v } != 0)=false:=by rw[bne_eq_false_iff_eq];exact hE
  have HV:=Zh (show Xbi b k v=({ b with base:=v },true) by rw[HK.out];unfold Xbi;rw[if_neg (by decide),if_pos ⟨rfl,hE⟩];rfl)
  clear hE
  go_wp2_with fail
  refine(Xbh { b with base:=v } A n c _ HL3.out).mono ?_
  rintro e w3 ⟨rfl,hb3⟩
  have HB4:=Zh hb3
  clear hb3 c0 c1 c2 c3 c4 c5 c6 c7 c8 c9 c10 c11
  go_wp2
  go_ret
  rw[HV.out]
  exact⟨rfl,Xa0 HB3.out HB4.out,Xb0 HL3.out HB4.out,Xdy HN3.out hg HB4.out⟩
 ·have hE0:(ckB { b with base:=v } != 0)=true:=by rw[bne_iff_ne];exact hE
  have HV:=Zh (show Xbi b k v=(b,false) by rw[HK.out];unfold Xbi;rw[if_neg (by decide),if_neg (fun h=>hE h.2)])
  clear hE
  go_wp2_with fail
  refine(Xbh { b with base:=v } A n c _ HL3.out).mono ?_
  rintro e w3 ⟨rfl,hb3⟩
  have HB4:=Zh hb3
  have HB5:=Zh (Xa0 HB3.out hb3)
  have hg3:=Xb9 HB5.out
  have hfz3:∀ o,w3.frozen? ⟨g,o,none⟩=false:=fun o=>(Below.frozen (p:=⟨g,o,none⟩) hb3 (by simpa using hgd)).trans (by rw[World.frozen?_setCell];exact hfz2 o)
  have k3:=Xak (p:=⟨g,1,none⟩) (v:=.int .i64 v) hb3 (by simp[go_sem, *])
  clear hb3 c0 c1 c2 c3 c4 c5 c6 c7 c8 c9 c10 c11
  go_wp2
  go_ret
  rw[HV.out]
  exact⟨rfl,Xpo HB5.out b.base,(Xb5 (Xb0 HL3.out HB4.out) (p:=⟨g,1,none⟩) HO.out (.int .i64 b.base)).more (by simp),Xd1 (Xdy HN3.out hg HB4.out) hg _ _⟩
theorem out_2 (b:Brg) (A:Option Addr) (n c g:Nat) (v:Int) (w:World) (hb:Xbj w g b A n c) (hfz:∀ o,w.frozen? ⟨g,o,none⟩=false) (hl:Lines w w.heap.size A n c b.cache) (hoff:∀ ad,A=some ad→ad.block≠g) (k:Int) (hk:k=2) :
  Calls Tryz.prog 68 #[.pointer (some ⟨g,0,none⟩),.int .i64 k,.int .i64 v] w (OutC g A n c w (Xbi b k v)):=by
 have hw:(Lit.int .i64 k).wf=true:=by rw[hk];decide
 have HB:=Zh hb
 have HL:=Zh hl
 have HO:=Zh hoff
 have HF:=Zh hfz
 have hg:=Xb9 hb
 have HS:=Zh (Xal w)
 have HW:=Zh hw
 have hmm:=@run_makeMap Tryz.prog
 have t9:(k==9)=false:=by rw[hk];decide
 have HP:=Zh (show ptrV g k=.pointer (some ⟨g,3,none⟩) by rw[hk];rfl)
 have HK:=Zh hk
 unfold OutC
 clear hb hl hoff hw hfz hk
 refine zOut ⟨trivial, ?_⟩ HW.out t9
 intro t9 HS HW hmm K_ a_ wc;(iterate 55 intro);intro hcut
 obtain⟨rfl,hS⟩:=hcut
 rw[HP.out]
 have hb2:=Xa0 HB.out hS.out
 have HB2:=Zh hb2
 have HL2:=Zh (Xb0 HL.out hS.out)
 have hgd:=Xb9 hb2
 have hfz2:∀ o,wc.frozen? ⟨g,o,none⟩=false:=fun o=>(Below.frozen (p:=⟨g,o,none⟩) hS.out hg).trans (HF.out o)
 have HB3:=Zh (Xpn HB2.out v)
 have HL3:=Zh ((Xb5 HL2.out (p:=⟨g,3,none⟩) HO.out (.int .i64 v)).more (B':=(wc.setCell ⟨g,3,none⟩ (.int .i64 v)).heap.size) (by simp))
 have HN3:=Zh (Xdj (o:=3) hg hS.out (.int .i64 v))
 obtain⟨c0,c1,c2,c3,c4,c5,c6,c7,c8,c9,c10,c11⟩:=hb2
 by_cases hE:ckB { b with orders:=⟨v,b.orders.head,b.orders.tail⟩ }=0
 ·have hE0:(ckB { b with orders:=⟨v,b.orders.head,b.orders.tail⟩ } != 0)=false:=by rw[bne_eq_false_iff_eq];exact hE
  have HV:=Zh (show Xbi b k v=({ b with orders:=⟨v,b.orders.head,b.orders.tail⟩ },true) by rw[HK.out];unfold Xbi;rw[if_neg (by decide),if_pos ⟨rfl,hE⟩];rfl)
  clear hE
  go_wp2_with fail
  refine(Xbh { b with orders:=⟨v,b.orders.head,b.orders.tail⟩ } A n c _ HL3.out).mono ?_
  rintro e w3 ⟨rfl,hb3⟩
  have HB4:=Zh hb3
  clear hb3 c0 c1 c2 c3 c4 c5 c6 c7 c8 c9 c10 c11
  go_wp2
  go_ret
  rw[HV.out]
  exact⟨rfl,Xa0 HB3.out HB4.out,Xb0 HL3.out HB4.out,Xdy HN3.out hg HB4.out⟩
 ·have hE0:(ckB { b with orders:=⟨v,b.orders.head,b.orders.tail⟩ } != 0)=true:=by rw[bne_iff_ne];exact hE
  have HV:=Zh (show Xbi b k v=(b,false) by rw[HK.out];unfold Xbi;rw[if_neg (by decide),if_neg (fun h=>hE h.2)])
  clear hE
  go_wp2_with fail
  refine(Xbh { b with orders:=⟨v,b.orders.head,b.orders.tail⟩ } A n c _ HL3.out).mono ?_
  rintro e w3 ⟨rfl,hb3⟩
  have HB4:=Zh hb3
  have HB5:=Zh (Xa0 HB3.out hb3)
  have hg3:=Xb9 HB5.out
  have hfz3:∀ o,w3.frozen? ⟨g,o,none⟩=false:=fun o=>(Below.frozen (p:=⟨g,o,none⟩) hb3 (by simpa using hgd)).trans (by rw[World.frozen?_setCell];exact hfz2 o)
  have k3:=Xak (p:=⟨g,3,none⟩) (v:=.int .i64 v) hb3 (by simp[go_sem, *])
  clear hb3 c0 c1 c2 c3 c4 c5 c6 c7 c8 c9 c10 c11
  go_wp2
  go_ret
  rw[HV.out]
  exact⟨rfl,Xpn HB5.out b.orders.page,(Xb5 (Xb0 HL3.out HB4.out) (p:=⟨g,3,none⟩) HO.out (.int .i64 b.orders.page)).more (by simp),Xd1 (Xdy HN3.out hg HB4.out) hg _ _⟩
theorem out_3 (b:Brg) (A:Option Addr) (n c g:Nat) (v:Int) (w:World) (hb:Xbj w g b A n c) (hfz:∀ o,w.frozen? ⟨g,o,none⟩=false) (hl:Lines w w.heap.size A n c b.cache) (hoff:∀ ad,A=some ad→ad.block≠g) (k:Int) (hk:k=3) :
  Calls Tryz.prog 68 #[.pointer (some ⟨g,0,none⟩),.int .i64 k,.int .i64 v] w (OutC g A n c w (Xbi b k v)):=by
 have hw:(Lit.int .i64 k).wf=true:=by rw[hk];decide
 have HB:=Zh hb
 have HL:=Zh hl
 have HO:=Zh hoff
 have HF:=Zh hfz
 have hg:=Xb9 hb
 have HS:=Zh (Xal w)
 have HW:=Zh hw
 have hmm:=@run_makeMap Tryz.prog
 have t9:(k==9)=false:=by rw[hk];decide
 have HP:=Zh (show ptrV g k=.pointer (some ⟨g,5,none⟩) by rw[hk];rfl)
 have HK:=Zh hk
 unfold OutC
 clear hb hl hoff hw hfz hk
 refine zOut ⟨trivial, ?_⟩ HW.out t9
 intro t9 HS HW hmm K_ a_ wc;(iterate 55 intro);intro hcut
 obtain⟨rfl,hS⟩:=hcut
 rw[HP.out]
 have hb2:=Xa0 HB.out hS.out
 have HB2:=Zh hb2
 have HL2:=Zh (Xb0 HL.out hS.out)
 have hgd:=Xb9 hb2
 have hfz2:∀ o,wc.frozen? ⟨g,o,none⟩=false:=fun o=>(Below.frozen (p:=⟨g,o,none⟩) hS.out hg).trans (HF.out o)
 have HB3:=Zh (Xpm HB2.out v)
 have HL3:=Zh ((Xb5 HL2.out (p:=⟨g,5,none⟩) HO.out (.int .i64 v)).more (B':=(wc.setCell ⟨g,5,none⟩ (.int .i64 v)).heap.size) (by simp))
 have HN3:=Zh (Xdj (o:=5) hg hS.out (.int .i64 v))
 obtain⟨c0,c1,c2,c3,c4,c5,c6,c7,c8,c9,c10,c11⟩:=hb2
 by_cases hE:ckB { b with orders:=⟨b.orders.page,b.orders.head,v⟩ }=0
 ·have hE0:(ckB { b with orders:=⟨b.orders.page,b.orders.head,v⟩ } != 0)=false:=by rw[bne_eq_false_iff_eq];exact hE
  have HV:=Zh (show Xbi b k v=({ b with orders:=⟨b.orders.page,b.orders.head,v⟩ },true) by rw[HK.out];unfold Xbi;rw[if_neg (by decide),if_pos ⟨rfl,hE⟩];rfl)
  clear hE
  go_wp2_with fail
  refine(Xbh { b with orders:=⟨b.orders.page,b.orders.head,v⟩ } A n c _ HL3.out).mono ?_
  rintro e w3 ⟨rfl,hb3⟩
  have HB4:=Zh hb3
  clear hb3 c0 c1 c2 c3 c4 c5 c6 c7 c8 c9 c10 c11
  go_wp2
  go_ret
  rw[HV.out]
  exact⟨rfl,Xa0 HB3.out HB4.out,Xb0 HL3.out HB4.out,Xdy HN3.out hg HB4.out⟩
 ·have hE0:(ckB { b with orders:=⟨b.orders.page,b.orders.head,v⟩ } != 0)=true:=by rw[bne_iff_ne];exact hE
  have HV:=Zh (show Xbi b k v=(b,false) by rw[HK.out];unfold Xbi;rw[if_neg (by decide),if_neg (fun h=>hE h.2)])
  clear hE
  go_wp2_with fail
  refine(Xbh { b with orders:=⟨b.orders.page,b.orders.head,v⟩ } A n c _ HL3.out).mono ?_
  rintro e w3 ⟨rfl,hb3⟩
  have HB4:=Zh hb3
  have HB5:=Zh (Xa0 HB3.out hb3)
  have hg3:=Xb9 HB5.out
  have hfz3:∀ o,w3.frozen? ⟨g,o,none⟩=false:=fun o=>(Below.frozen (p:=⟨g,o,none⟩) hb3 (by simpa using hgd)).trans (by rw[World.frozen?_setCell];exact hfz2 o)
  have k3:=Xak (p:=⟨g,5,none⟩) (v:=.int .i64 v) hb3 (by simp[go_sem, *])
  clear hb3 c0 c1 c2 c3 c4 c5 c6 c7 c8 c9 c10 c11
  go_wp2
  go_ret
  rw[HV.out]
  exact⟨rfl,Xpm HB5.out b.orders.tail,(Xb5 (Xb0 HL3.out HB4.out) (p:=⟨g,5,none⟩) HO.out (.int .i64 b.orders.tail)).more (by simp),Xd1 (Xdy HN3.out hg HB4.out) hg _ _⟩
theorem out_5 (b:Brg) (A:Option Addr) (n c g:Nat) (v:Int) (w:World) (hb:Xbj w g b A n c) (hfz:∀ o,w.frozen? ⟨g,o,none⟩=false) (hl:Lines w w.heap.size A n c b.cache) (hoff:∀ ad,A=some ad→ad.block≠g) (k:Int) (hk:k=5) :
  Calls Tryz.prog 68 #[.pointer (some ⟨g,0,none⟩),.int .i64 k,.int .i64 v] w (OutC g A n c w (Xbi b k v)):=by
 have hw:(Lit.int .i64 k).wf=true:=by rw[hk];decide
 have HB:=Zh hb
 have HL:=Zh hl
 have HO:=Zh hoff
 have HF:=Zh hfz
 have hg:=Xb9 hb
 have HS:=Zh (Xal w)
 have HW:=Zh hw
 have hmm:=@run_makeMap Tryz.prog
 have t9:(k==9)=false:=by rw[hk];decide
 have HP:=Zh (show ptrV g k=.pointer (some ⟨g,8,none⟩) by rw[hk];rfl)
 have HK:=Zh hk
 unfold OutC
 clear hb hl hoff hw hfz hk
 refine zOut ⟨trivial, ?_⟩ HW.out t9
 intro t9 HS HW hmm K_ a_ wc;(iterate 55 intro);intro hcut
 obtain⟨rfl,hS⟩:=hcut
 rw[HP.out]
 have hb2:=Xa0 HB.out hS.out
 have HB2:=Zh hb2
 have HL2:=Zh (Xb0 HL.out hS.out)
 have hgd:=Xb9 hb2
 have hfz2:∀ o,wc.frozen? ⟨g,o,none⟩=false:=fun o=>(Below.frozen (p:=⟨g,o,none⟩) hS.out hg).trans (HF.out o)
 have HB3:=Zh (Xpl HB2.out v)
 have HL3:=Zh ((Xb5 HL2.out (p:=⟨g,8,none⟩) HO.out (.int .i64 v)).more (B':=(wc.setCell ⟨g,8,none⟩ (.int .i64 v)).heap.size) (by simp))
 have HN3:=Zh (Xdj (o:=8) hg hS.out (.int .i64 v))
 obtain⟨c0,c1,c2,c3,c4,c5,c6,c7,c8,c9,c10,c11⟩:=hb2
 by_cases hE:ckB { b with faults:=⟨v,b.faults.head,b.faults.tail⟩ }=0
 ·have hE0:(ckB { b with faults:=⟨v,b.faults.head,b.faults.tail⟩ } != 0)=false:=by rw[bne_eq_false_iff_eq];exact hE
  have HV:=Zh (show Xbi b k v=({ b with faults:=⟨v,b.faults.head,b.faults.tail⟩ },true) by rw[HK.out];unfold Xbi;rw[if_neg (by decide),if_pos ⟨rfl,hE⟩];rfl)
  clear hE
  go_wp2_with fail
  refine(Xbh { b with faults:=⟨v,b.faults.head,b.faults.tail⟩ } A n c _ HL3.out).mono ?_
  rintro e w3 ⟨rfl,hb3⟩
  have HB4:=Zh hb3
  clear hb3 c0 c1 c2 c3 c4 c5 c6 c7 c8 c9 c10 c11
  go_wp2
  go_ret
  rw[HV.out]
  exact⟨rfl,Xa0 HB3.out HB4.out,Xb0 HL3.out HB4.out,Xdy HN3.out hg HB4.out⟩
 ·have hE0:(ckB { b with faults:=⟨v,b.faults.head,b.faults.tail⟩ } != 0)=true:=by rw[bne_iff_ne];exact hE
  have HV:=Zh (show Xbi b k v=(b,false) by rw[HK.out];unfold Xbi;rw[if_neg (by decide),if_neg (fun h=>hE h.2)])
  clear hE
  go_wp2_with fail
  refine(Xbh { b with faults:=⟨v,b.faults.head,b.faults.tail⟩ } A n c _ HL3.out).mono ?_
  rintro e w3 ⟨rfl,hb3⟩
  have HB4:=Zh hb3
  have HB5:=Zh (Xa0 HB3.out hb3)
  have hg3:=Xb9 HB5.out
  have hfz3:∀ o,w3.frozen? ⟨g,o,none⟩=false:=fun o=>(Below.frozen (p:=⟨g,o,none⟩) hb3 (by simpa using hgd)).trans (by rw[World.frozen?_setCell];exact hfz2 o)
  have k3:=Xak (p:=⟨g,8,none⟩) (v:=.int .i64 v) hb3 (by simp[go_sem, *])
  clear hb3 c0 c1 c2 c3 c4 c5 c6 c7 c8 c9 c10 c11
  go_wp2
  go_ret
  rw[HV.out]
  exact⟨rfl,Xpl HB5.out b.faults.page,(Xb5 (Xb0 HL3.out HB4.out) (p:=⟨g,8,none⟩) HO.out (.int .i64 b.faults.page)).more (by simp),Xd1 (Xdy HN3.out hg HB4.out) hg _ _⟩
theorem out_6 (b:Brg) (A:Option Addr) (n c g:Nat) (v:Int) (w:World) (hb:Xbj w g b A n c) (hfz:∀ o,w.frozen? ⟨g,o,none⟩=false) (hl:Lines w w.heap.size A n c b.cache) (hoff:∀ ad,A=some ad→ad.block≠g) (k:Int) (hk:k=6) :
  Calls Tryz.prog 68 #[.pointer (some ⟨g,0,none⟩),.int .i64 k,.int .i64 v] w (OutC g A n c w (Xbi b k v)):=by
 have hw:(Lit.int .i64 k).wf=true:=by rw[hk];decide
 have HB:=Zh hb
 have HL:=Zh hl
 have HO:=Zh hoff
 have HF:=Zh hfz
 have hg:=Xb9 hb
 have HS:=Zh (Xal w)
 have HW:=Zh hw
 have hmm:=@run_makeMap Tryz.prog
 have t9:(k==9)=false:=by rw[hk];decide
 have HP:=Zh (show ptrV g k=.pointer (some ⟨g,9,none⟩) by rw[hk];rfl)
 have HK:=Zh hk
 unfold OutC
 clear hb hl hoff hw hfz hk
 refine zOut ⟨trivial, ?_⟩ HW.out t9
 intro t9 HS HW hmm K_ a_ wc;(iterate 55 intro);intro hcut
 obtain⟨rfl,hS⟩:=hcut
 rw[HP.out]
 have hb2:=Xa0 HB.out hS.out
 have HB2:=Zh hb2
 have HL2:=Zh (Xb0 HL.out hS.out)
 have hgd:=Xb9 hb2
 have hfz2:∀ o,wc.frozen? ⟨g,o,none⟩=false:=fun o=>(Below.frozen (p:=⟨g,o,none⟩) hS.out hg).trans (HF.out o)
 have HB3:=Zh (Xpk HB2.out v)
 have HL3:=Zh ((Xb5 HL2.out (p:=⟨g,9,none⟩) HO.out (.int .i64 v)).more (B':=(wc.setCell ⟨g,9,none⟩ (.int .i64 v)).heap.size) (by simp))
 have HN3:=Zh (Xdj (o:=9) hg hS.out (.int .i64 v))
 obtain⟨c0,c1,c2,c3,c4,c5,c6,c7,c8,c9,c10,c11⟩:=hb2
 by_cases hE:ckB { b with faults:=⟨b.faults.page,v,b.faults.tail⟩ }=0
 ·have hE0:(ckB { b with faults:=⟨b.faults.page,v,b.faults.tail⟩ } != 0)=false:=by rw[bne_eq_false_iff_eq];exact hE
  have HV:=Zh (show Xbi b k v=({ b with faults:=⟨b.faults.page,v,b.faults.tail⟩ },true) by rw[HK.out];unfold Xbi;rw[if_neg (by decide),if_pos ⟨rfl,hE⟩];rfl)
  clear hE
  go_wp2_with fail
  refine(Xbh { b with faults:=⟨b.faults.page,v,b.faults.tail⟩ } A n c _ HL3.out).mono ?_
  rintro e w3 ⟨rfl,hb3⟩
  have HB4:=Zh hb3
  clear hb3 c0 c1 c2 c3 c4 c5 c6 c7 c8 c9 c10 c11
  go_wp2
  go_ret
  rw[HV.out]
  exact⟨rfl,Xa0 HB3.out HB4.out,Xb0 HL3.out HB4.out,Xdy HN3.out hg HB4.out⟩
 ·have hE0:(ckB { b with faults:=⟨b.faults.page,v,b.faults.tail⟩ } != 0)=true:=by rw[bne_iff_ne];exact hE
  have HV:=Zh (show Xbi b k v=(b,false) by rw[HK.out];unfold Xbi;rw[if_neg (by decide),if_neg (fun h=>hE h.2)])
  clear hE
  go_wp2_with fail
  refine(Xbh { b with faults:=⟨b.faults.page,v,b.faults.tail⟩ } A n c _ HL3.out).mono ?_
  rintro e w3 ⟨rfl,hb3⟩
  have HB4:=Zh hb3
  have HB5:=Zh (Xa0 HB3.out hb3)
  have hg3:=Xb9 HB5.out
  have hfz3:∀ o,w3.frozen? ⟨g,o,none⟩=false:=fun o=>(Below.frozen (p:=⟨g,o,none⟩) hb3 (by simpa using hgd)).trans (by rw[World.frozen?_setCell];exact hfz2 o)
  have k3:=Xak (p:=⟨g,9,none⟩) (v:=.int .i64 v) hb3 (by simp[go_sem, *])
  clear hb3 c0 c1 c2 c3 c4 c5 c6 c7 c8 c9 c10 c11
  go_wp2
  go_ret
  rw[HV.out]
  exact⟨rfl,Xpk HB5.out b.faults.head,(Xb5 (Xb0 HL3.out HB4.out) (p:=⟨g,9,none⟩) HO.out (.int .i64 b.faults.head)).more (by simp),Xd1 (Xdy HN3.out hg HB4.out) hg _ _⟩
theorem Xvr (b:Brg) (A:Option Addr) (n c g:Nat) (k v:Int) (w:World) (hb:Xbj w g b A n c) (hfz:∀ o,w.frozen? ⟨g,o,none⟩=false) (hl:Lines w w.heap.size A n c b.cache) (hoff:∀ ad,A=some ad→ad.block≠g) (hk:0≤k∧k≤63) :
  Calls Tryz.prog 68 #[.pointer (some ⟨g,0,none⟩),.int .i64 k,.int .i64 v] w (OutC g A n c w (Xbi b k v)):=by
 by_cases h9:k=9
 ·subst h9;exact Xsm b A n c g v w hb hfz hl hoff
 by_cases h0:k=0
 ·exact out_0 b A n c g v w hb hfz hl hoff k h0
 by_cases h1:k=1
 ·exact out_1 b A n c g v w hb hfz hl hoff k h1
 by_cases h2:k=2
 ·exact out_2 b A n c g v w hb hfz hl hoff k h2
 by_cases h3:k=3
 ·exact out_3 b A n c g v w hb hfz hl hoff k h3
 by_cases h5:k=5
 ·exact out_5 b A n c g v w hb hfz hl hoff k h5
 by_cases h6:k=6
 ·exact out_6 b A n c g v w hb hfz hl hoff k h6
 have hw:(Lit.int .i64 k).wf=true:=by
  have:k=4∨(7≤k∧k≤63):=by omega
  show(decide (IntKind.i64.min≤k)&&decide (k≤IntKind.i64.max))=true
  have e1:IntKind.i64.min = -9223372036854775808:=by decide
  have e2:IntKind.i64.max=9223372036854775807:=by decide
  rw[e1,e2]
  simp
  omega
 exact Xu7 b A n c g k v w hb hfz hl hoff hw (by unfold Xp5;simp[h0,h1,h2,h3,h5,h6]) h9
end
section
structure Crd (w:World) (gm gh gb:Nat) (M:Option Addr) (mc:Nat) (R:Option Addr) (rc:Nat) (L:Option Addr) (n c:Nat) (xs:List Int) (h:Hrt) (b:Brg):Prop where
 m0:w.cell? ⟨gm,0,none⟩=some (.slice M 512 mc)
 h0:w.cell? ⟨gh,0,none⟩=some (.int .i64 h.at_)
 h1:w.cell? ⟨gh,1,none⟩=some (.slice R 8 rc)
 h2:w.cell? ⟨gh,2,none⟩=some (.bool h.done)
 b0:Xbj w gb b L n c
 im:Ints w w.heap.size M 512 xs
 ir:Ints w w.heap.size R 8 h.regs
 lb:Lines w w.heap.size L n c b.cache
def Apt (A A':Option Addr):Prop:=∀ ad ad',A=some ad→A'=some ad'→ad.block≠ad'.block
def Far (A:Option Addr) (g:Nat):Prop:=∀ ad,A=some ad→ad.block≠g
structure Sep (gm gh gb:Nat) (M R L:Option Addr):Prop where
 mh:gm≠gh
 mb:gm≠gb
 hb:gh≠gb
 m1:Far M gm
 m2:Far M gh
 m3:Far M gb
 r1:Far R gm
 r2:Far R gh
 r3:Far R gb
 l1:Far L gm
 l2:Far L gh
 l3:Far L gb
 mr:Apt M R
 lm:Apt L M
 lr:Apt L R
section
variable {w w':World} {gm gh gb g:Nat} {M R L:Option Addr} {mc rc n c:Nat} {xs:List Int} {h:Hrt} {b:Brg}
theorem Xdf {k:Nat} {A:Option Addr} {ys:List Int} (hx:Ints w w.heap.size A k ys) (ho:Only g w w') (hf:Far A g):Ints w' w'.heap.size A k ys:=by
 refine⟨hx.1,hx.2.1,fun hn=>?_⟩
 obtain⟨b,off,e,hb,hc⟩:=hx.2.2 hn
 exact⟨b,off,e,Nat.lt_of_lt_of_le hb ho.2.1,fun j v hv=>(ho.2.2.1 b _ (hf _ e) hb).trans (hc j v hv)⟩
theorem Xev {k d:Nat} {A:Option Addr} {ls:List Line} (hx:Lines w w.heap.size A k d ls) (ho:Only g w w') (hf:Far A g):Lines w' w'.heap.size A k d ls:=by
 obtain⟨h1,h2,h3,h4,h5⟩:=hx
 refine⟨h1,h2,h3,h4,fun h0=>?_⟩
 obtain⟨b,off,e,hb,hc⟩:=h5 h0
 exact⟨b,off,e,Nat.lt_of_lt_of_le hb ho.2.1,fun j v hv=>(ho.2.2.1 b _ (hf _ e) hb).trans (hc j v hv)⟩
theorem Xgq {g':Nat} (hb:Xbj w g' b L n c) (ho:Only g w w') (hf:g'≠g):Xbj w' g' b L n c:=by
 have hl:=Xb9 hb
 obtain⟨h0,h1,h2,h3,h4,h5,h6,h7,h8,h9,h10,h11⟩:=hb
 have e:=fun o=>ho.2.2.1 g' o hf hl
 exact⟨(e _).trans h0,(e _).trans h1,(e _).trans h2,(e _).trans h3,(e _).trans h4,(e _).trans h5,(e _).trans h6,(e _).trans h7,(e _).trans h8,(e _).trans h9,(e _).trans h10,(e _).trans h11⟩
theorem Xcd {g' o:Nat} {v:Value} (hc:w.cell? ⟨g',o,none⟩=some v) (ho:Only g w w') (hf:g'≠g):w'.cell? ⟨g',o,none⟩=some v:=(ho.2.2.1 g' o hf (Xbm hc)).trans hc
theorem Crd.since (hC:Crd w gm gh gb M mc R rc L n c xs h b) (hs:Xan w w'):Crd w' gm gh gb M mc R rc L n c xs h b:=
 ⟨Xak hs hC.m0,Xak hs hC.h0,Xak hs hC.h1,Xak hs hC.h2,Xa0 hC.b0 hs,Xd6 hC.im hs,Xd6 hC.ir hs,Xb0 hC.lb hs⟩
theorem Crd.brg (hC:Crd w gm gh gb M mc R rc L n c xs h b) (hS:Sep gm gh gb M R L) (ho:Only gb w w') {b':Brg} (h1:Xbj w' gb b' L n c) (h2:Lines w' w'.heap.size L n c b'.cache):Crd w' gm gh gb M mc R rc L n c xs h b':=
 ⟨Xcd hC.m0 ho hS.mb,Xcd hC.h0 ho hS.hb,Xcd hC.h1 ho hS.hb,Xcd hC.h2 ho hS.hb,h1,Xdf hC.im ho hS.m3,Xdf hC.ir ho hS.r3,h2⟩
theorem Xgx {A:Option Addr} (hA:A=some ⟨g,0,none⟩) {gx:Nat} (hf:Far A gx):gx≠g:=fun e=>hf _ hA e.symm
theorem Xk9 {A A':Option Addr} (hA:A'=some ⟨g,0,none⟩) (hp:Apt A A'):Far A g:=fun _ e=>hp _ _ e hA
theorem Xza {A A':Option Addr} (hp:Apt A A'):Apt A' A:=fun _ _ e e' h=>hp _ _ e' e h.symm
theorem Crd.reg (hC:Crd w gm gh gb M mc R rc L n c xs h b) (hS:Sep gm gh gb M R L) {gR:Nat} (hR:R=some ⟨gR,0,none⟩) (ho:Only gR w w') {ys:List Int} (h1:Ints w' w'.heap.size R 8 ys):Crd w' gm gh gb M mc R rc L n c xs ⟨h.at_,ys,h.done⟩ b:=
 ⟨Xcd hC.m0 ho (Xgx hR hS.r1),Xcd hC.h0 ho (Xgx hR hS.r2),Xcd hC.h1 ho (Xgx hR hS.r2),Xcd hC.h2 ho (Xgx hR hS.r2),Xgq hC.b0 ho (Xgx hR hS.r3),Xdf hC.im ho (Xk9 hR hS.mr),h1,Xev hC.lb ho (Xk9 hR hS.lr)⟩
theorem Crd.mem (hC:Crd w gm gh gb M mc R rc L n c xs h b) (hS:Sep gm gh gb M R L) {gM:Nat} (hM:M=some ⟨gM,0,none⟩) (ho:Only gM w w') {ys:List Int} (h1:Ints w' w'.heap.size M 512 ys):Crd w' gm gh gb M mc R rc L n c ys h b:=
 ⟨Xcd hC.m0 ho (Xgx hM hS.m1),Xcd hC.h0 ho (Xgx hM hS.m2),Xcd hC.h1 ho (Xgx hM hS.m2),Xcd hC.h2 ho (Xgx hM hS.m2),Xgq hC.b0 ho (Xgx hM hS.m3),h1,Xdf hC.ir ho (Xk9 hM (Xza hS.mr)),Xev hC.lb ho (Xk9 hM hS.lm)⟩
theorem Crd.at_ (hC:Crd w gm gh gb M mc R rc L n c xs h b) (hS:Sep gm gh gb M R L) {v:Int} (hs:Xan w w'):Crd (w'.setCell ⟨gh,0,none⟩ (.int .i64 v)) gm gh gb M mc R rc L n c xs ⟨v,h.regs,h.done⟩ b:=
 have ho:Only gh w (w'.setCell ⟨gh,0,none⟩ (.int .i64 v)):=Xdj (Xbm hC.h0) hs _
 ⟨Xcd hC.m0 ho hS.mh,by have:=Xak hs hC.h0;simp[go_sem,this],by have:=Xak hs hC.h1;simp[go_sem,this],by have:=Xak hs hC.h2;simp[go_sem,this],Xgq hC.b0 ho (Ne.symm hS.hb),Xdf hC.im ho hS.m2,Xdf hC.ir ho hS.r2,Xev hC.lb ho hS.l2⟩
def Xeh (w:World) (gm gh gb:Nat) (M:Option Addr) (mc:Nat) (R:Option Addr) (rc:Nat) (L:Option Addr) (n c:Nat) (r:List Int×Hrt×Brg×Bool) (e:Ending) (w':World):Prop:=
 e=.returned (.bool r.2.2.2)∧Crd w' gm gh gb M mc R rc L n c r.1 r.2.1 r.2.2.1∧∃ g,(M=some ⟨g,0,none⟩∨R=some ⟨g,0,none⟩∨g=gh∨g=gb)∧Only g w w'
theorem Xsk {B k m j:Nat} {A:Option Addr} {ys:List Int} (ho:OwnI B w A k m ys) (hk:k≤9223372036854775807) {gA:Nat} (hA:A=some ⟨gA,0,none⟩) (hs:Xan w w') (hj:j<k) (v:Int):Ints (w'.setCell ⟨gA,j,none⟩ (.int .i64 v)) (w'.setCell ⟨gA,j,none⟩ (.int .i64 v)).heap.size A k (ys.set j v):=by
 obtain⟨g,e,_,_,_,_,hp⟩:=Xb3 (ho.below hs) (by omega)
 rw[hA]at e
 injection e with e
 injection e with e
 subst e
 exact(hp j v hj).ints hk
theorem Xgo (hC:Crd w gm gh gb M mc R rc L n c xs h b) (hS:Sep gm gh gb M R L) {B:Nat} (hown:OwnI B w R 8 rc h.regs) {gR:Nat} (hR:R=some ⟨gR,0,none⟩) (hl:gR<w.heap.size) (hs:Xan w w') {a v:Int} (ha:0≤a) (ha':a<8) :
  Xeh w gm gh gb M mc R rc L n c (xs,h.setR a v,b,true) (.returned (.bool true)) (w'.setCell ⟨gR,a.toNat,none⟩ (.int .i64 v)):=
 have ho:=Xdj (o:=a.toNat) hl hs (.int .i64 v)
 ⟨rfl,hC.reg hS hR ho (Xsk hown (by decide) hR hs (by omega) v),gR,Or.inr (Or.inl hR),ho⟩
theorem Xv4 (hC:Crd w gm gh gb M mc R rc L n c xs h b) (hS:Sep gm gh gb M R L) {B:Nat} (hown:OwnI B w M 512 mc xs) {gM:Nat} (hM:M=some ⟨gM,0,none⟩) (hl:gM<w.heap.size) (hs:Xan w w') {a v:Int} (ha:0≤a) (ha':a<512) :
  Xeh w gm gh gb M mc R rc L n c (xs.set a.toNat v,h,b,true) (.returned (.bool true)) (w'.setCell ⟨gM,a.toNat,none⟩ (.int .i64 v)):=
 have ho:=Xdj (o:=a.toNat) hl hs (.int .i64 v)
 ⟨rfl,hC.mem hS hM ho (Xsk hown (by decide) hM hs (by omega) v),gM,Or.inl hM,ho⟩
theorem Xyu (hC:Crd w gm gh gb M mc R rc L n c xs h b) (hS:Sep gm gh gb M R L) (hs:Xan w w') (v:Int) :
  Xeh w gm gh gb M mc R rc L n c (xs,{ h with at_:=v },b,true) (.returned (.bool true)) (w'.setCell ⟨gh,0,none⟩ (.int .i64 v)):=
 ⟨rfl,hC.at_ hS hs,gh,Or.inr (Or.inr (Or.inl rfl)),Xdj (Xbm hC.h0) hs _⟩
theorem Xhq (hC:Crd w gm gh gb M mc R rc L n c xs h b) (hs:Xan w w') (ok:Bool):Xeh w gm gh gb M mc R rc L n c (xs,h,b,ok) (.returned (.bool ok)) w':=
 ⟨rfl,hC.since hs,gh,Or.inr (Or.inr (Or.inl rfl)),Xdo (Xbm hC.h0) hs⟩
end
structure Xjx (w:World) (gm gh gb:Nat) (M:Option Addr) (mc:Nat) (R:Option Addr) (rc:Nat) (L:Option Addr) (n c:Nat) (xs:List Int) (h:Hrt) (b:Brg) (gM gR:Nat):Prop where
 crd:Crd w gm gh gb M mc R rc L n c xs h b
 sep:Sep gm gh gb M R L
 om:∃ B,OwnI B w M 512 mc xs
 or:∃ B,OwnI B w R 8 rc h.regs
 eM:M=some ⟨gM,0,none⟩
 eR:R=some ⟨gR,0,none⟩
 cM:∀(k:Nat) (x:Int),xs[k]?=some x→w.cell? ⟨gM,k,none⟩=some (.int .i64 x)
 cR:∀(k:Nat) (x:Int),h.regs[k]?=some x→w.cell? ⟨gR,k,none⟩=some (.int .i64 x)
 fM:∀ o,w.frozen? ⟨gM,o,none⟩=false
 fR:∀ o,w.frozen? ⟨gR,o,none⟩=false
 fh:∀ o,w.frozen? ⟨gh,o,none⟩=false
 fb:∀ o,w.frozen? ⟨gb,o,none⟩=false
 lM:gM<w.heap.size
 lR:gR<w.heap.size
 ck:ckH h=0
 cm:cm xs=0
theorem Xyt {w:World} {gm gh gb:Nat} {M:Option Addr} {mc:Nat} {R:Option Addr} {rc:Nat} {L:Option Addr} {n c:Nat} {xs:List Int} {h:Hrt} {b:Brg} {B B':Nat}
  (crd:Crd w gm gh gb M mc R rc L n c xs h b) (sep:Sep gm gh gb M R L) (om:OwnI B w M 512 mc xs) (or:OwnI B' w R 8 rc h.regs) (fh:∀ o,w.frozen? ⟨gh,o,none⟩=false) (fb:∀ o,w.frozen? ⟨gb,o,none⟩=false) (hc:ckH h=0) (h0:cm xs=0) :
  ∃ gM gR,Xjx w gm gh gb M mc R rc L n c xs h b gM gR:=by
 obtain⟨gM,e1,_,l1,c1,f1,_⟩:=Xb3 om (by decide)
 obtain⟨gR,e2,_,l2,c2,f2,_⟩:=Xb3 or (by decide)
 exact⟨gM,gR,crd,sep,⟨_,om⟩,⟨_,or⟩,e1,e2,c1,c2,f1,f2,fh,fb,l1,l2,hc,h0⟩
theorem Xc2 {xs:List Int} {k:Int} {n:Nat} (hl:xs.length=n) (h0:0≤k) (h1:k<n):xs[k.toNat]?=some (rd xs k):=by
 unfold rd
 rw[List.getElem?_eq_getElem (by omega)]
 rfl
theorem Xd8 {xs:List Int} {k:Int} (hx:∀(j:Nat) (x:Int),xs[j]?=some x→0≤x∧x≤65535):0≤rd xs k∧rd xs k≤65535:=by
 unfold rd
 cases e:xs[k.toNat]?
 ·simp
 ·exact hx _ _ e
end
end Go.Proofs.YtbopdijnojaaiadGreat
