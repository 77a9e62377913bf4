/- Contexts as words: the walk of the document's ContextOf. No statement of the seat is proved here. -/
import Derived.Test.YtbopdijnojaaiadGreatEntryE
import Derived.Test.YtbopdijnojaaiadGreatEntryX
namespace Go.Proofs.YtbopdijnojaaiadGreat
set_option maxRecDepth 100000
set_option maxHeartbeats 4000000
open Go.RowKit
set_option linter.unusedSimpArgs false
set_option linter.unusedVariables false
theorem Xgi {P:Program} {f:FuncId} {args:Array Value} {w:World} {n:Nat} {v:Value}
  (h:Calls P f args (w.drewN n) fun e w'=>e=.returned v∧w.drewN n=w'):Calls P f args (w.drewN n) fun e w''=>e=.returned v∧∃ m,w''=w.drewN m:=
 h.mono fun _ _ ⟨he,hm⟩=>⟨he,n,hm.symm⟩
theorem Xk5 (v:Int) (w:World):Ints (w.alloc (.cells #[.int .i64 (v % 2),.int .i64 (v / 2 % 2),.int .i64 (v / 4 % 2),.int .i64 (v / 8 % 2),.int .i64 (v / 16 % 2),.int .i64 (v / 32 % 2),.int .i64 (v / 64 % 2),.int .i64 (v / 128 % 2),.int .i64 (v / 256 % 2),.int .i64 (v / 512 % 2),.int .i64 (v / 1024 % 2),.int .i64 (v / 2048 % 2),.int .i64 (v / 4096 % 2),.int .i64 (v / 8192 % 2),.int .i64 (v / 16384 % 2),.int .i64 (v / 32768 % 2)] 163)) (w.heap.size+1) (some ⟨w.heap.size,10,none⟩) 6 [v / 1024 % 2,v / 2048 % 2,v / 4096 % 2,v / 8192 % 2,v / 16384 % 2,v / 32768 % 2]:=
 Xfx rfl (by omega) (by omega) (fun k hk=>by
  match k,hk with
  |0,_=>simp[go_sem]
  |1,_=>simp[go_sem]
  |2,_=>simp[go_sem]
  |3,_=>simp[go_sem]
  |4,_=>simp[go_sem]
  |5,_=>simp[go_sem])
theorem Xk4 (v:Int) (w:World):Ints (w.alloc (.cells #[.int .i64 (v % 2),.int .i64 (v / 2 % 2),.int .i64 (v / 4 % 2),.int .i64 (v / 8 % 2),.int .i64 (v / 16 % 2),.int .i64 (v / 32 % 2),.int .i64 (v / 64 % 2),.int .i64 (v / 128 % 2),.int .i64 (v / 256 % 2),.int .i64 (v / 512 % 2),.int .i64 (v / 1024 % 2),.int .i64 (v / 2048 % 2),.int .i64 (v / 4096 % 2),.int .i64 (v / 8192 % 2),.int .i64 (v / 16384 % 2),.int .i64 (v / 32768 % 2)] 163)) (w.heap.size+1) (some ⟨w.heap.size,4,none⟩) 6 [v / 16 % 2,v / 32 % 2,v / 64 % 2,v / 128 % 2,v / 256 % 2,v / 512 % 2]:=
 Xfx rfl (by omega) (by omega) (fun k hk=>by
  match k,hk with
  |0,_=>simp[go_sem]
  |1,_=>simp[go_sem]
  |2,_=>simp[go_sem]
  |3,_=>simp[go_sem]
  |4,_=>simp[go_sem]
  |5,_=>simp[go_sem])
theorem Xy2 {v:Int} (h:0≤v) (hb:Xjq v=true):0<v / 4 % 2+v / 8 % 2+v / 1024∨(v / 4 % 2+v / 8 % 2+v / 1024≤0∧v / 2 % 2=1∧0<v / 16 % 64):=by
 unfold Xjq at hb
 rw[Xok,Xq4,Xq3]at hb
 simp only[Bool.or_eq_true,Bool.and_eq_true,bne_iff_ne,beq_iff_eq]at hb
 omega
theorem Xy3 {v:Int} (h:0≤v) (hb:Xjq v=false):v / 4 % 2+v / 8 % 2+v / 1024≤0∧(v / 2 % 2≠1∨(v / 2 % 2=1∧v / 16 % 64≤0)):=by
 unfold Xjq at hb
 rw[Xok,Xq4,Xq3]at hb
 simp only[Bool.or_eq_false_iff,Bool.and_eq_false_iff,bne_eq_false_iff_eq,beq_eq_false_iff_ne]at hb
 omega
theorem Xwn (v:Int) (h:0≤v∧v≤65535):IntKind.i64.wrap (v / 4 % 2+v / 8 % 2)=v / 4 % 2+v / 8 % 2∧IntKind.i64.wrap (v / 4 % 2+v / 8 % 2+v / 1024)=v / 4 % 2+v / 8 % 2+v / 1024:=
 ⟨IntWalk.i64_in _ (by omega),IntWalk.i64_in _ (by omega)⟩
theorem Xpi {v:Int} (h:cxG v=true):Ending.returned (.tuple #[.agg #[.bool true,.bool (v / 2 % 2==1),.int .i64 (v / 16 % 64)],.bool true])=.returned (cxV v):=by
 rw[←Xok];exact Xt4 h (Xod h)
theorem Xh1 (v:Int) (hR:0≤v∧v≤65535) (h0:v % 2=1) (hbad:Xjq v=true) (w:World):Calls Tryz.prog 85 #[.int .i64 v] w fun e w'=>e=.returned (cxV v)∧Below w.heap.size w w':=by
 have HR:=Zh hR
 have hin:=Xb2 hR
 have hd:digV v=.agg #[.int .i64 (v % 2),.int .i64 (v / 2 % 2),.int .i64 (v / 4 % 2),.int .i64 (v / 8 % 2),.int .i64 (v / 16 % 2),.int .i64 (v / 32 % 2),.int .i64 (v / 64 % 2),.int .i64 (v / 128 % 2),.int .i64 (v / 256 % 2),.int .i64 (v / 512 % 2),.int .i64 (v / 1024 % 2),.int .i64 (v / 2048 % 2),.int .i64 (v / 4096 % 2),.int .i64 (v / 8192 % 2),.int .i64 (v / 16384 % 2),.int .i64 (v / 32768 % 2)]:=rfl
 have hn6:=num6 v hR
 have hn4:=num4 v hR
 have hG:=Zh (show cxG v=false by unfold cxG;rw[hbad];simp)
 have hK:=Zh (show cxK v=false by unfold cxK;rw[hbad,Xlg,h0];simp)
 obtain⟨hw1,hw2⟩:=Xwn v hR
 obtain⟨h1,h2⟩:=hR
 have ht0:(v % 2==0)=false:=by rw[beq_eq_false_iff_ne];omega
 have hb:=Xy2 h1 hbad
 clear hbad h0
 rcases hb with hb|⟨hb,hb2,hb3⟩
 ·have hg:decide (0<v / 4 % 2+v / 8 % 2+v / 1024)=true:=by simpa using hb
  go_enter Tryz.func85,Tryz.ntmps85
  go_wp2_with (go_at_call 38;refine(Xbc _ _ _ _).mono ?_;rintro e w' ⟨rfl,rfl⟩)
  refine(Xdg _ HR.out _).mono ?_
  rintro e w1 ⟨rfl,hb1⟩
  have hz1:=hb1.size
  (try simp only[Zs]at hz1)
  obtain⟨k1_0,l1_0,q1_0⟩:=aft hb1 (w.heap.size) (by(try simp)<;>omega)
  simp(maxDischargeDepth:=6) [go_sem, *]at k1_0 q1_0
  have HB1:=Zh hb1
  clear hb1
  have HI:=Zh (Xk5 v w1)
  have HL:=Zh (Xk4 v w1)
  go_wp2_with fail
  refine(Xcq _ _ _ [v / 16 % 2,v / 32 % 2,v / 64 % 2,v / 128 % 2,v / 256 % 2,v / 512 % 2] _ (HL.out.more (by simp)) (Xif _ _ _ _ _ _) (by omega)).mono ?_
  rintro e w' ⟨rfl,rfl⟩
  go_wp2_with fail
  go_quiet ((go_at_call 99;exact Xgi (Xcq _ _ _ [v / 1024 % 2,v / 2048 % 2,v / 4096 % 2,v / 8192 % 2,v / 16384 % 2,v / 32768 % 2] _ (HI.out.more (by simp)) (Xif _ _ _ _ _ _) (by omega))))
  go_wp2
  refine bodyPost_ret (v:=.tuple #[.agg #[.bool false,.bool false,.int .i64 0],.bool false]) ?_ rfl ⟨Xjp hG.out false hK.out, ?_⟩
  ·simp(maxDischargeDepth:=8) [results,Tryz.results85,go_sem, *]
  ·(refine bl ?_;repeat' first|with_reducible(first|assumption|constructor)|((try simp)<;>omega))
 ·have hg:decide (0<v / 4 % 2+v / 8 % 2+v / 1024)=false:=by simp;omega
  have hg2:(v / 2 % 2==1)=true:=by rw[beq_iff_eq];exact hb2
  have hg3:decide (0<v / 16 % 64)=true:=by simpa using hb3
  clear hb2
  go_enter Tryz.func85,Tryz.ntmps85
  go_wp2_with (go_at_call 38;refine(Xbc _ _ _ _).mono ?_;rintro e w' ⟨rfl,rfl⟩)
  refine(Xdg _ HR.out _).mono ?_
  rintro e w1 ⟨rfl,hb1⟩
  have hz1:=hb1.size
  (try simp only[Zs]at hz1)
  obtain⟨k1_0,l1_0,q1_0⟩:=aft hb1 (w.heap.size) (by(try simp)<;>omega)
  simp(maxDischargeDepth:=6) [go_sem, *]at k1_0 q1_0
  have HB1:=Zh hb1
  clear hb1
  have HI:=Zh (Xk5 v w1)
  have HL:=Zh (Xk4 v w1)
  go_wp2_with fail
  refine(Xcq _ _ _ [v / 16 % 2,v / 32 % 2,v / 64 % 2,v / 128 % 2,v / 256 % 2,v / 512 % 2] _ (HL.out.more (by simp)) (Xif _ _ _ _ _ _) (by omega)).mono ?_
  rintro e w' ⟨rfl,rfl⟩
  go_wp2_with fail
  go_quiet ((go_at_call 99;exact Xgi (Xcq _ _ _ [v / 1024 % 2,v / 2048 % 2,v / 4096 % 2,v / 8192 % 2,v / 16384 % 2,v / 32768 % 2] _ (HI.out.more (by simp)) (Xif _ _ _ _ _ _) (by omega))))
  go_wp2
  refine bodyPost_ret (v:=.tuple #[.agg #[.bool false,.bool false,.int .i64 0],.bool false]) ?_ rfl ⟨Xjp hG.out false hK.out, ?_⟩
  ·simp(maxDischargeDepth:=8) [results,Tryz.results85,go_sem, *]
  ·(refine bl ?_;repeat' first|with_reducible(first|assumption|constructor)|((try simp)<;>omega))
theorem Xh0 (v:Int) (hR:0≤v∧v≤65535) (h0:v % 2=1) (hbad:Xjq v=false) (w:World):Calls Tryz.prog 85 #[.int .i64 v] w fun e w'=>e=.returned (cxV v)∧Below w.heap.size w w':=by
 have HR:=Zh hR
 have hin:=Xb2 hR
 have hd:digV v=.agg #[.int .i64 (v % 2),.int .i64 (v / 2 % 2),.int .i64 (v / 4 % 2),.int .i64 (v / 8 % 2),.int .i64 (v / 16 % 2),.int .i64 (v / 32 % 2),.int .i64 (v / 64 % 2),.int .i64 (v / 128 % 2),.int .i64 (v / 256 % 2),.int .i64 (v / 512 % 2),.int .i64 (v / 1024 % 2),.int .i64 (v / 2048 % 2),.int .i64 (v / 4096 % 2),.int .i64 (v / 8192 % 2),.int .i64 (v / 16384 % 2),.int .i64 (v / 32768 % 2)]:=rfl
 have hn6:=num6 v hR
 have hn4:=num4 v hR
 have hG:=Zh (show cxG v=true by unfold cxG;rw[hbad,Xio hR,Xlg,h0];rfl)
 obtain⟨hw1,hw2⟩:=Xwn v hR
 obtain⟨h1,h2⟩:=hR
 have ht0:(v % 2==0)=false:=by rw[beq_eq_false_iff_ne];omega
 obtain⟨hb,hb2⟩:=Xy3 h1 hbad
 have hg:decide (0<v / 4 % 2+v / 8 % 2+v / 1024)=false:=by simp;omega
 clear hbad h0
 rcases hb2 with hb2|⟨hb2,hb3⟩
 ·have hg2:(v / 2 % 2==1)=false:=by rw[beq_eq_false_iff_ne];exact hb2
  have G2:=Zh hg2
  clear hb2
  go_enter Tryz.func85,Tryz.ntmps85
  go_wp2_with (go_at_call 38;refine(Xbc _ _ _ _).mono ?_;rintro e w' ⟨rfl,rfl⟩)
  refine(Xdg _ HR.out _).mono ?_
  rintro e w1 ⟨rfl,hb1⟩
  have hz1:=hb1.size
  (try simp only[Zs]at hz1)
  obtain⟨k1_0,l1_0,q1_0⟩:=aft hb1 (w.heap.size) (by(try simp)<;>omega)
  simp(maxDischargeDepth:=6) [go_sem, *]at k1_0 q1_0
  have HB1:=Zh hb1
  clear hb1
  have HI:=Zh (Xk5 v w1)
  have HL:=Zh (Xk4 v w1)
  go_wp2_with fail
  refine(Xcq _ _ _ [v / 16 % 2,v / 32 % 2,v / 64 % 2,v / 128 % 2,v / 256 % 2,v / 512 % 2] _ (HL.out.more (by simp)) (Xif _ _ _ _ _ _) (by omega)).mono ?_
  rintro e w' ⟨rfl,rfl⟩
  go_wp2_with fail
  go_quiet ((go_at_call 99;exact Xgi (Xcq _ _ _ [v / 1024 % 2,v / 2048 % 2,v / 4096 % 2,v / 8192 % 2,v / 16384 % 2,v / 32768 % 2] _ (HI.out.more (by simp)) (Xif _ _ _ _ _ _) (by omega))))
  go_wp2
  refine bodyPost_ret (v:=.tuple #[.agg #[.bool true,.bool (v / 2 % 2==1),.int .i64 (v / 16 % 64)],.bool true]) ?_ rfl ⟨Xpi hG.out, ?_⟩
  ·simp(maxDischargeDepth:=8) [results,Tryz.results85,go_sem, *]
  ·(refine bl ?_;repeat' first|with_reducible(first|assumption|constructor)|((try simp)<;>omega))
 ·have hg2:(v / 2 % 2==1)=true:=by rw[beq_iff_eq];exact hb2
  have hg3:decide (0<v / 16 % 64)=false:=by simp;omega
  clear hb2
  go_enter Tryz.func85,Tryz.ntmps85
  go_wp2_with (go_at_call 38;refine(Xbc _ _ _ _).mono ?_;rintro e w' ⟨rfl,rfl⟩)
  refine(Xdg _ HR.out _).mono ?_
  rintro e w1 ⟨rfl,hb1⟩
  have hz1:=hb1.size
  (try simp only[Zs]at hz1)
  obtain⟨k1_0,l1_0,q1_0⟩:=aft hb1 (w.heap.size) (by(try simp)<;>omega)
  simp(maxDischargeDepth:=6) [go_sem, *]at k1_0 q1_0
  have HB1:=Zh hb1
  clear hb1
  have HI:=Zh (Xk5 v w1)
  have HL:=Zh (Xk4 v w1)
  go_wp2_with fail
  refine(Xcq _ _ _ [v / 16 % 2,v / 32 % 2,v / 64 % 2,v / 128 % 2,v / 256 % 2,v / 512 % 2] _ (HL.out.more (by simp)) (Xif _ _ _ _ _ _) (by omega)).mono ?_
  rintro e w' ⟨rfl,rfl⟩
  go_wp2_with fail
  go_quiet ((go_at_call 99;exact Xgi (Xcq _ _ _ [v / 1024 % 2,v / 2048 % 2,v / 4096 % 2,v / 8192 % 2,v / 16384 % 2,v / 32768 % 2] _ (HI.out.more (by simp)) (Xif _ _ _ _ _ _) (by omega))))
  go_wp2
  refine bodyPost_ret (v:=.tuple #[.agg #[.bool true,.bool (v / 2 % 2==1),.int .i64 (v / 16 % 64)],.bool true]) ?_ rfl ⟨Xpi hG.out, ?_⟩
  ·simp(maxDischargeDepth:=8) [results,Tryz.results85,go_sem, *]
  ·(refine bl ?_;repeat' first|with_reducible(first|assumption|constructor)|((try simp)<;>omega))
theorem Xfv (v:Int) (w:World):Calls Tryz.prog 85 #[.int .i64 v] w fun e w'=>e=.returned (cxV v)∧Below w.heap.size w w':=by
 by_cases hR:0≤v∧v≤65535
 ·by_cases h0:v % 2=1
  ·cases hbad:Xjq v
   ·exact Xh0 v hR h0 hbad w
   ·exact Xh1 v hR h0 hbad w
  ·have HR:=Zh hR
   have hin:=Xb2 hR
   have hd:digV v=.agg #[.int .i64 (v % 2),.int .i64 (v / 2 % 2),.int .i64 (v / 4 % 2),.int .i64 (v / 8 % 2),.int .i64 (v / 16 % 2),.int .i64 (v / 32 % 2),.int .i64 (v / 64 % 2),.int .i64 (v / 128 % 2),.int .i64 (v / 256 % 2),.int .i64 (v / 512 % 2),.int .i64 (v / 1024 % 2),.int .i64 (v / 2048 % 2),.int .i64 (v / 4096 % 2),.int .i64 (v / 8192 % 2),.int .i64 (v / 16384 % 2),.int .i64 (v / 32768 % 2)]:=rfl
   have hG:=Zh (show cxG v=false by unfold cxG;rw[Xlg,show(v % 2==1)=false from by rw[beq_eq_false_iff_ne];exact h0];simp)
   have hK:=Zh (show cxK v=true by unfold cxK;rw[Xio hR,Xlg,show(v % 2==1)=false from by rw[beq_eq_false_iff_ne];exact h0];simp)
   have ht0:(v % 2==0)=true:=by rw[beq_iff_eq];omega
   obtain⟨h1,h2⟩:=hR
   clear h0
   go_enter Tryz.func85,Tryz.ntmps85
   go_wp2_with (go_at_call 38;refine(Xbc _ _ _ _).mono ?_;rintro e w' ⟨rfl,rfl⟩)
   refine(Xdg _ HR.out _).mono ?_
   rintro e w1 ⟨rfl,hb1⟩
   have hz1:=hb1.size
   (try simp only[Zs]at hz1)
   obtain⟨k1_0,l1_0,q1_0⟩:=aft hb1 (w.heap.size) (by(try simp)<;>omega)
   simp(maxDischargeDepth:=6) [go_sem, *]at k1_0 q1_0
   have HB1:=Zh hb1
   clear hb1
   go_wp2
   refine bodyPost_ret (v:=.tuple #[.agg #[.bool false,.bool false,.int .i64 0],.bool true]) ?_ rfl ⟨Xjp hG.out true hK.out, ?_⟩
   ·simp(maxDischargeDepth:=8) [results,Tryz.results85,go_sem, *]
   ·(refine bl ?_;repeat' first|with_reducible(first|assumption|constructor)|((try simp)<;>omega))
 ·have hin:=Xgs hR
  have hG:=Zh (show cxG v=false by unfold cxG;rw[Xip hR];simp)
  have hK:=Zh (show cxK v=false by unfold cxK;rw[Xip hR];simp)
  have HB:=Zh (Xag w)
  clear hR
  go_enter Tryz.func85,Tryz.ntmps85
  go_wp2_with (go_at_call 38;refine(Xbc _ _ _ _).mono ?_;rintro e w' ⟨rfl,rfl⟩)
  refine bodyPost_ret (v:=.tuple #[.agg #[.bool false,.bool false,.int .i64 0],.bool false]) ?_ rfl ⟨Xjp hG.out false hK.out,HB.out _⟩
  simp[results,Tryz.results85,go_sem]
end Go.Proofs.YtbopdijnojaaiadGreat
