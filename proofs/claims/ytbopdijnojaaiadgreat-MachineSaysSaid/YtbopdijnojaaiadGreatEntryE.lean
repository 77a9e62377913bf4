/- Entries and contexts as words: the walks of the document's EntryOf and ContextOf. No statement of the seat is proved here. -/
import Derived.Test.YtbopdijnojaaiadGreatEntryD
import Derived.Test.YtbopdijnojaaiadGreatEntryX
import Derived.Deep.RegionHeld3
import Derived.Deep.DrawnRows
namespace Go.Proofs.YtbopdijnojaaiadGreat
set_option maxRecDepth 100000
set_option maxHeartbeats 4000000
open Go.RowKit
set_option linter.unusedSimpArgs false
set_option linter.unusedVariables false
attribute [local go_sem ↓] Go.wp_at_zero Go.wp_at_succ
theorem num6 (v:Int) (h:0≤v∧v≤65535):numL [v / 1024 % 2,v / 2048 % 2,v / 4096 % 2,v / 8192 % 2,v / 16384 % 2,v / 32768 % 2]=v / 1024:=by
 simp only[numL];omega
theorem num4 (v:Int) (h:0≤v∧v≤65535):numL [v / 16 % 2,v / 32 % 2,v / 64 % 2,v / 128 % 2,v / 256 % 2,v / 512 % 2]=v / 16 % 64:=by
 simp only[numL];omega
theorem Xif (a b c d e f:Int):∀ x∈[a % 2,b % 2,c % 2,d % 2,e % 2,f % 2],0≤x∧x≤1:=by
 intro x hx;simp at hx;rcases hx with rfl|rfl|rfl|rfl|rfl|rfl<;>omega
theorem Xfx {w:World} {B g off n:Nat} {xs:List Int} (hl:xs.length=n) (hn:n≤9223372036854775807) (hg:g<B) (h:∀ k,k<n→w.cell? ⟨g,off+k,none⟩=(xs.map (Value.int .i64))[k]?):Ints w B (some ⟨g,off,none⟩) n xs:=
 ⟨hl,by unfold maxLen;omega,fun _=>⟨g,off,rfl,hg,fun k v hv=>by
  have hk:k<n:=by have:=(List.getElem?_eq_some_iff.1 hv).1;simp at this;omega
  rw[h k hk,hv]⟩⟩
theorem Xle (W:World) (o:Array Value) (T:TypeId) (n k:Nat) {v:Value} (h:W.heap.size=n) (hv:o[k]?=some v):(W.alloc (.cells o T)).drew.cell? ⟨n,k,none⟩=some v:=by
 subst h
 show(W.alloc (.cells o T)).cell? _=_
 simp[go_sem,hv]
theorem Xs5 {w:World} {B g:Nat} {x0 x1 x2 x3 x4 x5:Int} (hg:g<B) (h0:w.cell? ⟨g,4,none⟩=some (.int .i64 x0)) (h1:w.cell? ⟨g,5,none⟩=some (.int .i64 x1)) (h2:w.cell? ⟨g,6,none⟩=some (.int .i64 x2)) (h3:w.cell? ⟨g,7,none⟩=some (.int .i64 x3)) (h4:w.cell? ⟨g,8,none⟩=some (.int .i64 x4)) (h5:w.cell? ⟨g,9,none⟩=some (.int .i64 x5)) :
  Ints w B (some ⟨g,4,none⟩) 6 [x0,x1,x2,x3,x4,x5]:=
 Xfx rfl (by omega) hg (fun k hk=>by
  match k,hk with
  |0,_=>exact h0
  |1,_=>exact h1
  |2,_=>exact h2
  |3,_=>exact h3
  |4,_=>exact h4
  |5,_=>exact h5)
theorem Xyk {v:Int} (h:0≤v) (hb:Xjl v=true):0<v / 1024∨v / 2 % 2<v / 4 % 2∨v / 8 % 2<v / 2 % 2:=by
 unfold Xjl at hb
 rw[Xok,Xq4,Xq3]at hb
 simp only[Bool.or_eq_true,Bool.and_eq_true,bne_iff_ne,beq_iff_eq,Bool.not_eq_true',beq_eq_false_iff_ne]at hb
 omega
theorem Xyl {v:Int} (h:0≤v) (hb:Xjl v=false):v / 1024≤0∧v / 4 % 2≤v / 2 % 2∧v / 2 % 2≤v / 8 % 2:=by
 unfold Xjl at hb
 rw[Xok,Xq4,Xq3]at hb
 simp only[Bool.or_eq_false_iff,Bool.and_eq_false_iff,bne_eq_false_iff_eq,beq_eq_false_iff_ne,Bool.not_eq_false',beq_iff_eq]at hb
 omega
theorem Xv1 {v:Int} (h:enG v=true):Ending.returned (.tuple #[.agg #[.bool true,.bool (v / 2 % 2==1),.bool (v / 4 % 2==1),.bool (v / 8 % 2==1),.int .i64 (v / 16 % 64)],.bool true])=.returned (enV v):=by
 rw[←Xok,←Xq4,←Xq3];exact Xtx h (Xv2 h)
theorem Xi9 (v:Int) (hR:0≤v∧v≤65535) (h0:v % 2=1) (hbad:Xjl v=false) (w:World):Calls Tryz.prog 100 #[.int .i64 v] w fun e w'=>e=.returned (enV v)∧Below w.heap.size w w':=by
 have HR:=Zh hR
 have hin:=Xb2 hR
 have hd:digV v=.agg #[.int .i64 (v % 2),.int .i64 (v / 2 % 2),.int .i64 (v / 4 % 2),.int .i64 (v / 8 % 2),.int .i64 (v / 16 % 2),.int .i64 (v / 32 % 2),.int .i64 (v / 64 % 2),.int .i64 (v / 128 % 2),.int .i64 (v / 256 % 2),.int .i64 (v / 512 % 2),.int .i64 (v / 1024 % 2),.int .i64 (v / 2048 % 2),.int .i64 (v / 4096 % 2),.int .i64 (v / 8192 % 2),.int .i64 (v / 16384 % 2),.int .i64 (v / 32768 % 2)]:=rfl
 have hn6:=num6 v hR
 have hn4:=num4 v hR
 have hG:=Zh (show enG v=true by unfold enG;rw[hbad,Xio hR,Xlg,h0];rfl)
 obtain⟨h1,h2⟩:=hR
 have ht0:(v % 2==0)=false:=by rw[beq_eq_false_iff_ne];omega
 obtain⟨g1,g2,g3⟩:=Xyl h1 hbad
 clear hbad h0
 go_enter Tryz.func100,Tryz.ntmps100
 go_wp2_with (go_at_call 38;refine(Xbc _ _ _ _).mono ?_;rintro e w' ⟨rfl,rfl⟩)
 refine(Xdg _ HR.out _).mono ?_
 rintro e w1 ⟨rfl,hb1⟩
 have hz1:=hb1.size
 (try simp only[Zs]at hz1)
 obtain⟨k1_0,l1_0,q1_0⟩:=aft hb1 (w.heap.size) (by(try simp)<;>omega)
 simp(maxDischargeDepth:=6) [go_sem, *]at k1_0 q1_0
 have HB1:=Zh hb1
 clear hb1
 go_wp2_with fail
 refine(Xcq _ _ _ [v / 1024 % 2,v / 2048 % 2,v / 4096 % 2,v / 8192 % 2,v / 16384 % 2,v / 32768 % 2] _ (Xfx (n:=6) rfl (by omega) (by simp) ?_) (Xif _ _ _ _ _ _) (by omega)).mono ?_
 ·intro k hk
  match k,hk with
  |0,_=>simp[go_sem]
  |1,_=>simp[go_sem]
  |2,_=>simp[go_sem]
  |3,_=>simp[go_sem]
  |4,_=>simp[go_sem]
  |5,_=>simp[go_sem]
 rintro e w' ⟨rfl,rfl⟩
 go_wp2_with fail
 go_region_held3 (fun w'=>w'.cell? ⟨w1.heap.size,1,none⟩=some (.int .i64 (v / 2 % 2))∧w'.cell? ⟨w1.heap.size,2,none⟩=some (.int .i64 (v / 4 % 2))∧w'.cell? ⟨w1.heap.size,3,none⟩=some (.int .i64 (v / 8 % 2))∧w'.cell? ⟨w1.heap.size,4,none⟩=some (.int .i64 (v / 16 % 2))∧w'.cell? ⟨w1.heap.size,5,none⟩=some (.int .i64 (v / 32 % 2))∧w'.cell? ⟨w1.heap.size,6,none⟩=some (.int .i64 (v / 64 % 2))∧w'.cell? ⟨w1.heap.size,7,none⟩=some (.int .i64 (v / 128 % 2))∧w'.cell? ⟨w1.heap.size,8,none⟩=some (.int .i64 (v / 256 % 2))∧w'.cell? ⟨w1.heap.size,9,none⟩=some (.int .i64 (v / 512 % 2))) (first|(refine⟨?_, ?_, ?_, ?_, ?_, ?_, ?_, ?_, ?_⟩<;>exact Xle _ _ _ _ _ (by simp) rfl)|go_keep)
  (first|(go_at_call 99;refine(Xcq _ _ _ [v / 16 % 2,v / 32 % 2,v / 64 % 2,v / 128 % 2,v / 256 % 2,v / 512 % 2] _ ?_ (Xif _ _ _ _ _ _) (by omega)).mono ?_;(exact Xs5 (by simp) (by simp[*]) (by simp[*]) (by simp[*]) (by simp[*]) (by simp[*]) (by simp[*]));rintro e w' ⟨rfl,rfl⟩))
 go_wp2
 refine bodyPost_ret (v:=.tuple #[.agg #[.bool true,.bool (v / 2 % 2==1),.bool (v / 4 % 2==1),.bool (v / 8 % 2==1),.int .i64 (v / 16 % 64)],.bool true]) ?_ rfl ⟨Xv1 hG.out, ?_⟩
 ·simp(maxDischargeDepth:=8) [results,Tryz.results100,go_sem, *]
 ·(refine bl ?_;repeat' first|with_reducible(first|assumption|constructor)|((try simp)<;>omega))
theorem Xja (v:Int) (hR:0≤v∧v≤65535) (h0:v % 2=1) (hbad:Xjl v=true) (w:World):Calls Tryz.prog 100 #[.int .i64 v] w fun e w'=>e=.returned (enV v)∧Below w.heap.size w w':=by
 have HR:=Zh hR
 have hin:=Xb2 hR
 have hd:digV v=.agg #[.int .i64 (v % 2),.int .i64 (v / 2 % 2),.int .i64 (v / 4 % 2),.int .i64 (v / 8 % 2),.int .i64 (v / 16 % 2),.int .i64 (v / 32 % 2),.int .i64 (v / 64 % 2),.int .i64 (v / 128 % 2),.int .i64 (v / 256 % 2),.int .i64 (v / 512 % 2),.int .i64 (v / 1024 % 2),.int .i64 (v / 2048 % 2),.int .i64 (v / 4096 % 2),.int .i64 (v / 8192 % 2),.int .i64 (v / 16384 % 2),.int .i64 (v / 32768 % 2)]:=rfl
 have hn6:=num6 v hR
 have hG:=Zh (show enG v=false by unfold enG;rw[hbad];simp)
 have hK:=Zh (show enK v=false by unfold enK;rw[hbad,Xlg,h0];simp)
 obtain⟨h1,h2⟩:=hR
 have ht0:(v % 2==0)=false:=by rw[beq_eq_false_iff_ne];omega
 have hb:0<v / 1024∨(v / 1024≤0∧v / 2 % 2<v / 4 % 2)∨(v / 1024≤0∧v / 4 % 2≤v / 2 % 2∧v / 8 % 2<v / 2 % 2):=by have:=Xyk h1 hbad;omega
 clear hbad h0
 rcases hb with hb|⟨hb,hb2⟩|⟨hb,hb2,hb3⟩
 ·go_enter Tryz.func100,Tryz.ntmps100
  go_wp2_with (go_at_call 38;refine(Xbc _ _ _ _).mono ?_;rintro e w' ⟨rfl,rfl⟩)
  refine(Xdg _ HR.out _).mono ?_
  rintro e w1 ⟨rfl,hb1⟩
  have hz1:=hb1.size
  (try simp only[Zs]at hz1)
  obtain⟨k1_0,l1_0,q1_0⟩:=aft hb1 (w.heap.size) (by(try simp)<;>omega)
  simp(maxDischargeDepth:=6) [go_sem, *]at k1_0 q1_0
  have HB1:=Zh hb1
  clear hb1
  go_wp2_with fail
  refine(Xcq _ _ _ [v / 1024 % 2,v / 2048 % 2,v / 4096 % 2,v / 8192 % 2,v / 16384 % 2,v / 32768 % 2] _ (Xfx (n:=6) rfl (by omega) (by simp) ?_) (Xif _ _ _ _ _ _) (by omega)).mono ?_
  ·intro k hk
   match k,hk with
   |0,_=>simp[go_sem]
   |1,_=>simp[go_sem]
   |2,_=>simp[go_sem]
   |3,_=>simp[go_sem]
   |4,_=>simp[go_sem]
   |5,_=>simp[go_sem]
  rintro e w' ⟨rfl,rfl⟩
  go_wp2
  refine bodyPost_ret (v:=.tuple #[.agg #[.bool false,.bool false,.bool false,.bool false,.int .i64 0],.bool false]) ?_ rfl ⟨Xin hG.out false hK.out, ?_⟩
  ·simp(maxDischargeDepth:=8) [results,Tryz.results100,go_sem, *]
  ·(refine bl ?_;repeat' first|with_reducible(first|assumption|constructor)|((try simp)<;>omega))
 ·go_enter Tryz.func100,Tryz.ntmps100
  go_wp2_with (go_at_call 38;refine(Xbc _ _ _ _).mono ?_;rintro e w' ⟨rfl,rfl⟩)
  refine(Xdg _ HR.out _).mono ?_
  rintro e w1 ⟨rfl,hb1⟩
  have hz1:=hb1.size
  (try simp only[Zs]at hz1)
  obtain⟨k1_0,l1_0,q1_0⟩:=aft hb1 (w.heap.size) (by(try simp)<;>omega)
  simp(maxDischargeDepth:=6) [go_sem, *]at k1_0 q1_0
  have HB1:=Zh hb1
  clear hb1
  go_wp2_with fail
  refine(Xcq _ _ _ [v / 1024 % 2,v / 2048 % 2,v / 4096 % 2,v / 8192 % 2,v / 16384 % 2,v / 32768 % 2] _ (Xfx (n:=6) rfl (by omega) (by simp) ?_) (Xif _ _ _ _ _ _) (by omega)).mono ?_
  ·intro k hk
   match k,hk with
   |0,_=>simp[go_sem]
   |1,_=>simp[go_sem]
   |2,_=>simp[go_sem]
   |3,_=>simp[go_sem]
   |4,_=>simp[go_sem]
   |5,_=>simp[go_sem]
  rintro e w' ⟨rfl,rfl⟩
  go_wp2
  refine bodyPost_ret (v:=.tuple #[.agg #[.bool false,.bool false,.bool false,.bool false,.int .i64 0],.bool false]) ?_ rfl ⟨Xin hG.out false hK.out, ?_⟩
  ·simp(maxDischargeDepth:=8) [results,Tryz.results100,go_sem, *]
  ·(refine bl ?_;repeat' first|with_reducible(first|assumption|constructor)|((try simp)<;>omega))
 ·go_enter Tryz.func100,Tryz.ntmps100
  go_wp2_with (go_at_call 38;refine(Xbc _ _ _ _).mono ?_;rintro e w' ⟨rfl,rfl⟩)
  refine(Xdg _ HR.out _).mono ?_
  rintro e w1 ⟨rfl,hb1⟩
  have hz1:=hb1.size
  (try simp only[Zs]at hz1)
  obtain⟨k1_0,l1_0,q1_0⟩:=aft hb1 (w.heap.size) (by(try simp)<;>omega)
  simp(maxDischargeDepth:=6) [go_sem, *]at k1_0 q1_0
  have HB1:=Zh hb1
  clear hb1
  go_wp2_with fail
  refine(Xcq _ _ _ [v / 1024 % 2,v / 2048 % 2,v / 4096 % 2,v / 8192 % 2,v / 16384 % 2,v / 32768 % 2] _ (Xfx (n:=6) rfl (by omega) (by simp) ?_) (Xif _ _ _ _ _ _) (by omega)).mono ?_
  ·intro k hk
   match k,hk with
   |0,_=>simp[go_sem]
   |1,_=>simp[go_sem]
   |2,_=>simp[go_sem]
   |3,_=>simp[go_sem]
   |4,_=>simp[go_sem]
   |5,_=>simp[go_sem]
  rintro e w' ⟨rfl,rfl⟩
  go_wp2
  refine bodyPost_ret (v:=.tuple #[.agg #[.bool false,.bool false,.bool false,.bool false,.int .i64 0],.bool false]) ?_ rfl ⟨Xin hG.out false hK.out, ?_⟩
  ·simp(maxDischargeDepth:=8) [results,Tryz.results100,go_sem, *]
  ·(refine bl ?_;repeat' first|with_reducible(first|assumption|constructor)|((try simp)<;>omega))
theorem Xgy (v:Int) (w:World):Calls Tryz.prog 100 #[.int .i64 v] w fun e w'=>e=.returned (enV v)∧Below w.heap.size w w':=by
 by_cases hR:0≤v∧v≤65535
 ·by_cases h0:v % 2=1
  ·cases hbad:Xjl v
   ·exact Xi9 v hR h0 hbad w
   ·exact Xja v hR h0 hbad w
  ·have HR:=Zh hR
   have hin:=Xb2 hR
   have hd:digV v=.agg #[.int .i64 (v % 2),.int .i64 (v / 2 % 2),.int .i64 (v / 4 % 2),.int .i64 (v / 8 % 2),.int .i64 (v / 16 % 2),.int .i64 (v / 32 % 2),.int .i64 (v / 64 % 2),.int .i64 (v / 128 % 2),.int .i64 (v / 256 % 2),.int .i64 (v / 512 % 2),.int .i64 (v / 1024 % 2),.int .i64 (v / 2048 % 2),.int .i64 (v / 4096 % 2),.int .i64 (v / 8192 % 2),.int .i64 (v / 16384 % 2),.int .i64 (v / 32768 % 2)]:=rfl
   have hG:=Zh (show enG v=false by unfold enG;rw[Xlg,show(v % 2==1)=false from by rw[beq_eq_false_iff_ne];exact h0];simp)
   have hK:=Zh (show enK v=true by unfold enK;rw[Xio hR,Xlg,show(v % 2==1)=false from by rw[beq_eq_false_iff_ne];exact h0];simp)
   have ht0:(v % 2==0)=true:=by rw[beq_iff_eq];omega
   obtain⟨h1,h2⟩:=hR
   clear h0
   go_enter Tryz.func100,Tryz.ntmps100
   go_wp2_with (go_at_call 38;refine(Xbc _ _ _ _).mono ?_;rintro e w' ⟨rfl,rfl⟩)
   refine(Xdg _ HR.out _).mono ?_
   rintro e w1 ⟨rfl,hb1⟩
   have hz1:=hb1.size
   (try simp only[Zs]at hz1)
   obtain⟨k1_0,l1_0,q1_0⟩:=aft hb1 (w.heap.size) (by(try simp)<;>omega)
   simp(maxDischargeDepth:=6) [go_sem, *]at k1_0 q1_0
   have HB1:=Zh hb1
   clear hb1
   go_wp2
   refine bodyPost_ret (v:=.tuple #[.agg #[.bool false,.bool false,.bool false,.bool false,.int .i64 0],.bool true]) ?_ rfl ⟨Xin hG.out true hK.out, ?_⟩
   ·simp(maxDischargeDepth:=8) [results,Tryz.results100,go_sem, *]
   ·(refine bl ?_;repeat' first|with_reducible(first|assumption|constructor)|((try simp)<;>omega))
 ·have hin:=Xgs hR
  have hG:=Zh (show enG v=false by unfold enG;rw[Xip hR];simp)
  have hK:=Zh (show enK v=false by unfold enK;rw[Xip hR];simp)
  have HB:=Zh (Xag w)
  clear hR
  go_enter Tryz.func100,Tryz.ntmps100
  go_wp2_with (go_at_call 38;refine(Xbc _ _ _ _).mono ?_;rintro e w' ⟨rfl,rfl⟩)
  refine bodyPost_ret (v:=.tuple #[.agg #[.bool false,.bool false,.bool false,.bool false,.int .i64 0],.bool false]) ?_ rfl ⟨Xin hG.out false hK.out,HB.out _⟩
  simp[results,Tryz.results100,go_sem]
end Go.Proofs.YtbopdijnojaaiadGreat
