/- The document's digits and number. No statement of the seat is proved here. -/
import Derived.Test.YtbopdijnojaaiadGreatSlices
import Derived.Test.YtbopdijnojaaiadGreatBase
namespace Go.Proofs.YtbopdijnojaaiadGreat
set_option maxRecDepth 100000
set_option maxHeartbeats 1000000
open Go.RowKit
set_option linter.unusedSimpArgs false
set_option linter.unusedVariables false
def numL:List Int→Int
 |[]=>0
 |b :: r=>b+2 * numL r
theorem Xsr {bs:List Int} {k:Nat} {b:Int} (h:bs[k]?=some b):numL (bs.drop k)=2 * numL (bs.drop (k+1))+b:=by
 have hk:k<bs.length:=(List.getElem?_eq_some_iff.1 h).1
 rw[List.drop_eq_getElem_cons hk]
 have:bs[k]=b:=(List.getElem?_eq_some_iff.1 h).2
 rw[this];simp only[numL];omega
theorem Xss:∀(bs:List Int),(∀ b∈bs,0≤b∧b≤1)→bs.length≤16→0≤numL bs∧numL bs<2 ^ bs.length
 |[],_,_=>by simp[numL]
 |b :: r,h,hl=>by
  have h1:=h b (by simp)
  have h2:=Xss r (fun x hx=>h x (by simp[hx])) (by simp at hl;omega)
  simp only[numL,List.length_cons,Int.pow_succ]
  omega
theorem Xqj (bs:List Int) (k:Nat) (h:∀ b∈bs,0≤b∧b≤1) (hl:bs.length≤16):0≤numL (bs.drop k)∧numL (bs.drop k)<65536:=by
 have h1:=Xss (bs.drop k) (fun b hb=>h b (List.mem_of_mem_drop hb)) (by simp;omega)
 have h2:(bs.drop k).length≤16:=by simp;omega
 have h3:(2:Int) ^ (bs.drop k).length≤2 ^ 16:=by
  have:(2:Nat) ^ (bs.drop k).length≤2 ^ 16:=Nat.pow_le_pow_right (by decide) h2
  exact_mod_cast this
 have h4:(2:Int) ^ 16=65536:=by decide
 omega
theorem Xor {k:IntKind} {a b:Int} (h:a=b):Value.int k a=Value.int k b:=by rw[h]
theorem Xcq (A:Option Addr) (n c:Nat) (bs:List Int) (w:World) (hx:Ints w w.heap.size A n bs) (hb:∀ b∈bs,0≤b∧b≤1) (hn:n≤16) :
  Calls Tryz.prog 99 #[.slice A n c] w fun e w'=>e=.returned (.int .i64 (numL bs))∧w=w':=by
 have HX:=Zh hx;clear hx
 have HB:=Zh hb;clear hb
 have HL:bs.length≤16:=by rw[HX.out.len];exact hn
 have HL':=Zh HL;clear HL
 go_enter Tryz.func99,Tryz.ntmps99
 go_wp2
 go_loop [4,3] (fun k s=>∃ j:Nat,j≤n∧k=.int .i64 ((j:Int) - 1)∧s=.int .i64 (numL (bs.drop j))) (fun k _=>(intOf k+1).toNat)
 case atStart=>exact⟨n,by omega,rfl,by rw[List.drop_of_length_le (by rw[HX.out.len];omega)];rfl⟩
 case round=>
  obtain⟨j,hj,rfl,rfl⟩:=hrel
  by_cases hlt:0<j
  ·obtain⟨i,rfl⟩:∃ i,j=i+1:=⟨j - 1,by omega⟩
   obtain⟨x,hxk⟩:=Xa2 bs (k:=i) (by rw[HX.out.len];omega)
   obtain⟨b,off,rfl,hb,hc⟩:=HX.out.at_ (by omega)
   have h1:=hc i x hxk
   have hd:=Zh (Xsr hxk)
   have hs:=Xqj bs (i+1) HB.out HL'.out
   have hxb:=HB.out x (List.mem_of_getElem? hxk)
   clear hc hxk
   have e1:(((i+1:Nat):Int) - 1)=(i:Int):=by omega
   rw[e1]
   clear e1
   go_wp2
   go_round
   case rel=>exact⟨i,by omega,by go_num,Xor hd.out.symm⟩
   case measure=>simp[intOf]<;>omega
  ·obtain rfl:j=0:=by omega
   go_wp2
   go_ret
   exact⟨rfl,rfl⟩
def digC (v:Int) (k:Nat):Array Value:=((List.range 16).map fun j=>Value.int .i64 (if j<k then v / 2 ^ j % 2 else 0)).toArray
theorem digC_0 (v:Int):digC v 0=#[.int .i64 0,.int .i64 0,.int .i64 0,.int .i64 0,.int .i64 0,.int .i64 0,.int .i64 0,.int .i64 0,.int .i64 0,.int .i64 0,.int .i64 0,.int .i64 0,.int .i64 0,.int .i64 0,.int .i64 0,.int .i64 0]:=rfl
theorem Xv7 (v:Int) (k:Nat) (hk:k<16):(digC v k).setIfInBounds k (.int .i64 (v / 2 ^ k % 2))=digC v (k+1):=by
 unfold digC
 apply Array.ext
 ·simp
 ·intro i h1 h2
  simp at h1
  rw[Array.getElem_setIfInBounds]
  ·by_cases hik:k=i
   ·subst hik;simp
   ·rw[if_neg hik]
    simp
    have e1:∀ k',((List.range 16).map fun j=>Value.int .i64 (if j<k' then v / 2 ^ j % 2 else 0)).toArray[i]?=some (Value.int .i64 (if i<k' then v / 2 ^ i % 2 else 0)):=fun k'=>by simp[h1]
    refine Option.some_inj.1 ?_
    rw[←Array.getElem?_eq_getElem,e1]
    by_cases a:i<k
    ·rw[if_pos a,if_pos (by omega)]
    ·rw[if_neg a,if_neg (by omega)]
  ·simp;omega
theorem Xt1 (v:Int) (k:Nat):(digC v k).size=16:=by simp[digC]
theorem Xyy (v:Int):digC v 16=#[.int .i64 (v % 2),.int .i64 (v / 2 % 2),.int .i64 (v / 4 % 2),.int .i64 (v / 8 % 2),.int .i64 (v / 16 % 2),.int .i64 (v / 32 % 2),.int .i64 (v / 64 % 2),.int .i64 (v / 128 % 2),.int .i64 (v / 256 % 2),.int .i64 (v / 512 % 2),.int .i64 (v / 1024 % 2),.int .i64 (v / 2048 % 2),.int .i64 (v / 4096 % 2),.int .i64 (v / 8192 % 2),.int .i64 (v / 16384 % 2),.int .i64 (v / 32768 % 2)]:=by
 simp[digC,List.range_succ]
theorem Xu2 (v:Int) (k:Nat) (h:0≤v):v / 2 ^ k / 2=v / 2 ^ (k+1):=by
 rw[Int.pow_succ,Int.ediv_ediv_of_nonneg (Int.pow_nonneg (by decide))]
def digV (v:Int):Value:=.agg #[.int .i64 (v % 2),.int .i64 (v / 2 % 2),.int .i64 (v / 4 % 2),.int .i64 (v / 8 % 2),.int .i64 (v / 16 % 2),.int .i64 (v / 32 % 2),.int .i64 (v / 64 % 2),.int .i64 (v / 128 % 2),.int .i64 (v / 256 % 2),.int .i64 (v / 512 % 2),.int .i64 (v / 1024 % 2),.int .i64 (v / 2048 % 2),.int .i64 (v / 4096 % 2),.int .i64 (v / 8192 % 2),.int .i64 (v / 16384 % 2),.int .i64 (v / 32768 % 2)]
theorem Xdg (v:Int) (hv:0≤v∧v≤65535) (w:World):Calls Tryz.prog 98 #[.int .i64 v] w fun e w'=>e=.returned (digV v)∧Below w.heap.size w w':=by
 have HV:=Zh hv
 obtain⟨h1,h2⟩:=hv
 go_enter Tryz.func98,Tryz.ntmps98
 go_wp2
 go_loopw [5,4,0] (fun i _ x wr=>∃ k:Nat,k≤16∧i=.int .i64 k∧x=.int .i64 (v / 2 ^ k)∧wr=(w.alloc (.cells (digC v 0) 163)).alloc (.cells (digC v k) 163)) (fun i _ _ _=>16 - (intOf i).toNat)
 case atStart=>exact⟨0,by omega,rfl,by simp,rfl⟩
 case round=>
  obtain⟨k,hk,rfl,rfl,rfl⟩:=hrel
  have hs:=Xt1 v k
  by_cases hlt:k<16
  ·have hset:=Zh (Xv7 v k hlt)
   have hp:=Zh (Xu2 v k h1)
   have b1:0≤v / 2 ^ k:=Int.ediv_nonneg h1 (Int.pow_nonneg (by decide))
   have b2:v / 2 ^ k≤65535:=Int.le_trans (Int.ediv_le_self _ h1) h2
   generalize v / 2 ^ k=y at *
   generalize hD:digC v k=D at *
   have HD:=Zh hD;clear hD
   go_wp2
   go_roundw
   case rel=>exact⟨k+1,by omega,by go_num,Xor hp.out,by rw[hset.out]⟩
   case measure=>simp[intOf]<;>omega
  ·obtain rfl:k=16:=by omega
   rw[Xyy,digC_0]
   go_wp2
   refine bodyPost_ret (v:=digV v) ?_ rfl ⟨rfl, ?_⟩
   ·simp(maxDischargeDepth:=8) [results,Tryz.results98,go_sem,digV, *]
   ·(refine bl ?_;repeat' first|with_reducible(first|assumption|constructor)|((try simp)<;>omega))
end Go.Proofs.YtbopdijnojaaiadGreat
