/- Entries and contexts as words: the walk of the program's bit. No statement of the seat is proved here. -/
import Derived.Test.YtbopdijnojaaiadGreatBase
import Derived.Test.YtbopdijnojaaiadGreatProg
namespace Go.Proofs.YtbopdijnojaaiadGreat
set_option maxRecDepth 100000
set_option maxHeartbeats 1000000
open Go.RowKit
set_option linter.unusedSimpArgs false
set_option linter.unusedVariables false
section
theorem Xgu (n:Int) (h0:0≤n) (h1:n<4294967296):IntKind.i64.wrap n=n:=IntWalk.i64_in _ (by omega)
theorem Xhk (a:Nat) (ha:a<4294967296):(BitVec.ofInt IntKind.i64.bits (a:Int)).toNat=a:=by
 simp[IntKind.bits];omega
theorem Xqg (a b:Nat) (ha:a<4294967296) (hb:b<4294967296):bits .or .i64 (a:Int) (b:Int)=((a ||| b:Nat):Int):=by
 have h:a ||| b<2 ^ 32:=Nat.or_lt_two_pow (by simpa using ha) (by simpa using hb)
 unfold bits
 simp only[BitVec.toNat_or,Xhk a ha,Xhk b hb]
 exact Xgu _ (by omega) (by omega)
theorem Xol (a b:Nat) (ha:a<4294967296) (hb:b<4294967296):bits .and .i64 (a:Int) (b:Int)=((a &&& b:Nat):Int):=by
 have h:a &&& b≤a:=Nat.and_le_left
 unfold bits
 simp only[BitVec.toNat_and,Xhk a ha,Xhk b hb]
 exact Xgu _ (by omega) (by omega)
theorem Xil (j q:Nat) (x y:Int) (hx:x=(2 ^ j * q:Nat)) (hy0:0≤y) (hy:y<(2 ^ j:Nat)) (hb:x<4294967296) (hb':y<4294967296):bits .or .i64 x y=x+y:=by
 obtain⟨b,rfl⟩:=Int.eq_ofNat_of_zero_le hy0
 subst hx
 rw[Xqg _ _ (by omega) (by omega),←Nat.two_pow_add_eq_or_of_lt (by omega)]
 omega
theorem Xi1 (j:Nat) (x m:Int) (hm:m=(2 ^ j - 1:Nat)) (h0:0≤x) (hb:x<4294967296) (hj:m<4294967296):bits .and .i64 x m=x % (2 ^ j:Nat):=by
 obtain⟨a,rfl⟩:=Int.eq_ofNat_of_zero_le h0
 subst hm
 rw[Xol _ _ (by omega) (by omega),Nat.and_two_pow_sub_one_eq_mod]
 omega
theorem and1 (x:Int) (h0:0≤x) (hb:x<4294967296):bits .and .i64 x 1=x % 2:=Xi1 1 x 1 rfl h0 hb (by decide)
theorem and3 (x:Int) (h0:0≤x) (hb:x<4294967296):bits .and .i64 x 3=x % 4:=Xi1 2 x 3 rfl h0 hb (by decide)
theorem and7 (x:Int) (h0:0≤x) (hb:x<4294967296):bits .and .i64 x 7=x % 8:=Xi1 3 x 7 rfl h0 hb (by decide)
theorem Xwe (x:Int) (h0:0≤x) (hb:x<4294967296):bits .and .i64 x 63=x % 64:=Xi1 6 x 63 rfl h0 hb (by decide)
theorem or4 (x y:Int) (hx:x % 4=0) (h0:0≤x) (hy0:0≤y) (hy:y<4) (hb:x<4294967296):bits .or .i64 x y=x+y:=
 Xil 2 (x / 4).toNat x y (by omega) hy0 (by omega) hb (by omega)
theorem or8 (x y:Int) (hx:x % 8=0) (h0:0≤x) (hy0:0≤y) (hy:y<8) (hb:x<4294967296):bits .or .i64 x y=x+y:=
 Xil 3 (x / 8).toNat x y (by omega) hy0 (by omega) hb (by omega)
theorem Xe0 (x y:Int):bits .or .i64 x y=bits .or .i64 y x:=by unfold bits;simp only[BitVec.or_comm]
end
section
theorem Xfl (v k:Int) (hk:k=0∨k=1∨k=2∨k=3) (hv:0≤v∧v≤65535) (w:World):Calls Tryz.prog 104 #[.int .i64 v,.int .i64 k] w fun e w'=>e=.returned (.bool (bitI v k))∧w=w':=by
 obtain⟨h1,h2⟩:=hv
 have e0:=and1 v (by omega) (by omega)
 have e1:=and1 (v / 2) (by omega) (by omega)
 have e2:=and1 (v / 4) (by omega) (by omega)
 have e3:=and1 (v / 8) (by omega) (by omega)
 rcases hk with rfl|rfl|rfl|rfl
 ·rw[Xlg]
  go_enter Tryz.func104,Tryz.ntmps104
  go_wp2
  go_ret
  exact⟨rfl,rfl⟩
 ·rw[Xok]
  go_enter Tryz.func104,Tryz.ntmps104
  go_wp2
  go_ret
  exact⟨rfl,rfl⟩
 ·rw[Xq4]
  go_enter Tryz.func104,Tryz.ntmps104
  go_wp2
  go_ret
  exact⟨rfl,rfl⟩
 ·rw[Xq3]
  go_enter Tryz.func104,Tryz.ntmps104
  go_wp2
  go_ret
  exact⟨rfl,rfl⟩
end
end Go.Proofs.YtbopdijnojaaiadGreat
