/- What devices ask: the walks of the program's Check and of the document's CheckAsk. No statement of the seat is proved here. -/
import Derived.Test.YtbopdijnojaaiaaGreatZz
import Derived.Test.YtbopdijnojaaiaaGreatSlices
import Derived.Test.YtbopdijnojaaiaaGreatDmaP
namespace Go.Proofs.YtbopdijnojaaiaaGreat
set_option maxRecDepth 100000
set_option maxHeartbeats 1000000
open Go.RowKit
set_option linter.unusedSimpArgs false
set_option linter.unusedVariables false
def askW (data : List Int) : Int := if data.all Xb2 then 0 else 2
theorem Xk1 {data : List Int} (h : data.all Xb2 = true) : askW data = 0 := by unfold askW; rw [if_pos h]
theorem Xpa {data : List Int} {k : Nat} {x : Int} (hx : data[k]? = some x) (h : Xb2 x = false) : askW data = 2 := by unfold askW; rw [Xjb hx h]; rfl
theorem Xt4 {α : Type} {p : α → Bool} {xs : List α} {k : Nat} (hl : xs.length = k) (h : (xs.take k).all p = true) : xs.all p = true := by rw [List.take_of_length_le (by omega)] at h; exact h
section
variable (dv at_ ct : Int) (wr : Bool) (data : List Int) (D : Option Addr) (nd cd : Nat) (w : World) (hd : Ints w w.heap.size D nd data)
include hd in
theorem Xns (h1 : 1 ≤ ct ∧ ct ≤ 20) (h2 : (0 ≤ dv ∧ dv < 8) ∧ 0 ≤ at_ ∧ at_ ≤ 512 - ct) (h3 : (nd : Int) = ct) :
    Calls Tryz.prog 61 #[.agg #[.int .i64 dv, .int .i64 at_, .int .i64 ct, .bool true, .slice D nd cd]] w fun e w' => e = .returned (.int .i64 (askW data)) ∧ Below w.heap.size w w' := by
 refine z151 ?_; intro HB
 have HD := Zh hd
 obtain ⟨h11, h12⟩ := h1
 obtain ⟨⟨h21, h22⟩, h23, h24⟩ := h2
 refine z152 ?_; intro e1
 have hn20 : nd ≤ 20 := by omega
 clear hd
 have g4 : ((nd : Int) != ct) = false := by rw [bne_eq_false_iff_eq]; exact h3
 have hpos : 0 < nd := by omega
 obtain ⟨b, off, rfl, hb, hc⟩ := HD.out.at_ hpos
 have HC := Zh hc
 clear hc h3
 go_enter Tryz.func61, Tryz.ntmps61
 go_wp2
 go_loop [58, 4] (fun i _ => ∃ k : Nat, k ≤ nd ∧ i = .int .i64 k ∧ Hid ((data.take k).all Xb2 = true)) (fun i _ => nd - (intOf i).toNat)
 case atStart => exact ⟨0, by omega, rfl, by simp [Hid]⟩
 case round =>
   clear h11 h12 h21 h22 h23 h24 e1 g4 hpos
   obtain ⟨k, hk, rfl, HA⟩ := hrel
   by_cases hlt : k < nd
   · obtain ⟨x, hx⟩ := Xat data (k := k) (by rw [HD.out.len]; exact hlt)
     have hcc := HC.out k x hx
     have HX := Zh hx; clear hx
     go_wp2
     all_goals first
       | (go_ret; exact ⟨Xbf ((Xpa HX.out y22).symm), HB.out _⟩)
       | skip
     go_round
     case rel => exact ⟨k+1, by omega, by go_num, Xc1 HX.out HA.out y22⟩
     case measure => simp [intOf]; omega
   · go_wp2
     obtain rfl : k = nd := by omega
     go_ret
     exact ⟨Xbf ((Xk1 (Xt4 HD.out.len HA.out)).symm), HB.out _⟩
include hd in
theorem Xmb (h1 : 1 ≤ ct ∧ ct ≤ 20) (h2 : (0 ≤ dv ∧ dv < 8) ∧ 0 ≤ at_ ∧ at_ ≤ 512 - ct) (h3 : (nd : Int) = 0) :
    Calls Tryz.prog 61 #[.agg #[.int .i64 dv, .int .i64 at_, .int .i64 ct, .bool false, .slice D nd cd]] w fun e w' => e = .returned (.int .i64 (askW data)) ∧ Below w.heap.size w w' := by
 refine z151 ?_; intro HB
 have HD := Zh hd
 obtain ⟨h11, h12⟩ := h1
 obtain ⟨⟨h21, h22⟩, h23, h24⟩ := h2
 refine z152 ?_; intro _
 have hn20 : nd ≤ 20 := by omega
 clear hd
 obtain rfl : nd = 0 := by omega
 have HE := Zh (show data = [] from List.length_eq_zero_iff.1 HD.out.len)
 clear h3
 go_enter Tryz.func61, Tryz.ntmps61
 go_wp2
 go_loop [58, 4] (fun i _ => i = .int .i64 0) (fun i _ => 0)
 case atStart => rfl
 case round =>
   obtain rfl := hrel
   go_wp2
   go_ret
   exact ⟨Xbf ((Xk1 (by rw [HE.out]; rfl)).symm), HB.out _⟩
theorem Xvz (h1 : ¬ (1 ≤ ct ∧ ct ≤ 20)) :
    Calls Tryz.prog 61 #[.agg #[.int .i64 dv, .int .i64 at_, .int .i64 ct, .bool wr, .slice D nd cd]] w fun e w' => e = .returned (.int .i64 1) ∧ Below w.heap.size w w' := by
 refine z151 ?_; intro HB
 have h2 : ct < 1 ∨ (1 ≤ ct ∧ 20 < ct) := by omega
 clear h1
 rcases h2 with h1 | ⟨h1, h2⟩
 all_goals
   go_enter Tryz.func61, Tryz.ntmps61
   go_wp2
   go_ret
   exact ⟨rfl, HB.out _⟩
theorem Xyv (h1 : 1 ≤ ct ∧ ct ≤ 20) (h2 : ¬ ((0 ≤ dv ∧ dv < 8) ∧ 0 ≤ at_ ∧ at_ ≤ 512 - ct)) :
    Calls Tryz.prog 61 #[.agg #[.int .i64 dv, .int .i64 at_, .int .i64 ct, .bool wr, .slice D nd cd]] w fun e w' => e = .returned (.int .i64 4) ∧ Below w.heap.size w w' := by
 refine z151 ?_; intro HB
 obtain ⟨h11, h12⟩ := h1
 refine z152 ?_; intro _
 have h3 : dv < 0 ∨ (0 ≤ dv ∧ 8 ≤ dv) ∨ (0 ≤ dv ∧ dv < 8 ∧ at_ < 0) ∨ (0 ≤ dv ∧ dv < 8 ∧ 0 ≤ at_ ∧ 512 - ct < at_) := by omega
 clear h2
 rcases h3 with h1 | ⟨h1, h2⟩ | ⟨h1, h2, h3⟩ | ⟨h1, h2, h3, h4⟩
 all_goals
   go_enter Tryz.func61, Tryz.ntmps61
   go_wp2
   go_ret
   exact ⟨rfl, HB.out _⟩
theorem Xv0 (h1 : 1 ≤ ct ∧ ct ≤ 20) (h2 : (0 ≤ dv ∧ dv < 8) ∧ 0 ≤ at_ ∧ at_ ≤ 512 - ct) (hn : nd ≤ 9223372036854775807) (h3 : ¬ (nd : Int) = if wr then ct else 0) :
    Calls Tryz.prog 61 #[.agg #[.int .i64 dv, .int .i64 at_, .int .i64 ct, .bool wr, .slice D nd cd]] w fun e w' => e = .returned (.int .i64 3) ∧ Below w.heap.size w w' := by
 refine z151 ?_; intro HB
 obtain ⟨h11, h12⟩ := h1
 obtain ⟨⟨h21, h22⟩, h23, h24⟩ := h2
 refine z152 ?_; intro _
 cases wr
 · have g : 0 < nd := by simp at h3; omega
   clear h3
   go_enter Tryz.func61, Tryz.ntmps61
   go_wp2
   go_ret
   exact ⟨rfl, HB.out _⟩
 · have g : ((nd : Int) != ct) = true := by rw [bne_iff_ne]; simpa using h3
   clear h3
   go_enter Tryz.func61, Tryz.ntmps61
   go_wp2
   go_ret
   exact ⟨rfl, HB.out _⟩
include hd in
theorem dck : Calls Tryz.prog 61 #[.agg #[.int .i64 dv, .int .i64 at_, .int .i64 ct, .bool wr, .slice D nd cd]] w fun e w' => e = .returned (.int .i64 (reqE ⟨dv, at_, ct, wr, data⟩)) ∧ Below w.heap.size w w' := by
 have hln := hd.len
 by_cases h1 : 1 ≤ ct ∧ ct ≤ 20
 · by_cases h2 : (0 ≤ dv ∧ dv < 8) ∧ 0 ≤ at_ ∧ at_ ≤ 512 - ct
   · by_cases h3 : (nd : Int) = if wr then ct else 0
     · refine z214 ?_; intro _
       cases wr
       · exact Xmb dv at_ ct data D nd cd w hd h1 h2 (by simpa using h3)
       · exact Xns dv at_ ct data D nd cd w hd h1 h2 (by simpa using h3)
     · rw [Xlm (a := ⟨dv, at_, ct, wr, data⟩) h1 h2 (by unfold reqN; simp only []; rw [hln]; exact h3)]
       exact Xv0 dv at_ ct wr D nd cd w h1 h2 hd.bd h3
   · rw [Xoa (a := ⟨dv, at_, ct, wr, data⟩) h1 h2]
     exact Xyv dv at_ ct wr D nd cd w h1 h2
 · rw [Xll (a := ⟨dv, at_, ct, wr, data⟩) h1]
   exact Xvz dv at_ ct wr D nd cd w h1
end
theorem Xi3 (a : Ask) (D : Option Addr) (nd cd : Nat) (w : World) (hd : Ints w w.heap.size D nd a.data) :
    Calls Tryz.prog 61 #[.agg #[.int .i64 a.dev, .int .i64 a.at_, .int .i64 a.count, .bool a.wr, .slice D nd cd]] w fun e w' => e = .returned (.int .i64 (reqE a)) ∧ Below w.heap.size w w' :=
  dck a.dev a.at_ a.count a.wr a.data D nd cd w hd
theorem Xs0 {n a b : Int} (h : inB n a b = true) : a ≤ n ∧ n ≤ b := by simpa [inB] using h
section
variable (dv at_ ct : Int) (wr : Bool) (data : List Int) (D : Option Addr) (nd cd : Nat) (w : World) (hd : Ints w w.heap.size D nd data)
include hd in
theorem Xnh (h1 : 1 ≤ ct ∧ ct ≤ 20) (h2 : (0 ≤ dv ∧ dv < 8) ∧ 0 ≤ at_ ∧ at_ ≤ 512 - ct) (h3 : (nd : Int) = ct) :
    Calls Tryz.prog 25 #[.agg #[.int .i64 dv, .int .i64 at_, .int .i64 ct, .bool true, .slice D nd cd]] w fun e w' => e = .returned (.int .i64 (askW data)) ∧ Below w.heap.size w w' := by
 refine z151 ?_; intro HB
 have HD := Zh hd
 refine z196 ?_; intro i1 i2 i3
 refine z152 ?_; intro e1
 have hn20 : nd ≤ 20 := by omega
 clear hd h1 h2
 have g4 : ((nd : Int) != ct) = false := by rw [bne_eq_false_iff_eq]; exact h3
 obtain ⟨b, off, rfl, hb, hc⟩ := HD.out.at_ (by have := Xs0 i1; omega)
 have HC := Zh hc
 clear hc h3
 go_enter Tryz.func25, Tryz.ntmps25
 go_wp2_with (go_at_call 27; refine (Xa6 _ _ _ _).mono ?_; rintro e w' ⟨rfl, rfl⟩)
 go_loop [35, 5] (fun i _ => ∃ k : Nat, k ≤ nd ∧ i = .int .i64 k ∧ Hid ((data.take k).all Xb2 = true)) (fun i _ => nd - (intOf i).toNat)
 case atStart => exact ⟨0, by omega, rfl, by simp [Hid]⟩
 case round =>
   clear i1 i2 i3 e1 g4
   obtain ⟨k, hk, rfl, HA⟩ := hrel
   by_cases hlt : k < nd
   · obtain ⟨x, hx⟩ := Xat data (k := k) (by rw [HD.out.len]; exact hlt)
     have hcc := HC.out k x hx
     have HX := Zh hx; clear hx
     cases hin : inB x 0 65535
     · have HIN := Zh (show Xb2 x = false from hin)
       go_wp2_with (go_at_call 27; refine (Xa6 _ _ _ _).mono ?_; rintro e w' ⟨rfl, rfl⟩)
       go_ret
       exact ⟨Xbf ((Xpa HX.out HIN.out).symm), HB.out _⟩
     · have HIN := Zh (show Xb2 x = true from hin)
       go_wp2_with (go_at_call 27; refine (Xa6 _ _ _ _).mono ?_; rintro e w' ⟨rfl, rfl⟩)
       go_round
       case rel => exact ⟨k+1, by omega, by go_num, Xc1 HX.out HA.out HIN.out⟩
       case measure => simp [intOf]; omega
   · go_wp2
     obtain rfl : k = nd := by omega
     go_ret
     exact ⟨Xbf ((Xk1 (Xt4 HD.out.len HA.out)).symm), HB.out _⟩
include hd in
theorem Xlq (h1 : 1 ≤ ct ∧ ct ≤ 20) (h2 : (0 ≤ dv ∧ dv < 8) ∧ 0 ≤ at_ ∧ at_ ≤ 512 - ct) (h3 : (nd : Int) = 0) :
    Calls Tryz.prog 25 #[.agg #[.int .i64 dv, .int .i64 at_, .int .i64 ct, .bool false, .slice D nd cd]] w fun e w' => e = .returned (.int .i64 (askW data)) ∧ Below w.heap.size w w' := by
 refine z151 ?_; intro HB
 have HD := Zh hd
 refine z196 ?_; intro _ _ _
 refine z152 ?_; intro _
 have hn20 : nd ≤ 20 := by omega
 clear hd h1 h2
 obtain rfl : nd = 0 := by omega
 have HE := Zh (show data = [] from List.length_eq_zero_iff.1 HD.out.len)
 clear h3
 go_enter Tryz.func25, Tryz.ntmps25
 go_wp2_with (go_at_call 27; refine (Xa6 _ _ _ _).mono ?_; rintro e w' ⟨rfl, rfl⟩)
 go_loop [35, 5] (fun i _ => i = .int .i64 0) (fun i _ => 0)
 case atStart => rfl
 case round =>
   obtain rfl := hrel
   go_wp2
   go_ret
   exact ⟨Xbf ((Xk1 (by rw [HE.out]; rfl)).symm), HB.out _⟩
theorem Xuq (h1 : ¬ (1 ≤ ct ∧ ct ≤ 20)) :
    Calls Tryz.prog 25 #[.agg #[.int .i64 dv, .int .i64 at_, .int .i64 ct, .bool wr, .slice D nd cd]] w fun e w' => e = .returned (.int .i64 1) ∧ Below w.heap.size w w' := by
 refine z151 ?_; intro HB
 have i1 := Xf0 h1
 clear h1
 go_enter Tryz.func25, Tryz.ntmps25
 exact z66
theorem Xxk (h1 : 1 ≤ ct ∧ ct ≤ 20) (h2 : ¬ ((0 ≤ dv ∧ dv < 8) ∧ 0 ≤ at_ ∧ at_ ≤ 512 - ct)) :
    Calls Tryz.prog 25 #[.agg #[.int .i64 dv, .int .i64 at_, .int .i64 ct, .bool wr, .slice D nd cd]] w fun e w' => e = .returned (.int .i64 4) ∧ Below w.heap.size w w' := by
 refine z151 ?_; intro HB
 have i1 := Xb9 h1
 refine z152 ?_; intro _
 by_cases hd : 0 ≤ dv ∧ dv ≤ 7
 · have i2 := Xb9 hd
   have i3 := Xf0 (show ¬ (0 ≤ at_ ∧ at_ ≤ 512 - ct) by omega)
   clear h1 h2 hd
   go_enter Tryz.func25, Tryz.ntmps25
   exact z66
 · have i2 := Xf0 hd
   clear h1 h2 hd
   go_enter Tryz.func25, Tryz.ntmps25
   exact z66
theorem Xur (h1 : 1 ≤ ct ∧ ct ≤ 20) (h2 : (0 ≤ dv ∧ dv < 8) ∧ 0 ≤ at_ ∧ at_ ≤ 512 - ct) (hn : nd ≤ 9223372036854775807) (h3 : ¬ (nd : Int) = if wr then ct else 0) :
    Calls Tryz.prog 25 #[.agg #[.int .i64 dv, .int .i64 at_, .int .i64 ct, .bool wr, .slice D nd cd]] w fun e w' => e = .returned (.int .i64 3) ∧ Below w.heap.size w w' := by
 refine z151 ?_; intro HB
 refine z196 ?_; intro _ _ _
 refine z152 ?_; intro _
 clear h1 h2
 cases wr
 · have g : ((nd : Int) != 0) = true := by rw [bne_iff_ne]; simpa using h3
   have g2 : nd ≠ 0 := by intro e; rw [e] at g; exact absurd g (by decide)
   clear h3
   go_enter Tryz.func25, Tryz.ntmps25
   exact z66
 · have g : ((nd : Int) != ct) = true := by rw [bne_iff_ne]; simpa using h3
   clear h3
   go_enter Tryz.func25, Tryz.ntmps25
   exact z66
include hd in
theorem rck : Calls Tryz.prog 25 #[.agg #[.int .i64 dv, .int .i64 at_, .int .i64 ct, .bool wr, .slice D nd cd]] w fun e w' => e = .returned (.int .i64 (reqE ⟨dv, at_, ct, wr, data⟩)) ∧ Below w.heap.size w w' := by
 have hln := hd.len
 by_cases h1 : 1 ≤ ct ∧ ct ≤ 20
 · by_cases h2 : (0 ≤ dv ∧ dv < 8) ∧ 0 ≤ at_ ∧ at_ ≤ 512 - ct
   · by_cases h3 : (nd : Int) = if wr then ct else 0
     · refine z214 ?_; intro _
       cases wr
       · exact Xlq dv at_ ct data D nd cd w hd h1 h2 (by simpa using h3)
       · exact Xnh dv at_ ct data D nd cd w hd h1 h2 (by simpa using h3)
     · rw [Xlm (a := ⟨dv, at_, ct, wr, data⟩) h1 h2 (by unfold reqN; simp only []; rw [hln]; exact h3)]
       exact Xur dv at_ ct wr D nd cd w h1 h2 hd.bd h3
   · rw [Xoa (a := ⟨dv, at_, ct, wr, data⟩) h1 h2]
     exact Xxk dv at_ ct wr D nd cd w h1 h2
 · rw [Xll (a := ⟨dv, at_, ct, wr, data⟩) h1]
   exact Xuq dv at_ ct wr D nd cd w h1
end
theorem Xhn (a : Ask) (D : Option Addr) (nd cd : Nat) (w : World) (hd : Ints w w.heap.size D nd a.data) :
    Calls Tryz.prog 25 #[.agg #[.int .i64 a.dev, .int .i64 a.at_, .int .i64 a.count, .bool a.wr, .slice D nd cd]] w fun e w' => e = .returned (.int .i64 (reqE a)) ∧ Below w.heap.size w w' :=
  rck a.dev a.at_ a.count a.wr a.data D nd cd w hd
end Go.Proofs.YtbopdijnojaaiaaGreat
