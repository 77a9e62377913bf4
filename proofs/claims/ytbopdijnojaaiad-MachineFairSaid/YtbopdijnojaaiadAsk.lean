/- What devices ask: the walks of the program's Check and of the document's CheckAsk. No statement of the seat is proved here. -/
import Derived.Test.YtbopdijnojaaiadSlices
import Derived.Test.YtbopdijnojaaiadDmaP
import Derived.IntWalk
namespace Go.Proofs.Ytbopdijnojaaiad
open Go.RowKit
set_option linter.unusedSimpArgs false
set_option linter.unusedVariables false

/-- what is wrong with the words of an ask. -/
def askW (data : List Int) : Int := if data.all inWord then 0 else 2
theorem askW_ok {data : List Int} (h : data.all inWord = true) : askW data = 0 := by unfold askW; rw [if_pos h]
theorem askW_bad {data : List Int} {k : Nat} {x : Int} (hx : data[k]? = some x) (h : inWord x = false) : askW data = 2 := by unfold askW; rw [all_false hx h]; rfl
theorem all_tk_ {α : Type} {p : α → Bool} {xs : List α} {k : Nat} (hl : xs.length = k) (h : (xs.take k).all p = true) : xs.all p = true := by rw [List.take_of_length_le (by omega)] at h; exact h
section
variable (dv at_ ct : Int) (wr : Bool) (data : List Int) (D : Option Addr) (nd cd : Nat) (w : World) (hd : Ints w w.heap.size D nd data)
set_option maxRecDepth 100000 in
set_option maxHeartbeats 1000000 in
include hd in
theorem dck_ok_true (h1 : 1 ≤ ct ∧ ct ≤ 20) (h2 : (0 ≤ dv ∧ dv < 8) ∧ 0 ≤ at_ ∧ at_ ≤ 512 - ct) (h3 : (nd : Int) = ct) :
    Calls Try.prog 40 #[.agg #[.int .i64 dv, .int .i64 at_, .int .i64 ct, .bool true, .slice D nd cd]] w fun e w' => e = .returned (.int .i64 (askW data)) ∧ Below w.heap.size w w' := by
  have HB := Lib.hid (below_alloc w)
  have HD := Lib.hid hd
  obtain ⟨h11, h12⟩ := h1
  obtain ⟨⟨h21, h22⟩, h23, h24⟩ := h2
  have e1 : IntKind.i64.wrap (512 - ct) = 512 - ct := IntWalk.i64_in _ (by omega)
  have hn20 : nd ≤ 20 := by omega
  clear hd
  have g4 : ((nd : Int) != ct) = false := by rw [bne_eq_false_iff_eq]; exact h3
  have hpos : 0 < nd := by omega
  obtain ⟨b, off, rfl, hb, hc⟩ := HD.out.at_ hpos
  have HC := Lib.hid hc
  clear hc h3
  go_enter Try.func40, Try.ntmps40
  go_wp2
  go_loop [58, 4] (fun i _ => ∃ k : Nat, k ≤ nd ∧ i = .int .i64 k ∧ Hid ((data.take k).all inWord = true)) (fun i _ => nd - (intOf i).toNat)
  case atStart => exact ⟨0, by omega, rfl, by simp [Hid]⟩
  case round =>
    clear h11 h12 h21 h22 h23 h24 e1 g4 hpos
    obtain ⟨k, hk, rfl, HA⟩ := hrel
    by_cases hlt : k < nd
    · obtain ⟨x, hx⟩ := some_of_lt data (k := k) (by rw [HD.out.len]; exact hlt)
      have hcc := HC.out k x hx
      have HX := Lib.hid hx; clear hx
      go_wp2
      all_goals first
        | (go_ret; exact ⟨ret_int ((askW_bad HX.out (by simp [inWord]; omega)).symm), HB.out _⟩)
        | skip
      go_round
      case rel => exact ⟨k+1, by omega, by go_num, all_take_succ HX.out HA.out (by simp [inWord]; omega)⟩
      case measure => simp [intOf]; omega
    · go_wp2
      obtain rfl : k = nd := by omega
      go_ret
      exact ⟨ret_int ((askW_ok (all_tk_ HD.out.len HA.out)).symm), HB.out _⟩
set_option maxRecDepth 100000 in
set_option maxHeartbeats 1000000 in
include hd in
theorem dck_ok_false (h1 : 1 ≤ ct ∧ ct ≤ 20) (h2 : (0 ≤ dv ∧ dv < 8) ∧ 0 ≤ at_ ∧ at_ ≤ 512 - ct) (h3 : (nd : Int) = 0) :
    Calls Try.prog 40 #[.agg #[.int .i64 dv, .int .i64 at_, .int .i64 ct, .bool false, .slice D nd cd]] w fun e w' => e = .returned (.int .i64 (askW data)) ∧ Below w.heap.size w w' := by
  have HB := Lib.hid (below_alloc w)
  have HD := Lib.hid hd
  obtain ⟨h11, h12⟩ := h1
  obtain ⟨⟨h21, h22⟩, h23, h24⟩ := h2
  have e1 : IntKind.i64.wrap (512 - ct) = 512 - ct := IntWalk.i64_in _ (by omega)
  have hn20 : nd ≤ 20 := by omega
  clear hd
  obtain rfl : nd = 0 := by omega
  have HE := Lib.hid (show data = [] from List.length_eq_zero_iff.1 HD.out.len)
  clear h3
  go_enter Try.func40, Try.ntmps40
  go_wp2
  go_loop [58, 4] (fun i _ => i = .int .i64 0) (fun i _ => 0)
  case atStart => rfl
  case round =>
    obtain rfl := hrel
    go_wp2
    go_ret
    exact ⟨ret_int ((askW_ok (by rw [HE.out]; rfl)).symm), HB.out _⟩
set_option maxRecDepth 100000 in
set_option maxHeartbeats 1000000 in
theorem dck_many (h1 : ¬ (1 ≤ ct ∧ ct ≤ 20)) :
    Calls Try.prog 40 #[.agg #[.int .i64 dv, .int .i64 at_, .int .i64 ct, .bool wr, .slice D nd cd]] w fun e w' => e = .returned (.int .i64 1) ∧ Below w.heap.size w w' := by
  have HB := Lib.hid (below_alloc w)
  have h2 : ct < 1 ∨ (1 ≤ ct ∧ 20 < ct) := by omega
  clear h1
  rcases h2 with h1 | ⟨h1, h2⟩
  all_goals
    go_enter Try.func40, Try.ntmps40
    go_wp2
    go_ret
    exact ⟨rfl, HB.out _⟩
set_option maxRecDepth 100000 in
set_option maxHeartbeats 1000000 in
theorem dck_who (h1 : 1 ≤ ct ∧ ct ≤ 20) (h2 : ¬ ((0 ≤ dv ∧ dv < 8) ∧ 0 ≤ at_ ∧ at_ ≤ 512 - ct)) :
    Calls Try.prog 40 #[.agg #[.int .i64 dv, .int .i64 at_, .int .i64 ct, .bool wr, .slice D nd cd]] w fun e w' => e = .returned (.int .i64 4) ∧ Below w.heap.size w w' := by
  have HB := Lib.hid (below_alloc w)
  obtain ⟨h11, h12⟩ := h1
  have e1 : IntKind.i64.wrap (512 - ct) = 512 - ct := IntWalk.i64_in _ (by omega)
  have h3 : dv < 0 ∨ (0 ≤ dv ∧ 8 ≤ dv) ∨ (0 ≤ dv ∧ dv < 8 ∧ at_ < 0) ∨ (0 ≤ dv ∧ dv < 8 ∧ 0 ≤ at_ ∧ 512 - ct < at_) := by omega
  clear h2
  rcases h3 with h1 | ⟨h1, h2⟩ | ⟨h1, h2, h3⟩ | ⟨h1, h2, h3, h4⟩
  all_goals
    go_enter Try.func40, Try.ntmps40
    go_wp2
    go_ret
    exact ⟨rfl, HB.out _⟩
set_option maxRecDepth 100000 in
set_option maxHeartbeats 1000000 in
theorem dck_form (h1 : 1 ≤ ct ∧ ct ≤ 20) (h2 : (0 ≤ dv ∧ dv < 8) ∧ 0 ≤ at_ ∧ at_ ≤ 512 - ct) (hn : nd ≤ 9223372036854775807) (h3 : ¬ (nd : Int) = if wr then ct else 0) :
    Calls Try.prog 40 #[.agg #[.int .i64 dv, .int .i64 at_, .int .i64 ct, .bool wr, .slice D nd cd]] w fun e w' => e = .returned (.int .i64 3) ∧ Below w.heap.size w w' := by
  have HB := Lib.hid (below_alloc w)
  obtain ⟨h11, h12⟩ := h1
  obtain ⟨⟨h21, h22⟩, h23, h24⟩ := h2
  have e1 : IntKind.i64.wrap (512 - ct) = 512 - ct := IntWalk.i64_in _ (by omega)
  cases wr
  · have g : 0 < nd := by simp at h3; omega
    clear h3
    go_enter Try.func40, Try.ntmps40
    go_wp2
    go_ret
    exact ⟨rfl, HB.out _⟩
  · have g : ((nd : Int) != ct) = true := by rw [bne_iff_ne]; simpa using h3
    clear h3
    go_enter Try.func40, Try.ntmps40
    go_wp2
    go_ret
    exact ⟨rfl, HB.out _⟩
include hd in
theorem dck : Calls Try.prog 40 #[.agg #[.int .i64 dv, .int .i64 at_, .int .i64 ct, .bool wr, .slice D nd cd]] w fun e w' => e = .returned (.int .i64 (reqE ⟨dv, at_, ct, wr, data⟩)) ∧ Below w.heap.size w w' := by
  have hln := hd.len
  by_cases h1 : 1 ≤ ct ∧ ct ≤ 20
  · by_cases h2 : (0 ≤ dv ∧ dv < 8) ∧ 0 ≤ at_ ∧ at_ ≤ 512 - ct
    · by_cases h3 : (nd : Int) = if wr then ct else 0
      · have e : reqE ⟨dv, at_, ct, wr, data⟩ = askW data := by
          unfold reqE askW; rw [if_pos h1, if_pos (show reqR ⟨dv, at_, ct, wr, data⟩ from h2), if_pos (by unfold reqN; simp only []; rw [hln]; exact h3)]
        rw [e]
        cases wr
        · exact dck_ok_false dv at_ ct data D nd cd w hd h1 h2 (by simpa using h3)
        · exact dck_ok_true dv at_ ct data D nd cd w hd h1 h2 (by simpa using h3)
      · rw [reqE_form (a := ⟨dv, at_, ct, wr, data⟩) h1 h2 (by unfold reqN; simp only []; rw [hln]; exact h3)]
        exact dck_form dv at_ ct wr D nd cd w h1 h2 hd.bd h3
    · rw [reqE_who (a := ⟨dv, at_, ct, wr, data⟩) h1 h2]
      exact dck_who dv at_ ct wr D nd cd w h1 h2
  · rw [reqE_many (a := ⟨dv, at_, ct, wr, data⟩) h1]
    exact dck_many dv at_ ct wr D nd cd w h1
end
theorem dma_Check (a : Ask) (D : Option Addr) (nd cd : Nat) (w : World) (hd : Ints w w.heap.size D nd a.data) :
    Calls Try.prog 40 #[.agg #[.int .i64 a.dev, .int .i64 a.at_, .int .i64 a.count, .bool a.wr, .slice D nd cd]] w fun e w' => e = .returned (.int .i64 (reqE a)) ∧ Below w.heap.size w w' :=
  dck a.dev a.at_ a.count a.wr a.data D nd cd w hd
section
variable (dv at_ ct : Int) (wr : Bool) (data : List Int) (D : Option Addr) (nd cd : Nat) (w : World) (hd : Ints w w.heap.size D nd data)
end
end Go.Proofs.Ytbopdijnojaaiad
