/- What devices ask, page by page: the plain law. No program in sight, no statement of the seat is proved here. -/
import Derived.Test.YtbopdijnojaaiacDmaP
namespace Go.Proofs.Ytbopdijnojaaiac
open Go.RowKit
set_option linter.unusedSimpArgs false
set_option linter.unusedVariables false

/-- words of one page, one behind the other. -/
def dRun (a : Ask) : Nat → Nat → Dst → Dst
  | 0, _, s => s
  | n + 1, i, s => dRun a n (i + 1) (dWord a i s)
theorem dRun_page {a : Ask} : ∀ (m i : Nat) (s : Dst), (dRun a m i s).page = s.page
  | 0, _, _ => rfl
  | m + 1, i, s => by unfold dRun; rw [dRun_page m]; rfl
theorem dGo_run {a : Ask} : ∀ (m n i : Nat) (s : Dst), (∀ j, j < m → dPage a (i + j) = s.page) → dGo a (m + n) i s = dGo a n (i + m) (dRun a m i s)
  | 0, n, i, s, _ => by simp [dRun]
  | m + 1, n, i, s, h => by
    rw [show m + 1 + n = (m + n) + 1 by omega]
    show (if dPage a i = s.page then _ else _) = _
    rw [if_pos (show dPage a i = s.page from h 0 (by omega)), dGo_run m n (i + 1) (dWord a i s) (fun j hj => by
      have := h (j + 1) (by omega)
      rw [show i + (j + 1) = i + 1 + j by omega] at this; exact this)]
    rw [show i + 1 + m = i + (m + 1) by omega]
    rfl
def pre (D : List Int) (T : List Tch) (s : Dst) : Dst := ⟨s.xs, s.b, D ++ s.data, T ++ s.touched, s.at_, s.page⟩
def part (a : Ask) (i k : Nat) : Ask := ⟨a.dev, a.at_ + i, k, a.wr, if a.wr then (a.data.drop i).take k else []⟩
theorem part_rd {a : Ask} {i k j : Nat} (hw : a.wr = true) (hj : j < k) : rd (part a i k).data j = rd a.data ((i + j : Nat) : Int) := by
  unfold part rd
  simp only [hw, if_true]
  rw [show ((j : Nat) : Int).toNat = j by omega, show ((i + j : Nat) : Int).toNat = i + j by omega]
  rw [List.getElem?_take_of_lt hj, List.getElem?_drop]
theorem part_at {a : Ask} {i k j : Nat} {s : Dst} (D : List Int) (T : List Tch) : dAt (part a i k) j s = dAt a (i + j) (pre D T s) := by
  show s.at_ * 8 + (a.at_ + i + j) % 8 = s.at_ * 8 + (a.at_ + ((i + j : Nat) : Int)) % 8
  rw [show a.at_ + (i : Int) + j = a.at_ + ((i + j : Nat) : Int) by omega]
theorem part_page {a : Ask} {i k j : Nat} : dPage (part a i k) j = dPage a (i + j) := by
  show (a.at_ + i + j) / 8 = (a.at_ + ((i + j : Nat) : Int)) / 8
  rw [show a.at_ + (i : Int) + j = a.at_ + ((i + j : Nat) : Int) by omega]
theorem part_put {a : Ask} {i k j : Nat} {s : Dst} (D : List Int) (T : List Tch) (hj : j < k) : dPut (part a i k) j s = dPut a (i + j) (pre D T s) := by
  unfold dPut
  rw [part_at D T]
  show (if a.wr = true then _ else _) = _
  cases hw : a.wr
  · rfl
  · rw [if_pos rfl, if_pos rfl, part_rd hw hj]; rfl
theorem part_word {a : Ask} {i k j : Nat} {s : Dst} (D : List Int) (T : List Tch) (hj : j < k) : pre D T (dWord (part a i k) j s) = dWord a (i + j) (pre D T s) := by
  unfold dWord dTch
  rw [part_put D T hj, part_at D T]
  unfold pre
  simp only []
  show (⟨_, _, D ++ (if a.wr = true then _ else _), T ++ (s.touched ++ [⟨a.dev, a.at_ + i + j, _, a.wr, _⟩]), _, _⟩ : Dst) = _
  rw [show a.at_ + (i : Int) + j = a.at_ + ((i + j : Nat) : Int) by omega, List.append_assoc]
  cases a.wr
  · simp [List.append_assoc]
  · simp
theorem part_run {a : Ask} {i k : Nat} (D : List Int) (T : List Tch) : ∀ (m j : Nat) (s : Dst), j + m ≤ k → pre D T (dRun (part a i k) m j s) = dRun a m (i + j) (pre D T s)
  | 0, j, s, _ => rfl
  | m + 1, j, s, h => by
    unfold dRun
    rw [part_run D T m (j + 1) _ (by omega), part_word D T (by omega)]; rfl
theorem part_ok {a : Ask} {i k : Nat} (ha : reqE a = 0) (hk : 1 ≤ k) (hi : (i : Int) + k ≤ a.count) : reqE (part a i k) = 0 := by
  obtain ⟨h1, h2, h3, h4⟩ := reqE_inv ha
  unfold reqR at h2
  unfold reqN at h3
  have hc : 1 ≤ (part a i k).count ∧ (part a i k).count ≤ 20 := by unfold part; simp only []; omega
  have hr : reqR (part a i k) := by unfold reqR part; simp only []; omega
  have hn : ((part a i k).data.length : Int) = reqN (part a i k) := by
    unfold part reqN
    cases hw : a.wr
    · simp
    · rw [hw] at h3
      simp only [if_true] at h3 ⊢
      rw [List.length_take, List.length_drop]
      omega
  refine reqE_ok hc hr hn ?_
  rw [List.all_eq_true]
  intro x hx
  unfold part at hx
  simp only [] at hx
  cases hw : a.wr
  · rw [hw] at hx; simp at hx
  · rw [hw] at hx
    simp only [if_true] at hx
    have hx2 := List.mem_of_mem_drop (List.mem_of_mem_take hx)
    obtain ⟨q, hq⟩ := List.getElem?_of_mem hx2
    simpa [inWord] using h4 q x hq
/-- what a page's part of an ask does, the ask does there. -/
theorem dma_part {a : Ask} {i k n : Nat} {s : Dst} (hk : 1 ≤ k) (hp : ∀ j, j < k → dPage a (i + j) = dPage a i) (hs : dPage a i ≠ s.page) (h0 : 0 ≤ dPage a i) :
    ((dmaM s.xs s.b (part a i k)).2.2.fault = 0 ∧ (dmaM s.xs s.b (part a i k)).2.2.done = true ∧ ∃ at', dGo a (k + n) i s = dGo a n (i + k) ⟨(dmaM s.xs s.b (part a i k)).1, (dmaM s.xs s.b (part a i k)).2.1, s.data ++ (dmaM s.xs s.b (part a i k)).2.2.data, s.touched ++ (dmaM s.xs s.b (part a i k)).2.2.touched, at', dPage a i⟩) ∨
    ((dmaM s.xs s.b (part a i k)).2.2.fault ≠ 0 ∧ dGo a (k + n) i s = ((dmaM s.xs s.b (part a i k)).1, (dmaM s.xs s.b (part a i k)).2.1, ⟨(dmaM s.xs s.b (part a i k)).2.2.done, s.data ++ (dmaM s.xs s.b (part a i k)).2.2.data, (dmaM s.xs s.b (part a i k)).2.2.fault, s.touched ++ (dmaM s.xs s.b (part a i k)).2.2.touched⟩)) := by
  obtain ⟨q, rfl⟩ : ∃ q, k = q + 1 := ⟨k - 1, by omega⟩
  have hpg : dPage (part a i (q + 1)) 0 = dPage a i := part_page
  have hth : dThru (part a i (q + 1)) 0 ⟨s.xs, s.b, [], [], 0, -1⟩ = dThru a i s := by
    unfold dThru; rw [hpg]; rfl
  have hgo : dmaM s.xs s.b (part a i (q + 1)) = dGo (part a i (q + 1)) (q + 1) 0 ⟨s.xs, s.b, [], [], 0, -1⟩ := rfl
  rw [show q + 1 + n = (q + n) + 1 by omega]
  by_cases hf : (dThru a i s).2.2 = 0
  · have e1 : dmaM s.xs s.b (part a i (q + 1)) = dGo (part a i (q + 1)) 0 (1 + q) (dRun (part a i (q + 1)) q 1 (dWord (part a i (q + 1)) 0 (dNext (part a i (q + 1)) 0 ⟨s.xs, s.b, [], [], 0, -1⟩))) := by
      rw [hgo]
      show (if dPage _ 0 = -1 then _ else if (dThru _ 0 _).2.2 = 0 then _ else _) = _
      rw [if_neg (by rw [hpg]; omega), if_pos (by rw [hth]; exact hf)]
      have := dGo_run (a := part a i (q + 1)) q 0 1 (dWord (part a i (q + 1)) 0 (dNext (part a i (q + 1)) 0 ⟨s.xs, s.b, [], [], 0, -1⟩)) (fun j hj => by
        rw [part_page, hp (1 + j) (by omega)]; exact hpg.symm)
      rw [Nat.add_zero] at this
      exact this
    have e2 : dGo a (q + n + 1) i s = dGo a n (i + (q + 1)) (dRun a q (i + 1) (dWord a i (dNext a i s))) := by
      show (if dPage a i = s.page then _ else if (dThru a i s).2.2 = 0 then _ else _) = _
      rw [if_neg hs, if_pos hf, dGo_run q n (i + 1) _ (fun j hj => by rw [show i + 1 + j = i + (1 + j) by omega, hp (1 + j) (by omega)]; rfl)]
      rw [show i + 1 + q = i + (q + 1) by omega]
    have e3 : dRun a q (i + 1) (dWord a i (dNext a i s)) = pre s.data s.touched (dRun (part a i (q + 1)) q 1 (dWord (part a i (q + 1)) 0 (dNext (part a i (q + 1)) 0 ⟨s.xs, s.b, [], [], 0, -1⟩))) := by
      rw [part_run _ _ q 1 _ (by omega), part_word _ _ (by omega)]
      rw [show dNext a i s = pre s.data s.touched (dNext (part a i (q + 1)) 0 ⟨s.xs, s.b, [], [], 0, -1⟩) by
        unfold dNext pre; rw [hth, hpg]; simp]
      rfl
    have e4 : (dRun (part a i (q + 1)) q 1 (dWord (part a i (q + 1)) 0 (dNext (part a i (q + 1)) 0 ⟨s.xs, s.b, [], [], 0, -1⟩))).page = dPage a i := by rw [dRun_page]; exact hpg
    generalize dRun (part a i (q + 1)) q 1 (dWord (part a i (q + 1)) 0 (dNext (part a i (q + 1)) 0 ⟨s.xs, s.b, [], [], 0, -1⟩)) = S at *
    have e5 : dmaM s.xs s.b (part a i (q + 1)) = (S.xs, S.b, ⟨true, S.data, 0, S.touched⟩) := e1
    left
    rw [e5, e2, e3]
    refine ⟨rfl, rfl, S.at_, ?_⟩
    unfold pre
    rw [e4]
  · right
    have e1 : dmaM s.xs s.b (part a i (q + 1)) = dStop (part a i (q + 1)) 0 ⟨s.xs, s.b, [], [], 0, -1⟩ := by
      rw [hgo]
      show (if dPage _ 0 = -1 then _ else if (dThru _ 0 _).2.2 = 0 then _ else _) = _
      rw [if_neg (by rw [hpg]; omega), if_neg (by rw [hth]; exact hf)]
    have e2 : dGo a (q + n + 1) i s = dStop a i s := by
      show (if dPage a i = s.page then _ else if (dThru a i s).2.2 = 0 then _ else _) = _
      rw [if_neg hs, if_neg hf]
    have e3 : dFlt (part a i (q + 1)) 0 ⟨s.xs, s.b, [], [], 0, -1⟩ = dFlt a i s := by unfold dFlt; rw [hth, hpg]; rfl
    rw [e1, e2]
    unfold dStop
    rw [hth, e3]
    refine ⟨hf, ?_⟩
    simp
end Go.Proofs.Ytbopdijnojaaiac
