/- The walk of the law MachineParts: a script in two runs does what it does in one. The row is in another text. -/
import Derived.Test.YtbopdijnojaaiabDriven
import Derived.Test.YtbopdijnojaaiabRanR
import Derived.Test.YtbopdijnojaaiabCat
import Derived.Test.YtbopdijnojaaiabSameM
import Derived.Test.YtbopdijnojaaiabAt
import Derived.Deep.RegionHeld3
import Derived.Deep.DeepCutAuto
import Derived.Deep.MidRow
namespace Go.Proofs.Ytbopdijnojaaiab
open Go.RowKit
set_option linter.unusedSimpArgs false
set_option linter.unusedVariables false
attribute [local go_sem ↓] Go.wp_at_zero Go.wp_at_succ
theorem tmodN (k n : Int) (hn : 0 < n) : -n < k.tmod n ∧ k.tmod n < n ∧ (0 ≤ k.tmod n → k.tmod n = k % n) ∧ (k.tmod n < 0 → k.tmod n + n = k % n) := by
  have hb : 0 ≤ k % n ∧ k % n < n := ⟨Int.emod_nonneg _ (by omega), Int.emod_lt_of_pos _ hn⟩
  rcases Int.le_total 0 k with h | h
  · rw [Int.tmod_eq_emod_of_nonneg h]; omega
  · obtain ⟨m, rfl⟩ : ∃ m, k = -m := ⟨-k, by omega⟩
    rw [Int.neg_tmod, Int.tmod_eq_emod_of_nonneg (by omega)]
    have hm : 0 ≤ m % n ∧ m % n < n := ⟨Int.emod_nonneg _ (by omega), Int.emod_lt_of_pos _ hn⟩
    have e : (-m) % n = if m % n = 0 then 0 else n - m % n := by
      by_cases h0 : m % n = 0
      · rw [if_pos h0]; exact Int.emod_eq_zero_of_dvd (Int.dvd_neg.2 (Int.dvd_of_emod_eq_zero h0))
      · rw [if_neg h0]
        have : -m = n - m % n + n * (-(m / n) - 1) := by
          have := Int.emod_add_mul_ediv m n
          have e2 : n * (-(m / n) - 1) = -(n * (m / n)) - n := by rw [Int.mul_sub, Int.mul_neg, Int.mul_one]
          omega
        rw [this, Int.add_mul_emod_self_left]
        exact Int.emod_eq_of_lt (by omega) (by omega)
    rw [e]
    by_cases h0 : m % n = 0
    · rw [if_pos h0, h0]; omega
    · rw [if_neg h0]; omega
set_option maxRecDepth 100000 in
set_option maxHeartbeats 1000000 in
theorem law_atN (k n : Int) (hn : 0 < n ∧ n ≤ 65536) (w : World) : Calls Try.prog 20 #[.int .i64 k, .int .i64 n] w fun e w' => e = .returned (.int .i64 (k % n)) ∧ w = w' := by
  obtain ⟨h1, h2, h3, h4⟩ := tmodN k n hn.1
  obtain ⟨hn1, hn2⟩ := hn
  have H3 := Lib.hid h3
  have H4 := Lib.hid h4
  have hz : (n == 0) = false := by rw [beq_eq_false_iff_ne]; omega
  have HW := Lib.hid (wrap64_at n h1 h2 ⟨by omega, hn2⟩)
  clear h3 h4 h1 h2
  go_enter Try.func20, Try.ntmps20
  go_wp2
  all_goals go_ret
  all_goals first
    | exact ⟨ret_int (H3.out (by assumption)), rfl⟩
    | exact ⟨ret_int (HW.out.trans (H4.out (by assumption))), rfl⟩
/-- what comes of a script. -/
def RunsP (x : Mch) (hs : List Hap) (hn : Nat) (E : Int) (z : Mch) (ts : List Tld) (rs : List Int) : Prop :=
  (ckM x ≠ 0 ∧ E = ckM x ∧ z = .no ∧ ts = [] ∧ rs = []) ∨ (ckM x = 0 ∧ 120 < hn ∧ E = 1 ∧ z = .no ∧ ts = [] ∧ rs = []) ∨ (ckM x = 0 ∧ hn ≤ 120 ∧ E = 0 ∧ z = runS x hs ∧ ts = runT x hs ∧ rs = runR x hs)
/-- what Run hands back, whatever comes. -/
theorem mrun_all (x : Mch) (hs : List Hap) (M R L HA : Option Addr) (hn hc : Nat) (w : World) (nm mc nr rc n c : Nat) (hm : Ints w w.heap.size M nm x.m) (hr : Ints w w.heap.size R nr x.h.regs) (hl : Lines w w.heap.size L n c x.b.cache) (hh : Haps w w.heap.size HA hn hc hs) (E : Int) (z : Mch) (ts : List Tld) (rs : List Int)
    (h : RunsP x hs hn E z ts rs) :
    Calls Try.prog 37 #[.agg #[.slice M nm mc, .int .i64 x.h.at_, .slice R nr rc, .bool x.h.done, .int .i64 x.b.mode, .int .i64 x.b.base, .slice L n c, .int .i64 x.b.orders.page, .int .i64 x.b.orders.head, .int .i64 x.b.orders.tail, .bool x.b.stopped, .int .i64 x.b.fences, .int .i64 x.b.faults.page, .int .i64 x.b.faults.head, .int .i64 x.b.faults.tail, .bool x.b.lost], .slice HA hn hc] w (MrunC w z ts rs E) := by
  rcases h with ⟨h0, rfl, rfl, rfl, rfl⟩ | ⟨h0, h1, rfl, rfl, rfl, rfl⟩ | ⟨h0, h1, rfl, rfl, rfl, rfl⟩
  · exact mrun_bad x M R L HA hn hc w nm mc nr rc n c hm hr hl h0
  · obtain ⟨c1, c2, _⟩ := (ckM_iff x).1 h0
    obtain rfl : nm = 512 := by rw [← hm.len]; exact (cm_inv c1).1
    obtain rfl : nr = 8 := by rw [← hr.len]; exact (ckH_inv c2).1
    exact mrun_many x M R L HA hn hc w mc rc n c hm hr hl h0 h1
  · obtain ⟨c1, c2, _⟩ := (ckM_iff x).1 h0
    obtain rfl : nm = 512 := by rw [← hm.len]; exact (cm_inv c1).1
    obtain rfl : nr = 8 := by rw [← hr.len]; exact (ckH_inv c2).1
    exact mrun_ok x hs M R L HA hn hc w mc rc n c hm hr hl hh h0 h1
theorem slice_hiR (A : Option Addr) (n c k : Nat) (hk : k ≤ c) (hc : n ≤ c) :
    ∀ w, (Instr.slice 58 (.slice A n c) none (some (.int .i64 (k : Int))) none).run Try.prog w = .ok (.slice A k c) w := by
  intro w
  have h1 : (0 : Int) ≤ (k : Int) := by omega
  have h2 : (k : Int) ≤ (c : Int) := by omega
  simp [go_sem, h1, h2]
set_option maxRecDepth 100000 in
theorem slice_loR (A : Option Addr) (n c j : Nat) (hj : j ≤ n) (hc : n ≤ c) :
    ∃ A' : Option Addr, (∀ w, (Instr.slice 58 (.slice A n c) (some (.int .i64 (j : Int))) none none).run Try.prog w = .ok (.slice A' (n - j) (c - j)) w) ∧ ∀ w B hs, Haps w B A n c hs → Haps w B A' (n - j) (c - j) (hs.drop j) := by
  refine ⟨if c = j then A else A.map (·.add (j * 7)), fun w => ?_, fun w B ls h => h.dropN hj⟩
  have h1 : (0 : Int) ≤ (j : Int) := by omega
  have h2 : (j : Int) ≤ (n : Int) := by omega
  simp [go_sem, h1, h2]
theorem take_atR {P : Program} {ops : Array Oper} {Q : Exit → Act → World → Prop} {md : Region.Mode} {S : World → Prop} {i : Nat} {d : Tmp} {oi : Oper} {v : Value} {fuel : Nat} {listed : Array Bool} {a : Act} {w : World} (hi : ops[i]? = some oi) (hd : oi.dst = some d)
    (hs : Region.noSelect ops = true) (hf : Region.free md ops listed i = true) (hr : (Region.ready md ops listed).contains i = true)
    (hQ : ∀ c a w, Q (.panic c) (a.put oi.dst v) w → Q (.panic c) a w) (hy : YieldsIf P ops S oi v a) (hS : S w)
    (h : wpAnyH P md ops Q S fuel (listed.setIfInBounds i true) (a.put (some d) v) w) : wpAnyH P md ops Q S (fuel + 1) listed a w := by
  rw [← hd] at h
  exact wpAnyH_take hi hs hf hr hQ hy hS h
theorem yld_whl {P : Program} {S : World → Prop} {op : Oper} {a : Act} (ty : TypeId) (x : Operand) (g : Nat) (t : TypeId) (cs : Array Value) (ho : op.op = .load ty x) (hx : a.eval x = .pointer (some ⟨g, 0, none⟩)) (hS : ∀ W, S W → Whl W g t cs) (d : TypeDesc) (hu : P.underlying ty = some d) (hd : d.isRow = true) (hi : (P.info? ty).map (·.size) = some cs.size) :
    ∀ W, S W → (execOp a.eval op).run P W = .ok (.value (.agg cs)) W := fun W hW => by
  have h1 : W.rangeAt g 0 cs.toList := fun j v hv => by
    rw [whl_cell (hS W hW), Nat.zero_add]; simpa using hv
  have h2 := run_loadVar_mid (P := P) W g 0 ty cs.toList d h1 hu hd (by rw [hi, Array.length_toList])
  rw [Array.toArray_toList] at h2
  unfold execOp
  simp only [ho, hx, Instr.loadAt, Instr.sureAddr, Sem.run_bind, Sem.run_pure, Result.andThen_ok, h2]
theorem yld_run {P : Program} {op : Oper} {a : Act} {i : Sem Value} {v : Value} {w w' : World} (ho : execOp a.eval op = (do let x ← i; pure (.value x))) (h : i.run P w = .ok v w') : (execOp a.eval op).run P w = .ok (.value v) w' := by
  rw [ho]
  simp only [Sem.run_bind, Sem.run_pure, h, Result.andThen_ok]
theorem wp_callR {P : Program} {o : Oper} {a : Act} {w : World} {K : Act → World → Prop} {Q : Exit → Act → World → Prop} (f : FuncId) (args : Array Value) (hr : (execOp a.eval o).run P w = .ok (.enter f args) w) (d : Tmp) (hd : o.dst = some d) (h : Calls P f args w fun e w' => ∃ v, e = .returned v ∧ K (a.put (some d) v) w') : Oper.wp P o a w K Q := by
  rw [← hd] at h
  unfold Oper.wp
  rw [hr, Oper.upon_enter]
  refine h.mono ?_
  rintro e w' ⟨v, rfl, hK⟩
  exact hK
theorem wp_allocR {P : Program} {o : Oper} {a : Act} {w : World} {K : Act → World → Prop} {Q : Exit → Act → World → Prop} (ty : TypeId) (ho : o.op = .alloc ty) (p : Value) (w' : World) (hr : (Instr.alloc ty true (.tuple #[])).run P w = .ok p w') (d : Tmp) (hd : o.dst = some d) (h : K (a.put (some d) p) w') : Oper.wp P o a w K Q := by
  rw [← hd] at h
  unfold Oper.wp execOp
  simp only [ho, Sem.run_bind, Sem.run_pure, hr, Result.andThen_ok]
  exact h
theorem wp_storeR {P : Program} {o : Oper} {a : Act} {w : World} {K : Act → World → Prop} {Q : Exit → Act → World → Prop} (ty : TypeId) (x y : Operand) (ho : o.op = .store ty x y) (g : Nat) (t : TypeId) (old cells : Array Value) (hx : a.eval x = .pointer (some ⟨g, 0, none⟩)) (hy : a.eval y = .agg cells) (hg : Whl w g t old)
    (hi : (P.info? ty).map (·.size) = some cells.size) (hold : old.size = cells.size) (h1 : cells.toList.all (·.oneCell') = true) (hn : setL old 0 cells.toList = cells) (hd : o.dst = none) (h : ∀ w', Whl w' g t cells → Trn g w w' → K a w') : Oper.wp P o a w K Q :=
  wp_store_mid ty x y ho g 0 cells hx hy (whl_there hg (by omega)) hi (by rw [← Array.all_toList]; exact h1) (by rw [hd]; exact h _ (by have h2 := whl_cells cells.toList 0 w old hg; rw [hn] at h2; exact h2) (trn_cells cells.toList 0 w (whl_lt hg)))
theorem Try.alcMach (w : World) : (Instr.alloc 57 true (.tuple #[])).run Try.prog w = .ok (.pointer (some ⟨w.heap.size, 0, none⟩)) (w.alloc (.cells #[.slice none 0 0, .int .i64 0, .slice none 0 0, .bool false, .int .i64 0, .int .i64 0, .slice none 0 0, .int .i64 0, .int .i64 0, .int .i64 0, .bool false, .int .i64 0, .int .i64 0, .int .i64 0, .int .i64 0, .bool false] 57)) := by kernel_rfl
theorem runs_parts {x : Mch} {hs : List Hap} {n K : Nat} (hn : hs.length = n) (hK : K ≤ n) (h0 : ckM x = 0) (h1 : n ≤ 120) :
    RunsP x hs n 0 (runS x hs) (runT x hs) (runR x hs) ∧ RunsP x (hs.take K) K 0 (runS x (hs.take K)) (runT x (hs.take K)) (runR x (hs.take K)) ∧
    RunsP (runS x (hs.take K)) (hs.drop K) (n - K) 0 (runS x hs) (runT (runS x (hs.take K)) (hs.drop K)) (runR (runS x (hs.take K)) (hs.drop K)) ∧
    runR x hs = runR x (hs.take K) ++ runR (runS x (hs.take K)) (hs.drop K) ∧ runT x hs = runT x (hs.take K) ++ runT (runS x (hs.take K)) (hs.drop K) := by
  have e : hs.take K ++ hs.drop K = hs := List.take_append_drop K hs
  have e1 := runS_app (x := x) (l := hs.take K) (r := hs.drop K)
  have e2 := runT_app (x := x) (l := hs.take K) (r := hs.drop K)
  have e3 := runR_app (x := x) (l := hs.take K) (r := hs.drop K)
  rw [e] at e1 e2 e3
  exact ⟨Or.inr (Or.inr ⟨h0, h1, rfl, rfl, rfl, rfl⟩), Or.inr (Or.inr ⟨h0, by omega, rfl, rfl, rfl, rfl⟩), Or.inr (Or.inr ⟨runS_ck h0 _, by omega, rfl, e1, rfl, rfl⟩), e3, e2⟩
theorem ints_oneP (xs : List Int) : ∀ u ∈ xs.map (Value.int .i64), u.oneCell' = true := by
  intro u hu
  obtain ⟨a, _, rfl⟩ := List.mem_map.1 hu
  rfl
theorem elc_one (es : List Tle) : ∀ u ∈ elcells es, u.oneCell' = true := by
  intro u hu
  unfold elcells at hu
  obtain ⟨e, _, h⟩ := List.mem_flatMap.1 hu
  exact tle_one e u h
theorem elcells_append (a b : List Tle) : elcells (a ++ b) = elcells a ++ elcells b := by unfold elcells; rw [List.flatMap_append]
theorem telS_mem {w : World} {A : Option Addr} {n c : Nat} {es : List Tle} (h : TelS w A n c es) : ∀ e ∈ es, Ints w w.heap.size e.D e.dn e.t.data ∧ Tchs w w.heap.size e.X e.tn e.tc e.t.touched := fun e he => by
  obtain ⟨k, hk⟩ := List.getElem?_of_mem he
  obtain ⟨b, off, _, _, hc⟩ := h.2.2.2 (by have := (List.getElem?_eq_some_iff.1 hk).1; rw [h.1] at this; omega)
  exact (hc k e hk).2
theorem telS_cat {w' : World} {B n1 c1 n2 c2 c : Nat} {A1 A2 LT : Option Addr} {es fs : List Tle} (h1 : TelS w' A1 n1 c1 es) (h2 : TelS w' A2 n2 c2 fs) {n : Nat} (hn : n1 + n2 = n) (ho : w'.ownsRow B 69 4 (.slice LT n c) n (elcells es ++ elcells fs)) : TelS w' LT n c (es ++ fs) := by
  have hc := own_capc ho
  rw [← elcells_append] at ho
  have ho' : OwnS B w' LT n c (es ++ fs) := ⟨by rw [List.length_append, h1.1, h2.1]; exact hn, hc.1, hc.2, ho⟩
  refine telS_own (Av := fun _ => True) ho' (fun e he => ?_)
  rw [List.mem_append] at he
  have : Ints w' w'.heap.size e.D e.dn e.t.data ∧ Tchs w' w'.heap.size e.X e.tn e.tc e.t.touched := by
    rcases he with he | he
    · exact telS_mem h1 e he
    · exact telS_mem h2 e he
  exact ⟨this.1, this.2, fun _ _ _ => trivial, fun _ _ _ => trivial⟩
theorem sameM_refl (x : Mch) : sameM x x = true := by simp [sameM]
set_option maxRecDepth 100000 in
set_option maxHeartbeats 8000000 in
theorem mparts_no (x : Mch) (hs : List Hap) (M R L HA : Option Addr) (hn hc : Nat) (k : Int) (w : World) (nm mc nr rc n c : Nat) (hm : Ints w w.heap.size M nm x.m) (hr : Ints w w.heap.size R nr x.h.regs) (hl : Lines w w.heap.size L n c x.b.cache) (hh : Haps w w.heap.size HA hn hc hs) (EE : Int) (y1 : Mch) (ts : List Tld) (rs : List Int) (hP : RunsP x hs hn EE y1 ts rs) (hE : EE ≠ 0) :
    Calls Try.prog 6 #[.agg #[.slice M nm mc, .int .i64 x.h.at_, .slice R nr rc, .bool x.h.done, .int .i64 x.b.mode, .int .i64 x.b.base, .slice L n c, .int .i64 x.b.orders.page, .int .i64 x.b.orders.head, .int .i64 x.b.orders.tail, .bool x.b.stopped, .int .i64 x.b.fences, .int .i64 x.b.faults.page, .int .i64 x.b.faults.head, .int .i64 x.b.faults.tail, .bool x.b.lost], .slice HA hn hc, .int .i64 k] w fun e w' => e = .returned (.bool true) ∧ Below w.heap.size w w' := by
  have t0 : (EE != 0) = true := by rw [bne_iff_ne]; exact hE
  clear hE
  have HMV := Lib.hid (machV_arg hm hr hl)
  have HH := Lib.hid hh
  have hcap := hh.cap
  have HHL := Lib.hid hh.len
  have HP := Lib.hid hP
  clear hm hr hl hh hP
  go_enter Try.func6, Try.ntmps6
  go_upto_region 1 with (fail)
  generalize hw0 : w.alloc (.cells #[.slice M nm mc, .int .i64 x.h.at_, .slice R nr rc, .bool x.h.done, .int .i64 x.b.mode, .int .i64 x.b.base, .slice L n c, .int .i64 x.b.orders.page, .int .i64 x.b.orders.head, .int .i64 x.b.orders.tail, .bool x.b.stopped, .int .i64 x.b.fences, .int .i64 x.b.faults.page, .int .i64 x.b.faults.head, .int .i64 x.b.faults.tail, .bool x.b.lost] 57) = w0
  have H3 := Lib.hid (show Whl w0 w.heap.size 57 #[.slice M nm mc, .int .i64 x.h.at_, .slice R nr rc, .bool x.h.done, .int .i64 x.b.mode, .int .i64 x.b.base, .slice L n c, .int .i64 x.b.orders.page, .int .i64 x.b.orders.head, .int .i64 x.b.orders.tail, .bool x.b.stopped, .int .i64 x.b.fences, .int .i64 x.b.faults.page, .int .i64 x.b.faults.head, .int .i64 x.b.faults.tail, .bool x.b.lost] by rw [← hw0]; exact whl_new _ _ _ rfl)
  have HB := Lib.hid (show Below w.heap.size w w0 by rw [← hw0]; (repeat (first | (with_reducible exact Below.refl _ _) | (with_reducible refine Below.drew ?_) | (with_reducible refine bdrewN ?_ _) | ((with_reducible refine Below.setCell ?_ ?_ _); rotate_left; exact (by first | (simp; done) | (simp; omega) | omega)) | ((with_reducible refine Below.alloc ?_ ?_ _); rotate_left; exact (by first | (simp; done) | (simp; omega) | omega)))))
  have hz0a : w0.heap.size ≤ w.heap.size + 1 := by rw [← hw0]; simp
  have hz0b : w.heap.size + 1 ≤ w0.heap.size := by rw [← hw0]; simp
  clear hw0
  go_wp2_with (first | (refine wpList_load_whl rfl 57 (.tmp 3) rfl (w.heap.size) _ _ rfl H3.out _ Try.underlying57 rfl Try.sizeMach ?_))
  refine (mrun_all x hs M R L HA hn hc _ nm mc nr rc n c (ints_now HMV.out.hm HB.out) (ints_now HMV.out.hr HB.out) (lines_now HMV.out.hl HB.out) (haps_now HH.out HB.out) EE y1 ts rs HP.out).mono ?_
  rintro e w1 ⟨M1, nm1, mc1, R1, nr1, rc1, L1, n1, c1, fs, TA1, tn1, tc1, SA1, sn1, sc1, rfl, hv1, ho1, hts, hs1, htl, hb⟩
  have HZ1 := Lib.hid hb
  have hz1 := hb.size
  have V1 := Lib.hid hv1
  have O1 := Lib.hid ho1
  have HTS := Lib.hid hts
  have HS1 := Lib.hid hs1
  have HTL := Lib.hid htl
  replace H3 := Lib.hid (whl_since H3.out hb)
  replace HB := Lib.hid (HB.out.trans (hb.mono HB.out.size))
  clear hb hv1 ho1 hts hs1 htl
  go_upto_region 2 with (first | (refine wpList_store_all rfl 57 (.tmp 7) (.tmp 22) rfl (w1.heap.size) _ _ #[.slice M1 nm1 mc1, .int .i64 y1.h.at_, .slice R1 nr1 rc1, .bool y1.h.done, .int .i64 y1.b.mode, .int .i64 y1.b.base, .slice L1 n1 c1, .int .i64 y1.b.orders.page, .int .i64 y1.b.orders.head, .int .i64 y1.b.orders.tail, .bool y1.b.stopped, .int .i64 y1.b.fences, .int .i64 y1.b.faults.page, .int .i64 y1.b.faults.head, .int .i64 y1.b.faults.tail, .bool y1.b.lost] rfl rfl (whl_new w1 _ _ rfl) Try.sizeMach rfl rfl ?_; intro w2 h7 t7))
  have HR1 : Hid (RanR w0 y1 ts rs w1.heap.size M1 nm1 mc1 R1 nr1 rc1 L1 n1 c1 fs TA1 tn1 tc1 SA1 sn1 sc1 w2) := Lib.hid (RanR.mk' (Below.refl _ _) HZ1.out V1.out O1.out HTS.out HS1.out HTL.out (below_alloc _ _) h7 t7 (by omega) (Or.inr (Nat.le_refl _)))
  have hb : Below w1.heap.size w1 w2 := below_chg ((Below.refl w1.heap.size w1).alloc (Nat.le_refl _) _) (by simp) t7.1 (fun q hq e => by omega)
  replace H3 := Lib.hid (whl_since H3.out hb)
  replace HB := Lib.hid (HB.out.trans (hb.mono HB.out.size))
  have hz2 := hb.size
  clear hb h7 t7 V1 O1 HTS HS1 HTL HZ1
  go_wp2_with fail
  refine (law_driven _).mono ?_
  rintro e w3 ⟨rfl, hb⟩
  replace H3 := Lib.hid (whl_since H3.out hb)
  replace HB := Lib.hid (HB.out.trans (hb.mono HB.out.size))
  replace HR1 := Lib.hid (HR1.out.since hb)
  have hz3 := hb.size
  clear hb
  go_wp2_with fail
  refine (law_driven _).mono ?_
  rintro e w4 ⟨rfl, hb⟩
  replace HB := Lib.hid (HB.out.trans (hb.mono HB.out.size))
  clear hb
  go_wp2
  go_ret
  exact ⟨rfl, HB.out⟩
set_option maxRecDepth 100000 in
set_option maxHeartbeats 6000000 in
theorem mparts_ok (x : Mch) (hs : List Hap) (M R L HA : Option Addr) (hn hc : Nat) (k : Int) (w : World) (nm mc nr rc n c : Nat) (hm : Ints w w.heap.size M nm x.m) (hr : Ints w w.heap.size R nr x.h.regs) (hl : Lines w w.heap.size L n c x.b.cache) (hh : Haps w w.heap.size HA hn hc hs) (h0 : ckM x = 0) (h1 : hn ≤ 120) :
    Calls Try.prog 6 #[.agg #[.slice M nm mc, .int .i64 x.h.at_, .slice R nr rc, .bool x.h.done, .int .i64 x.b.mode, .int .i64 x.b.base, .slice L n c, .int .i64 x.b.orders.page, .int .i64 x.b.orders.head, .int .i64 x.b.orders.tail, .bool x.b.stopped, .int .i64 x.b.fences, .int .i64 x.b.faults.page, .int .i64 x.b.faults.head, .int .i64 x.b.faults.tail, .bool x.b.lost], .slice HA hn hc, .int .i64 k] w fun e w' => e = .returned (.bool true) ∧ Below w.heap.size w w' := by
  obtain ⟨K, hK⟩ := Int.eq_ofNat_of_zero_le (show 0 ≤ k % ((hn : Int) + 1) from Int.emod_nonneg _ (by omega))
  have hKn : K ≤ hn := by have := Int.emod_lt_of_pos k (show 0 < (hn : Int) + 1 by omega); omega
  obtain ⟨hP, p2, p3, p4, p5⟩ := runs_parts hh.len hKn h0 h1
  obtain ⟨y1, hy1⟩ : ∃ y, runS x hs = y := ⟨_, rfl⟩
  obtain ⟨y2, hy2⟩ : ∃ y, runS x (hs.take K) = y := ⟨_, rfl⟩
  obtain ⟨ts, hts⟩ : ∃ y, runT x hs = y := ⟨_, rfl⟩
  obtain ⟨rs, hrs⟩ : ∃ y, runR x hs = y := ⟨_, rfl⟩
  obtain ⟨ts2, hts2⟩ : ∃ y, runT x (hs.take K) = y := ⟨_, rfl⟩
  obtain ⟨rs2, hrs2⟩ : ∃ y, runR x (hs.take K) = y := ⟨_, rfl⟩
  have hl2 : rs2.length = K := by rw [← hrs2, runR_len, List.length_take, hh.len]; omega
  have hl3 : ts2.length = K := by rw [← hts2, runT_len, List.length_take, hh.len]; omega
  rw [hy2] at p2 p3 p4 p5
  obtain ⟨ts3, hts3⟩ : ∃ y, runT y2 (hs.drop K) = y := ⟨_, rfl⟩
  obtain ⟨rs3, hrs3⟩ : ∃ y, runR y2 (hs.drop K) = y := ⟨_, rfl⟩
  have hl4 : rs3.length = hn - K := by rw [← hrs3, runR_len, List.length_drop, hh.len]
  have hl5 : ts3.length = hn - K := by rw [← hts3, runT_len, List.length_drop, hh.len]
  rw [hy1, hts, hrs] at hP
  rw [hts2, hrs2] at p2
  rw [hy1, hts3, hrs3] at p3
  rw [hrs, hrs2, hrs3] at p4
  rw [hts, hts2, hts3] at p5
  have P2 := Lib.hid p2
  have P3 := Lib.hid p3
  have P4 := Lib.hid p4
  have P5 := Lib.hid p5
  have HN := Lib.hid h1
  have HKK := Lib.hid hK
  have HLL := Lib.hid (And.intro hl2 (And.intro hl3 (And.intro hl4 hl5)))
  obtain ⟨A', hlo, hlo2⟩ := slice_loR HA hn hc K hKn hh.cap.1
  have hhi := slice_hiR HA hn hc K (by have := hh.cap.1; omega) hh.cap.1
  have HLO := Lib.hid hlo2
  have hen : IntKind.i64.wrap ((hn : Int) + 1) = (hn : Int) + 1 := IntWalk.i64_in _ (by omega)
  clear p2 p3 p4 p5 hy1 hy2 hts hrs hts2 hrs2 hts3 hrs3 h0 h1 hlo2 hK hl2 hl3 hl4 hl5
  have HMV := Lib.hid (machV_arg hm hr hl)
  have HH := Lib.hid hh
  have hcap := hh.cap
  have HHL := Lib.hid hh.len
  have HP := Lib.hid hP
  clear hm hr hl hh hP
  go_enter Try.func6, Try.ntmps6
  go_upto_region 1 with (fail)
  generalize hw0 : w.alloc (.cells #[.slice M nm mc, .int .i64 x.h.at_, .slice R nr rc, .bool x.h.done, .int .i64 x.b.mode, .int .i64 x.b.base, .slice L n c, .int .i64 x.b.orders.page, .int .i64 x.b.orders.head, .int .i64 x.b.orders.tail, .bool x.b.stopped, .int .i64 x.b.fences, .int .i64 x.b.faults.page, .int .i64 x.b.faults.head, .int .i64 x.b.faults.tail, .bool x.b.lost] 57) = w0
  have H3 := Lib.hid (show Whl w0 w.heap.size 57 #[.slice M nm mc, .int .i64 x.h.at_, .slice R nr rc, .bool x.h.done, .int .i64 x.b.mode, .int .i64 x.b.base, .slice L n c, .int .i64 x.b.orders.page, .int .i64 x.b.orders.head, .int .i64 x.b.orders.tail, .bool x.b.stopped, .int .i64 x.b.fences, .int .i64 x.b.faults.page, .int .i64 x.b.faults.head, .int .i64 x.b.faults.tail, .bool x.b.lost] by rw [← hw0]; exact whl_new _ _ _ rfl)
  have HB := Lib.hid (show Below w.heap.size w w0 by rw [← hw0]; (repeat (first | (with_reducible exact Below.refl _ _) | (with_reducible refine Below.drew ?_) | (with_reducible refine bdrewN ?_ _) | ((with_reducible refine Below.setCell ?_ ?_ _); rotate_left; exact (by first | (simp; done) | (simp; omega) | omega)) | ((with_reducible refine Below.alloc ?_ ?_ _); rotate_left; exact (by first | (simp; done) | (simp; omega) | omega)))))
  have hz0a : w0.heap.size ≤ w.heap.size + 1 := by rw [← hw0]; simp
  have hz0b : w.heap.size + 1 ≤ w0.heap.size := by rw [← hw0]; simp
  clear hw0
  go_wp2_with (first | (refine wpList_load_whl rfl 57 (.tmp 3) rfl (w.heap.size) _ _ rfl H3.out _ Try.underlying57 rfl Try.sizeMach ?_))
  refine (mrun_all x hs M R L HA hn hc _ nm mc nr rc n c (ints_now HMV.out.hm HB.out) (ints_now HMV.out.hr HB.out) (lines_now HMV.out.hl HB.out) (haps_now HH.out HB.out) 0 y1 ts rs HP.out).mono ?_
  rintro e w1 ⟨M1, nm1, mc1, R1, nr1, rc1, L1, n1, c1, fs, TA1, tn1, tc1, SA1, sn1, sc1, rfl, hv1, ho1, hts, hs1, htl, hb⟩
  have HZ1 := Lib.hid hb
  have hz1 := hb.size
  have V1 := Lib.hid hv1
  have O1 := Lib.hid ho1
  have HTS := Lib.hid hts
  have HS1 := Lib.hid hs1
  have HTL := Lib.hid htl
  replace H3 := Lib.hid (whl_since H3.out hb)
  replace HB := Lib.hid (HB.out.trans (hb.mono HB.out.size))
  clear hb hv1 ho1 hts hs1 htl
  go_upto_region 2 with (first | (refine wpList_store_all rfl 57 (.tmp 7) (.tmp 22) rfl (w1.heap.size) _ _ #[.slice M1 nm1 mc1, .int .i64 y1.h.at_, .slice R1 nr1 rc1, .bool y1.h.done, .int .i64 y1.b.mode, .int .i64 y1.b.base, .slice L1 n1 c1, .int .i64 y1.b.orders.page, .int .i64 y1.b.orders.head, .int .i64 y1.b.orders.tail, .bool y1.b.stopped, .int .i64 y1.b.fences, .int .i64 y1.b.faults.page, .int .i64 y1.b.faults.head, .int .i64 y1.b.faults.tail, .bool y1.b.lost] rfl rfl (whl_new w1 _ _ rfl) Try.sizeMach rfl rfl ?_; intro w2 h7 t7))
  have HR1 : Hid (RanR w0 y1 ts rs w1.heap.size M1 nm1 mc1 R1 nr1 rc1 L1 n1 c1 fs TA1 tn1 tc1 SA1 sn1 sc1 w2) := Lib.hid (RanR.mk' (Below.refl _ _) HZ1.out V1.out O1.out HTS.out HS1.out HTL.out (below_alloc _ _) h7 t7 (by omega) (Or.inr (Nat.le_refl _)))
  have hb : Below w1.heap.size w1 w2 := below_chg ((Below.refl w1.heap.size w1).alloc (Nat.le_refl _) _) (by simp) t7.1 (fun q hq e => by omega)
  replace H3 := Lib.hid (whl_since H3.out hb)
  replace HB := Lib.hid (HB.out.trans (hb.mono HB.out.size))
  have hz2 := hb.size
  clear hb h7 t7 V1 O1 HTS HS1 HTL HZ1
  go_wp2_with fail
  refine (law_driven _).mono ?_
  rintro e w3 ⟨rfl, hb⟩
  replace H3 := Lib.hid (whl_since H3.out hb)
  replace HB := Lib.hid (HB.out.trans (hb.mono HB.out.size))
  replace HR1 := Lib.hid (HR1.out.since hb)
  have hz3 := hb.size
  clear hb
  go_wp2_with fail
  refine (law_atN k ((hn : Int) + 1) (by have := HN.out; omega) _).mono ?_
  rintro e w4 ⟨rfl, rfl⟩
  rw [HKK.out]
  clear hen
  go_upto_region 5 with (fail)
  go_cut [11, 12, 13, 10] (fun sb st ss se wd => ∃ g2 M2 nm2 mc2 R2 nr2 rc2 L2 n2 c2 gs2 TA2 tn2 tc2 SA2 sn2 sc2, sb = .pointer (some ⟨g2, 0, none⟩) ∧ st = .slice TA2 tn2 tc2 ∧ ss = .slice SA2 sn2 sc2 ∧ se = .int .i64 0 ∧ Hid (RanR w3 y2 ts2 rs2 g2 M2 nm2 mc2 R2 nr2 rc2 L2 n2 c2 gs2 TA2 tn2 tc2 SA2 sn2 sc2 wd))
  case first =>
    refine wp_region_held_drew (S := fun W' => Below w3.heap.size w3 W') (by kernel_rfl) (Below.refl _ _).drew (fun hS0 => ?_)
    have HS0 := Lib.hid hS0
    clear hS0
    refine take_atR (i := 0) (d := 39) (v := .agg #[.slice M nm mc, .int .i64 x.h.at_, .slice R nr rc, .bool x.h.done, .int .i64 x.b.mode, .int .i64 x.b.base, .slice L n c, .int .i64 x.b.orders.page, .int .i64 x.b.orders.head, .int .i64 x.b.orders.tail, .bool x.b.stopped, .int .i64 x.b.fences, .int .i64 x.b.faults.page, .int .i64 x.b.faults.head, .int .i64 x.b.faults.tail, .bool x.b.lost]) rfl rfl (by kernel_rfl) (by kernel_rfl) (by kernel_rfl) (fun _ _ _ h => h) (Or.inl ⟨by rfl, yld_whl 57 (.tmp 3) w.heap.size 57 #[.slice M nm mc, .int .i64 x.h.at_, .slice R nr rc, .bool x.h.done, .int .i64 x.b.mode, .int .i64 x.b.base, .slice L n c, .int .i64 x.b.orders.page, .int .i64 x.b.orders.head, .int .i64 x.b.orders.tail, .bool x.b.stopped, .int .i64 x.b.fences, .int .i64 x.b.faults.page, .int .i64 x.b.faults.head, .int .i64 x.b.faults.tail, .bool x.b.lost] rfl rfl (fun W' hW' => whl_since H3.out hW') _ Try.underlying57 rfl Try.sizeMach⟩) HS0.out ?_
    (try simp only [Act.put, List.setIfInBounds_toArray, List.set_cons_zero, List.set_cons_succ])
    refine take_atR (i := 1) (d := 40) (v := .slice HA hn hc) rfl rfl (by kernel_rfl) (by kernel_rfl) (by kernel_rfl) (fun _ _ _ h => h) (Or.inl ⟨by rfl, fun _ _ => rfl⟩) HS0.out ?_
    (try simp only [Act.put, List.setIfInBounds_toArray, List.set_cons_zero, List.set_cons_succ])
    refine take_atR (i := 2) (d := 41) (v := .int .i64 (K : Int)) rfl rfl (by kernel_rfl) (by kernel_rfl) (by kernel_rfl) (fun _ _ _ h => h) (Or.inl ⟨by rfl, fun _ _ => rfl⟩) HS0.out ?_
    (try simp only [Act.put, List.setIfInBounds_toArray, List.set_cons_zero, List.set_cons_succ])
    refine take_atR (i := 3) (d := 42) (v := .slice HA K hc) rfl rfl (by kernel_rfl) (by kernel_rfl) (by kernel_rfl) (fun _ _ _ h => h) (Or.inl ⟨by rfl, fun W' _ => yld_run rfl (hhi W')⟩) HS0.out ?_
    (try simp only [Act.put, List.setIfInBounds_toArray, List.set_cons_zero, List.set_cons_succ])
    refine wpAnyH_ready (rs := [4, 10]) (by kernel_rfl) (by simp) ?_
    refine AllReadyH.cons rfl (fun KK hKK => ?_) (AllReadyH.cons rfl (fun KK hKK => ?_) AllReadyH.nil)
    · rw [if_pos (by rfl)]
      refine wp_callR 37 #[.agg #[.slice M nm mc, .int .i64 x.h.at_, .slice R nr rc, .bool x.h.done, .int .i64 x.b.mode, .int .i64 x.b.base, .slice L n c, .int .i64 x.b.orders.page, .int .i64 x.b.orders.head, .int .i64 x.b.orders.tail, .bool x.b.stopped, .int .i64 x.b.fences, .int .i64 x.b.faults.page, .int .i64 x.b.faults.head, .int .i64 x.b.faults.tail, .bool x.b.lost], .slice HA K hc] (by kernel_rfl) 43 rfl ((mrun_all x (hs.take K) M R L HA K hc _ nm mc nr rc n c (ints_now (ints_now HMV.out.hm HB.out) HS0.out) (ints_now (ints_now HMV.out.hr HB.out) HS0.out) (lines_now (lines_now HMV.out.hl HB.out) HS0.out) (haps_now (haps_now (HH.out.take hKn) HB.out) HS0.out) 0 y2 ts2 rs2 P2.out).mono ?_)
      rintro e Wc ⟨M2, nm2, mc2, R2, nr2, rc2, L2, n2, c2, gs2, TA2, tn2, tc2, SA2, sn2, sc2, rfl, hv, ho, hts, hs, htl, hb⟩
      have HZ := Lib.hid hb
      have HSc := Lib.hid (HS0.out.trans (hb.mono HS0.out.size))
      have HFF := Lib.hid (And.intro hv (And.intro ho (And.intro hts (And.intro hs htl))))
      have hzc := hb.size
      clear hb hv ho hts hs htl
      refine ⟨_, rfl, ?_⟩
      refine hKK.out _ _ HSc.out (fun _ => ?_)
      clear hKK KK
      (try simp only [Act.put, List.setIfInBounds_toArray, List.set_cons_zero, List.set_cons_succ])
      refine take_atR (i := 5) (d := 38) (v := _) rfl rfl (by kernel_rfl) (by kernel_rfl) (by kernel_rfl) (fun _ _ _ h => h) (Or.inl ⟨by rfl, fun _ _ => rfl⟩) HSc.out ?_
      (try simp only [Act.put, List.setIfInBounds_toArray, List.set_cons_zero, List.set_cons_succ])
      refine take_atR (i := 6) (d := 44) (v := .agg #[.slice M2 nm2 mc2, .int .i64 y2.h.at_, .slice R2 nr2 rc2, .bool y2.h.done, .int .i64 y2.b.mode, .int .i64 y2.b.base, .slice L2 n2 c2, .int .i64 y2.b.orders.page, .int .i64 y2.b.orders.head, .int .i64 y2.b.orders.tail, .bool y2.b.stopped, .int .i64 y2.b.fences, .int .i64 y2.b.faults.page, .int .i64 y2.b.faults.head, .int .i64 y2.b.faults.tail, .bool y2.b.lost]) rfl rfl (by kernel_rfl) (by kernel_rfl) (by kernel_rfl) (fun _ _ _ h => h) (Or.inl ⟨by rfl, fun _ _ => rfl⟩) HSc.out ?_
      (try simp only [Act.put, List.setIfInBounds_toArray, List.set_cons_zero, List.set_cons_succ])
      refine take_atR (i := 7) (d := 45) (v := .slice TA2 tn2 tc2) rfl rfl (by kernel_rfl) (by kernel_rfl) (by kernel_rfl) (fun _ _ _ h => h) (Or.inl ⟨by rfl, fun _ _ => rfl⟩) HSc.out ?_
      (try simp only [Act.put, List.setIfInBounds_toArray, List.set_cons_zero, List.set_cons_succ])
      refine take_atR (i := 8) (d := 46) (v := .slice SA2 sn2 sc2) rfl rfl (by kernel_rfl) (by kernel_rfl) (by kernel_rfl) (fun _ _ _ h => h) (Or.inl ⟨by rfl, fun _ _ => rfl⟩) HSc.out ?_
      (try simp only [Act.put, List.setIfInBounds_toArray, List.set_cons_zero, List.set_cons_succ])
      refine take_atR (i := 9) (d := 47) (v := .int .i64 0) rfl rfl (by kernel_rfl) (by kernel_rfl) (by kernel_rfl) (fun _ _ _ h => h) (Or.inl ⟨by rfl, fun _ _ => rfl⟩) HSc.out ?_
      (try simp only [Act.put, List.setIfInBounds_toArray, List.set_cons_zero, List.set_cons_succ])
      refine wpAnyH_ready (rs := [10]) (by kernel_rfl) (by simp) ?_
      refine AllReadyH.cons rfl (fun KK hKK => ?_) AllReadyH.nil
      rw [if_pos (by rfl)]
      refine wp_allocR 57 rfl _ _ (Try.alcMach _) 11 rfl ?_
      refine hKK.out _ _ (HSc.out.trans ((below_alloc Wc _).mono HSc.out.size)) (fun _ => ?_)
      clear hKK KK
      (try simp only [Act.put, List.setIfInBounds_toArray, List.set_cons_zero, List.set_cons_succ])
      refine wpAnyH_ready (rs := [11]) (by kernel_rfl) (by simp) ?_
      refine AllReadyH.cons rfl (fun KK hKK => ?_) AllReadyH.nil
      rw [if_pos (by rfl)]
      refine wp_storeR 57 (.tmp 11) (.tmp 44) rfl (Wc.heap.size) 57 #[.slice none 0 0, .int .i64 0, .slice none 0 0, .bool false, .int .i64 0, .int .i64 0, .slice none 0 0, .int .i64 0, .int .i64 0, .int .i64 0, .bool false, .int .i64 0, .int .i64 0, .int .i64 0, .int .i64 0, .bool false] #[.slice M2 nm2 mc2, .int .i64 y2.h.at_, .slice R2 nr2 rc2, .bool y2.h.done, .int .i64 y2.b.mode, .int .i64 y2.b.base, .slice L2 n2 c2, .int .i64 y2.b.orders.page, .int .i64 y2.b.orders.head, .int .i64 y2.b.orders.tail, .bool y2.b.stopped, .int .i64 y2.b.fences, .int .i64 y2.b.faults.page, .int .i64 y2.b.faults.head, .int .i64 y2.b.faults.tail, .bool y2.b.lost] rfl rfl (whl_new Wc _ _ rfl) Try.sizeMach rfl (by kernel_rfl) (by kernel_rfl) rfl ?_
      intro Wd hd td
      have HR : Hid (RanR w3 y2 ts2 rs2 (Wc.heap.size) M2 nm2 mc2 R2 nr2 rc2 L2 n2 c2 gs2 TA2 tn2 tc2 SA2 sn2 sc2 Wd) := Lib.hid (RanR.mk' HS0.out HZ.out HFF.out.1 HFF.out.2.1 HFF.out.2.2.1 HFF.out.2.2.2.1 HFF.out.2.2.2.2 (below_alloc _ _) hd td HSc.out.size (Or.inr (Nat.le_refl _)))
      have HSd := Lib.hid (HR.out.sb)
      clear hd td
      refine hKK.out _ _ HSd.out (fun _ => ?_)
      clear hKK KK
      (try simp only [Act.put, List.setIfInBounds_toArray, List.set_cons_zero, List.set_cons_succ])
      refine take_atR (i := 12) (d := 12) (v := .slice TA2 tn2 tc2) rfl rfl (by kernel_rfl) (by kernel_rfl) (by kernel_rfl) (fun _ _ _ h => h) (Or.inl ⟨by rfl, fun _ _ => rfl⟩) HSd.out ?_
      (try simp only [Act.put, List.setIfInBounds_toArray, List.set_cons_zero, List.set_cons_succ])
      refine take_atR (i := 13) (d := 13) (v := .slice SA2 sn2 sc2) rfl rfl (by kernel_rfl) (by kernel_rfl) (by kernel_rfl) (fun _ _ _ h => h) (Or.inl ⟨by rfl, fun _ _ => rfl⟩) HSd.out ?_
      (try simp only [Act.put, List.setIfInBounds_toArray, List.set_cons_zero, List.set_cons_succ])
      refine take_atR (i := 14) (d := 10) (v := .int .i64 0) rfl rfl (by kernel_rfl) (by kernel_rfl) (by kernel_rfl) (fun _ _ _ h => h) (Or.inl ⟨by rfl, fun _ _ => rfl⟩) HSd.out ?_
      (try simp only [Act.put, List.setIfInBounds_toArray, List.set_cons_zero, List.set_cons_succ])
      refine wpAnyH_done (by kernel_rfl) ?_ _
      go_wp2
      go_meet
      exact ⟨_, _, _, _, _, _, _, _, _, _, _, _, _, _, _, _, _, rfl, rfl, rfl, rfl, HR.out⟩
    · rw [if_pos (by rfl)]
      refine wp_allocR 57 rfl _ _ (Try.alcMach _) 11 rfl ?_
      have HS1 := Lib.hid (HS0.out.trans ((below_alloc w3.drew (.cells #[.slice none 0 0, .int .i64 0, .slice none 0 0, .bool false, .int .i64 0, .int .i64 0, .slice none 0 0, .int .i64 0, .int .i64 0, .int .i64 0, .bool false, .int .i64 0, .int .i64 0, .int .i64 0, .int .i64 0, .bool false] 57)).mono HS0.out.size))
      refine hKK.out _ _ HS1.out (fun _ => ?_)
      clear hKK KK
      (try simp only [Act.put, List.setIfInBounds_toArray, List.set_cons_zero, List.set_cons_succ])
      refine wpAnyH_ready (rs := [4]) (by kernel_rfl) (by simp) ?_
      refine AllReadyH.cons rfl (fun KK hKK => ?_) AllReadyH.nil
      rw [if_pos (by rfl)]
      refine wp_callR 37 #[.agg #[.slice M nm mc, .int .i64 x.h.at_, .slice R nr rc, .bool x.h.done, .int .i64 x.b.mode, .int .i64 x.b.base, .slice L n c, .int .i64 x.b.orders.page, .int .i64 x.b.orders.head, .int .i64 x.b.orders.tail, .bool x.b.stopped, .int .i64 x.b.fences, .int .i64 x.b.faults.page, .int .i64 x.b.faults.head, .int .i64 x.b.faults.tail, .bool x.b.lost], .slice HA K hc] (by kernel_rfl) 43 rfl ((mrun_all x (hs.take K) M R L HA K hc _ nm mc nr rc n c (ints_now (ints_now HMV.out.hm HB.out) HS1.out) (ints_now (ints_now HMV.out.hr HB.out) HS1.out) (lines_now (lines_now HMV.out.hl HB.out) HS1.out) (haps_now (haps_now (HH.out.take hKn) HB.out) HS1.out) 0 y2 ts2 rs2 P2.out).mono ?_)
      rintro e Wc ⟨M2, nm2, mc2, R2, nr2, rc2, L2, n2, c2, gs2, TA2, tn2, tc2, SA2, sn2, sc2, rfl, hv, ho, hts, hs, htl, hb⟩
      have HZ := Lib.hid hb
      have HSc := Lib.hid (HS1.out.trans (hb.mono HS1.out.size))
      have HFF := Lib.hid (And.intro hv (And.intro ho (And.intro hts (And.intro hs htl))))
      have hzc := hb.size
      clear hb hv ho hts hs htl
      refine ⟨_, rfl, ?_⟩
      refine hKK.out _ _ HSc.out (fun _ => ?_)
      clear hKK KK
      (try simp only [Act.put, List.setIfInBounds_toArray, List.set_cons_zero, List.set_cons_succ])
      refine take_atR (i := 5) (d := 38) (v := _) rfl rfl (by kernel_rfl) (by kernel_rfl) (by kernel_rfl) (fun _ _ _ h => h) (Or.inl ⟨by rfl, fun _ _ => rfl⟩) HSc.out ?_
      (try simp only [Act.put, List.setIfInBounds_toArray, List.set_cons_zero, List.set_cons_succ])
      refine take_atR (i := 6) (d := 44) (v := .agg #[.slice M2 nm2 mc2, .int .i64 y2.h.at_, .slice R2 nr2 rc2, .bool y2.h.done, .int .i64 y2.b.mode, .int .i64 y2.b.base, .slice L2 n2 c2, .int .i64 y2.b.orders.page, .int .i64 y2.b.orders.head, .int .i64 y2.b.orders.tail, .bool y2.b.stopped, .int .i64 y2.b.fences, .int .i64 y2.b.faults.page, .int .i64 y2.b.faults.head, .int .i64 y2.b.faults.tail, .bool y2.b.lost]) rfl rfl (by kernel_rfl) (by kernel_rfl) (by kernel_rfl) (fun _ _ _ h => h) (Or.inl ⟨by rfl, fun _ _ => rfl⟩) HSc.out ?_
      (try simp only [Act.put, List.setIfInBounds_toArray, List.set_cons_zero, List.set_cons_succ])
      refine take_atR (i := 7) (d := 45) (v := .slice TA2 tn2 tc2) rfl rfl (by kernel_rfl) (by kernel_rfl) (by kernel_rfl) (fun _ _ _ h => h) (Or.inl ⟨by rfl, fun _ _ => rfl⟩) HSc.out ?_
      (try simp only [Act.put, List.setIfInBounds_toArray, List.set_cons_zero, List.set_cons_succ])
      refine take_atR (i := 8) (d := 46) (v := .slice SA2 sn2 sc2) rfl rfl (by kernel_rfl) (by kernel_rfl) (by kernel_rfl) (fun _ _ _ h => h) (Or.inl ⟨by rfl, fun _ _ => rfl⟩) HSc.out ?_
      (try simp only [Act.put, List.setIfInBounds_toArray, List.set_cons_zero, List.set_cons_succ])
      refine take_atR (i := 9) (d := 47) (v := .int .i64 0) rfl rfl (by kernel_rfl) (by kernel_rfl) (by kernel_rfl) (fun _ _ _ h => h) (Or.inl ⟨by rfl, fun _ _ => rfl⟩) HSc.out ?_
      (try simp only [Act.put, List.setIfInBounds_toArray, List.set_cons_zero, List.set_cons_succ])
      refine wpAnyH_ready (rs := [11]) (by kernel_rfl) (by simp) ?_
      refine AllReadyH.cons rfl (fun KK hKK => ?_) AllReadyH.nil
      rw [if_pos (by rfl)]
      refine wp_storeR 57 (.tmp 11) (.tmp 44) rfl (w3.drew.heap.size) 57 #[.slice none 0 0, .int .i64 0, .slice none 0 0, .bool false, .int .i64 0, .int .i64 0, .slice none 0 0, .int .i64 0, .int .i64 0, .int .i64 0, .bool false, .int .i64 0, .int .i64 0, .int .i64 0, .int .i64 0, .bool false] #[.slice M2 nm2 mc2, .int .i64 y2.h.at_, .slice R2 nr2 rc2, .bool y2.h.done, .int .i64 y2.b.mode, .int .i64 y2.b.base, .slice L2 n2 c2, .int .i64 y2.b.orders.page, .int .i64 y2.b.orders.head, .int .i64 y2.b.orders.tail, .bool y2.b.stopped, .int .i64 y2.b.fences, .int .i64 y2.b.faults.page, .int .i64 y2.b.faults.head, .int .i64 y2.b.faults.tail, .bool y2.b.lost] rfl rfl (whl_since (whl_new w3.drew _ _ rfl) HZ.out) Try.sizeMach rfl (by kernel_rfl) (by kernel_rfl) rfl ?_
      intro Wd hd td
      have HR : Hid (RanR w3 y2 ts2 rs2 (w3.drew.heap.size) M2 nm2 mc2 R2 nr2 rc2 L2 n2 c2 gs2 TA2 tn2 tc2 SA2 sn2 sc2 Wd) := Lib.hid (RanR.mk' HS1.out HZ.out HFF.out.1 HFF.out.2.1 HFF.out.2.2.1 HFF.out.2.2.2.1 HFF.out.2.2.2.2 (Below.refl _ _) hd td (Nat.le_refl _) (Or.inl (by simp)))
      have HSd := Lib.hid (HR.out.sb)
      clear hd td
      refine hKK.out _ _ HSd.out (fun _ => ?_)
      clear hKK KK
      (try simp only [Act.put, List.setIfInBounds_toArray, List.set_cons_zero, List.set_cons_succ])
      refine take_atR (i := 12) (d := 12) (v := .slice TA2 tn2 tc2) rfl rfl (by kernel_rfl) (by kernel_rfl) (by kernel_rfl) (fun _ _ _ h => h) (Or.inl ⟨by rfl, fun _ _ => rfl⟩) HSd.out ?_
      (try simp only [Act.put, List.setIfInBounds_toArray, List.set_cons_zero, List.set_cons_succ])
      refine take_atR (i := 13) (d := 13) (v := .slice SA2 sn2 sc2) rfl rfl (by kernel_rfl) (by kernel_rfl) (by kernel_rfl) (fun _ _ _ h => h) (Or.inl ⟨by rfl, fun _ _ => rfl⟩) HSd.out ?_
      (try simp only [Act.put, List.setIfInBounds_toArray, List.set_cons_zero, List.set_cons_succ])
      refine take_atR (i := 14) (d := 10) (v := .int .i64 0) rfl rfl (by kernel_rfl) (by kernel_rfl) (by kernel_rfl) (fun _ _ _ h => h) (Or.inl ⟨by rfl, fun _ _ => rfl⟩) HSd.out ?_
      (try simp only [Act.put, List.setIfInBounds_toArray, List.set_cons_zero, List.set_cons_succ])
      refine wpAnyH_done (by kernel_rfl) ?_ _
      go_wp2
      go_meet
      exact ⟨_, _, _, _, _, _, _, _, _, _, _, _, _, _, _, _, _, rfl, rfl, rfl, rfl, HR.out⟩
  case rest =>
    obtain ⟨g2, M2, nm2, mc2, R2, nr2, rc2, L2, n2, c2, gs2, TA2, tn2, tc2, SA2, sn2, sc2, rfl, rfl, rfl, rfl, hR2⟩ := hcut
    obtain ⟨w5, hw5⟩ : ∃ w5, w5 = wc := ⟨_, rfl⟩
    subst hw5
    have HR2 := Lib.hid hR2.out
    have hb := hR2.out.sb
    have hz5 := hb.size
    replace HB := Lib.hid (HB.out.trans (hb.mono HB.out.size))
    replace HR1 := Lib.hid (HR1.out.since hb)
    clear hb hhi H3 hR2
    go_upto_region 6 with (fail)
    go_cut [14, 15, 16, 17] (fun sb st ss se wd => ∃ g3 M3 nm3 mc3 R3 nr3 rc3 L3 n3 c3 gs3 TA3 tn3 tc3 SA3 sn3 sc3, sb = .pointer (some ⟨g3, 0, none⟩) ∧ st = .slice TA3 tn3 tc3 ∧ ss = .slice SA3 sn3 sc3 ∧ se = .int .i64 0 ∧ Hid (RanR w5 y1 ts3 rs3 g3 M3 nm3 mc3 R3 nr3 rc3 L3 n3 c3 gs3 TA3 tn3 tc3 SA3 sn3 sc3 wd))
    case first =>
      refine wp_region_held_drew (S := fun W' => Below w5.heap.size w5 W') (by kernel_rfl) (Below.refl _ _).drew (fun hS0 => ?_)
      have HS0 := Lib.hid hS0
      clear hS0
      refine take_atR (i := 0) (d := 49) (v := .agg #[.slice M2 nm2 mc2, .int .i64 y2.h.at_, .slice R2 nr2 rc2, .bool y2.h.done, .int .i64 y2.b.mode, .int .i64 y2.b.base, .slice L2 n2 c2, .int .i64 y2.b.orders.page, .int .i64 y2.b.orders.head, .int .i64 y2.b.orders.tail, .bool y2.b.stopped, .int .i64 y2.b.fences, .int .i64 y2.b.faults.page, .int .i64 y2.b.faults.head, .int .i64 y2.b.faults.tail, .bool y2.b.lost]) rfl rfl (by kernel_rfl) (by kernel_rfl) (by kernel_rfl) (fun _ _ _ h => h) (Or.inl ⟨by rfl, yld_whl 57 (.tmp 11) g2 57 #[.slice M2 nm2 mc2, .int .i64 y2.h.at_, .slice R2 nr2 rc2, .bool y2.h.done, .int .i64 y2.b.mode, .int .i64 y2.b.base, .slice L2 n2 c2, .int .i64 y2.b.orders.page, .int .i64 y2.b.orders.head, .int .i64 y2.b.orders.tail, .bool y2.b.stopped, .int .i64 y2.b.fences, .int .i64 y2.b.faults.page, .int .i64 y2.b.faults.head, .int .i64 y2.b.faults.tail, .bool y2.b.lost] rfl rfl (fun W' hW' => whl_since HR2.out.m hW') _ Try.underlying57 rfl Try.sizeMach⟩) HS0.out ?_
      (try simp only [Act.put, List.setIfInBounds_toArray, List.set_cons_zero, List.set_cons_succ])
      refine take_atR (i := 1) (d := 50) (v := .slice HA hn hc) rfl rfl (by kernel_rfl) (by kernel_rfl) (by kernel_rfl) (fun _ _ _ h => h) (Or.inl ⟨by rfl, fun _ _ => rfl⟩) HS0.out ?_
      (try simp only [Act.put, List.setIfInBounds_toArray, List.set_cons_zero, List.set_cons_succ])
      refine take_atR (i := 2) (d := 51) (v := .int .i64 (K : Int)) rfl rfl (by kernel_rfl) (by kernel_rfl) (by kernel_rfl) (fun _ _ _ h => h) (Or.inl ⟨by rfl, fun _ _ => rfl⟩) HS0.out ?_
      (try simp only [Act.put, List.setIfInBounds_toArray, List.set_cons_zero, List.set_cons_succ])
      refine take_atR (i := 3) (d := 52) (v := .slice A' (hn - K) (hc - K)) rfl rfl (by kernel_rfl) (by kernel_rfl) (by kernel_rfl) (fun _ _ _ h => h) (Or.inl ⟨by rfl, fun W' _ => yld_run rfl (hlo W')⟩) HS0.out ?_
      (try simp only [Act.put, List.setIfInBounds_toArray, List.set_cons_zero, List.set_cons_succ])
      refine wpAnyH_ready (rs := [4, 10]) (by kernel_rfl) (by simp) ?_
      refine AllReadyH.cons rfl (fun KK hKK => ?_) (AllReadyH.cons rfl (fun KK hKK => ?_) AllReadyH.nil)
      · rw [if_pos (by rfl)]
        refine wp_callR 37 #[.agg #[.slice M2 nm2 mc2, .int .i64 y2.h.at_, .slice R2 nr2 rc2, .bool y2.h.done, .int .i64 y2.b.mode, .int .i64 y2.b.base, .slice L2 n2 c2, .int .i64 y2.b.orders.page, .int .i64 y2.b.orders.head, .int .i64 y2.b.orders.tail, .bool y2.b.stopped, .int .i64 y2.b.fences, .int .i64 y2.b.faults.page, .int .i64 y2.b.faults.head, .int .i64 y2.b.faults.tail, .bool y2.b.lost], .slice A' (hn - K) (hc - K)] (by kernel_rfl) 53 rfl ((mrun_all y2 (hs.drop K) M2 R2 L2 A' (hn - K) (hc - K) _ nm2 mc2 nr2 rc2 n2 c2 (ints_now HR2.out.mv.hm HS0.out) (ints_now HR2.out.mv.hr HS0.out) (lines_now HR2.out.mv.hl HS0.out) (haps_now (HLO.out _ _ _ (haps_now HH.out HB.out)) HS0.out) 0 y1 ts3 rs3 P3.out).mono ?_)
        rintro e Wc ⟨M3, nm3, mc3, R3, nr3, rc3, L3, n3, c3, gs3, TA3, tn3, tc3, SA3, sn3, sc3, rfl, hv, ho, hts, hs, htl, hb⟩
        have HZ := Lib.hid hb
        have HSc := Lib.hid (HS0.out.trans (hb.mono HS0.out.size))
        have HFF := Lib.hid (And.intro hv (And.intro ho (And.intro hts (And.intro hs htl))))
        have hzc := hb.size
        clear hb hv ho hts hs htl
        refine ⟨_, rfl, ?_⟩
        refine hKK.out _ _ HSc.out (fun _ => ?_)
        clear hKK KK
        (try simp only [Act.put, List.setIfInBounds_toArray, List.set_cons_zero, List.set_cons_succ])
        refine take_atR (i := 5) (d := 48) (v := _) rfl rfl (by kernel_rfl) (by kernel_rfl) (by kernel_rfl) (fun _ _ _ h => h) (Or.inl ⟨by rfl, fun _ _ => rfl⟩) HSc.out ?_
        (try simp only [Act.put, List.setIfInBounds_toArray, List.set_cons_zero, List.set_cons_succ])
        refine take_atR (i := 6) (d := 54) (v := .agg #[.slice M3 nm3 mc3, .int .i64 y1.h.at_, .slice R3 nr3 rc3, .bool y1.h.done, .int .i64 y1.b.mode, .int .i64 y1.b.base, .slice L3 n3 c3, .int .i64 y1.b.orders.page, .int .i64 y1.b.orders.head, .int .i64 y1.b.orders.tail, .bool y1.b.stopped, .int .i64 y1.b.fences, .int .i64 y1.b.faults.page, .int .i64 y1.b.faults.head, .int .i64 y1.b.faults.tail, .bool y1.b.lost]) rfl rfl (by kernel_rfl) (by kernel_rfl) (by kernel_rfl) (fun _ _ _ h => h) (Or.inl ⟨by rfl, fun _ _ => rfl⟩) HSc.out ?_
        (try simp only [Act.put, List.setIfInBounds_toArray, List.set_cons_zero, List.set_cons_succ])
        refine take_atR (i := 7) (d := 55) (v := .slice TA3 tn3 tc3) rfl rfl (by kernel_rfl) (by kernel_rfl) (by kernel_rfl) (fun _ _ _ h => h) (Or.inl ⟨by rfl, fun _ _ => rfl⟩) HSc.out ?_
        (try simp only [Act.put, List.setIfInBounds_toArray, List.set_cons_zero, List.set_cons_succ])
        refine take_atR (i := 8) (d := 56) (v := .slice SA3 sn3 sc3) rfl rfl (by kernel_rfl) (by kernel_rfl) (by kernel_rfl) (fun _ _ _ h => h) (Or.inl ⟨by rfl, fun _ _ => rfl⟩) HSc.out ?_
        (try simp only [Act.put, List.setIfInBounds_toArray, List.set_cons_zero, List.set_cons_succ])
        refine take_atR (i := 9) (d := 57) (v := .int .i64 0) rfl rfl (by kernel_rfl) (by kernel_rfl) (by kernel_rfl) (fun _ _ _ h => h) (Or.inl ⟨by rfl, fun _ _ => rfl⟩) HSc.out ?_
        (try simp only [Act.put, List.setIfInBounds_toArray, List.set_cons_zero, List.set_cons_succ])
        refine wpAnyH_ready (rs := [10]) (by kernel_rfl) (by simp) ?_
        refine AllReadyH.cons rfl (fun KK hKK => ?_) AllReadyH.nil
        rw [if_pos (by rfl)]
        refine wp_allocR 57 rfl _ _ (Try.alcMach _) 14 rfl ?_
        refine hKK.out _ _ (HSc.out.trans ((below_alloc Wc _).mono HSc.out.size)) (fun _ => ?_)
        clear hKK KK
        (try simp only [Act.put, List.setIfInBounds_toArray, List.set_cons_zero, List.set_cons_succ])
        refine wpAnyH_ready (rs := [11]) (by kernel_rfl) (by simp) ?_
        refine AllReadyH.cons rfl (fun KK hKK => ?_) AllReadyH.nil
        rw [if_pos (by rfl)]
        refine wp_storeR 57 (.tmp 14) (.tmp 54) rfl (Wc.heap.size) 57 #[.slice none 0 0, .int .i64 0, .slice none 0 0, .bool false, .int .i64 0, .int .i64 0, .slice none 0 0, .int .i64 0, .int .i64 0, .int .i64 0, .bool false, .int .i64 0, .int .i64 0, .int .i64 0, .int .i64 0, .bool false] #[.slice M3 nm3 mc3, .int .i64 y1.h.at_, .slice R3 nr3 rc3, .bool y1.h.done, .int .i64 y1.b.mode, .int .i64 y1.b.base, .slice L3 n3 c3, .int .i64 y1.b.orders.page, .int .i64 y1.b.orders.head, .int .i64 y1.b.orders.tail, .bool y1.b.stopped, .int .i64 y1.b.fences, .int .i64 y1.b.faults.page, .int .i64 y1.b.faults.head, .int .i64 y1.b.faults.tail, .bool y1.b.lost] rfl rfl (whl_new Wc _ _ rfl) Try.sizeMach rfl (by kernel_rfl) (by kernel_rfl) rfl ?_
        intro Wd hd td
        have HR : Hid (RanR w5 y1 ts3 rs3 (Wc.heap.size) M3 nm3 mc3 R3 nr3 rc3 L3 n3 c3 gs3 TA3 tn3 tc3 SA3 sn3 sc3 Wd) := Lib.hid (RanR.mk' HS0.out HZ.out HFF.out.1 HFF.out.2.1 HFF.out.2.2.1 HFF.out.2.2.2.1 HFF.out.2.2.2.2 (below_alloc _ _) hd td HSc.out.size (Or.inr (Nat.le_refl _)))
        have HSd := Lib.hid (HR.out.sb)
        clear hd td
        refine hKK.out _ _ HSd.out (fun _ => ?_)
        clear hKK KK
        (try simp only [Act.put, List.setIfInBounds_toArray, List.set_cons_zero, List.set_cons_succ])
        refine take_atR (i := 12) (d := 15) (v := .slice TA3 tn3 tc3) rfl rfl (by kernel_rfl) (by kernel_rfl) (by kernel_rfl) (fun _ _ _ h => h) (Or.inl ⟨by rfl, fun _ _ => rfl⟩) HSd.out ?_
        (try simp only [Act.put, List.setIfInBounds_toArray, List.set_cons_zero, List.set_cons_succ])
        refine take_atR (i := 13) (d := 16) (v := .slice SA3 sn3 sc3) rfl rfl (by kernel_rfl) (by kernel_rfl) (by kernel_rfl) (fun _ _ _ h => h) (Or.inl ⟨by rfl, fun _ _ => rfl⟩) HSd.out ?_
        (try simp only [Act.put, List.setIfInBounds_toArray, List.set_cons_zero, List.set_cons_succ])
        refine take_atR (i := 14) (d := 17) (v := .int .i64 0) rfl rfl (by kernel_rfl) (by kernel_rfl) (by kernel_rfl) (fun _ _ _ h => h) (Or.inl ⟨by rfl, fun _ _ => rfl⟩) HSd.out ?_
        (try simp only [Act.put, List.setIfInBounds_toArray, List.set_cons_zero, List.set_cons_succ])
        refine wpAnyH_done (by kernel_rfl) ?_ _
        go_wp2
        go_meet
        exact ⟨_, _, _, _, _, _, _, _, _, _, _, _, _, _, _, _, _, rfl, rfl, rfl, rfl, HR.out⟩
      · rw [if_pos (by rfl)]
        refine wp_allocR 57 rfl _ _ (Try.alcMach _) 14 rfl ?_
        have HS1 := Lib.hid (HS0.out.trans ((below_alloc w5.drew (.cells #[.slice none 0 0, .int .i64 0, .slice none 0 0, .bool false, .int .i64 0, .int .i64 0, .slice none 0 0, .int .i64 0, .int .i64 0, .int .i64 0, .bool false, .int .i64 0, .int .i64 0, .int .i64 0, .int .i64 0, .bool false] 57)).mono HS0.out.size))
        refine hKK.out _ _ HS1.out (fun _ => ?_)
        clear hKK KK
        (try simp only [Act.put, List.setIfInBounds_toArray, List.set_cons_zero, List.set_cons_succ])
        refine wpAnyH_ready (rs := [4]) (by kernel_rfl) (by simp) ?_
        refine AllReadyH.cons rfl (fun KK hKK => ?_) AllReadyH.nil
        rw [if_pos (by rfl)]
        refine wp_callR 37 #[.agg #[.slice M2 nm2 mc2, .int .i64 y2.h.at_, .slice R2 nr2 rc2, .bool y2.h.done, .int .i64 y2.b.mode, .int .i64 y2.b.base, .slice L2 n2 c2, .int .i64 y2.b.orders.page, .int .i64 y2.b.orders.head, .int .i64 y2.b.orders.tail, .bool y2.b.stopped, .int .i64 y2.b.fences, .int .i64 y2.b.faults.page, .int .i64 y2.b.faults.head, .int .i64 y2.b.faults.tail, .bool y2.b.lost], .slice A' (hn - K) (hc - K)] (by kernel_rfl) 53 rfl ((mrun_all y2 (hs.drop K) M2 R2 L2 A' (hn - K) (hc - K) _ nm2 mc2 nr2 rc2 n2 c2 (ints_now HR2.out.mv.hm HS1.out) (ints_now HR2.out.mv.hr HS1.out) (lines_now HR2.out.mv.hl HS1.out) (haps_now (HLO.out _ _ _ (haps_now HH.out HB.out)) HS1.out) 0 y1 ts3 rs3 P3.out).mono ?_)
        rintro e Wc ⟨M3, nm3, mc3, R3, nr3, rc3, L3, n3, c3, gs3, TA3, tn3, tc3, SA3, sn3, sc3, rfl, hv, ho, hts, hs, htl, hb⟩
        have HZ := Lib.hid hb
        have HSc := Lib.hid (HS1.out.trans (hb.mono HS1.out.size))
        have HFF := Lib.hid (And.intro hv (And.intro ho (And.intro hts (And.intro hs htl))))
        have hzc := hb.size
        clear hb hv ho hts hs htl
        refine ⟨_, rfl, ?_⟩
        refine hKK.out _ _ HSc.out (fun _ => ?_)
        clear hKK KK
        (try simp only [Act.put, List.setIfInBounds_toArray, List.set_cons_zero, List.set_cons_succ])
        refine take_atR (i := 5) (d := 48) (v := _) rfl rfl (by kernel_rfl) (by kernel_rfl) (by kernel_rfl) (fun _ _ _ h => h) (Or.inl ⟨by rfl, fun _ _ => rfl⟩) HSc.out ?_
        (try simp only [Act.put, List.setIfInBounds_toArray, List.set_cons_zero, List.set_cons_succ])
        refine take_atR (i := 6) (d := 54) (v := .agg #[.slice M3 nm3 mc3, .int .i64 y1.h.at_, .slice R3 nr3 rc3, .bool y1.h.done, .int .i64 y1.b.mode, .int .i64 y1.b.base, .slice L3 n3 c3, .int .i64 y1.b.orders.page, .int .i64 y1.b.orders.head, .int .i64 y1.b.orders.tail, .bool y1.b.stopped, .int .i64 y1.b.fences, .int .i64 y1.b.faults.page, .int .i64 y1.b.faults.head, .int .i64 y1.b.faults.tail, .bool y1.b.lost]) rfl rfl (by kernel_rfl) (by kernel_rfl) (by kernel_rfl) (fun _ _ _ h => h) (Or.inl ⟨by rfl, fun _ _ => rfl⟩) HSc.out ?_
        (try simp only [Act.put, List.setIfInBounds_toArray, List.set_cons_zero, List.set_cons_succ])
        refine take_atR (i := 7) (d := 55) (v := .slice TA3 tn3 tc3) rfl rfl (by kernel_rfl) (by kernel_rfl) (by kernel_rfl) (fun _ _ _ h => h) (Or.inl ⟨by rfl, fun _ _ => rfl⟩) HSc.out ?_
        (try simp only [Act.put, List.setIfInBounds_toArray, List.set_cons_zero, List.set_cons_succ])
        refine take_atR (i := 8) (d := 56) (v := .slice SA3 sn3 sc3) rfl rfl (by kernel_rfl) (by kernel_rfl) (by kernel_rfl) (fun _ _ _ h => h) (Or.inl ⟨by rfl, fun _ _ => rfl⟩) HSc.out ?_
        (try simp only [Act.put, List.setIfInBounds_toArray, List.set_cons_zero, List.set_cons_succ])
        refine take_atR (i := 9) (d := 57) (v := .int .i64 0) rfl rfl (by kernel_rfl) (by kernel_rfl) (by kernel_rfl) (fun _ _ _ h => h) (Or.inl ⟨by rfl, fun _ _ => rfl⟩) HSc.out ?_
        (try simp only [Act.put, List.setIfInBounds_toArray, List.set_cons_zero, List.set_cons_succ])
        refine wpAnyH_ready (rs := [11]) (by kernel_rfl) (by simp) ?_
        refine AllReadyH.cons rfl (fun KK hKK => ?_) AllReadyH.nil
        rw [if_pos (by rfl)]
        refine wp_storeR 57 (.tmp 14) (.tmp 54) rfl (w5.drew.heap.size) 57 #[.slice none 0 0, .int .i64 0, .slice none 0 0, .bool false, .int .i64 0, .int .i64 0, .slice none 0 0, .int .i64 0, .int .i64 0, .int .i64 0, .bool false, .int .i64 0, .int .i64 0, .int .i64 0, .int .i64 0, .bool false] #[.slice M3 nm3 mc3, .int .i64 y1.h.at_, .slice R3 nr3 rc3, .bool y1.h.done, .int .i64 y1.b.mode, .int .i64 y1.b.base, .slice L3 n3 c3, .int .i64 y1.b.orders.page, .int .i64 y1.b.orders.head, .int .i64 y1.b.orders.tail, .bool y1.b.stopped, .int .i64 y1.b.fences, .int .i64 y1.b.faults.page, .int .i64 y1.b.faults.head, .int .i64 y1.b.faults.tail, .bool y1.b.lost] rfl rfl (whl_since (whl_new w5.drew _ _ rfl) HZ.out) Try.sizeMach rfl (by kernel_rfl) (by kernel_rfl) rfl ?_
        intro Wd hd td
        have HR : Hid (RanR w5 y1 ts3 rs3 (w5.drew.heap.size) M3 nm3 mc3 R3 nr3 rc3 L3 n3 c3 gs3 TA3 tn3 tc3 SA3 sn3 sc3 Wd) := Lib.hid (RanR.mk' HS1.out HZ.out HFF.out.1 HFF.out.2.1 HFF.out.2.2.1 HFF.out.2.2.2.1 HFF.out.2.2.2.2 (Below.refl _ _) hd td (Nat.le_refl _) (Or.inl (by simp)))
        have HSd := Lib.hid (HR.out.sb)
        clear hd td
        refine hKK.out _ _ HSd.out (fun _ => ?_)
        clear hKK KK
        (try simp only [Act.put, List.setIfInBounds_toArray, List.set_cons_zero, List.set_cons_succ])
        refine take_atR (i := 12) (d := 15) (v := .slice TA3 tn3 tc3) rfl rfl (by kernel_rfl) (by kernel_rfl) (by kernel_rfl) (fun _ _ _ h => h) (Or.inl ⟨by rfl, fun _ _ => rfl⟩) HSd.out ?_
        (try simp only [Act.put, List.setIfInBounds_toArray, List.set_cons_zero, List.set_cons_succ])
        refine take_atR (i := 13) (d := 16) (v := .slice SA3 sn3 sc3) rfl rfl (by kernel_rfl) (by kernel_rfl) (by kernel_rfl) (fun _ _ _ h => h) (Or.inl ⟨by rfl, fun _ _ => rfl⟩) HSd.out ?_
        (try simp only [Act.put, List.setIfInBounds_toArray, List.set_cons_zero, List.set_cons_succ])
        refine take_atR (i := 14) (d := 17) (v := .int .i64 0) rfl rfl (by kernel_rfl) (by kernel_rfl) (by kernel_rfl) (fun _ _ _ h => h) (Or.inl ⟨by rfl, fun _ _ => rfl⟩) HSd.out ?_
        (try simp only [Act.put, List.setIfInBounds_toArray, List.set_cons_zero, List.set_cons_succ])
        refine wpAnyH_done (by kernel_rfl) ?_ _
        go_wp2
        go_meet
        exact ⟨_, _, _, _, _, _, _, _, _, _, _, _, _, _, _, _, _, rfl, rfl, rfl, rfl, HR.out⟩
    case rest =>
      obtain ⟨g3, M3, nm3, mc3, R3, nr3, rc3, L3, n3, c3, gs3, TA3, tn3, tc3, SA3, sn3, sc3, rfl, rfl, rfl, rfl, hR3⟩ := hcut
      obtain ⟨w6, hw6⟩ : ∃ w6, w6 = wc := ⟨_, rfl⟩
      subst hw6
      have HR3 := Lib.hid hR3.out
      have hb := hR3.out.sb
      have hz6 := hb.size
      replace HB := Lib.hid (HB.out.trans (hb.mono HB.out.size))
      replace HR1 := Lib.hid (HR1.out.since hb)
      replace HR2 := Lib.hid (HR2.out.since hb)
      clear hb hR3
      clear hlo HMV HH
      have k7 := fun o => whl_cell HR1.out.m o
      have k14 := fun o => whl_cell HR3.out.m o
      have l7 : w1.heap.size < w6.heap.size := whl_lt HR1.out.m
      have l14 : g3 < w6.heap.size := whl_lt HR3.out.m
      go_wp2_with fail
      clear k7 k14 l7 l14
      refine (machine_Same y1 y1 M1 R1 L1 M3 R3 L3 nm1 mc1 nr1 rc1 n1 c1 nm3 mc3 nr3 rc3 n3 c3 _ HR1.out.mv.hm HR1.out.mv.hr HR1.out.mv.hl HR3.out.mv.hm HR3.out.mv.hr HR3.out.mv.hl).mono ?_
      rw [sameM_refl]
      rintro e w7 ⟨rfl, hb⟩
      replace HR1 := Lib.hid (HR1.out.since hb)
      replace HR2 := Lib.hid (HR2.out.since hb)
      replace HR3 := Lib.hid (HR3.out.since hb)
      replace HB := Lib.hid (HB.out.trans (hb.mono HB.out.size))
      clear hb
      have Q1 := HR2.out.ir
      have Q2 := HR3.out.ir
      obtain rfl : sn2 = K := by rw [← Q1.1]; exact HLL.out.1
      obtain rfl : sn3 = hn - sn2 := by rw [← Q2.1]; exact HLL.out.2.2.1
      obtain rfl : tn2 = sn2 := by rw [← HR2.out.tl.1, ← HLL.out.2.1, ← HR2.out.ts, List.length_map]
      obtain rfl : tn3 = hn - tn2 := by rw [← HR3.out.tl.1, ← HLL.out.2.2.2, ← HR3.out.ts, List.length_map]
      clear Q1 Q2
      have hadd : tn2 + (hn - tn2) = hn := Nat.add_sub_cancel' hKn
      have HADD := Lib.hid hadd
      clear hadd
      have BW := Lib.hid (fun o => show Below w7.heap.size w7 (w7.alloc o) from below_alloc w7 o)
      have G0 := Lib.hid (fun (a b : Value) (t : TypeId) => show (w7.alloc (.cells #[a, b] t)).cell? ⟨w7.heap.size, 0, none⟩ = some a from whl_cell (whl_new w7 _ _ rfl) 0)
      have G1 := Lib.hid (fun (a b : Value) (t : TypeId) => show (w7.alloc (.cells #[a, b] t)).cell? ⟨w7.heap.size, 1, none⟩ = some b from whl_cell (whl_new w7 _ _ rfl) 1)
      have GL := Lib.hid (fun o => show w7.heap.size < (w7.alloc o).heap.size by simp)
      have N1 := Lib.hid (show tn2 ≤ 1000 by have := HN.out; omega)
      have N2 := Lib.hid (show hn - tn2 ≤ 1000 by have := HN.out; omega)
      have U1 := Lib.hid (show (rs2.map (Value.int .i64)).length = tn2 * 1 by rw [List.length_map, HLL.out.1]; omega)
      have U2 := Lib.hid (show (rs3.map (Value.int .i64)).length = (hn - tn2) * 1 by rw [List.length_map, HLL.out.2.2.1]; omega)
      go_wp2_with fail
      have hcat := cat_errs w7.heap.size SA2 SA3 tn2 sc2 (hn - tn2) sc3 (rs2.map (Value.int .i64)) (rs3.map (Value.int .i64)) (w7.alloc (.cells #[.slice SA2 tn2 sc2, .slice SA3 (hn - tn2) sc3] 60)) (G0.out _ _ _) (G1.out _ _ _) (GL.out _) ((ints_now HR2.out.ir (BW.out _)).2.2) ((ints_now HR3.out.ir (BW.out _)).2.2) U1.out U2.out HR2.out.iz HR3.out.iz (ints_oneP _) (ints_oneP _) N1.out N2.out
      rw [HADD.out] at hcat
      refine hcat.mono ?_
      clear hcat
      rintro e w8 ⟨LC, cc, rfl, hoc, hb2⟩
      have HOC := Lib.hid hoc
      have hb : Below w7.heap.size w7 w8 := (BW.out _).trans (hb2.mono (BW.out _).size)
      replace HR1 := Lib.hid (HR1.out.since hb)
      replace HR2 := Lib.hid (HR2.out.since hb)
      replace HR3 := Lib.hid (HR3.out.since hb)
      replace HB := Lib.hid (HB.out.trans (hb.mono HB.out.size))
      clear hb hb2 hoc BW G0 G1 GL U1 U2
      have HEQ := Lib.hid (show eqI rs (rs2 ++ rs3) = true by rw [P4.out]; simp [eqI])
      have HEI := Lib.hid (show Ints w8 w8.heap.size LC hn (rs2 ++ rs3) from ⟨by rw [List.length_append, HLL.out.1, HLL.out.2.2.1]; exact HADD.out, Nat.le_trans (own_capc HOC.out).1 (own_capc HOC.out).2, by rw [List.map_append]; exact Row.of_own HOC.out⟩)
      go_wp2_with fail
      refine (sl_EqualE SA1 LC sn1 hn sc1 cc rs (rs2 ++ rs3) _ HR1.out.ir HEI.out).mono ?_
      rw [HEQ.out]
      rintro e w9 ⟨rfl, hb⟩
      replace HR1 := Lib.hid (HR1.out.since hb)
      replace HR2 := Lib.hid (HR2.out.since hb)
      replace HR3 := Lib.hid (HR3.out.since hb)
      replace HB := Lib.hid (HB.out.trans (hb.mono HB.out.size))
      clear hb HOC HEI
      have BW := Lib.hid (fun o => show Below w9.heap.size w9 (w9.alloc o) from below_alloc w9 o)
      have G0 := Lib.hid (fun (a b : Value) (t : TypeId) => show (w9.alloc (.cells #[a, b] t)).cell? ⟨w9.heap.size, 0, none⟩ = some a from whl_cell (whl_new w9 _ _ rfl) 0)
      have G1 := Lib.hid (fun (a b : Value) (t : TypeId) => show (w9.alloc (.cells #[a, b] t)).cell? ⟨w9.heap.size, 1, none⟩ = some b from whl_cell (whl_new w9 _ _ rfl) 1)
      have GL := Lib.hid (fun o => show w9.heap.size < (w9.alloc o).heap.size by simp)
      have U1 := Lib.hid (show (elcells gs2).length = tn2 * 4 by rw [elcells_len, HR2.out.tl.1])
      have U2 := Lib.hid (show (elcells gs3).length = (hn - tn2) * 4 by rw [elcells_len, HR3.out.tl.1])
      go_wp2_with fail
      have hcat := cat_told w9.heap.size TA2 TA3 tn2 tc2 (hn - tn2) tc3 (elcells gs2) (elcells gs3) (w9.alloc (.cells #[.slice TA2 tn2 tc2, .slice TA3 (hn - tn2) tc3] 59)) (G0.out _ _ _) (G1.out _ _ _) (GL.out _) ((HR2.out.tr.below (BW.out _)).more (BW.out _).size) ((HR3.out.tr.below (BW.out _)).more (BW.out _).size) U1.out U2.out HR2.out.tz HR3.out.tz (elc_one _) (elc_one _) N1.out N2.out
      rw [HADD.out] at hcat
      refine hcat.mono ?_
      clear hcat
      rintro e w10 ⟨LT, ct, rfl, hoc, hb2⟩
      have HOC := Lib.hid hoc
      have hb : Below w9.heap.size w9 w10 := (BW.out _).trans (hb2.mono (BW.out _).size)
      replace HR1 := Lib.hid (HR1.out.since hb)
      replace HR2 := Lib.hid (HR2.out.since hb)
      replace HR3 := Lib.hid (HR3.out.since hb)
      replace HB := Lib.hid (HB.out.trans (hb.mono HB.out.size))
      clear hb hb2 hoc BW G0 G1 GL U1 U2
      have HTC := Lib.hid (telS_cat HR2.out.tl HR3.out.tl HADD.out HOC.out)
      have HEF := Lib.hid (show eqE2 fs (gs2 ++ gs3) = true by
        rw [← eqE2_all (es := fs) (fs := gs2 ++ gs3) (k := fs.length) rfl ?_ ?_]
        · have h := congrArg List.length (show fs.map Tle.t = (gs2 ++ gs3).map Tle.t by rw [HR1.out.ts, P5.out, List.map_append, HR2.out.ts, HR3.out.ts])
          rw [List.length_map, List.length_map] at h
          exact h.symm
        · have h : fs.map Tle.t = (gs2 ++ gs3).map Tle.t := by rw [HR1.out.ts, P5.out, List.map_append, HR2.out.ts, HR3.out.ts]
          have hl := congrArg List.length h
          rw [List.length_map, List.length_map] at hl
          rw [List.take_of_length_le (Nat.le_refl _), List.take_of_length_le (by omega)]
          exact h)
      go_wp2_with fail
      refine (sl_EqualFuncT TA1 LT tn1 hn tc1 ct fs (gs2 ++ gs3) _ HR1.out.tl HTC.out).mono ?_
      rw [HEF.out]
      rintro e w11 ⟨rfl, hb⟩
      replace HB := Lib.hid (HB.out.trans (hb.mono HB.out.size))
      clear hb
      go_wp2
      go_ret
      exact ⟨rfl, HB.out⟩
theorem law_MachineParts (x : Mch) (hs : List Hap) (M R L HA : Option Addr) (hn hc : Nat) (k : Int) (w : World) (nm mc nr rc n c : Nat) (hm : Ints w w.heap.size M nm x.m) (hr : Ints w w.heap.size R nr x.h.regs) (hl : Lines w w.heap.size L n c x.b.cache) (hh : Haps w w.heap.size HA hn hc hs) :
    Calls Try.prog 6 #[.agg #[.slice M nm mc, .int .i64 x.h.at_, .slice R nr rc, .bool x.h.done, .int .i64 x.b.mode, .int .i64 x.b.base, .slice L n c, .int .i64 x.b.orders.page, .int .i64 x.b.orders.head, .int .i64 x.b.orders.tail, .bool x.b.stopped, .int .i64 x.b.fences, .int .i64 x.b.faults.page, .int .i64 x.b.faults.head, .int .i64 x.b.faults.tail, .bool x.b.lost], .slice HA hn hc, .int .i64 k] w fun e w' => e = .returned (.bool true) ∧ Below w.heap.size w w' := by
  by_cases h0 : ckM x = 0
  · by_cases h1 : hn ≤ 120
    · exact mparts_ok x hs M R L HA hn hc k w nm mc nr rc n c hm hr hl hh h0 h1
    · exact mparts_no x hs M R L HA hn hc k w nm mc nr rc n c hm hr hl hh 1 .no [] [] (Or.inr (Or.inl ⟨h0, by omega, rfl, rfl, rfl, rfl⟩)) (by decide)
  · exact mparts_no x hs M R L HA hn hc k w nm mc nr rc n c hm hr hl hh (ckM x) .no [] [] (Or.inl ⟨h0, rfl, rfl, rfl, rfl⟩) h0
end Go.Proofs.Ytbopdijnojaaiab
