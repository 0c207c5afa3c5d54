/- Contracts of functions of the given program, and what they come to, for any arguments. No condition beyond each theorem's own premises. -/
import Derived.Test.YtkphinfijppkeaaXDutyOrderM5
import Derived.Test.YtkphinfijppkeaaXDutyOrderM0
import Derived.Test.YtkphinfijppkeaaXDutyOrderM2
import Derived.Test.YtkphinfijppkeaaXDutyOrderM4
namespace Go.Proofs.Ytkphinfijppkeaa.G
open Go.RowKit Go.Proofs.YtkphinfijppkeaaW.PrintWords Go.Proofs.YtkphinfijppkeaaW.PrintLast Go.Proofs.YtkphinfijppkeaaW.PrintMore
attribute [local go_sem] max2_int min2_int max_two min_two max_three min_three max_four min_four
set_option linter.unusedVariables false
set_option linter.unusedSimpArgs false
def newE (c : Cf) (l : List S92) (now : Int) : Int := if (cfgB c && (rightB l && tmB now)) = true then chooseE c l else 1
theorem new_ok {c : Cf} {l : List S92} {now : Int} (h : newE c l now = 0) : cfgB c = true ∧ rightB l = true ∧ tmB now = true ∧ chooseE c l = 0 := by
  unfold newE at h
  cases h1 : (cfgB c && (rightB l && tmB now)) with
  | false => rw [h1] at h; simp at h
  | true =>
    rw [h1] at h
    simp only [Bool.and_eq_true] at h1
    exact ⟨h1.1, h1.2.1, h1.2.2, h⟩
set_option maxHeartbeats 8000000 in
set_option maxRecDepth 100000 in
theorem new_calls_ok (c : Cf) (A0 : Option Addr) (c0 : Nat) (A1 : Option Addr) (c1 : Nat) (A2 : Option Addr) (c2 : Nat) (l : List S92) (now : Int) (w : World) (hr0 : Kd.C k76 w A0 c.rs.length c.rs) (hl0 : c.rs.length ≤ c0) (hr1 : Kd.C k58 w A1 c.ro.length c.ro) (hwf : ∀ x ∈ c.ro, WfR x) (hr2 : Kd.C k92 w A2 l.length l) (he : newE c l now = 0) :
    Calls Try.prog 43 #[.agg #[.slice A0 c.rs.length c0, .slice A1 c.ro.length c1, .int .i64 c.rep, .int .i64 c.beat], .slice A2 l.length c2, .int .i64 now] w fun e w' => e = .returned (.tuple #[.agg #[.slice A2 l.length c2, .int .i64 (chooseV c l), .int .i64 0, .int .i64 0, .int .i64 now, .int .i64 1], .int .i64 0]) ∧ Below w.heap.size w w' := by
  have HR2 := Aside0.mk hr2
  have HCH := Aside0.mk (fun W (hb : Below w.heap.size w W) => choose_calls c A0 c0 A1 c1 A2 c2 l W (Kd.C_below hr0 hb) hl0 (Kd.C_below hr1 hb) hwf (Kd.C_below hr2 hb))
  have HG := Aside0.mk (fun (W : World) (hb : Below w.heap.size w W) => cfgRight_calls c A0 c0 A1 c1 W (Kd.C_below hr0 hb) hl0 (Kd.C_below hr1 hb) hwf)
  have hF := Aside0.mk (Fr.Frame.start w)
  have HC : True := trivial
  clear hr0 hl0 hr1 hwf hr2
  obtain ⟨h1, h2, h3, h4⟩ := new_ok he
  have H2 := Aside0.mk h2
  have H3 := Aside0.mk h3
  rw [h1] at HG
  rw [h4] at HCH
  clear h1 h2 h3 h4 he
  go_enter Try.func43, Try.ntmps43
  go_wp2_with (first | ((with_reducible refine gate_store rfl ?_); apply Fr.fr_store hF.out rfl rfl rfl; (case hp => rfl); (case hx => first | (go_simp; rfl) | rfl); (case hu => (simp only [Value.cells]; rfl)); (case hs => (repeat (first | exact Fr.Spot.here _ _ | apply Fr.Spot.there))); (case ht => kernel_rfl); (case h1 => simp [Value.oneCell']); (case hfit => simp); intro W hF1; simp only [Fr.patch, List.take_zero, List.nil_append, List.drop, List.append_nil, List.take, List.cons_append, List.length_cons, List.length_nil, Nat.reduceAdd] at hF1; have HC1 := hF1.cells; simp only [Fr.Cells, List.length_cons, List.length_nil, Nat.reduceAdd, and_true] at HC1; clear hF HC; have HC := HC1; have hF := Aside0.mk hF1; clear hF1 HC1) | ((first | (with_reducible refine Fr.gate_alloc rfl ?_) | (with_reducible refine Fr.gate_box rfl ?_)); apply Fr.fr_box hF.out rfl; (case hrun => first | (go_simp; done) | (go_simp; rfl)); intro g W hF1; have HC1 := hF1.cells; simp only [Fr.Cells, List.length_cons, List.length_nil, Nat.reduceAdd, and_true] at HC1; clear hF HC; have HC := HC1; have hF := Aside0.mk hF1; clear hF1 HC1))
  (with_reducible refine (HG.out _ hF.out.below).mono ?_); rintro e W ⟨rfl, hb⟩; have hF1 := hF.out.call hb; clear hb; have HC1 := hF1.cells; simp only [Fr.Cells, List.length_cons, List.length_nil, Nat.reduceAdd, and_true] at HC1; clear hF HC; have HC := HC1; have hF := Aside0.mk hF1; clear hF1 HC1
  go_wp2_with (first | ((with_reducible refine gate_store rfl ?_); apply Fr.fr_store hF.out rfl rfl rfl; (case hp => rfl); (case hx => first | (go_simp; rfl) | rfl); (case hu => (simp only [Value.cells]; rfl)); (case hs => (repeat (first | exact Fr.Spot.here _ _ | apply Fr.Spot.there))); (case ht => kernel_rfl); (case h1 => simp [Value.oneCell']); (case hfit => simp); intro W hF1; simp only [Fr.patch, List.take_zero, List.nil_append, List.drop, List.append_nil, List.take, List.cons_append, List.length_cons, List.length_nil, Nat.reduceAdd] at hF1; have HC1 := hF1.cells; simp only [Fr.Cells, List.length_cons, List.length_nil, Nat.reduceAdd, and_true] at HC1; clear hF HC; have HC := HC1; have hF := Aside0.mk hF1; clear hF1 HC1) | ((first | (with_reducible refine Fr.gate_alloc rfl ?_) | (with_reducible refine Fr.gate_box rfl ?_)); apply Fr.fr_box hF.out rfl; (case hrun => first | (go_simp; done) | (go_simp; rfl)); intro g W hF1; have HC1 := hF1.cells; simp only [Fr.Cells, List.length_cons, List.length_nil, Nat.reduceAdd, and_true] at HC1; clear hF HC; have HC := HC1; have hF := Aside0.mk hF1; clear hF1 HC1))
  (with_reducible refine (right_calls A2 c2 l _ (Kd.C_below HR2.out hF.out.below)).mono ?_); rintro e W ⟨rfl, hb⟩; have hF1 := hF.out.call hb; clear hb; have HC1 := hF1.cells; simp only [Fr.Cells, List.length_cons, List.length_nil, Nat.reduceAdd, and_true] at HC1; clear hF HC; have HC := HC1; have hF := Aside0.mk hF1; clear hF1 HC1
  simp only [H2.out]
  go_wp2_with (first | ((with_reducible refine gate_store rfl ?_); apply Fr.fr_store hF.out rfl rfl rfl; (case hp => rfl); (case hx => first | (go_simp; rfl) | rfl); (case hu => (simp only [Value.cells]; rfl)); (case hs => (repeat (first | exact Fr.Spot.here _ _ | apply Fr.Spot.there))); (case ht => kernel_rfl); (case h1 => simp [Value.oneCell']); (case hfit => simp); intro W hF1; simp only [Fr.patch, List.take_zero, List.nil_append, List.drop, List.append_nil, List.take, List.cons_append, List.length_cons, List.length_nil, Nat.reduceAdd] at hF1; have HC1 := hF1.cells; simp only [Fr.Cells, List.length_cons, List.length_nil, Nat.reduceAdd, and_true] at HC1; clear hF HC; have HC := HC1; have hF := Aside0.mk hF1; clear hF1 HC1) | ((first | (with_reducible refine Fr.gate_alloc rfl ?_) | (with_reducible refine Fr.gate_box rfl ?_)); apply Fr.fr_box hF.out rfl; (case hrun => first | (go_simp; done) | (go_simp; rfl)); intro g W hF1; have HC1 := hF1.cells; simp only [Fr.Cells, List.length_cons, List.length_nil, Nat.reduceAdd, and_true] at HC1; clear hF HC; have HC := HC1; have hF := Aside0.mk hF1; clear hF1 HC1))
  (with_reducible refine (tick_Right.calls now _ _ (tick_is now)).mono ?_); rintro e W ⟨rfl, hb⟩; have hF1 := hF.out.call hb.below; clear hb; have HC1 := hF1.cells; simp only [Fr.Cells, List.length_cons, List.length_nil, Nat.reduceAdd, and_true] at HC1; clear hF HC; have HC := HC1; have hF := Aside0.mk hF1; clear hF1 HC1
  simp only [H3.out]
  go_wp2_with (first | ((with_reducible refine gate_store rfl ?_); apply Fr.fr_store hF.out rfl rfl rfl; (case hp => rfl); (case hx => first | (go_simp; rfl) | rfl); (case hu => (simp only [Value.cells]; rfl)); (case hs => (repeat (first | exact Fr.Spot.here _ _ | apply Fr.Spot.there))); (case ht => kernel_rfl); (case h1 => simp [Value.oneCell']); (case hfit => simp); intro W hF1; simp only [Fr.patch, List.take_zero, List.nil_append, List.drop, List.append_nil, List.take, List.cons_append, List.length_cons, List.length_nil, Nat.reduceAdd] at hF1; have HC1 := hF1.cells; simp only [Fr.Cells, List.length_cons, List.length_nil, Nat.reduceAdd, and_true] at HC1; clear hF HC; have HC := HC1; have hF := Aside0.mk hF1; clear hF1 HC1) | ((first | (with_reducible refine Fr.gate_alloc rfl ?_) | (with_reducible refine Fr.gate_box rfl ?_)); apply Fr.fr_box hF.out rfl; (case hrun => first | (go_simp; done) | (go_simp; rfl)); intro g W hF1; have HC1 := hF1.cells; simp only [Fr.Cells, List.length_cons, List.length_nil, Nat.reduceAdd, and_true] at HC1; clear hF HC; have HC := HC1; have hF := Aside0.mk hF1; clear hF1 HC1))
  (with_reducible refine (HCH.out _ hF.out.below).mono ?_); rintro e W ⟨rfl, hb⟩; have hF1 := hF.out.call hb; clear hb; have HC1 := hF1.cells; simp only [Fr.Cells, List.length_cons, List.length_nil, Nat.reduceAdd, and_true] at HC1; clear hF HC; have HC := HC1; have hF := Aside0.mk hF1; clear hF1 HC1
  go_wp2_with (first | ((with_reducible refine gate_store rfl ?_); apply Fr.fr_store hF.out rfl rfl rfl; (case hp => rfl); (case hx => first | (go_simp; rfl) | rfl); (case hu => (simp only [Value.cells]; rfl)); (case hs => (repeat (first | exact Fr.Spot.here _ _ | apply Fr.Spot.there))); (case ht => kernel_rfl); (case h1 => simp [Value.oneCell']); (case hfit => simp); intro W hF1; simp only [Fr.patch, List.take_zero, List.nil_append, List.drop, List.append_nil, List.take, List.cons_append, List.length_cons, List.length_nil, Nat.reduceAdd] at hF1; have HC1 := hF1.cells; simp only [Fr.Cells, List.length_cons, List.length_nil, Nat.reduceAdd, and_true] at HC1; clear hF HC; have HC := HC1; have hF := Aside0.mk hF1; clear hF1 HC1) | ((first | (with_reducible refine Fr.gate_alloc rfl ?_) | (with_reducible refine Fr.gate_box rfl ?_)); apply Fr.fr_box hF.out rfl; (case hrun => first | (go_simp; done) | (go_simp; rfl)); intro g W hF1; have HC1 := hF1.cells; simp only [Fr.Cells, List.length_cons, List.length_nil, Nat.reduceAdd, and_true] at HC1; clear hF HC; have HC := HC1; have hF := Aside0.mk hF1; clear hF1 HC1))
  refine bodyPost_ret ?_ rfl ⟨rfl, hF.out.below⟩
  simp [results, Try.results43, go_sem, HC]
end Go.Proofs.Ytkphinfijppkeaa.G
namespace Go.Proofs.Ytkphinfijppkeaa.G
open Go.RowKit Go.Proofs.YtkphinfijppkeaaW.PrintWords Go.Proofs.YtkphinfijppkeaaW.PrintLast Go.Proofs.YtkphinfijppkeaaW.PrintMore
attribute [local go_sem] max2_int min2_int max_two min_two max_three min_three max_four min_four   -- for this text's walks alone
set_option linter.unusedVariables false
set_option linter.unusedSimpArgs false
attribute [local go_sem] Oper.semAt_some
open Go.Shelf
abbrev encIS (b0 : Int) (i : Nat) : Array Value := #[.int .i64 i, .int .i64 (b0 * 2 ^ i)]
def Doubles (b0 b1 : Int) (K : Nat) : Prop := 1 ≤ b0 ∧ b1 ≤ 1073741824 ∧ b0 ≤ b1 ∧ (∀ i, i < K → b0 * 2 ^ i < b1) ∧ ¬ b0 * 2 ^ K < b1
theorem Doubles.bound {b0 b1 : Int} {K : Nat} (h : Doubles b0 b1 K) (i : Nat) (hi : i ≤ K) : 1 ≤ b0 * 2 ^ i ∧ b0 * 2 ^ i ≤ 2147483648 := by
  obtain ⟨h1, h2, h3, h4, h5⟩ := h
  have hp : ∀ i : Nat, (1 : Int) ≤ 2 ^ i := fun i => by
    have := Int.pow_pos (n := 2) (m := i) (by omega)
    omega
  have hlo : 1 ≤ b0 * 2 ^ i := by
    have : 1 * 1 ≤ b0 * 2 ^ i := Int.mul_le_mul h1 (hp i) (by omega) (by omega)
    omega
  refine ⟨hlo, ?_⟩
  cases i with
  | zero => simp; omega
  | succ j =>
    have := h4 j (by omega)
    rw [Int.pow_succ, ← Int.mul_assoc]
    omega
theorem Doubles.le {b0 b1 : Int} {K : Nat} (h : Doubles b0 b1 K) : K ≤ 31 := by
  obtain ⟨h1, h2, h3, h4, h5⟩ := h
  rcases Nat.lt_or_ge 31 K with hk | hk
  · have := h4 31 hk
    have e : (2 : Int) ^ 31 = 2147483648 := by decide
    rw [e] at this
    omega
  · exact hk
def KeepB (Bb : Nat) (A B : World) : Prop := B.heap[Bb]? = A.heap[Bb]?
set_option maxHeartbeats 1000000 in
theorem steps_stopsB (F : Fence) (n : Nat) (hf : F.fn 118) (hro : F.round = none) (hn : 1 ≤ n) (Bb : Nat) (b0 b1 b2 : Int) (K : Nat) (hK : Doubles b0 b1 K) (w : World) (hlt : Bb < w.heap.size)
    (hb : w.heap[Bb]? = some (.cells #[.int .i64 b0, .int .i64 b1, .int .i64 b2] 74 (0, 0))) :
    SeqStopsK F n Try.prog 118 #[.pointer (some ⟨Bb, 0, none⟩)] (encIS b0) (KeepB Bb) (fun xs => xs = List.range K) (fun pre => ∃ m, 1 ≤ m ∧ m ≤ K ∧ pre = List.range m) K w := fun l J Jx W hW hJ hJx hY h0 => by
  have hbW : W.heap[Bb]? = some (.cells #[.int .i64 b0, .int .i64 b1, .int .i64 b2] 74 (0, 0)) := (hW.block Bb hlt).trans hb
  have hc0 : W.cell? ⟨Bb, 0, none⟩ = some (.int .i64 b0) := (blk_cell hbW 0).trans rfl
  have hc1 : W.cell? ⟨Bb, 1, none⟩ = some (.int .i64 b1) := (blk_cell hbW 1).trans rfl
  have HK := Aside0.mk hK
  have HW := Aside0.mk hbW
  clear hb hbW hW hK
  refine callsIn_of_wp Try.func118 rfl hf ?_ hro
  simp only [Try.ntmps118, List.size_toArray, List.length_cons, List.length_nil, Nat.reduceAdd, Nat.reduceSub, Array.replicate_succ, Array.replicate_zero, List.push_toArray, List.append_toArray, List.nil_append, List.cons_append]
  gi_wp2
  gi_region
  all_goals
    have h0' : J [] W.drew := by
      refine hJ _ _ _ none h0 ⟨rfl, rfl, rfl, Nat.le_refl _, fun _ _ _ => rfl⟩ (fun r e => by cases e)
    have HY := Aside0.mk hY
    clear hY h0
    gi_wp2
    gi_loopw [3, 4] (fun s3 s4 wr => ∃ i : Nat, i ≤ K ∧ s3 = .int .i64 i ∧ s4 = .int .i64 (b0 * 2 ^ i) ∧ J (List.range i) wr ∧ KeepB Bb W wr) (fun s3 _ _ => K - (intOf s3).toNat)
    case atStart => exact ⟨0, Nat.zero_le _, rfl, by simp, h0', rfl⟩
    case round =>
      obtain ⟨i, hi, rfl, rfl, hJs, hB⟩ := hrel
      have c1 : wr.cell? ⟨Bb, 1, none⟩ = some (.int .i64 b1) := (blk_cell (Eq.trans hB HW.out) 1).trans rfl
      obtain ⟨k1, k2⟩ := HK.out.bound i hi
      by_cases hlt2 : i < K
      · have h4 : b0 * 2 ^ i < b1 := HK.out.2.2.2.1 i hlt2
        obtain ⟨fn, tmps, assign, body, hy, hR⟩ := HY.out (List.range i) i wr hJs (by simp; exact hlt2)
        dsimp only [encIS] at hy
        obtain ⟨z, hz⟩ : ∃ z, b0 * 2 ^ i = z := ⟨_, rfl⟩
        have HZ := Aside0.mk hz
        rw [hz] at hy k1 k2 h4 ⊢
        clear hz
        have h31 : i ≤ 31 := Nat.le_trans hi HK.out.le
        gi_wp2
        refine hR.mono ?_
        rintro e W3 (⟨rfl, hJ3, hk3⟩ | ⟨rfl, hJx3⟩)
        · have c1' : W3.cell? ⟨Bb, 1, none⟩ = some (.int .i64 b1) := (blk_cell (Eq.trans hk3 (Eq.trans hB HW.out)) 1).trans rfl
          gi_wp2
          go_roundw
          case rel => exact ⟨i + 1, by omega, by go_num, by rw [Int.pow_succ, ← Int.mul_assoc, HZ.out]; congr 1; omega, by rw [List.range_succ]; exact hJ3, Eq.trans hk3 hB⟩
          case measure => simp [intOf]; omega
        · gi_wp2
          go_end0
          exact ⟨⟨_, rfl⟩, .inr ⟨_, ⟨i + 1, by omega, by omega, rfl⟩, by rw [List.range_succ]; exact hJx3⟩⟩
      · have : i = K := by omega
        subst this
        have h5 := HK.out.2.2.2.2
        have h5' : b1 ≤ b0 * 2 ^ i := by omega
        clear h5
        gi_wp2
        refine ⟨fun _ h => (by cases h), ?_⟩
        gi_wp2
        go_end0
        exact ⟨⟨_, rfl⟩, .inl ⟨_, rfl, hJs⟩⟩
theorem steps_stops (F : Fence) (n : Nat) (hf : F.fn 118) (hro : F.round = none) (hn : 1 ≤ n) (Bb n₀ : Nat) (b0 b1 b2 : Int) (K : Nat) (hK : Doubles b0 b1 K) (w : World) (hn₀ : n₀ ≤ w.heap.size) (hlt : Bb < n₀)
    (hb : w.heap[Bb]? = some (.cells #[.int .i64 b0, .int .i64 b1, .int .i64 b2] 74 (0, 0))) :
    SeqStopsK F n Try.prog 118 #[.pointer (some ⟨Bb, 0, none⟩)] (encIS b0) (Below n₀) (fun xs => xs = List.range K) (fun pre => ∃ m, 1 ≤ m ∧ m ≤ K ∧ pre = List.range m) K w :=
  fun l J Jx W hW hJ hJx hY h0 => steps_stopsB F n hf hro hn Bb b0 b1 b2 K hK w (by omega) hb l J Jx W hW hJ hJx (fun pre x W1 h1 h2 => (hY pre x W1 h1 h2).mono fun e W' h => h.imp (fun h => ⟨h.1, h.2.1, h.2.2.block Bb hlt⟩) id) h0
theorem Doubles.no {b0 b1 : Int} {K : Nat} (h : Doubles b0 b1 K) (i : Nat) (hi : K ≤ i) : ¬ b0 * 2 ^ i < b1 := by
  obtain ⟨h1, h2, h3, h4, h5⟩ := h
  induction hi with
  | refl => exact h5
  | step hi ih =>
    rename_i m
    rw [Int.pow_succ, ← Int.mul_assoc]
    have : 0 ≤ b0 * 2 ^ m := Int.mul_nonneg (by omega) (by have := Int.pow_pos (n := 2) (m := m) (by omega); omega)
    omega
theorem steps_calls (b0 b1 b2 : Int) (w : World) : Calls Try.prog 81 #[.agg #[.int .i64 b0, .int .i64 b1, .int .i64 b2]] w fun e w' => e = .returned (.func (.func 118) #[] #[.pointer (some ⟨w.heap.size, 0, none⟩)]) ∧ w.alloc (.cells #[.int .i64 b0, .int .i64 b1, .int .i64 b2] 74) = w' := by
  have hmf : ∀ (fn : Fn) (first cap : Array Value) (w : World), (Instr.makeFunc fn first cap).run Try.prog w = .ok (.func fn first cap) w := fun _ _ _ _ => rfl
  go_enter Try.func81, Try.ntmps81
  go_wp2
  go_ret
  exact ⟨rfl, rfl⟩
def BackMay (b0 b1 b2 : Int) : Prop := (1 ≤ b0 ∧ b0 ≤ 1048576) ∧ (b0 ≤ b1 ∧ b1 ≤ 1073741824) ∧ 0 ≤ b2 ∧ b2 ≤ 1048576
def kOf (b0 b1 : Int) : Nat := (List.range 40).findIdx fun i => decide (b1 ≤ b0 * 2 ^ i)
theorem kOf_doubles {b0 b1 b2 : Int} (h : BackMay b0 b1 b2) : Doubles b0 b1 (kOf b0 b1) := by
  obtain ⟨⟨h1, h2⟩, ⟨h3, h4⟩, h5, h6⟩ := h
  have hlt : kOf b0 b1 < (List.range 40).length := by
    unfold kOf
    rw [List.findIdx_lt_length]
    refine ⟨31, by simp, ?_⟩
    have : (2 : Int) ^ 31 = 2147483648 := by decide
    rw [decide_eq_true_eq, this]
    omega
  refine ⟨h1, h4, h3, fun i hi => ?_, ?_⟩
  · have := List.not_of_lt_findIdx (p := fun i => decide (b1 ≤ b0 * 2 ^ i)) (xs := List.range 40) (i := i) hi
    rw [List.getElem_range] at this
    simp only [Bool.not_eq_true, decide_eq_false_iff_not] at this
    omega
  · have hlt2 : (List.range 40).findIdx (fun i => decide (b1 ≤ b0 * 2 ^ i)) < (List.range 40).length := hlt
    have := List.findIdx_getElem (p := fun i => decide (b1 ≤ b0 * 2 ^ i)) (xs := List.range 40) (w := hlt2)
    simp only [List.getElem_range, decide_eq_true_eq] at this
    unfold kOf
    omega
instance (b0 b1 b2 : Int) : Decidable (BackMay b0 b1 b2) := by unfold BackMay; infer_instance
def stepI (b0 b1 n : Int) : Int := if b0 * 2 ^ n.toNat < b1 then b0 * 2 ^ n.toNat else b1
theorem step_facts (w w1 : World) (b0 b1 b2 n : Int)
    (hb : Below ((((w.alloc (.cells #[.int .i64 b0, .int .i64 b1, .int .i64 b2] 74)).alloc (.cells #[.int .i64 n] 3)).alloc (.cells #[.int .i64 0] 3)).alloc (.cells #[.int .i64 0] 30)).heap.size ((((w.alloc (.cells #[.int .i64 b0, .int .i64 b1, .int .i64 b2] 74)).alloc (.cells #[.int .i64 n] 3)).alloc (.cells #[.int .i64 0] 3)).alloc (.cells #[.int .i64 0] 30)) w1) :
    w1.cell? ⟨w.heap.size, 0, none⟩ = some (.int .i64 b0) ∧ w1.cell? ⟨w.heap.size, 1, none⟩ = some (.int .i64 b1) ∧ w1.cell? ⟨w.heap.size, 2, none⟩ = some (.int .i64 b2) ∧ w1.cell? ⟨w.heap.size + 1, 0, none⟩ = some (.int .i64 n) ∧
    w1.cell? ⟨w.heap.size + 1 + 1, 0, none⟩ = some (.int .i64 0) ∧ w1.cell? ⟨w.heap.size + 1 + 1 + 1, 0, none⟩ = some (.int .i64 0) ∧ w1.frozen? ⟨w.heap.size + 1 + 1, 0, none⟩ = false ∧ w1.frozen? ⟨w.heap.size + 1 + 1 + 1, 0, none⟩ = false ∧
    w.heap.size + 1 + 1 + 1 < w1.heap.size ∧ Below w.heap.size w w1 := by
  have hs := hb.size
  simp only [World.size_alloc] at hs
  refine ⟨?_, ?_, ?_, ?_, ?_, ?_, ?_, ?_, by omega, ?_⟩
  · exact (hb.cell (by simp [World.size_alloc]; try omega)).trans (by simp [go_sem])
  · exact (hb.cell (by simp [World.size_alloc]; try omega)).trans (by simp [go_sem])
  · exact (hb.cell (by simp [World.size_alloc]; try omega)).trans (by simp [go_sem])
  · exact (hb.cell (by simp [World.size_alloc]; try omega)).trans (by simp [go_sem])
  · exact (hb.cell (by simp [World.size_alloc]; try omega)).trans (by simp [go_sem])
  · exact (hb.cell (by simp [World.size_alloc]; try omega)).trans (by simp [go_sem])
  · exact (hb.frozen (by simp [World.size_alloc]; try omega)).trans (by simp [go_sem])
  · exact (hb.frozen (by simp [World.size_alloc]; try omega)).trans (by simp [go_sem])
  · exact ((((Below.refl _ w).alloc (Nat.le_refl _) _).alloc (by simp) _).alloc (by simp; omega) _).alloc (by simp; omega) _ |>.trans (hb.mono (by simp [World.size_alloc]; omega))
set_option maxHeartbeats 2000000 in
set_option maxRecDepth 100000 in
theorem step_yes (b0 b1 b2 n : Int) (w : World) (h : BackMay b0 b1 b2) (hn : 0 ≤ n) (K : Nat) (hK : Doubles b0 b1 K) :
    Calls Try.prog 47 #[.agg #[.int .i64 b0, .int .i64 b1, .int .i64 b2], .int .i64 n] w fun e w' => e = .returned (.tuple #[.int .i64 (stepI b0 b1 n), .int .i64 0]) ∧ Below w.heap.size w w' := by
  obtain ⟨⟨h1, h2⟩, ⟨h3, h4⟩, h5, h6⟩ := h
  have HK := Aside0.mk hK
  clear hK
  have hmf : ∀ (fn : Fn) (first cap : Array Value) (w : World), (Instr.makeFunc fn first cap).run Try.prog w = .ok (.func fn first cap) w := fun _ _ _ _ => rfl
  have HRt := Aside0.mk (show backoff_Right.f b0 b1 b2 = some true from by
    unfold backoff_Right.f backoff_in.f
    rw [if_pos (by omega), if_pos (by omega), if_pos (by omega)]
    simp [h2, h4, h6])
  refine (callsIn_wide (n := 6)).1 ?_
  refine callsIn_of_wp_marks Try.func47 rfl trivial ?_ rfl
  simp only [Try.ntmps47, List.size_toArray, List.length_cons, List.length_nil, Nat.reduceAdd, Nat.reduceSub, Array.replicate_succ, Array.replicate_zero, List.push_toArray, List.append_toArray, List.nil_append, List.cons_append]
  gi_wp2_with (first | (refine ⟨trivial, ?_⟩; gi_at_call 80; refine (callsIn_wide.2 (backoff_Right.calls b0 b1 b2 true _ HRt.out)).mono ?_; rintro e w1 ⟨rfl, hb1⟩; obtain ⟨q0, q1, q2, qn, qr1, qr2, qf1, qf2, qs, qB⟩ := step_facts w w1 b0 b1 b2 n hb1; clear hb1; clear HRt) | (refine ⟨trivial, ?_⟩; gi_at_call 81; refine (callsIn_wide.2 (steps_calls b0 b1 b2 _)).mono ?_; rintro e w2 ⟨rfl, rfl⟩))
  have hB0 : Below w.heap.size w (w1.alloc (.cells #[.int .i64 b0, .int .i64 b1, .int .i64 b2] 74)) := qB.alloc (by omega) _
  have hh := World.alloc_heap_new w1 (.cells #[.int .i64 b0, .int .i64 b1, .int .i64 b2] 74 (0, 0))
  obtain ⟨W0, hW0⟩ : ∃ W0, w1.alloc (.cells #[.int .i64 b0, .int .i64 b1, .int .i64 b2] 74) = W0 := ⟨_, rfl⟩
  have hsz : W0.heap.size = w1.heap.size + 1 := by rw [← hW0]; exact World.size_alloc _ _
  have p1 : W0.cell? ⟨w.heap.size, 1, none⟩ = some (.int .i64 b1) := by rw [← hW0]; exact Go.cell_kept q1 (World.grownBy_alloc w1 _ none) (fun r e => by cases e)
  have pn : W0.cell? ⟨w.heap.size + 1, 0, none⟩ = some (.int .i64 n) := by rw [← hW0]; exact Go.cell_kept qn (World.grownBy_alloc w1 _ none) (fun r e => by cases e)
  have pr1 : W0.cell? ⟨w.heap.size + 1 + 1, 0, none⟩ = some (.int .i64 0) := by rw [← hW0]; exact Go.cell_kept qr1 (World.grownBy_alloc w1 _ none) (fun r e => by cases e)
  have pr2 : W0.cell? ⟨w.heap.size + 1 + 1 + 1, 0, none⟩ = some (.int .i64 0) := by rw [← hW0]; exact Go.cell_kept qr2 (World.grownBy_alloc w1 _ none) (fun r e => by cases e)
  have pf1 : W0.frozen? ⟨w.heap.size + 1 + 1, 0, none⟩ = false := by rw [← hW0]; exact (Go.frozen_kept qr1 (World.grownBy_alloc w1 _ none) (fun r e => by cases e)).trans qf1
  have pf2 : W0.frozen? ⟨w.heap.size + 1 + 1 + 1, 0, none⟩ = false := by rw [← hW0]; exact (Go.frozen_kept qr2 (World.grownBy_alloc w1 _ none) (fun r e => by cases e)).trans qf2
  rw [hW0] at hB0 hh ⊢
  clear hW0 q0 q1 q2 qn qr1 qr2 qf1 qf2 hmf
  refine wpIn_rangeFunc_ownF rfl (by omega) (gf := 118) (lb := #[.pointer (some ⟨w1.heap.size, 0, none⟩)]) rfl trivial (enters_of Try.func118 (by kernel_rfl) rfl)
    (steps_stops Fence.wide 5 trivial rfl (by omega) w1.heap.size W0.heap.size b0 b1 b2 K HK.out W0 (Nat.le_refl _) (by omega) hh) belowK_t (belowK_b (Nat.le_refl _)) (Below.refl _ _) (fun _ => rfl)
    (fun pre W => ((∀ y ∈ pre, (y : Int) ≠ n) ∧ W.cell? ⟨w.heap.size, 1, none⟩ = some (.int .i64 b1) ∧ W.cell? ⟨w.heap.size + 1, 0, none⟩ = some (.int .i64 n) ∧ W.cell? ⟨w.heap.size + 1 + 1, 0, none⟩ = some (.int .i64 0) ∧ W.cell? ⟨w.heap.size + 1 + 1 + 1, 0, none⟩ = some (.int .i64 0) ∧ W.frozen? ⟨w.heap.size + 1 + 1, 0, none⟩ = false ∧ W.frozen? ⟨w.heap.size + 1 + 1 + 1, 0, none⟩ = false) ∧ Below w.heap.size w W)
    (fun c pre W => (c = .ret ∧ (∃ (p : List Nat) (i : Nat), pre = p ++ [i] ∧ (i : Int) = n ∧ W.cell? ⟨w.heap.size + 1 + 1, 0, none⟩ = some (.int .i64 (b0 * 2 ^ i))) ∧ W.cell? ⟨w.heap.size + 1 + 1 + 1, 0, none⟩ = some (.int .i64 0)) ∧ Below w.heap.size w W)
    (OwnFrom.and (Own.from (fun s A B row hs hg hr => ⟨hs.1, Go.cell_kept hs.2.1 hg hr, Go.cell_kept hs.2.2.1 hg hr, Go.cell_kept hs.2.2.2.1 hg hr, Go.cell_kept hs.2.2.2.2.1 hg hr, (Go.frozen_kept hs.2.2.2.1 hg hr).trans hs.2.2.2.2.2.1, (Go.frozen_kept hs.2.2.2.2.1 hg hr).trans hs.2.2.2.2.2.2⟩) _) (ownFrom_below (Nat.le_refl _) (by omega)))
    (fun c => OwnFrom.and (Own.from (fun s A B row hs hg hr => ⟨hs.1, (by obtain ⟨p, i, e1, e2, e3⟩ := hs.2.1; exact ⟨p, i, e1, e2, Go.cell_kept e3 hg hr⟩), Go.cell_kept hs.2.2 hg hr⟩) _) (ownFrom_below (Nat.le_refl _) (by omega)))
    ⟨⟨by simp, p1, pn, pr1, pr2, pf1, pf2⟩, hB0⟩
    (fun x => { tmps := #[.agg #[.int .i64 b0, .int .i64 b1, .int .i64 b2], .int .i64 n, .pointer (some ⟨w.heap.size, 0, none⟩), .pointer (some ⟨w.heap.size + 1, 0, none⟩), .pointer (some ⟨w.heap.size + 1 + 1, 0, none⟩), .pointer (some ⟨w.heap.size + 1 + 1 + 1, 0, none⟩), .int .i64 x, .int .i64 (b0 * 2 ^ x), .agg #[.int .i64 b0, .int .i64 b1, .int .i64 b2], .bool true, .bool false, .bool false, .int .i64 n, .bool (decide (n < 0)), .bool (decide (n < 0)), .agg #[.int .i64 b0, .int .i64 b1, .int .i64 b2], .func (.func 118) #[] #[.pointer (some ⟨w1.heap.size, 0, none⟩)], .int .i64 x, .int .i64 (b0 * 2 ^ x), undef, undef, undef, undef, undef, undef], defers := [] }) ?assign ?body ?done ?stop
  case assign =>
    intro l x W K hK
    gi_wp2
    exact hK
  case body =>
    rintro l pre x W ⟨⟨hp, c1, cn, r1, r2, f1, f2⟩, hB⟩ _
    obtain ⟨z, hz⟩ : ∃ z, b0 * 2 ^ x = z := ⟨_, rfl⟩
    by_cases hx : (x : Int) = n
    · have hxb : ((x : Int) == n) = true := by simp [hx]
      have HX := Aside0.mk hx
      have HZ := Aside0.mk hz
      rw [hz]
      clear hx hz
      gi_wp2
      refine ⟨(KeepsOthers.setCell _ _ _).trans (KeepsOthers.setCell _ _ _), ⟨rfl, ⟨pre, x, rfl, HX.out, ?_⟩, ?_⟩, (hB.setCell (p := ⟨w.heap.size + 1 + 1, 0, none⟩) (by simp; omega) _).setCell (p := ⟨w.heap.size + 1 + 1 + 1, 0, none⟩) (by simp; omega) _⟩
      · rw [HZ.out, World.cell?_setCell_other _ _ _ _ (by simp)]
        exact World.cell?_setCell_same' _ _ _ (by rw [r1]; rfl)
      · exact World.cell?_setCell_same' _ _ _ (by rw [isSome_setCell, r2]; rfl)
    · have hxb : ((x : Int) == n) = false := by simp [hx]
      have HX := Aside0.mk hx
      rw [hz]
      clear hx hz
      gi_wp2
      exact ⟨KeepsOthers.refl _, Below.refl _ _, ⟨fun y hy => (List.mem_append.1 hy).elim (hp y) (fun e => by simp at e; subst e; exact HX.out), c1, cn, r1, r2, f1, f2⟩, hB⟩
  case done =>
    rintro D ys W hD rfl ⟨⟨hne, c1, cn, r1, r2, f1, f2⟩, hB⟩ hKd
    have hge : (K : Int) ≤ n := by
      rcases Int.lt_or_le n K with hlt | hge
      · exact absurd (show ((n.toNat : Nat) : Int) = n by omega) (hne n.toNat (by rw [List.mem_range]; omega))
      · exact hge
    have hres : stepI b0 b1 n = b1 := by
      unfold stepI
      rw [if_neg (HK.out.no n.toNat (by omega))]
    have HR := Aside0.mk hres
    clear hres hne
    gi_wp2
    have hK1 := (KeepsOthers.setCell W ⟨w.heap.size + 1 + 1, 0, none⟩ (.int .i64 b1)).same D _ hKd rfl
    have hK2 := (KeepsOthers.setCell (W.setCell ⟨w.heap.size + 1 + 1, 0, none⟩ (.int .i64 b1)) ⟨w.heap.size + 1 + 1 + 1, 0, none⟩ (.int .i64 0)).same D _ hK1 rfl
    have hB2 := (hB.setCell (p := ⟨w.heap.size + 1 + 1, 0, none⟩) (by simp; omega) (.int .i64 b1)).setCell (p := ⟨w.heap.size + 1 + 1 + 1, 0, none⟩) (by simp; omega) (.int .i64 0)
    have d1 : ((W.setCell ⟨w.heap.size + 1 + 1, 0, none⟩ (.int .i64 b1)).setCell ⟨w.heap.size + 1 + 1 + 1, 0, none⟩ (.int .i64 0)).cell? ⟨w.heap.size + 1 + 1, 0, none⟩ = some (.int .i64 b1) := by
      rw [World.cell?_setCell_other _ _ _ _ (by simp)]
      exact World.cell?_setCell_same' _ _ _ (by rw [r1]; rfl)
    have d2 : ((W.setCell ⟨w.heap.size + 1 + 1, 0, none⟩ (.int .i64 b1)).setCell ⟨w.heap.size + 1 + 1 + 1, 0, none⟩ (.int .i64 0)).cell? ⟨w.heap.size + 1 + 1 + 1, 0, none⟩ = some (.int .i64 0) :=
      World.cell?_setCell_same' _ _ _ (by rw [isSome_setCell, r2]; rfl)
    have e1 := Go.cell_kept d1 (grownBy_putObj' _ D (.deferred none)) (fun r e => by cases e; exact ⟨_, hK2, rfl⟩)
    have e2 := Go.cell_kept d2 (grownBy_putObj' _ D (.deferred none)) (fun r e => by cases e; exact ⟨_, hK2, rfl⟩)
    refine ⟨by simp, .inl ⟨_, _, rfl, run_takeDeferred hK2, ?_⟩⟩
    refine ⟨.tuple #[.int .i64 b1, .int .i64 0], ?_, by rw [HR.out], hB2.trans (belowK_b (w := w) (Nat.le_refl _) _ D _ _ (by omega) hK2 rfl rfl)⟩
    simp [results, Try.f47, go_sem, e1, e2]
  case stop =>
    rintro D c pre W hD ⟨m, hm1, hm2, hpre⟩ ⟨⟨rfl, ⟨p, i, hpi, hin, hc1⟩, hc2⟩, hB⟩ hKd
    have him : i = m - 1 := by
      have : List.range m = List.range (m - 1) ++ [m - 1] := by rw [← List.range_succ]; congr 1; omega
      rw [hpi, this] at hpre
      have := List.append_inj_right' hpre rfl
      simpa using this
    have hres : stepI b0 b1 n = b0 * 2 ^ i := by
      unfold stepI
      rw [show n.toNat = i by omega, if_pos (HK.out.2.2.2.1 i (by omega))]
    have e1 := Go.cell_kept hc1 (grownBy_putObj' _ D (.deferred none)) (fun r e => by cases e; exact ⟨_, hKd, rfl⟩)
    have e2 := Go.cell_kept hc2 (grownBy_putObj' _ D (.deferred none)) (fun r e => by cases e; exact ⟨_, hKd, rfl⟩)
    have HR := Aside0.mk hres
    clear hres him hpi hin
    gi_wp2
    refine ⟨by simp, .inl ⟨_, _, rfl, run_takeDeferred hKd, ?_⟩⟩
    refine ⟨.tuple #[.int .i64 (b0 * 2 ^ i), .int .i64 0], ?_, by rw [HR.out], hB.trans (belowK_b (w := w) (Nat.le_refl _) _ D _ _ (by omega) hKd rfl rfl)⟩
    simp [results, Try.f47, go_sem, e1, e2]
set_option maxHeartbeats 2000000 in
set_option maxRecDepth 100000 in
theorem step_no (b0 b1 b2 n : Int) (w : World) (h : ¬ (BackMay b0 b1 b2 ∧ 0 ≤ n)) :
    Calls Try.prog 47 #[.agg #[.int .i64 b0, .int .i64 b1, .int .i64 b2], .int .i64 n] w fun e w' => e = .returned (.tuple #[.int .i64 0, .int .i64 1]) ∧ Below w.heap.size w w' := by
  have H := Aside0.mk h
  clear h
  by_cases c : 0 ≤ n
  all_goals by_cases c2 : b2 ≤ 1048576
  all_goals go_enter Try.func47, Try.ntmps47
  all_goals go_wp2
  all_goals first
    | (exfalso; exact H.out (by unfold BackMay; omega))
    | exact bodyPost_ret (v := .tuple #[.int .i64 0, .int .i64 1]) (by simp [results, Try.results47, go_sem]) rfl ⟨rfl, (by repeat (first | exact Below.refl _ _ | apply below_alloc | apply below_drew | apply pw_below_drewN | refine Below.setCell ?_ (by simp; omega) _))⟩
def backoff_Step.f (b0 b1 b2 n : Int) : Option (Int × Int) := if BackMay b0 b1 b2 ∧ 0 ≤ n then some (stepI b0 b1 n, 0) else some (0, 1)
theorem backoff_Step.calls (a0_0 a0_1 a0_2 a1 r1 r2 : Int) (w : World) (h : backoff_Step.f a0_0 a0_1 a0_2 a1 = some (r1, r2)) :
    Calls Try.prog 47 #[.agg #[.int .i64 a0_0, .int .i64 a0_1, .int .i64 a0_2], .int .i64 a1] w fun e w' => e = .returned (.tuple #[.int .i64 r1, .int .i64 r2]) ∧ Below w.heap.size w w' := by
  unfold backoff_Step.f at h
  by_cases hm : BackMay a0_0 a0_1 a0_2 ∧ 0 ≤ a1
  · rw [if_pos hm] at h
    simp only [Option.some.injEq, Prod.mk.injEq] at h
    obtain ⟨rfl, rfl⟩ := h
    exact step_yes _ _ _ _ w hm.1 hm.2 _ (kOf_doubles hm.1)
  · rw [if_neg hm] at h
    simp only [Option.some.injEq, Prod.mk.injEq] at h
    obtain ⟨rfl, rfl⟩ := h
    exact step_no _ _ _ _ w hm
end Go.Proofs.Ytkphinfijppkeaa.G
namespace Go.Proofs.Ytkphinfijppkeaa.G
open Go.RowKit Go.Proofs.YtkphinfijppkeaaW.PrintWords Go.Proofs.YtkphinfijppkeaaW.PrintLast Go.Proofs.YtkphinfijppkeaaW.PrintMore
attribute [local go_sem] max2_int min2_int max_two min_two max_three min_three max_four min_four   -- for this text's walks alone
set_option linter.unusedVariables false
set_option linter.unusedSimpArgs false
attribute [local go_sem high] eqA92
def foghornref10_Same.l0 : Nat → List (S92) → List (S92) → Int → Int → Option (Bool)
  | 0, _, _, _, _ => none
  | k + 1, x0, x1, x12, x13 => if x13 < x12 then (if 0 ≤ x13 then (if x13 < (x0.length : Int) then (if x13 < (x1.length : Int) then (if (!((((rd_T92 x0 x13).f0).toList) == (((rd_T92 x1 x13).f0).toList)) || (!((((rd_T92 x0 x13).f1).toList) == (((rd_T92 x1 x13).f1).toList)))) = true then (some false) else (foghornref10_Same.l0 k x0 x1 x12 (wrap64 (x13 + 1)))) else (none)) else (none)) else (none)) else (some true)
def foghornref10_Same.f (k : Nat) (l0 : List (S92)) (l1 : List (S92)) : Option (Bool) := if (l0.length : Int) = (l1.length : Int) then (foghornref10_Same.l0 k l0 l1 (l0.length : Int) 0) else (some false)
set_option maxHeartbeats 8000000 in
set_option maxRecDepth 100000 in
theorem foghornref10_Same.calls (k : Nat) (A0 : Option Addr) (c0 : Nat) (l0 : List (S92)) (A1 : Option Addr) (c1 : Nat) (l1 : List (S92)) (r : Bool) (w : World) (hr0 : Kd.C k92 w A0 l0.length l0) (hc0 : l0.length ≤ c0) (hr1 : Kd.C k92 w A1 l1.length l1) (hc1 : l1.length ≤ c1) (h : foghornref10_Same.f k l0 l1 = some r) :
    Calls Try.prog 49 #[.slice A0 l0.length c0, .slice A1 l1.length c1] w fun e w' => e = .returned (.bool r) ∧ Drawn0 w w' := by
  have hu92 := Try.underlying92
  have HR0 := Aside0.mk hr0
  have HC0 := Aside0.mk hc0
  clear hr0 hc0
  have HR1 := Aside0.mk hr1
  have HC1 := Aside0.mk hc1
  clear hr1 hc1
  have H : (if (l0.length : Int) = (l1.length : Int) then (foghornref10_Same.l0 k l0 l1 (l0.length : Int) 0) else (some false)) = some r := h
  clear h
  by_cases c3 : (l0.length : Int) = (l1.length : Int)
  · rw [if_pos c3] at H
    have c3b0 : ((l0.length : Int) == (l1.length : Int)) = true := beq_iff_eq.mpr c3
    have c3b1 : ((l0.length : Int) != (l1.length : Int)) = false := bne_eq_false_iff_eq.mpr c3
    have c3b2 : (l0.length == l1.length) = true := by first | simpa using c3 | (simp at c3 ⊢; omega)
    clear c3
    have H' := Aside0.mk H
    clear H
    go_enter Try.func49, Try.ntmps49
    go_wp2
    repeat (go_quiet (fail); try go_wp2)
    go_loopg [13] k (fun kq v13 w' => ∃ (x13_1 : Int), v13 = .int .i64 x13_1 ∧ Aside0 (foghornref10_Same.l0 kq l0 l1 (l0.length : Int) x13_1 = some r) ∧ Aside0 (kq ≤ k) ∧ Drawn0 w w')
    case atStart => exact ⟨(0), (by first | rfl | (simp; done) | (simp [*]; done)), H', ⟨Nat.le_refl _⟩, by repeat (first | exact Drawn0.refl _ | apply Drawn0.step)⟩
    case round =>
      clear H'
      try clear c1
      try clear p2
      try clear c3
      try clear c3b0
      try clear c3b1
      try clear c3b2
      obtain ⟨x13_1, rfl, HA, HK1, ⟨m1, rfl⟩⟩ := hrel
      cases gk with
      | zero => exact absurd HA.out (by simp [foghornref10_Same.l0])
      | succ k1 =>
        have H := HA.out
        clear HA
        simp only [foghornref10_Same.l0] at H
        by_cases c4 : x13_1 < (l0.length : Int)
        · rw [if_pos c4] at H
          have c4b0 : decide (x13_1 < (l0.length : Int)) = true := decide_eq_true c4
          clear c4
          by_cases c5 : 0 ≤ x13_1
          · rw [if_pos c5] at H
            have c5b0 : decide (0 ≤ x13_1) = true := decide_eq_true c5
            clear c5
            by_cases c6 : x13_1 < (l0.length : Int)
            · rw [if_pos c6] at H
              have c6b0 : decide (x13_1 < (l0.length : Int)) = true := decide_eq_true c6
              clear c6
              by_cases c7 : x13_1 < (l1.length : Int)
              · rw [if_pos c7] at H
                have c7b0 : decide (x13_1 < (l1.length : Int)) = true := decide_eq_true c7
                clear c7
                by_cases c8 : (!((((rd_T92 l0 x13_1).f0).toList) == (((rd_T92 l1 x13_1).f0).toList)) || (!((((rd_T92 l0 x13_1).f1).toList) == (((rd_T92 l1 x13_1).f1).toList)))) = true
                · rw [if_pos c8] at H
                  have c8b0 : (!((((rd_T92 l0 x13_1).f0).toList) == (((rd_T92 l1 x13_1).f0).toList)) || (!((((rd_T92 l0 x13_1).f1).toList) == (((rd_T92 l1 x13_1).f1).toList)))) = true := c8
                  clear c8
                  obtain rfl := Option.some.inj H
                  have p418 : 0 ≤ (x13_1 : Int) := of_decide_eq_true (by first | (with_reducible assumption) | assumption)
                  have q418 : x13_1 < (l0.length : Int) := of_decide_eq_true (by first | (with_reducible assumption) | assumption)
                  obtain ⟨ad418, e418, hx418_0, hx418_1⟩ := at_T92 HR0.out x13_1 p418 q418
                  cases e418
                  replace p418 := eq_true p418
                  replace q418 := eq_true q418
                  have p419 : 0 ≤ (x13_1 : Int) := of_decide_eq_true (by first | (with_reducible assumption) | assumption)
                  have q419 : x13_1 < (l1.length : Int) := of_decide_eq_true (by first | (with_reducible assumption) | assumption)
                  obtain ⟨ad419, e419, hx419_0, hx419_1⟩ := at_T92 HR1.out x13_1 p419 q419
                  cases e419
                  replace p419 := eq_true p419
                  replace q419 := eq_true q419
                  go_wp2
                  repeat (go_quiet (fail); try go_wp2)
                  go_ret
                  exact ⟨by first | rfl | (simp; done) | (simp [*]; done), by repeat (first | exact Drawn0.refl _ | apply Drawn0.step)⟩
                · rw [if_neg c8] at H
                  have c8b0 : (!((((rd_T92 l0 x13_1).f0).toList) == (((rd_T92 l1 x13_1).f0).toList)) || (!((((rd_T92 l0 x13_1).f1).toList) == (((rd_T92 l1 x13_1).f1).toList)))) = false := by simpa using c8
                  clear c8
                  have H' := Aside0.mk H
                  clear H
                  have p418 : 0 ≤ (x13_1 : Int) := of_decide_eq_true (by first | (with_reducible assumption) | assumption)
                  have q418 : x13_1 < (l0.length : Int) := of_decide_eq_true (by first | (with_reducible assumption) | assumption)
                  obtain ⟨ad418, e418, hx418_0, hx418_1⟩ := at_T92 HR0.out x13_1 p418 q418
                  cases e418
                  replace p418 := eq_true p418
                  replace q418 := eq_true q418
                  have p419 : 0 ≤ (x13_1 : Int) := of_decide_eq_true (by first | (with_reducible assumption) | assumption)
                  have q419 : x13_1 < (l1.length : Int) := of_decide_eq_true (by first | (with_reducible assumption) | assumption)
                  obtain ⟨ad419, e419, hx419_0, hx419_1⟩ := at_T92 HR1.out x13_1 p419 q419
                  cases e419
                  replace p419 := eq_true p419
                  replace q419 := eq_true q419
                  go_wp2
                  repeat (go_quiet (fail); try go_wp2)
                  go_roundg k1
                  case measure => have := HK1.out; omega
                  case rel => exact ⟨(wrap64 (x13_1 + 1)), (by first | rfl | (simp; done) | (simp [*]; done)), H', ⟨by have := HK1.out; omega⟩, by repeat (first | exact Drawn0.refl _ | apply Drawn0.step)⟩
              · rw [if_neg c7] at H
                exact absurd H (by simp)
            · rw [if_neg c6] at H
              exact absurd H (by simp)
          · rw [if_neg c5] at H
            exact absurd H (by simp)
        · rw [if_neg c4] at H
          have c4b0 : decide (x13_1 < (l0.length : Int)) = false := decide_eq_false c4
          clear c4
          obtain rfl := Option.some.inj H
          go_wp2
          repeat (go_quiet (fail); try go_wp2)
          go_ret
          exact ⟨by first | rfl | (simp; done) | (simp [*]; done), by repeat (first | exact Drawn0.refl _ | apply Drawn0.step)⟩
  · rw [if_neg c3] at H
    have c3b0 : ((l0.length : Int) == (l1.length : Int)) = false := beq_eq_false_iff_ne.mpr c3
    have c3b1 : ((l0.length : Int) != (l1.length : Int)) = true := bne_iff_ne.mpr c3
    have c3b2 : (l0.length == l1.length) = false := by first | simpa using c3 | (simp at c3 ⊢; omega)
    obtain rfl := Option.some.inj H
    go_enter Try.func49, Try.ntmps49
    go_wp2
    repeat (go_quiet (fail); try go_wp2)
    go_ret
    exact ⟨by first | rfl | (simp; done) | (simp [*]; done), by repeat (first | exact Drawn0.refl _ | apply Drawn0.step)⟩
end Go.Proofs.Ytkphinfijppkeaa.G
namespace Go.Proofs.Ytkphinfijppkeaa.G
open Go.RowKit Go.Proofs.YtkphinfijppkeaaW.PrintWords Go.Proofs.YtkphinfijppkeaaW.PrintLast Go.Proofs.YtkphinfijppkeaaW.PrintMore
attribute [local go_sem] max2_int min2_int max_two min_two max_three min_three max_four min_four
set_option linter.unusedVariables false
set_option linter.unusedSimpArgs false
def addT (a b : Int) : Int := if a + b < 1099511627776 then a + b else 1099511627776
theorem add_is (a b : Int) (ha : tmB a = true) (hb : tmB b = true) : tick_Add.f a b = some (addT a b, 0) := by
  unfold tick_Add.f tick_all.f addT
  obtain ⟨a1, a2⟩ := (tm_iff a).1 ha
  obtain ⟨b1, b2⟩ := (tm_iff b).1 hb
  have e : wrap64 (a + b) = a + b := by unfold wrap64; omega
  simp [a1, a2, b1, b2, e, mn_is]
def drawM (d m : Int) : Int := if Int.tmod d m < 0 then Int.tmod d m + m else Int.tmod d m
theorem drawM_in (d m : Int) (hm : 0 < m) : 0 ≤ drawM d m ∧ drawM d m < m := by
  have h1 := Int.tmod_lt_of_pos d hm
  have h2 := Int.lt_tmod_of_pos d hm
  unfold drawM
  split <;> omega
theorem step_in {b : S74} (hb : backB b = true) {n : Int} (_hn : 0 ≤ n) : 1 ≤ stepI b.f0 b.f1 n ∧ stepI b.f0 b.f1 n ≤ 1073741824 := by
  unfold backB at hb
  simp only [Bool.and_eq_true, decide_eq_true_eq] at hb
  obtain ⟨h1, h2, h3, h4, h5, h6⟩ := hb
  have hp : (1 : Int) ≤ 2 ^ n.toNat := by
    have : (0 : Int) < 2 ^ n.toNat := Int.pow_pos (by decide)
    omega
  have hq : b.f0 * 1 ≤ b.f0 * 2 ^ n.toNat := Int.mul_le_mul_of_nonneg_left hp (by omega)
  unfold stepI
  split <;> omega
theorem step_is {b : S74} (hb : backB b = true) {n : Int} (hn : 0 ≤ n) : backoff_Step.f b.f0 b.f1 b.f2 n = some (stepI b.f0 b.f1 n, 0) := by
  unfold backB at hb
  simp only [Bool.and_eq_true, decide_eq_true_eq] at hb
  obtain ⟨h1, h2, h3, h4, h5, h6⟩ := hb
  unfold backoff_Step.f
  rw [if_pos ⟨⟨⟨h1, h2⟩, ⟨h3, h4⟩, h5, h6⟩, hn⟩]
def waitW (b : S74) (n draw : Int) : Int := stepI b.f0 b.f1 n + drawM draw (b.f2 + 1)
theorem back_jit {b : S74} (hb : backB b = true) : 0 ≤ b.f2 ∧ b.f2 ≤ 1048576 := by
  unfold backB at hb
  simp only [Bool.and_eq_true, decide_eq_true_eq] at hb
  exact ⟨hb.2.2.2.2.1, hb.2.2.2.2.2⟩
theorem wait_in {b : S74} (hb : backB b = true) {n : Int} (hn : 0 ≤ n) (draw : Int) : 1 ≤ waitW b n draw ∧ waitW b n draw ≤ 1074790400 := by
  have h1 := step_in hb hn
  have h2 := back_jit hb
  have h3 := drawM_in draw (b.f2 + 1) (by omega)
  unfold waitW
  omega
set_option maxHeartbeats 8000000 in
set_option maxRecDepth 100000 in
theorem wait84_calls (b : S74) (hb : backB b = true) (n : Int) (hn : 0 ≤ n) (draw : Int) (w : World) : Calls Try.prog 84 #[.agg #[.int .i64 b.f0, .int .i64 b.f1, .int .i64 b.f2], .int .i64 n, .int .i64 draw] w fun e w' => e = .returned (.tuple #[.int .i64 (waitW b n draw), .int .i64 0]) ∧ Below w.heap.size w w' := by
  have hs := step_in hb hn
  have hj := back_jit hb
  have HS := Aside0.mk (step_is hb hn)
  have hd := drawM_in draw (b.f2 + 1) (by omega)
  obtain ⟨s, hsn⟩ : ∃ s, stepI b.f0 b.f1 n = s := ⟨_, rfl⟩
  have HV := Aside0.mk (show waitW b n draw = s + drawM draw (b.f2 + 1) by unfold waitW; rw [hsn])
  rw [hsn] at HS hs
  rw [HV.out]
  unfold drawM at hd ⊢
  have h1 := Int.tmod_lt_of_pos draw (show 0 < b.f2 + 1 by omega)
  have h2 := Int.lt_tmod_of_pos draw (show 0 < b.f2 + 1 by omega)
  have hF := Aside0.mk (Fr.Frame.start w)
  have HC : True := trivial
  obtain ⟨q, hq⟩ : ∃ q, Int.tmod draw (b.f2 + 1) = q := ⟨_, rfl⟩
  rw [hq] at hd h1 h2 ⊢
  have g1 : ¬ b.f2 + 1 = 0 := by omega
  clear hb hsn
  by_cases hneg : q < 0
  · rw [if_pos hneg] at hd ⊢
    go_enter Try.func84, Try.ntmps84
    go_wp2_with (first | ((with_reducible refine gate_store rfl ?_); apply Fr.fr_store hF.out rfl rfl rfl; (case hp => rfl); (case hx => first | (go_simp; rfl) | rfl); (case hu => (simp only [Value.cells]; rfl)); (case hs => (repeat (first | exact Fr.Spot.here _ _ | apply Fr.Spot.there))); (case ht => kernel_rfl); (case h1 => simp [Value.oneCell']); (case hfit => simp); intro W hF1; simp only [Fr.patch, List.take_zero, List.nil_append, List.drop, List.append_nil, List.take, List.cons_append, List.length_cons, List.length_nil, Nat.reduceAdd] at hF1; have HC1 := hF1.cells; simp only [Fr.Cells, List.length_cons, List.length_nil, Nat.reduceAdd, and_true] at HC1; clear hF HC; have HC := HC1; have hF := Aside0.mk hF1; clear hF1 HC1) | ((first | (with_reducible refine Fr.gate_alloc rfl ?_) | (with_reducible refine Fr.gate_box rfl ?_)); apply Fr.fr_box hF.out rfl; (case hrun => first | (go_simp; done) | (go_simp; rfl)); intro g W hF1; have HC1 := hF1.cells; simp only [Fr.Cells, List.length_cons, List.length_nil, Nat.reduceAdd, and_true] at HC1; clear hF HC; have HC := HC1; have hF := Aside0.mk hF1; clear hF1 HC1))
    (with_reducible refine (backoff_Step.calls b.f0 b.f1 b.f2 n s 0 _ HS.out).mono ?_); rintro e W ⟨rfl, hb⟩; have hF1 := hF.out.call hb; clear hb; have HC1 := hF1.cells; simp only [Fr.Cells, List.length_cons, List.length_nil, Nat.reduceAdd, and_true] at HC1; clear hF HC; have HC := HC1; have hF := Aside0.mk hF1; clear hF1 HC1
    go_wp2_with (first | ((with_reducible refine gate_store rfl ?_); apply Fr.fr_store hF.out rfl rfl rfl; (case hp => rfl); (case hx => first | (go_simp; rfl) | rfl); (case hu => (simp only [Value.cells]; rfl)); (case hs => (repeat (first | exact Fr.Spot.here _ _ | apply Fr.Spot.there))); (case ht => kernel_rfl); (case h1 => simp [Value.oneCell']); (case hfit => simp); intro W hF1; simp only [Fr.patch, List.take_zero, List.nil_append, List.drop, List.append_nil, List.take, List.cons_append, List.length_cons, List.length_nil, Nat.reduceAdd] at hF1; have HC1 := hF1.cells; simp only [Fr.Cells, List.length_cons, List.length_nil, Nat.reduceAdd, and_true] at HC1; clear hF HC; have HC := HC1; have hF := Aside0.mk hF1; clear hF1 HC1) | ((first | (with_reducible refine Fr.gate_alloc rfl ?_) | (with_reducible refine Fr.gate_box rfl ?_)); apply Fr.fr_box hF.out rfl; (case hrun => first | (go_simp; done) | (go_simp; rfl)); intro g W hF1; have HC1 := hF1.cells; simp only [Fr.Cells, List.length_cons, List.length_nil, Nat.reduceAdd, and_true] at HC1; clear hF HC; have HC := HC1; have hF := Aside0.mk hF1; clear hF1 HC1))
    go_ret2
    exact ⟨rfl, hF.out.below⟩
  · have hpos : 0 ≤ q := by omega
    rw [if_neg hneg] at hd ⊢
    clear hneg
    go_enter Try.func84, Try.ntmps84
    go_wp2_with (first | ((with_reducible refine gate_store rfl ?_); apply Fr.fr_store hF.out rfl rfl rfl; (case hp => rfl); (case hx => first | (go_simp; rfl) | rfl); (case hu => (simp only [Value.cells]; rfl)); (case hs => (repeat (first | exact Fr.Spot.here _ _ | apply Fr.Spot.there))); (case ht => kernel_rfl); (case h1 => simp [Value.oneCell']); (case hfit => simp); intro W hF1; simp only [Fr.patch, List.take_zero, List.nil_append, List.drop, List.append_nil, List.take, List.cons_append, List.length_cons, List.length_nil, Nat.reduceAdd] at hF1; have HC1 := hF1.cells; simp only [Fr.Cells, List.length_cons, List.length_nil, Nat.reduceAdd, and_true] at HC1; clear hF HC; have HC := HC1; have hF := Aside0.mk hF1; clear hF1 HC1) | ((first | (with_reducible refine Fr.gate_alloc rfl ?_) | (with_reducible refine Fr.gate_box rfl ?_)); apply Fr.fr_box hF.out rfl; (case hrun => first | (go_simp; done) | (go_simp; rfl)); intro g W hF1; have HC1 := hF1.cells; simp only [Fr.Cells, List.length_cons, List.length_nil, Nat.reduceAdd, and_true] at HC1; clear hF HC; have HC := HC1; have hF := Aside0.mk hF1; clear hF1 HC1))
    (with_reducible refine (backoff_Step.calls b.f0 b.f1 b.f2 n s 0 _ HS.out).mono ?_); rintro e W ⟨rfl, hb⟩; have hF1 := hF.out.call hb; clear hb; have HC1 := hF1.cells; simp only [Fr.Cells, List.length_cons, List.length_nil, Nat.reduceAdd, and_true] at HC1; clear hF HC; have HC := HC1; have hF := Aside0.mk hF1; clear hF1 HC1
    go_wp2_with (first | ((with_reducible refine gate_store rfl ?_); apply Fr.fr_store hF.out rfl rfl rfl; (case hp => rfl); (case hx => first | (go_simp; rfl) | rfl); (case hu => (simp only [Value.cells]; rfl)); (case hs => (repeat (first | exact Fr.Spot.here _ _ | apply Fr.Spot.there))); (case ht => kernel_rfl); (case h1 => simp [Value.oneCell']); (case hfit => simp); intro W hF1; simp only [Fr.patch, List.take_zero, List.nil_append, List.drop, List.append_nil, List.take, List.cons_append, List.length_cons, List.length_nil, Nat.reduceAdd] at hF1; have HC1 := hF1.cells; simp only [Fr.Cells, List.length_cons, List.length_nil, Nat.reduceAdd, and_true] at HC1; clear hF HC; have HC := HC1; have hF := Aside0.mk hF1; clear hF1 HC1) | ((first | (with_reducible refine Fr.gate_alloc rfl ?_) | (with_reducible refine Fr.gate_box rfl ?_)); apply Fr.fr_box hF.out rfl; (case hrun => first | (go_simp; done) | (go_simp; rfl)); intro g W hF1; have HC1 := hF1.cells; simp only [Fr.Cells, List.length_cons, List.length_nil, Nat.reduceAdd, and_true] at HC1; clear hF HC; have HC := HC1; have hF := Aside0.mk hF1; clear hF1 HC1))
    go_ret2
    exact ⟨rfl, hF.out.below⟩
theorem duty_facts {c : Cf} {d : Dy} (h : dutyB c d = true) : chainE c d.ro d.pl = 0 ∧ rightB d.ls = true ∧ tmB d.due = true ∧ 0 ≤ d.tr ∧ d.tr < (rd_T76 c.rs (recvV c d.ro d.pl)).f2 ∧ 1 ≤ d.st ∧ d.st ≤ 3 := by
  unfold dutyB at h
  simp only [Bool.and_eq_true, decide_eq_true_eq] at h
  exact h
theorem rec_of {c : Cf} (h : cfgB c = true) {k : Nat} (hk : k < c.rs.length) : recB (rd_T76 c.rs (k : Nat)) = true := by
  unfold cfgB at h
  simp only [Bool.and_eq_true] at h
  unfold recsB at h
  have := List.all_eq_true.1 h.1 k (List.mem_range.2 hk)
  simp only [Bool.and_eq_true] at this
  exact this.1
theorem rec_facts {r : S76} (h : recB r = true) : backB r.f1 = true ∧ 1 ≤ r.f2 ∧ r.f2 ≤ 100 := by
  unfold recB at h
  simp only [Bool.and_eq_true, decide_eq_true_eq] at h
  exact ⟨h.2.1, h.2.2.1, h.2.2.2.1⟩
set_option maxHeartbeats 8000000 in
set_option maxRecDepth 100000 in
theorem sent_same (c : Cf) (A0 : Option Addr) (c0 : Nat) (A1 : Option Addr) (c1 : Nat) (d : Dy) (A2 : Option Addr) (c2 : Nat) (now : Int) (ok : Bool) (draw : Int) (w : World) (hr0 : Kd.C k76 w A0 c.rs.length c.rs) (hl0 : c.rs.length ≤ c0) (hr1 : Kd.C k58 w A1 c.ro.length c.ro) (hwf : ∀ x ∈ c.ro, WfR x) (hr2 : Kd.C k92 w A2 d.ls.length d.ls) (hok : ok = false) (hd : dutyB c d = true) (hn : tmB now = true) (hle : d.due ≤ now) (x : S76) (hx : rd_T76 c.rs (recvV c d.ro d.pl) = x) (hne : d.tr + 1 ≠ x.f2) :
    Calls Try.prog 48 #[.agg #[.slice A0 c.rs.length c0, .slice A1 c.ro.length c1, .int .i64 c.rep, .int .i64 c.beat], .agg #[.slice A2 d.ls.length c2, .int .i64 d.ro, .int .i64 d.pl, .int .i64 d.tr, .int .i64 d.due, .int .i64 d.st], .int .i64 now, .bool ok, .int .i64 draw] w fun e w' => e = .returned (.tuple #[.agg #[.slice A2 d.ls.length c2, .int .i64 d.ro, .int .i64 d.pl, .int .i64 (d.tr + 1), .int .i64 (addT now (waitW x.f1 d.tr draw)), .int .i64 d.st], .bool false, .int .i64 0]) ∧ Below w.heap.size w w' := by
  subst hok
  have hne2 : (d.tr + 1 == x.f2) = false := by rw [beq_eq_false_iff_ne]; exact hne
  have HDR := Aside0.mk (fun W (hb : Below w.heap.size w W) => dutyRight_calls c A0 c0 A1 c1 d A2 c2 W (Kd.C_below hr0 hb) hl0 (Kd.C_below hr1 hb) hwf (Kd.C_below hr2 hb))
  obtain ⟨hch, _, hdue, htr0, htr1, hst1, hst2⟩ := duty_facts hd
  obtain ⟨k, hk, hrk⟩ := recv_in hch
  have HR0 := Aside0.mk hr0
  have HRV := Aside0.mk (fun W (hb : Below w.heap.size w W) => receiver_calls c A0 c0 A1 c1 d.ro d.pl W (Kd.C_below hr0 hb) hl0 (Kd.C_below hr1 hb) hwf)
  have HAF := Aside0.mk (fun W (hb : Below w.heap.size w W) => after_calls c A0 c0 A1 c1 d.ro d.pl W (Kd.C_below hr0 hb) hl0 (Kd.C_below hr1 hb) hwf)
  rw [hch, hrk] at HRV
  rw [hch] at HAF
  have hrec := rec_facts (rec_of (chain_facts hch).1 hk)
  have hlti : (k : Int) < (c.rs.length : Int) := by omega
  have hll0 : c.rs.length ≤ 9223372036854775807 := hr0.2.1
  obtain ⟨ad, e1, a0, a1, a2, a3, a4, a5, a6, a7, a8⟩ := at_T76 HR0.out (k : Int) (by omega) hlti
  cases e1
  rw [Int.toNat_natCast] at a0 a1 a2 a3 a4 a5 a6 a7 a8
  rw [hrk] at htr1 hx
  rw [hx] at a0 a1 a2 a3 a4 a5 a6 a7 a8 hrec htr1
  have g0 : (0 : Int) ≤ (k : Int) := by omega
  have g3 : IntKind.i64.wrap (k : Int) = k := by rw [IntKind.wrap_i64]; omega
  have HW := Aside0.mk (fun W => wait84_calls x.f1 hrec.1 d.tr htr0 draw W)
  have hwi := wait_in hrec.1 htr0 draw
  have hwt : tmB (waitW x.f1 d.tr draw) = true := (tm_iff _).2 ⟨by omega, by omega⟩
  have HADD := Aside0.mk (add_is now (waitW x.f1 d.tr draw) hn hwt)
  obtain ⟨ww, hww⟩ : ∃ ww, waitW x.f1 d.tr draw = ww := ⟨_, rfl⟩
  rw [hww] at HW HADD ⊢
  obtain ⟨dd, hdd⟩ : ∃ dd, addT now ww = dd := ⟨_, rfl⟩
  rw [hdd] at HADD ⊢
  obtain ⟨av, hav⟩ : ∃ av, afterV c d.ro d.pl = av := ⟨_, rfl⟩
  rw [hav] at HAF
  rw [hd] at HDR
  have H3 := Aside0.mk hn
  have hle' : ¬ now < d.due := by omega
  have htr2 : x.f2 ≤ 100 := hrec.2.2
  clear hr0 hl0 hr1 hwf hr2 hd hn hch hdue hst1 hst2 hrec hwi hne hwt hww hdd hrk hx
  have hF := Aside0.mk (Fr.Frame.start w)
  have HC : True := trivial
  go_enter Try.func48, Try.ntmps48
  go_wp2_with (first | ((with_reducible refine gate_store rfl ?_); apply Fr.fr_store hF.out rfl rfl rfl; (case hp => rfl); (case hx => first | (go_simp; rfl) | rfl); (case hu => (simp only [Value.cells]; rfl)); (case hs => (repeat (first | exact Fr.Spot.here _ _ | apply Fr.Spot.there))); (case ht => kernel_rfl); (case h1 => simp [Value.oneCell']); (case hfit => simp); intro W hF1; simp only [Fr.patch, List.take_zero, List.nil_append, List.drop, List.append_nil, List.take, List.cons_append, List.length_cons, List.length_nil, Nat.reduceAdd] at hF1; have HC1 := hF1.cells; simp only [Fr.Cells, List.length_cons, List.length_nil, Nat.reduceAdd, and_true] at HC1; clear hF HC; have HC := HC1; have hF := Aside0.mk hF1; clear hF1 HC1) | ((first | (with_reducible refine Fr.gate_alloc rfl ?_) | (with_reducible refine Fr.gate_box rfl ?_)); apply Fr.fr_box hF.out rfl; (case hrun => first | (go_simp; done) | (go_simp; rfl)); intro g W hF1; have HC1 := hF1.cells; simp only [Fr.Cells, List.length_cons, List.length_nil, Nat.reduceAdd, and_true] at HC1; clear hF HC; have HC := HC1; have hF := Aside0.mk hF1; clear hF1 HC1))
  (with_reducible refine (HDR.out _ hF.out.below).mono ?_); rintro e W ⟨rfl, hb⟩; have hF1 := hF.out.call hb; clear hb; have HC1 := hF1.cells; simp only [Fr.Cells, List.length_cons, List.length_nil, Nat.reduceAdd, and_true] at HC1; clear hF HC; have HC := HC1; have hF := Aside0.mk hF1; clear hF1 HC1
  go_wp2_with (first | ((with_reducible refine gate_store rfl ?_); apply Fr.fr_store hF.out rfl rfl rfl; (case hp => rfl); (case hx => first | (go_simp; rfl) | rfl); (case hu => (simp only [Value.cells]; rfl)); (case hs => (repeat (first | exact Fr.Spot.here _ _ | apply Fr.Spot.there))); (case ht => kernel_rfl); (case h1 => simp [Value.oneCell']); (case hfit => simp); intro W hF1; simp only [Fr.patch, List.take_zero, List.nil_append, List.drop, List.append_nil, List.take, List.cons_append, List.length_cons, List.length_nil, Nat.reduceAdd] at hF1; have HC1 := hF1.cells; simp only [Fr.Cells, List.length_cons, List.length_nil, Nat.reduceAdd, and_true] at HC1; clear hF HC; have HC := HC1; have hF := Aside0.mk hF1; clear hF1 HC1) | ((first | (with_reducible refine Fr.gate_alloc rfl ?_) | (with_reducible refine Fr.gate_box rfl ?_)); apply Fr.fr_box hF.out rfl; (case hrun => first | (go_simp; done) | (go_simp; rfl)); intro g W hF1; have HC1 := hF1.cells; simp only [Fr.Cells, List.length_cons, List.length_nil, Nat.reduceAdd, and_true] at HC1; clear hF HC; have HC := HC1; have hF := Aside0.mk hF1; clear hF1 HC1))
  (with_reducible refine (tick_Right.calls now _ _ (tick_is now)).mono ?_); rintro e W ⟨rfl, hb⟩; have hF1 := hF.out.call hb.below; clear hb; have HC1 := hF1.cells; simp only [Fr.Cells, List.length_cons, List.length_nil, Nat.reduceAdd, and_true] at HC1; clear hF HC; have HC := HC1; have hF := Aside0.mk hF1; clear hF1 HC1
  simp only [H3.out]
  go_wp2_with (first | ((with_reducible refine gate_store rfl ?_); apply Fr.fr_store hF.out rfl rfl rfl; (case hp => rfl); (case hx => first | (go_simp; rfl) | rfl); (case hu => (simp only [Value.cells]; rfl)); (case hs => (repeat (first | exact Fr.Spot.here _ _ | apply Fr.Spot.there))); (case ht => kernel_rfl); (case h1 => simp [Value.oneCell']); (case hfit => simp); intro W hF1; simp only [Fr.patch, List.take_zero, List.nil_append, List.drop, List.append_nil, List.take, List.cons_append, List.length_cons, List.length_nil, Nat.reduceAdd] at hF1; have HC1 := hF1.cells; simp only [Fr.Cells, List.length_cons, List.length_nil, Nat.reduceAdd, and_true] at HC1; clear hF HC; have HC := HC1; have hF := Aside0.mk hF1; clear hF1 HC1) | ((first | (with_reducible refine Fr.gate_alloc rfl ?_) | (with_reducible refine Fr.gate_box rfl ?_)); apply Fr.fr_box hF.out rfl; (case hrun => first | (go_simp; done) | (go_simp; rfl)); intro g W hF1; have HC1 := hF1.cells; simp only [Fr.Cells, List.length_cons, List.length_nil, Nat.reduceAdd, and_true] at HC1; clear hF HC; have HC := HC1; have hF := Aside0.mk hF1; clear hF1 HC1))
  (with_reducible refine (HRV.out _ hF.out.below).mono ?_); rintro e W ⟨rfl, hb⟩; have hF1 := hF.out.call hb; clear hb; have HC1 := hF1.cells; simp only [Fr.Cells, List.length_cons, List.length_nil, Nat.reduceAdd, and_true] at HC1; clear hF HC; have HC := HC1; have hF := Aside0.mk hF1; clear hF1 HC1
  replace a0 := (hF.out.below.cell (World.block_lt_of_cell? w _ a0)).trans a0
  replace a1 := (hF.out.below.cell (World.block_lt_of_cell? w _ a1)).trans a1
  replace a2 := (hF.out.below.cell (World.block_lt_of_cell? w _ a2)).trans a2
  replace a3 := (hF.out.below.cell (World.block_lt_of_cell? w _ a3)).trans a3
  replace a4 := (hF.out.below.cell (World.block_lt_of_cell? w _ a4)).trans a4
  replace a5 := (hF.out.below.cell (World.block_lt_of_cell? w _ a5)).trans a5
  replace a6 := (hF.out.below.cell (World.block_lt_of_cell? w _ a6)).trans a6
  replace a7 := (hF.out.below.cell (World.block_lt_of_cell? w _ a7)).trans a7
  replace a8 := (hF.out.below.cell (World.block_lt_of_cell? w _ a8)).trans a8
  go_wp2_with (first | ((with_reducible refine gate_store rfl ?_); apply Fr.fr_store hF.out rfl rfl rfl; (case hp => rfl); (case hx => first | (go_simp; rfl) | rfl); (case hu => (simp only [Value.cells]; rfl)); (case hs => (repeat (first | exact Fr.Spot.here _ _ | apply Fr.Spot.there))); (case ht => kernel_rfl); (case h1 => simp [Value.oneCell']); (case hfit => simp); intro W hF1; simp only [Fr.patch, List.take_zero, List.nil_append, List.drop, List.append_nil, List.take, List.cons_append, List.length_cons, List.length_nil, Nat.reduceAdd] at hF1; have HC1 := hF1.cells; simp only [Fr.Cells, List.length_cons, List.length_nil, Nat.reduceAdd, and_true] at HC1; clear hF HC; have HC := HC1; have hF := Aside0.mk hF1; clear hF1 HC1) | ((first | (with_reducible refine Fr.gate_alloc rfl ?_) | (with_reducible refine Fr.gate_box rfl ?_)); apply Fr.fr_box hF.out rfl; (case hrun => first | (go_simp; done) | (go_simp; rfl)); intro g W hF1; have HC1 := hF1.cells; simp only [Fr.Cells, List.length_cons, List.length_nil, Nat.reduceAdd, and_true] at HC1; clear hF HC; have HC := HC1; have hF := Aside0.mk hF1; clear hF1 HC1))
  (with_reducible refine (HW.out _).mono ?_); rintro e W ⟨rfl, hb⟩; have hF1 := hF.out.call hb; clear hb; have HC1 := hF1.cells; simp only [Fr.Cells, List.length_cons, List.length_nil, Nat.reduceAdd, and_true] at HC1; clear hF HC; have HC := HC1; have hF := Aside0.mk hF1; clear hF1 HC1
  go_wp2_with (first | ((with_reducible refine gate_store rfl ?_); apply Fr.fr_store hF.out rfl rfl rfl; (case hp => rfl); (case hx => first | (go_simp; rfl) | rfl); (case hu => (simp only [Value.cells]; rfl)); (case hs => (repeat (first | exact Fr.Spot.here _ _ | apply Fr.Spot.there))); (case ht => kernel_rfl); (case h1 => simp [Value.oneCell']); (case hfit => simp); intro W hF1; simp only [Fr.patch, List.take_zero, List.nil_append, List.drop, List.append_nil, List.take, List.cons_append, List.length_cons, List.length_nil, Nat.reduceAdd] at hF1; have HC1 := hF1.cells; simp only [Fr.Cells, List.length_cons, List.length_nil, Nat.reduceAdd, and_true] at HC1; clear hF HC; have HC := HC1; have hF := Aside0.mk hF1; clear hF1 HC1) | ((first | (with_reducible refine Fr.gate_alloc rfl ?_) | (with_reducible refine Fr.gate_box rfl ?_)); apply Fr.fr_box hF.out rfl; (case hrun => first | (go_simp; done) | (go_simp; rfl)); intro g W hF1; have HC1 := hF1.cells; simp only [Fr.Cells, List.length_cons, List.length_nil, Nat.reduceAdd, and_true] at HC1; clear hF HC; have HC := HC1; have hF := Aside0.mk hF1; clear hF1 HC1))
  (with_reducible refine (tick_Add.calls now ww dd 0 _ HADD.out).mono ?_); rintro e W ⟨rfl, hb⟩; have hF1 := hF.out.call hb; clear hb; have HC1 := hF1.cells; simp only [Fr.Cells, List.length_cons, List.length_nil, Nat.reduceAdd, and_true] at HC1; clear hF HC; have HC := HC1; have hF := Aside0.mk hF1; clear hF1 HC1
  go_wp2_with (first | ((with_reducible refine gate_store rfl ?_); apply Fr.fr_store hF.out rfl rfl rfl; (case hp => rfl); (case hx => first | (go_simp; rfl) | rfl); (case hu => (simp only [Value.cells]; rfl)); (case hs => (repeat (first | exact Fr.Spot.here _ _ | apply Fr.Spot.there))); (case ht => kernel_rfl); (case h1 => simp [Value.oneCell']); (case hfit => simp); intro W hF1; simp only [Fr.patch, List.take_zero, List.nil_append, List.drop, List.append_nil, List.take, List.cons_append, List.length_cons, List.length_nil, Nat.reduceAdd] at hF1; have HC1 := hF1.cells; simp only [Fr.Cells, List.length_cons, List.length_nil, Nat.reduceAdd, and_true] at HC1; clear hF HC; have HC := HC1; have hF := Aside0.mk hF1; clear hF1 HC1) | ((first | (with_reducible refine Fr.gate_alloc rfl ?_) | (with_reducible refine Fr.gate_box rfl ?_)); apply Fr.fr_box hF.out rfl; (case hrun => first | (go_simp; done) | (go_simp; rfl)); intro g W hF1; have HC1 := hF1.cells; simp only [Fr.Cells, List.length_cons, List.length_nil, Nat.reduceAdd, and_true] at HC1; clear hF HC; have HC := HC1; have hF := Aside0.mk hF1; clear hF1 HC1))
  refine bodyPost_ret ?_ rfl ⟨rfl, hF.out.below⟩
  simp [results, Try.results48, go_sem, HC]
theorem some42 (A : Option Addr) (c : Nat) (l : List S92) (w : World) (hl : l.length ≤ c) (hm : l.length ≤ 9223372036854775807) : Calls Try.prog 42 #[.slice A l.length c] w fun e w' => e = .returned (.slice A (l.take 5).length c) ∧ w = w' := by
  obtain ⟨n, hn⟩ : ∃ n, (l.take 5).length = n := ⟨_, rfl⟩
  have h1 : (if (5 : Int) < (l.length : Int) then 5 else (l.length : Int)) = (n : Int) := by rw [← hn, List.length_take]; split <;> omega
  have h2 : n ≤ c := by rw [← hn, List.length_take]; omega
  rw [hn]
  clear hn hl
  go_enter Try.func42, Try.ntmps42
  go_wp2
  go_ret
  exact ⟨rfl, rfl⟩
def oneR : S76 := ⟨⟨#[97]⟩, ⟨2, 8, 0⟩, 2, 1, 1, 1, 1⟩
def oneC : Cf := ⟨[oneR], [⟨[0], []⟩], 9, 1⟩
abbrev aLab : List S92 := [⟨⟨#[97]⟩, ⟨#[]⟩⟩]
theorem one_new : newE oneC aLab 5 = 0 ∧ chooseV oneC aLab = 0 := by decide +kernel
theorem one_duty : dutyB oneC ⟨aLab, 0, 0, 0, 5, 1⟩ = true ∧ tmB 5 = true := by decide +kernel
theorem one_recv : recvV oneC 0 0 = 0 := by decide +kernel
theorem one_due : addT 5 (waitW oneR.f1 0 0) = 7 := by decide +kernel
theorem one_wf : ∀ x ∈ oneC.ro, WfR x := by
  intro x hx
  have : ∀ x ∈ oneC.ro, ∀ k ∈ x.f0, (Lit.int .i64 k).wf = true := by decide +kernel
  exact this x hx
set_option maxHeartbeats 8000000 in
set_option maxRecDepth 100000 in
theorem one_calls (w : World) : Calls Try.prog 79 #[] w fun e w' => ∃ A0 A1, e = .returned (.agg #[.slice A0 1 1, .slice A1 1 1, .int .i64 9, .int .i64 1]) ∧ Kd.C k76 w' A0 1 oneC.rs ∧ Kd.C k58 w' A1 1 oneC.ro ∧ Below w.heap.size w w' := by
  have hF := Aside0.mk (Fr.Frame.start w)
  have HC : True := trivial
  go_enter Try.func79, Try.ntmps79
  go_wp2_with (first | ((with_reducible refine gate_store (t := 53) rfl ?_); have hX := ((hF.out.alloc [.string ⟨#[97]⟩, .int .i64 2, .int .i64 8, .int .i64 0, .int .i64 2, .int .i64 1, .int .i64 1, .int .i64 1, .int .i64 1] 76).alloc [.int .i64 0] 3).alloc [.slice (some ⟨W.heap.size + 1, 0, none⟩) 1 1, .slice none 0 0] 58; simp only [World.size_alloc] at hX; apply Fr.fr_store hX rfl rfl rfl; (case hp => rfl); (case hx => first | (go_simp; rfl) | rfl); (case hu => (simp only [Value.cells]; rfl)); (case hs => (repeat (first | exact Fr.Spot.here _ _ | apply Fr.Spot.there))); (case ht => kernel_rfl); (case h1 => simp [Value.oneCell']); (case hfit => simp); intro W2 hF1; simp only [Fr.patch, List.take_zero, List.nil_append, List.drop, List.append_nil, List.take, List.cons_append, List.length_cons, List.length_nil, Nat.reduceAdd] at hF1; have HC1 := hF1.cells; simp only [Fr.Cells, List.length_cons, List.length_nil, Nat.reduceAdd, and_true] at HC1; clear hF HC; have HC := HC1; have hF := Aside0.mk hF1; clear hF1 HC1) | ((with_reducible refine gate_store rfl ?_); apply Fr.fr_store hF.out rfl rfl rfl; (case hp => rfl); (case hx => first | (go_simp; rfl) | rfl); (case hu => (simp only [Value.cells]; rfl)); (case hs => (repeat (first | exact Fr.Spot.here _ _ | apply Fr.Spot.there))); (case ht => kernel_rfl); (case h1 => simp [Value.oneCell']); (case hfit => simp); intro W hF1; simp only [Fr.patch, List.take_zero, List.nil_append, List.drop, List.append_nil, List.take, List.cons_append, List.length_cons, List.length_nil, Nat.reduceAdd] at hF1; have HC1 := hF1.cells; simp only [Fr.Cells, List.length_cons, List.length_nil, Nat.reduceAdd, and_true] at HC1; clear hF HC; have HC := HC1; have hF := Aside0.mk hF1; clear hF1 HC1) | ((with_reducible refine gate_dst (N := 0) rfl ?_); apply Fr.fr_box hF.out rfl; (case hrun => first | (go_simp; done) | (go_simp; rfl)); intro g0 W hF1; have HC1 := hF1.cells; simp only [Fr.Cells, List.length_cons, List.length_nil, Nat.reduceAdd, and_true] at HC1; clear hF HC; have HC := HC1; have hF := Aside0.mk hF1; clear hF1 HC1) | ((with_reducible refine gate_dst (N := 1) rfl ?_); apply Fr.fr_box hF.out rfl; (case hrun => first | (go_simp; done) | (go_simp; rfl)); intro g1 W hF1; have HC1 := hF1.cells; simp only [Fr.Cells, List.length_cons, List.length_nil, Nat.reduceAdd, and_true] at HC1; clear hF HC; have HC := HC1; have hF := Aside0.mk hF1; clear hF1 HC1))
  obtain ⟨s0, hs0⟩ : ∃ s0, W.heap.size = s0 := ⟨_, rfl⟩
  rw [hs0] at hF HC ⊢
  have hF1 := hF.out
  clear hF hX
  have ka : Kd.C k76 W2 (some ⟨s0, 0, none⟩) 1 oneC.rs := C_blk (hF1.blk (s0, _, 76) (by repeat (first | exact List.mem_cons_self | apply List.mem_cons_of_mem))).2 ((Reps.none (k76.K W2) k76.sz).snoc (k76_mk _ oneR) rfl) (by decide)
  have kc : Kd.C (Kd.int .i64) W2 (some ⟨s0 + 1, 0, none⟩) 1 [0] := C_blk (hF1.blk (s0 + 1, _, 3) (by repeat (first | exact List.mem_cons_self | apply List.mem_cons_of_mem))).2 ((Reps.none ((Kd.int .i64).K W2) (Kd.int .i64).sz).snoc (p := (0 : Int)) (c := [.int .i64 0]) rfl rfl) (by decide)
  have kn : Kd.C k88 W2 none 0 [] := ⟨rfl, by decide, fun h => absurd h (by decide)⟩
  have kb : Kd.C k58 W2 (some ⟨s0 + 1 + 1, 0, none⟩) 1 oneC.ro := C_blk (hF1.blk (s0 + 1 + 1, _, 58) (by repeat (first | exact List.mem_cons_self | apply List.mem_cons_of_mem))).2 ((Reps.none (k58.K W2) k58.sz).snoc (k58_mk W2 ⟨[0], []⟩ (A0 := some ⟨s0 + 1, 0, none⟩) (c0 := 1) (by decide) kc (A1 := none) (c1 := 0) (by decide) kn) rfl) (by decide)
  have H9 := Aside0.mk (show Below w.heap.size w W2 from hF1.below)
  have HA := Aside0.mk ka
  have HB := Aside0.mk kb
  clear ka kb kc kn hF1 hs0
  refine bodyPost_ret ?_ rfl ⟨some ⟨s0, 0, none⟩, some ⟨s0 + 1 + 1, 0, none⟩, rfl, HA.out, HB.out, H9.out⟩
  simp [results, Try.results79, go_sem, HC]
set_option maxHeartbeats 8000000 in
set_option maxRecDepth 100000 in
theorem alive44_calls (w : World) : Calls Try.prog 44 #[] w fun e w' => e = .returned (.bool true) ∧ Below w.heap.size w w' := by
  have hF := Aside0.mk (Fr.Frame.start w)
  have HC : True := trivial
  go_enter Try.func44, Try.ntmps44
  go_wp2_with fail
  (with_reducible refine (one_calls _).mono ?_)
  rintro e W ⟨A0, A1, rfl, h76, h58, hb⟩
  have hF1 := hF.out.call hb
  clear hb
  have HC1 := hF1.cells; simp only [Fr.Cells, List.length_cons, List.length_nil, Nat.reduceAdd, and_true] at HC1; clear hF HC; have HC := HC1; have hF := Aside0.mk hF1; clear hF1 HC1
  have H76 := Aside0.mk h76
  have H58 := Aside0.mk h58
  clear h76 h58
  go_wp2_with fail
  have hF2 := hF.out.alloc [.string ⟨#[97]⟩, .string ⟨#[]⟩] 92
  have hbb : Below W.heap.size W (W.alloc (.cells #[.string ⟨#[97]⟩, .string ⟨#[]⟩] 92)) := (Below.refl _ W).alloc (Nat.le_refl _) _
  have hlab : Kd.C k92 _ (some ⟨W.heap.size, 0, none⟩) 1 aLab := C_one hF2 (k92_mk _ ⟨⟨#[97]⟩, ⟨#[]⟩⟩)
  have hh : Calls Try.prog 43 #[.agg #[.slice A0 1 1, .slice A1 1 1, .int .i64 9, .int .i64 1], .slice (some ⟨W.heap.size, 0, none⟩) 1 1, .int .i64 5] _ _ := new_calls_ok oneC A0 1 A1 1 (some ⟨W.heap.size, 0, none⟩) 1 aLab 5 _ (Kd.C_below H76.out hbb) (by decide) (Kd.C_below H58.out hbb) one_wf hlab one_new.1
  rw [one_new.2] at hh
  (with_reducible refine hh.mono ?_)
  clear hh H76 H58
  rintro e W1 ⟨rfl, hb⟩
  have hF1 := hF2.call hb
  have HLA := Aside0.mk (Kd.C_below hlab hb)
  clear hb hF2 hlab hbb
  obtain ⟨s0, hs0⟩ : ∃ s0, W.heap.size = s0 := ⟨_, rfl⟩
  rw [hs0] at HLA hF1 ⊢
  clear hs0
  have HC1 := hF1.cells; simp only [Fr.Cells, List.length_cons, List.length_nil, Nat.reduceAdd, and_true] at HC1; clear hF HC; have HC := HC1; have hF := Aside0.mk hF1; clear hF1 HC1
  go_wp2_with (first | ((with_reducible refine gate_store rfl ?_); apply Fr.fr_store hF.out rfl rfl rfl; (case hp => rfl); (case hx => first | (go_simp; rfl) | rfl); (case hu => (simp only [Value.cells]; rfl)); (case hs => (repeat (first | exact Fr.Spot.here _ _ | apply Fr.Spot.there))); (case ht => kernel_rfl); (case h1 => simp [Value.oneCell']); (case hfit => simp); intro W hF1; simp only [Fr.patch, List.take_zero, List.nil_append, List.drop, List.append_nil, List.take, List.cons_append, List.length_cons, List.length_nil, Nat.reduceAdd] at hF1; have HC1 := hF1.cells; simp only [Fr.Cells, List.length_cons, List.length_nil, Nat.reduceAdd, and_true] at HC1; clear hF HC; have HC := HC1; have hF := Aside0.mk hF1; clear hF1 HC1) | ((with_reducible refine gate_dst (N := 1) rfl ?_); apply Fr.fr_box hF.out rfl; (case hrun => first | (go_simp; done) | (go_simp; rfl)); intro gd W hF1; have HC1 := hF1.cells; simp only [Fr.Cells, List.length_cons, List.length_nil, Nat.reduceAdd, and_true] at HC1; clear hF HC; have HC := HC1; have hF := Aside0.mk hF1; clear hF1 HC1) | ((first | (with_reducible refine Fr.gate_alloc rfl ?_) | (with_reducible refine Fr.gate_box rfl ?_)); apply Fr.fr_box hF.out rfl; (case hrun => first | (go_simp; done) | (go_simp; rfl)); intro g W hF1; have HC1 := hF1.cells; simp only [Fr.Cells, List.length_cons, List.length_nil, Nat.reduceAdd, and_true] at HC1; clear hF HC; have HC := HC1; have hF := Aside0.mk hF1; clear hF1 HC1))
  have HF0 := Aside0.mk hF.out.drew
  have HD0 := HF0.out.cells
  simp only [Fr.Cells, List.length_cons, List.length_nil, Nat.reduceAdd, and_true] at HD0
  clear hF HC
  go_region_with (first | (go_at_call 79; refine (one_calls _).mono ?_; rintro e W7 ⟨A3, A4, rfl, h76, h58, hb⟩; have HF7 := Aside0.mk (HF0.out.call hb); have H76 := Aside0.mk h76; have H58 := Aside0.mk h58; clear h76 h58 hb; have HD1 := HF7.out.cells; simp only [Fr.Cells, List.length_cons, List.length_nil, Nat.reduceAdd, and_true] at HD1) | (go_at_call 48; have hlab : Kd.C k92 _ (some ⟨s0, 0, none⟩) 1 aLab := C_blk (HF7.out.blk (s0, _, 92) (by repeat (first | exact List.mem_cons_self | apply List.mem_cons_of_mem))).2 ((Reps.none (k92.K _) k92.sz).snoc (k92_mk _ ⟨⟨#[97]⟩, ⟨#[]⟩⟩) rfl) (by decide); have hh0 := sent_same oneC A3 1 A4 1 ⟨aLab, 0, 0, 0, 5, 1⟩ (some ⟨s0, 0, none⟩) 1 5 false 0 W7 H76.out (by decide) H58.out one_wf hlab rfl one_duty.1 one_duty.2 (by decide) oneR (by show rd_T76 oneC.rs (recvV oneC 0 0) = oneR; rw [one_recv]; rfl) (by decide); rw [one_due] at hh0; have hh : Calls Try.prog 48 #[.agg #[.slice A3 1 1, .slice A4 1 1, .int .i64 9, .int .i64 1], .agg #[.slice (some ⟨s0, 0, none⟩) 1 1, .int .i64 0, .int .i64 0, .int .i64 0, .int .i64 5, .int .i64 1], .int .i64 5, .bool false, .int .i64 0] W7 (fun e w' => e = .returned (.tuple #[.agg #[.slice (some ⟨s0, 0, none⟩) 1 1, .int .i64 0, .int .i64 0, .int .i64 1, .int .i64 7, .int .i64 1], .bool false, .int .i64 0]) ∧ Below W7.heap.size W7 w') := hh0; refine hh.mono ?_; clear hh hh0; rintro e W8 ⟨rfl, hb⟩; have HF8 := Aside0.mk (HF7.out.call hb); clear hb hlab HD1; have HD2 := HF8.out.cells; simp only [Fr.Cells, List.length_cons, List.length_nil, Nat.reduceAdd, and_true] at HD2))
  all_goals
    have hF1 : Fr.Frame w ((((((W8.setCell ⟨gd, 0, none⟩ (.slice (some ⟨s0, 0, none⟩) 1 1)).setCell ⟨gd, 1, none⟩ (.int .i64 0)).setCell ⟨gd, 2, none⟩ (.int .i64 0)).setCell ⟨gd, 3, none⟩ (.int .i64 1)).setCell ⟨gd, 4, none⟩ (.int .i64 7)).setCell ⟨gd, 5, none⟩ (.int .i64 1)) [(gd, [.slice (some ⟨s0, 0, none⟩) 1 1, .int .i64 0, .int .i64 0, .int .i64 1, .int .i64 7, .int .i64 1], 69), (s0, _, 92)] [] := HF8.out.put (Fr.Spot.here _ _) 0 [.slice (some ⟨s0, 0, none⟩) 1 1, .int .i64 0, .int .i64 0, .int .i64 1, .int .i64 7, .int .i64 1] (by simp)
    clear HF8 HF7 HF0 HD0 HD2 H76 H58
    obtain ⟨W9, hW9⟩ : ∃ W9, ((((((W8.setCell ⟨gd, 0, none⟩ (.slice (some ⟨s0, 0, none⟩) 1 1)).setCell ⟨gd, 1, none⟩ (.int .i64 0)).setCell ⟨gd, 2, none⟩ (.int .i64 0)).setCell ⟨gd, 3, none⟩ (.int .i64 1)).setCell ⟨gd, 4, none⟩ (.int .i64 7)).setCell ⟨gd, 5, none⟩ (.int .i64 1)) = W9 := ⟨_, rfl⟩
    rw [hW9] at hF1 ⊢
    clear hW9
    have hF : True := trivial
    have HC : True := trivial
    have HC1 := hF1.cells; simp only [Fr.Cells, List.length_cons, List.length_nil, Nat.reduceAdd, and_true] at HC1; clear hF HC; have HC := HC1; have hF := Aside0.mk hF1; clear hF1 HC1
    go_wp2_with (first | ((with_reducible refine gate_store rfl ?_); apply Fr.fr_store hF.out rfl rfl rfl; (case hp => rfl); (case hx => first | (go_simp; rfl) | rfl); (case hu => (simp only [Value.cells]; rfl)); (case hs => (repeat (first | exact Fr.Spot.here _ _ | apply Fr.Spot.there))); (case ht => kernel_rfl); (case h1 => simp [Value.oneCell']); (case hfit => simp); intro W hF1; simp only [Fr.patch, List.take_zero, List.nil_append, List.drop, List.append_nil, List.take, List.cons_append, List.length_cons, List.length_nil, Nat.reduceAdd] at hF1; have HC1 := hF1.cells; simp only [Fr.Cells, List.length_cons, List.length_nil, Nat.reduceAdd, and_true] at HC1; clear hF HC; have HC := HC1; have hF := Aside0.mk hF1; clear hF1 HC1) | ((first | (with_reducible refine Fr.gate_alloc rfl ?_) | (with_reducible refine Fr.gate_box rfl ?_)); apply Fr.fr_box hF.out rfl; (case hrun => first | (go_simp; done) | (go_simp; rfl)); intro g W hF1; have HC1 := hF1.cells; simp only [Fr.Cells, List.length_cons, List.length_nil, Nat.reduceAdd, and_true] at HC1; clear hF HC; have HC := HC1; have hF := Aside0.mk hF1; clear hF1 HC1))
    go_ret
    exact ⟨rfl, hF.out.below⟩
def cS (a b : ByteArray) : Int := if Op.bytesLess a.toList b.toList = true then -1 else if Op.bytesLess b.toList a.toList = true then 1 else 0
def cI (a b : Int) : Int := if a < b then -1 else if a > b then 1 else 0
def orI (a b : Int) : Int := if a = 0 then b else a
def cL (x y : S92) : Int := orI (cS x.f0 y.f0) (cS x.f1 y.f1)
def cLs : List S92 → List S92 → Int
  | [], [] => 0
  | [], _ :: _ => -1
  | _ :: _, [] => 1
  | x :: xs, y :: ys => if cL x y = 0 then cLs xs ys else cL x y
theorem cS_is (a b : ByteArray) : cmp_Compare_string.f a b = some (cS a b) := by
  unfold cmp_Compare_string.f cmp_isNaN_string.f cS
  simp
  split <;> (try split) <;> simp_all
theorem cI_is (a b : Int) : cmp_Compare_int.f a b = some (cI a b) := by
  unfold cmp_Compare_int.f cmp_isNaN_int.f cI
  simp
  split <;> (try split) <;> simp_all
theorem or_is (a b : Int) : cmp_Or_int.f 3 [a, b] = some (orI a b) := by
  have e1 : wrap64 1 = 1 := by decide +kernel
  have e2 : wrap64 2 = 2 := by decide +kernel
  unfold cmp_Or_int.f orI
  by_cases ha : a = 0 <;> by_cases hb : b = 0 <;> simp [cmp_Or_int.l0, rd, e1, e2, ha, hb]
theorem two_C {w0 W : World} {bs : List Fr.Blk} {rs : List Fr.Row} {g : Nat} {t : TypeId} {a b : Int} (h : Fr.Frame w0 W bs rs) (hm : (g, [.int .i64 a, .int .i64 b], t) ∈ bs) : Kd.C (Kd.int .i64) W (some ⟨g, 0, none⟩) 2 [a, b] :=
  C_blk (h.blk _ hm).2 (((Reps.none ((Kd.int .i64).K W) 1).snoc (show (Kd.int .i64).K W a [.int .i64 a] from rfl) rfl).snoc (show (Kd.int .i64).K W b [.int .i64 b] from rfl) rfl) (by show 2 ≤ 9223372036854775807; decide)
theorem or87_calls (A : Option Addr) (u v o : Int) (w : World) (h : Kd.C (Kd.int .i64) w A 2 [u, v]) (ho : cmp_Or_int.f 3 [u, v] = some o) : Calls Try.prog 87 #[.slice A 2 2] w fun e w' => e = .returned (.int .i64 o) ∧ Drawn0 w w' :=
  cmp_Or_int.calls 3 A 2 [u, v] o w h (Nat.le_refl 2) ho
theorem E86 : ∀ args w, (callFunc 86 args).run Try.prog w = .ok (.enter 86 args) w := enters_of Try.func86 (by kernel_rfl) rfl
theorem four_of {w0 W : World} {bs : List Fr.Blk} {rs : List Fr.Row} {g g' : Nat} {t t' : TypeId} {a b c d : Value} (h : Fr.Frame w0 W bs rs) (hm : (g, [a, b], t) ∈ bs) (hm' : (g', [c, d], t') ∈ bs) : W.cell? ⟨g, 0, none⟩ = some a ∧ W.cell? ⟨g, 1, none⟩ = some b ∧ W.cell? ⟨g', 0, none⟩ = some c ∧ W.cell? ⟨g', 1, none⟩ = some d := by
  have hb := (h.blk _ hm).2
  have hb' := (h.blk _ hm').2
  exact ⟨(blk_cell hb 0).trans rfl, (blk_cell hb 1).trans rfl, (blk_cell hb' 0).trans rfl, (blk_cell hb' 1).trans rfl⟩
set_option maxHeartbeats 2000000 in
set_option maxRecDepth 100000 in
theorem cmp86_calls (x y : S92) (w : World) : Calls Try.prog 86 #[.agg #[.string x.f0, .string x.f1], .agg #[.string y.f0, .string y.f1]] w fun e w' => e = .returned (.int .i64 (cL x y)) ∧ Below w.heap.size w w' := by
  obtain ⟨x0, x1⟩ := x
  obtain ⟨y0, y1⟩ := y
  unfold cL
  dsimp only
  have H1 := Aside0.mk (cS_is x0 y0)
  have H2 := Aside0.mk (cS_is x1 y1)
  have H3 := Aside0.mk (or_is (cS x0 y0) (cS x1 y1))
  obtain ⟨u, hu⟩ : ∃ u, cS x0 y0 = u := ⟨_, rfl⟩
  obtain ⟨v, hv⟩ : ∃ v, cS x1 y1 = v := ⟨_, rfl⟩
  obtain ⟨o, ho⟩ : ∃ o, orI (cS x0 y0) (cS x1 y1) = o := ⟨_, rfl⟩
  rw [ho, hu, hv] at H3
  rw [hu] at H1
  rw [hv] at H2
  rw [ho]
  clear hu hv ho
  have hF := Aside0.mk (Fr.Frame.start w)
  have HC : True := trivial
  go_enter Try.func86, Try.ntmps86
  go_wp2_with (first | ((with_reducible refine gate_store rfl ?_); apply Fr.fr_store hF.out rfl rfl rfl; (case hp => rfl); (case hx => first | (go_simp; rfl) | rfl); (case hu => (simp only [Value.cells]; rfl)); (case hs => (repeat (first | exact Fr.Spot.here _ _ | apply Fr.Spot.there))); (case ht => kernel_rfl); (case h1 => simp [Value.oneCell']); (case hfit => simp); intro W hF1; simp only [Fr.patch, List.take_zero, List.nil_append, List.drop, List.append_nil, List.take, List.cons_append, List.length_cons, List.length_nil, Nat.reduceAdd] at hF1; have HC1 := hF1.cells; simp only [Fr.Cells, List.length_cons, List.length_nil, Nat.reduceAdd, and_true] at HC1; clear hF HC; have HC := HC1; have hF := Aside0.mk hF1; clear hF1 HC1) | ((with_reducible refine gate_dst (N := 2) rfl ?_); apply Fr.fr_box hF.out rfl; (case hrun => first | (go_simp; done) | (go_simp; rfl)); intro ga W hF1; have HC1 := hF1.cells; simp only [Fr.Cells, List.length_cons, List.length_nil, Nat.reduceAdd, and_true] at HC1; clear hF HC; have HC := HC1; have hF := Aside0.mk hF1; clear hF1 HC1) | ((with_reducible refine gate_dst (N := 3) rfl ?_); apply Fr.fr_box hF.out rfl; (case hrun => first | (go_simp; done) | (go_simp; rfl)); intro gb W hF1; have HC1 := hF1.cells; simp only [Fr.Cells, List.length_cons, List.length_nil, Nat.reduceAdd, and_true] at HC1; clear hF HC; have HC := HC1; have hF := Aside0.mk hF1; clear hF1 HC1) | ((first | (with_reducible refine Fr.gate_alloc rfl ?_) | (with_reducible refine Fr.gate_box rfl ?_)); apply Fr.fr_box hF.out rfl; (case hrun => first | (go_simp; done) | (go_simp; rfl)); intro g W hF1; have HC1 := hF1.cells; simp only [Fr.Cells, List.length_cons, List.length_nil, Nat.reduceAdd, and_true] at HC1; clear hF HC; have HC := HC1; have hF := Aside0.mk hF1; clear hF1 HC1))
  have HF0 := Aside0.mk hF.out.drew
  clear hF HC
  go_region_held3 (fun w' => w'.cell? ⟨ga, 0, none⟩ = some (.string x0) ∧ w'.cell? ⟨ga, 1, none⟩ = some (.string x1) ∧ w'.cell? ⟨gb, 0, none⟩ = some (.string y0) ∧ w'.cell? ⟨gb, 1, none⟩ = some (.string y1))
    (first | with_reducible exact four_of HF0.out (List.Mem.tail _ (List.Mem.head _)) (List.Mem.head _) | with_reducible exact four_of HFa.out (List.Mem.tail _ (List.Mem.head _)) (List.Mem.head _) | with_reducible exact four_of HFb.out (List.Mem.tail _ (List.Mem.head _)) (List.Mem.head _) | with_reducible exact four_of HFs.out (List.Mem.tail _ (List.Mem.tail _ (List.Mem.head _))) (List.Mem.tail _ (List.Mem.head _)) | with_reducible exact four_of HFd.out (List.Mem.tail _ (List.Mem.tail _ (List.Mem.head _))) (List.Mem.tail _ (List.Mem.head _)))
    (first | (go_at_call 88; first | (with_reducible refine (cmp_Compare_string.calls x0 y0 u _ H1.out).mono ?_; rintro e Wa ⟨rfl, hd⟩; have HFa := Aside0.mk (HF0.out.call hd.below); clear hd) | (with_reducible refine (cmp_Compare_string.calls x1 y1 v _ H2.out).mono ?_; rintro e Wb ⟨rfl, hd⟩; have HFb := Aside0.mk (HFa.out.call hd.below); have HFs := Aside0.mk (HFb.out.alloc [.int .i64 u, .int .i64 v] 3); clear hd)) | (go_at_call 87; refine (or87_calls (some ⟨_, 0, none⟩) u v o _ (two_C HFs.out (List.Mem.head _)) H3.out).mono ?_; rintro e Wd ⟨rfl, hd⟩; have HFd := Aside0.mk (HFs.out.call hd.below); clear hd))
  all_goals go_wp2_with fail
  all_goals (go_ret; exact ⟨rfl, HFd.out.below⟩)
theorem cLs_drop (l0 l1 : List S92) (k : Nat) (h0 : k < l0.length) (h1 : k < l1.length) : cLs (l0.drop k) (l1.drop k) = if cL (rd_T92 l0 (k : Nat)) (rd_T92 l1 (k : Nat)) = 0 then cLs (l0.drop (k + 1)) (l1.drop (k + 1)) else cL (rd_T92 l0 (k : Nat)) (rd_T92 l1 (k : Nat)) := by
  rw [List.drop_eq_getElem_cons h0, List.drop_eq_getElem_cons h1, cLs, rd_get92 l0 k h0, rd_get92 l1 k h1]
theorem cLs_long (l0 l1 : List S92) (k : Nat) (h0 : k < l0.length) (h1 : k = l1.length) : cLs (l0.drop k) (l1.drop k) = 1 := by
  rw [List.drop_eq_getElem_cons h0, List.drop_eq_nil_of_le (by omega : l1.length ≤ k), cLs]
theorem cLs_end (l0 l1 : List S92) (k : Nat) (h0 : k = l0.length) (h1 : k ≤ l1.length) : cLs (l0.drop k) (l1.drop k) = if l0.length < l1.length then -1 else 0 := by
  rw [List.drop_eq_nil_of_le (by omega : l0.length ≤ k)]
  by_cases h : k < l1.length
  · rw [List.drop_eq_getElem_cons h, cLs, if_pos (by omega)]
  · rw [List.drop_eq_nil_of_le (by omega : l1.length ≤ k), cLs, if_neg (by omega)]
set_option maxHeartbeats 2000000 in
set_option maxRecDepth 100000 in
theorem cmp85_calls (A0 : Option Addr) (c0 : Nat) (l0 : List S92) (A1 : Option Addr) (c1 : Nat) (l1 : List S92) (w : World) (hr0 : Kd.C k92 w A0 l0.length l0) (hr1 : Kd.C k92 w A1 l1.length l1) :
    Calls Try.prog 85 #[.slice A0 l0.length c0, .slice A1 l1.length c1, .func (.func 86) #[] #[]] w fun e w' => e = .returned (.int .i64 (cLs l0 l1)) ∧ Below w.heap.size w w' := by
  have HR0 := Aside0.mk hr0
  have HR1 := Aside0.mk hr1
  have hll : l0.length ≤ 9223372036854775807 := hr0.2.1
  have hl1 : l1.length ≤ 9223372036854775807 := hr1.2.1
  have eg := E86
  obtain ⟨r, hr⟩ : ∃ r, cLs l0 l1 = r := ⟨_, rfl⟩
  rw [hr]
  have H0 := Aside0.mk (show cLs (l0.drop 0) (l1.drop 0) = r by simpa using hr)
  clear hr0 hr1 hr
  have hF := Aside0.mk (Fr.Frame.start w)
  have HC : True := trivial
  go_enter Try.func85, Try.ntmps85
  go_wp2_with (first | ((with_reducible refine gate_store rfl ?_); apply Fr.fr_store hF.out rfl rfl rfl; (case hp => rfl); (case hx => first | (go_simp; rfl) | rfl); (case hu => (simp only [Value.cells]; rfl)); (case hs => (repeat (first | exact Fr.Spot.here _ _ | apply Fr.Spot.there))); (case ht => kernel_rfl); (case h1 => simp [Value.oneCell']); (case hfit => simp); intro W hF1; simp only [Fr.patch, List.take_zero, List.nil_append, List.drop, List.append_nil, List.take, List.cons_append, List.length_cons, List.length_nil, Nat.reduceAdd] at hF1; have HC1 := hF1.cells; simp only [Fr.Cells, List.length_cons, List.length_nil, Nat.reduceAdd, and_true] at HC1; clear hF HC; have HC := HC1; have hF := Aside0.mk hF1; clear hF1 HC1) | ((first | (with_reducible refine Fr.gate_alloc rfl ?_) | (with_reducible refine Fr.gate_box rfl ?_)); apply Fr.fr_box hF.out rfl; (case hrun => first | (go_simp; done) | (go_simp; rfl)); intro g W hF1; have HC1 := hF1.cells; simp only [Fr.Cells, List.length_cons, List.length_nil, Nat.reduceAdd, and_true] at HC1; clear hF HC; have HC := HC1; have hF := Aside0.mk hF1; clear hF1 HC1))
  go_loopg [13] l0.length (fun kq v13 w' => ∃ k : Nat, k ≤ l0.length ∧ k ≤ l1.length ∧ l0.length - k ≤ kq ∧ v13 = .int .i64 k ∧ Aside0 (cLs (l0.drop k) (l1.drop k) = r) ∧ Aside0 (Fr.Frame w w' [] []))
  case atStart => exact ⟨0, Nat.zero_le _, Nat.zero_le _, by omega, rfl, H0, hF⟩
  case round =>
    clear hF HC
    obtain ⟨k, hk, hk1, hg, rfl, HA, hF⟩ := hrel
    have HC : True := trivial
    by_cases hlt : k < l0.length
    · have hlti : (k : Int) < (l0.length : Int) := by omega
      obtain ⟨ad, e1, a0, a1⟩ := at_T92 HR0.out (k : Int) (by omega) hlti
      cases e1
      replace a0 := (hF.out.below.cell (World.block_lt_of_cell? w _ a0)).trans a0
      replace a1 := (hF.out.below.cell (World.block_lt_of_cell? w _ a1)).trans a1
      rw [Int.toNat_natCast] at a0 a1
      by_cases hlt1 : k < l1.length
      · have hlti1 : (k : Int) < (l1.length : Int) := by omega
        obtain ⟨ad1, e1, b0, b1⟩ := at_T92 HR1.out (k : Int) (by omega) hlti1
        cases e1
        rw [Int.toNat_natCast] at b0 b1
        have HB := Aside0.mk (fun (W' : World) (hb : Below w.heap.size w W') => And.intro ((hb.cell (World.block_lt_of_cell? w _ b0)).trans b0) ((hb.cell (World.block_lt_of_cell? w _ b1)).trans b1))
        clear b0 b1
        have b0 := (HB.out _ hF.out.below).1
        have b1 := (HB.out _ hF.out.below).2
        have kb0 := fun o => cell_al b0 o
        have kb1 := fun o => cell_al b1 o
        have HD := Aside0.mk (cLs_drop l0 l1 k hlt hlt1)
        have HCL := Aside0.mk (fun W => cmp86_calls (rd_T92 l0 (k : Nat)) (rd_T92 l1 (k : Nat)) W)
        obtain ⟨cl, hcl⟩ : ∃ cl, cL (rd_T92 l0 (k : Nat)) (rd_T92 l1 (k : Nat)) = cl := ⟨_, rfl⟩
        rw [hcl] at HD HCL
        rw [HD.out] at HA
        clear hcl HD
        go_wp2_with (first | ((with_reducible refine gate_store rfl ?_); apply Fr.fr_store hF.out rfl rfl rfl; (case hp => rfl); (case hx => first | (go_simp; rfl) | rfl); (case hu => (simp only [Value.cells]; rfl)); (case hs => (repeat (first | exact Fr.Spot.here _ _ | apply Fr.Spot.there))); (case ht => kernel_rfl); (case h1 => simp [Value.oneCell']); (case hfit => simp); intro W hF1; simp only [Fr.patch, List.take_zero, List.nil_append, List.drop, List.append_nil, List.take, List.cons_append, List.length_cons, List.length_nil, Nat.reduceAdd] at hF1; have HC1 := hF1.cells; simp only [Fr.Cells, List.length_cons, List.length_nil, Nat.reduceAdd, and_true] at HC1; clear hF HC; have HC := HC1; have hF := Aside0.mk hF1; clear hF1 HC1; clear b0 b1 kb0 kb1; have b0 := (HB.out _ hF.out.below).1; have b1 := (HB.out _ hF.out.below).2; have kb0 := fun o => cell_al b0 o; have kb1 := fun o => cell_al b1 o) | ((with_reducible refine gate_dst (N := 8) rfl ?_); apply Fr.fr_box hF.out rfl; (case hrun => first | (go_simp; done) | (go_simp; rfl)); intro g8 W hF1; have HC1 := hF1.cells; simp only [Fr.Cells, List.length_cons, List.length_nil, Nat.reduceAdd, and_true] at HC1; clear hF HC; have HC := HC1; have hF := Aside0.mk hF1; clear hF1 HC1; clear b0 b1 kb0 kb1; have b0 := (HB.out _ hF.out.below).1; have b1 := (HB.out _ hF.out.below).2; have kb0 := fun o => cell_al b0 o; have kb1 := fun o => cell_al b1 o) | ((first | (with_reducible refine Fr.gate_alloc rfl ?_) | (with_reducible refine Fr.gate_box rfl ?_)); apply Fr.fr_box hF.out rfl; (case hrun => first | (go_simp; done) | (go_simp; rfl)); intro g W hF1; have HC1 := hF1.cells; simp only [Fr.Cells, List.length_cons, List.length_nil, Nat.reduceAdd, and_true] at HC1; clear hF HC; have HC := HC1; have hF := Aside0.mk hF1; clear hF1 HC1; clear b0 b1 kb0 kb1; have b0 := (HB.out _ hF.out.below).1; have b1 := (HB.out _ hF.out.below).2; have kb0 := fun o => cell_al b0 o; have kb1 := fun o => cell_al b1 o))
        (go_at_fn 86; with_reducible refine (HCL.out _).mono ?_); rintro e W ⟨rfl, hb⟩; have hF1 := hF.out.call hb; clear hb; have HC1 := hF1.cells; simp only [Fr.Cells, List.length_cons, List.length_nil, Nat.reduceAdd, and_true] at HC1; clear hF HC; have HC := HC1; have hF := Aside0.mk hF1; clear hF1 HC1; clear b0 b1 kb0 kb1; have b0 := (HB.out _ hF.out.below).1; have b1 := (HB.out _ hF.out.below).2; have kb0 := fun o => cell_al b0 o; have kb1 := fun o => cell_al b1 o
        by_cases h0 : cl = 0
        · have HA1 := Aside0.mk (show cLs (l0.drop (k + 1)) (l1.drop (k + 1)) = r by rw [← HA.out, if_pos h0])
          clear HA
          subst h0
          go_wp2_with (first | ((with_reducible refine gate_store rfl ?_); apply Fr.fr_store hF.out rfl rfl rfl; (case hp => rfl); (case hx => first | (go_simp; rfl) | rfl); (case hu => (simp only [Value.cells]; rfl)); (case hs => (repeat (first | exact Fr.Spot.here _ _ | apply Fr.Spot.there))); (case ht => kernel_rfl); (case h1 => simp [Value.oneCell']); (case hfit => simp); intro W hF1; simp only [Fr.patch, List.take_zero, List.nil_append, List.drop, List.append_nil, List.take, List.cons_append, List.length_cons, List.length_nil, Nat.reduceAdd] at hF1; have HC1 := hF1.cells; simp only [Fr.Cells, List.length_cons, List.length_nil, Nat.reduceAdd, and_true] at HC1; clear hF HC; have HC := HC1; have hF := Aside0.mk hF1; clear hF1 HC1) | ((first | (with_reducible refine Fr.gate_alloc rfl ?_) | (with_reducible refine Fr.gate_box rfl ?_)); apply Fr.fr_box hF.out rfl; (case hrun => first | (go_simp; done) | (go_simp; rfl)); intro g W hF1; have HC1 := hF1.cells; simp only [Fr.Cells, List.length_cons, List.length_nil, Nat.reduceAdd, and_true] at HC1; clear hF HC; have HC := HC1; have hF := Aside0.mk hF1; clear hF1 HC1))
          go_roundg (l0.length - (k + 1))
          case measure => omega
          case rel => exact ⟨k + 1, by omega, by omega, by omega, by go_num, HA1, ⟨hF.out.drop.drop⟩⟩
        · obtain rfl : cl = r := by rw [← HA.out, if_neg h0]
          clear HA
          have h0b : (cl != 0) = true := by rw [bne_iff_ne]; exact h0
          go_wp2_with (first | ((with_reducible refine gate_store rfl ?_); apply Fr.fr_store hF.out rfl rfl rfl; (case hp => rfl); (case hx => first | (go_simp; rfl) | rfl); (case hu => (simp only [Value.cells]; rfl)); (case hs => (repeat (first | exact Fr.Spot.here _ _ | apply Fr.Spot.there))); (case ht => kernel_rfl); (case h1 => simp [Value.oneCell']); (case hfit => simp); intro W hF1; simp only [Fr.patch, List.take_zero, List.nil_append, List.drop, List.append_nil, List.take, List.cons_append, List.length_cons, List.length_nil, Nat.reduceAdd] at hF1; have HC1 := hF1.cells; simp only [Fr.Cells, List.length_cons, List.length_nil, Nat.reduceAdd, and_true] at HC1; clear hF HC; have HC := HC1; have hF := Aside0.mk hF1; clear hF1 HC1) | ((first | (with_reducible refine Fr.gate_alloc rfl ?_) | (with_reducible refine Fr.gate_box rfl ?_)); apply Fr.fr_box hF.out rfl; (case hrun => first | (go_simp; done) | (go_simp; rfl)); intro g W hF1; have HC1 := hF1.cells; simp only [Fr.Cells, List.length_cons, List.length_nil, Nat.reduceAdd, and_true] at HC1; clear hF HC; have HC := HC1; have hF := Aside0.mk hF1; clear hF1 HC1))
          go_ret
          exact ⟨rfl, hF.out.below⟩
      · have hle : k = l1.length := by omega
        obtain rfl : 1 = r := by rw [← HA.out, cLs_long l0 l1 k hlt hle]
        have hge : l1.length ≤ k := by omega
        clear HA hle
        go_wp2_with (first | ((with_reducible refine gate_store rfl ?_); apply Fr.fr_store hF.out rfl rfl rfl; (case hp => rfl); (case hx => first | (go_simp; rfl) | rfl); (case hu => (simp only [Value.cells]; rfl)); (case hs => (repeat (first | exact Fr.Spot.here _ _ | apply Fr.Spot.there))); (case ht => kernel_rfl); (case h1 => simp [Value.oneCell']); (case hfit => simp); intro W hF1; simp only [Fr.patch, List.take_zero, List.nil_append, List.drop, List.append_nil, List.take, List.cons_append, List.length_cons, List.length_nil, Nat.reduceAdd] at hF1; have HC1 := hF1.cells; simp only [Fr.Cells, List.length_cons, List.length_nil, Nat.reduceAdd, and_true] at HC1; clear hF HC; have HC := HC1; have hF := Aside0.mk hF1; clear hF1 HC1) | ((with_reducible refine gate_dst (N := 8) rfl ?_); apply Fr.fr_box hF.out rfl; (case hrun => first | (go_simp; done) | (go_simp; rfl)); intro g8 W hF1; have HC1 := hF1.cells; simp only [Fr.Cells, List.length_cons, List.length_nil, Nat.reduceAdd, and_true] at HC1; clear hF HC; have HC := HC1; have hF := Aside0.mk hF1; clear hF1 HC1) | ((first | (with_reducible refine Fr.gate_alloc rfl ?_) | (with_reducible refine Fr.gate_box rfl ?_)); apply Fr.fr_box hF.out rfl; (case hrun => first | (go_simp; done) | (go_simp; rfl)); intro g W hF1; have HC1 := hF1.cells; simp only [Fr.Cells, List.length_cons, List.length_nil, Nat.reduceAdd, and_true] at HC1; clear hF HC; have HC := HC1; have hF := Aside0.mk hF1; clear hF1 HC1))
        go_ret
        exact ⟨rfl, hF.out.below⟩
    · have hke : k = l0.length := by omega
      have HA1 := cLs_end l0 l1 k hke hk1
      rw [HA.out] at HA1
      clear HA
      subst hke
      by_cases hl : l0.length < l1.length
      · rw [if_pos hl] at HA1
        have hli : (l0.length : Int) < (l1.length : Int) := by omega
        subst HA1
        go_wp2_with (first | ((with_reducible refine gate_store rfl ?_); apply Fr.fr_store hF.out rfl rfl rfl; (case hp => rfl); (case hx => first | (go_simp; rfl) | rfl); (case hu => (simp only [Value.cells]; rfl)); (case hs => (repeat (first | exact Fr.Spot.here _ _ | apply Fr.Spot.there))); (case ht => kernel_rfl); (case h1 => simp [Value.oneCell']); (case hfit => simp); intro W hF1; simp only [Fr.patch, List.take_zero, List.nil_append, List.drop, List.append_nil, List.take, List.cons_append, List.length_cons, List.length_nil, Nat.reduceAdd] at hF1; have HC1 := hF1.cells; simp only [Fr.Cells, List.length_cons, List.length_nil, Nat.reduceAdd, and_true] at HC1; clear hF HC; have HC := HC1; have hF := Aside0.mk hF1; clear hF1 HC1) | ((first | (with_reducible refine Fr.gate_alloc rfl ?_) | (with_reducible refine Fr.gate_box rfl ?_)); apply Fr.fr_box hF.out rfl; (case hrun => first | (go_simp; done) | (go_simp; rfl)); intro g W hF1; have HC1 := hF1.cells; simp only [Fr.Cells, List.length_cons, List.length_nil, Nat.reduceAdd, and_true] at HC1; clear hF HC; have HC := HC1; have hF := Aside0.mk hF1; clear hF1 HC1))
        go_ret
        exact ⟨rfl, hF.out.below⟩
      · rw [if_neg hl] at HA1
        have hli : ¬ (l0.length : Int) < (l1.length : Int) := by omega
        subst HA1
        go_wp2_with (first | ((with_reducible refine gate_store rfl ?_); apply Fr.fr_store hF.out rfl rfl rfl; (case hp => rfl); (case hx => first | (go_simp; rfl) | rfl); (case hu => (simp only [Value.cells]; rfl)); (case hs => (repeat (first | exact Fr.Spot.here _ _ | apply Fr.Spot.there))); (case ht => kernel_rfl); (case h1 => simp [Value.oneCell']); (case hfit => simp); intro W hF1; simp only [Fr.patch, List.take_zero, List.nil_append, List.drop, List.append_nil, List.take, List.cons_append, List.length_cons, List.length_nil, Nat.reduceAdd] at hF1; have HC1 := hF1.cells; simp only [Fr.Cells, List.length_cons, List.length_nil, Nat.reduceAdd, and_true] at HC1; clear hF HC; have HC := HC1; have hF := Aside0.mk hF1; clear hF1 HC1) | ((first | (with_reducible refine Fr.gate_alloc rfl ?_) | (with_reducible refine Fr.gate_box rfl ?_)); apply Fr.fr_box hF.out rfl; (case hrun => first | (go_simp; done) | (go_simp; rfl)); intro g W hF1; have HC1 := hF1.cells; simp only [Fr.Cells, List.length_cons, List.length_nil, Nat.reduceAdd, and_true] at HC1; clear hF HC; have HC := HC1; have hF := Aside0.mk hF1; clear hF1 HC1))
        go_ret
        exact ⟨rfl, hF.out.below⟩
def ahB (ld : Int) (ll : List S92) (rd : Int) (rl : List S92) : Bool := decide (orI (cI ld rd) (cLs ll rl) < 0)
set_option maxHeartbeats 2000000 in
set_option maxRecDepth 100000 in
theorem ahead_calls (a : Dy) (A0 : Option Addr) (c0 : Nat) (b : Dy) (A1 : Option Addr) (c1 : Nat) (w : World) (hr0 : Kd.C k92 w A0 a.ls.length a.ls) (hr1 : Kd.C k92 w A1 b.ls.length b.ls) :
    Calls Try.prog 52 #[.agg #[.slice A0 a.ls.length c0, .int .i64 a.ro, .int .i64 a.pl, .int .i64 a.tr, .int .i64 a.due, .int .i64 a.st], .agg #[.slice A1 b.ls.length c1, .int .i64 b.ro, .int .i64 b.pl, .int .i64 b.tr, .int .i64 b.due, .int .i64 b.st]] w fun e w' => e = .returned (.bool (ahB a.due a.ls b.due b.ls)) ∧ Below w.heap.size w w' := by
  obtain ⟨la, ra, pa, ta, da, sa⟩ := a
  obtain ⟨lb, rb, pb, tb, db, sb⟩ := b
  dsimp only at hr0 hr1 ⊢
  unfold ahB
  have H85 := Aside0.mk (fun W (hb : Below w.heap.size w W) => cmp85_calls A0 c0 la A1 c1 lb W (Kd.C_below hr0 hb) (Kd.C_below hr1 hb))
  have H89 := Aside0.mk (cI_is da db)
  have H87 := Aside0.mk (or_is (cI da db) (cLs la lb))
  obtain ⟨u, hu⟩ : ∃ u, cI da db = u := ⟨_, rfl⟩
  obtain ⟨v, hv⟩ : ∃ v, cLs la lb = v := ⟨_, rfl⟩
  obtain ⟨o, ho⟩ : ∃ o, orI (cI da db) (cLs la lb) = o := ⟨_, rfl⟩
  rw [ho, hu, hv] at H87
  rw [hu] at H89
  rw [hv] at H85
  rw [ho]
  clear hu hv ho hr0 hr1
  obtain ⟨na, hna⟩ : ∃ na, la.length = na := ⟨_, rfl⟩
  obtain ⟨nb, hnb⟩ : ∃ nb, lb.length = nb := ⟨_, rfl⟩
  rw [hna, hnb] at H85 ⊢
  clear hna hnb
  have hF := Aside0.mk (Fr.Frame.start w)
  have HC : True := trivial
  go_enter Try.func52, Try.ntmps52
  go_wp2_with (first | ((with_reducible refine gate_store rfl ?_); apply Fr.fr_store hF.out rfl rfl rfl; (case hp => rfl); (case hx => first | (go_simp; rfl) | rfl); (case hu => (simp only [Value.cells]; rfl)); (case hs => (repeat (first | exact Fr.Spot.here _ _ | apply Fr.Spot.there))); (case ht => kernel_rfl); (case h1 => simp [Value.oneCell']); (case hfit => simp); intro W hF1; simp only [Fr.patch, List.take_zero, List.nil_append, List.drop, List.append_nil, List.take, List.cons_append, List.length_cons, List.length_nil, Nat.reduceAdd] at hF1; have HC1 := hF1.cells; simp only [Fr.Cells, List.length_cons, List.length_nil, Nat.reduceAdd, and_true] at HC1; clear hF HC; have HC := HC1; have hF := Aside0.mk hF1; clear hF1 HC1) | ((with_reducible refine gate_dst (N := 2) rfl ?_); apply Fr.fr_box hF.out rfl; (case hrun => first | (go_simp; done) | (go_simp; rfl)); intro ga W hF1; have HC1 := hF1.cells; simp only [Fr.Cells, List.length_cons, List.length_nil, Nat.reduceAdd, and_true] at HC1; clear hF HC; have HC := HC1; have hF := Aside0.mk hF1; clear hF1 HC1) | ((with_reducible refine gate_dst (N := 3) rfl ?_); apply Fr.fr_box hF.out rfl; (case hrun => first | (go_simp; done) | (go_simp; rfl)); intro gb W hF1; have HC1 := hF1.cells; simp only [Fr.Cells, List.length_cons, List.length_nil, Nat.reduceAdd, and_true] at HC1; clear hF HC; have HC := HC1; have hF := Aside0.mk hF1; clear hF1 HC1) | ((first | (with_reducible refine Fr.gate_alloc rfl ?_) | (with_reducible refine Fr.gate_box rfl ?_)); apply Fr.fr_box hF.out rfl; (case hrun => first | (go_simp; done) | (go_simp; rfl)); intro g W hF1; have HC1 := hF1.cells; simp only [Fr.Cells, List.length_cons, List.length_nil, Nat.reduceAdd, and_true] at HC1; clear hF HC; have HC := HC1; have hF := Aside0.mk hF1; clear hF1 HC1))
  (with_reducible refine (H85.out _ hF.out.below).mono ?_); rintro e W ⟨rfl, hb⟩; have hF1 := hF.out.call hb; clear hb; have HC1 := hF1.cells; simp only [Fr.Cells, List.length_cons, List.length_nil, Nat.reduceAdd, and_true] at HC1; clear hF HC; have HC := HC1; have hF := Aside0.mk hF1; clear hF1 HC1
  go_wp2_with (first | ((with_reducible refine gate_store rfl ?_); apply Fr.fr_store hF.out rfl rfl rfl; (case hp => rfl); (case hx => first | (go_simp; rfl) | rfl); (case hu => (simp only [Value.cells]; rfl)); (case hs => (repeat (first | exact Fr.Spot.here _ _ | apply Fr.Spot.there))); (case ht => kernel_rfl); (case h1 => simp [Value.oneCell']); (case hfit => simp); intro W hF1; simp only [Fr.patch, List.take_zero, List.nil_append, List.drop, List.append_nil, List.take, List.cons_append, List.length_cons, List.length_nil, Nat.reduceAdd] at hF1; have HC1 := hF1.cells; simp only [Fr.Cells, List.length_cons, List.length_nil, Nat.reduceAdd, and_true] at HC1; clear hF HC; have HC := HC1; have hF := Aside0.mk hF1; clear hF1 HC1) | ((first | (with_reducible refine Fr.gate_alloc rfl ?_) | (with_reducible refine Fr.gate_box rfl ?_)); apply Fr.fr_box hF.out rfl; (case hrun => first | (go_simp; done) | (go_simp; rfl)); intro g W hF1; have HC1 := hF1.cells; simp only [Fr.Cells, List.length_cons, List.length_nil, Nat.reduceAdd, and_true] at HC1; clear hF HC; have HC := HC1; have hF := Aside0.mk hF1; clear hF1 HC1))
  (with_reducible refine (cmp_Compare_int.calls da db u _ H89.out).mono ?_); rintro e W ⟨rfl, hb⟩; have hF1 := hF.out.call hb.below; clear hb; have HC1 := hF1.cells; simp only [Fr.Cells, List.length_cons, List.length_nil, Nat.reduceAdd, and_true] at HC1; clear hF HC; have HC := HC1; have hF := Aside0.mk hF1; clear hF1 HC1
  go_wp2_with (first | ((with_reducible refine gate_store rfl ?_); apply Fr.fr_store hF.out rfl rfl rfl; (case hp => rfl); (case hx => first | (go_simp; rfl) | rfl); (case hu => (simp only [Value.cells]; rfl)); (case hs => (repeat (first | exact Fr.Spot.here _ _ | apply Fr.Spot.there))); (case ht => kernel_rfl); (case h1 => simp [Value.oneCell']); (case hfit => simp); intro W hF1; simp only [Fr.patch, List.take_zero, List.nil_append, List.drop, List.append_nil, List.take, List.cons_append, List.length_cons, List.length_nil, Nat.reduceAdd] at hF1; have HC1 := hF1.cells; simp only [Fr.Cells, List.length_cons, List.length_nil, Nat.reduceAdd, and_true] at HC1; clear hF HC; have HC := HC1; have hF := Aside0.mk hF1; clear hF1 HC1) | ((first | (with_reducible refine Fr.gate_alloc rfl ?_) | (with_reducible refine Fr.gate_box rfl ?_)); apply Fr.fr_box hF.out rfl; (case hrun => first | (go_simp; done) | (go_simp; rfl)); intro g W hF1; have HC1 := hF1.cells; simp only [Fr.Cells, List.length_cons, List.length_nil, Nat.reduceAdd, and_true] at HC1; clear hF HC; have HC := HC1; have hF := Aside0.mk hF1; clear hF1 HC1))
  have hF2 := hF.out.alloc [.int .i64 u, .int .i64 v] 3
  (with_reducible refine (or87_calls (some ⟨_, 0, none⟩) u v o _ (two_C hF2 (List.Mem.head _)) H87.out).mono ?_)
  rintro e W2 ⟨rfl, hd⟩
  have hF1 := hF2.call hd.below
  clear hd hF2
  have HC1 := hF1.cells; simp only [Fr.Cells, List.length_cons, List.length_nil, Nat.reduceAdd, and_true] at HC1; clear hF HC; have HC := HC1; have hF := Aside0.mk hF1; clear hF1 HC1
  go_wp2_with (first | ((with_reducible refine gate_store rfl ?_); apply Fr.fr_store hF.out rfl rfl rfl; (case hp => rfl); (case hx => first | (go_simp; rfl) | rfl); (case hu => (simp only [Value.cells]; rfl)); (case hs => (repeat (first | exact Fr.Spot.here _ _ | apply Fr.Spot.there))); (case ht => kernel_rfl); (case h1 => simp [Value.oneCell']); (case hfit => simp); intro W hF1; simp only [Fr.patch, List.take_zero, List.nil_append, List.drop, List.append_nil, List.take, List.cons_append, List.length_cons, List.length_nil, Nat.reduceAdd] at hF1; have HC1 := hF1.cells; simp only [Fr.Cells, List.length_cons, List.length_nil, Nat.reduceAdd, and_true] at HC1; clear hF HC; have HC := HC1; have hF := Aside0.mk hF1; clear hF1 HC1) | ((first | (with_reducible refine Fr.gate_alloc rfl ?_) | (with_reducible refine Fr.gate_box rfl ?_)); apply Fr.fr_box hF.out rfl; (case hrun => first | (go_simp; done) | (go_simp; rfl)); intro g W hF1; have HC1 := hF1.cells; simp only [Fr.Cells, List.length_cons, List.length_nil, Nat.reduceAdd, and_true] at HC1; clear hF HC; have HC := HC1; have hF := Aside0.mk hF1; clear hF1 HC1))
  go_ret
  exact ⟨rfl, hF.out.below⟩
end Go.Proofs.Ytkphinfijppkeaa.G
