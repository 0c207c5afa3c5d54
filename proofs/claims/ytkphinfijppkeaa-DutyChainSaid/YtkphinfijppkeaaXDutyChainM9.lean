/- Contracts of functions of the given program, and what they come to, for any arguments. No condition beyond each theorem's own premises. -/
import Derived.Test.YtkphinfijppkeaaXDutyChainM0
namespace Go.Proofs.Ytkphinfijppkeaa.G
open Go.RowKit Go.Proofs.YtkphinfijppkeaaW.PrintWords Go.Proofs.YtkphinfijppkeaaW.PrintLast Go.Proofs.YtkphinfijppkeaaW.PrintMore
attribute [local go_sem] max2_int min2_int max_two min_two max_three min_three max_four min_four   -- for this text's walks alone
set_option linter.unusedVariables false
set_option linter.unusedSimpArgs false
attribute [local go_sem] Oper.semAt_some
open Go.Shelf
abbrev encIS (b0 : Int) (i : Nat) : Array Value := #[.int .i64 i, .int .i64 (b0 * 2 ^ i)]
def Doubles (b0 b1 : Int) (K : Nat) : Prop := 1 ≤ b0 ∧ b1 ≤ 1073741824 ∧ b0 ≤ b1 ∧ (∀ i, i < K → b0 * 2 ^ i < b1) ∧ ¬ b0 * 2 ^ K < b1
theorem Doubles.bound {b0 b1 : Int} {K : Nat} (h : Doubles b0 b1 K) (i : Nat) (hi : i ≤ K) : 1 ≤ b0 * 2 ^ i ∧ b0 * 2 ^ i ≤ 2147483648 := by
  obtain ⟨h1, h2, h3, h4, h5⟩ := h
  have hp : ∀ i : Nat, (1 : Int) ≤ 2 ^ i := fun i => by
    have := Int.pow_pos (n := 2) (m := i) (by omega)
    omega
  have hlo : 1 ≤ b0 * 2 ^ i := by
    have : 1 * 1 ≤ b0 * 2 ^ i := Int.mul_le_mul h1 (hp i) (by omega) (by omega)
    omega
  refine ⟨hlo, ?_⟩
  cases i with
  | zero => simp; omega
  | succ j =>
    have := h4 j (by omega)
    rw [Int.pow_succ, ← Int.mul_assoc]
    omega
theorem Doubles.le {b0 b1 : Int} {K : Nat} (h : Doubles b0 b1 K) : K ≤ 31 := by
  obtain ⟨h1, h2, h3, h4, h5⟩ := h
  rcases Nat.lt_or_ge 31 K with hk | hk
  · have := h4 31 hk
    have e : (2 : Int) ^ 31 = 2147483648 := by decide
    rw [e] at this
    omega
  · exact hk
def KeepB (Bb : Nat) (A B : World) : Prop := B.heap[Bb]? = A.heap[Bb]?
set_option maxHeartbeats 1000000 in
theorem steps_stopsB (F : Fence) (n : Nat) (hf : F.fn 118) (hro : F.round = none) (hn : 1 ≤ n) (Bb : Nat) (b0 b1 b2 : Int) (K : Nat) (hK : Doubles b0 b1 K) (w : World) (hlt : Bb < w.heap.size)
    (hb : w.heap[Bb]? = some (.cells #[.int .i64 b0, .int .i64 b1, .int .i64 b2] 74 (0, 0))) :
    SeqStopsK F n Try.prog 118 #[.pointer (some ⟨Bb, 0, none⟩)] (encIS b0) (KeepB Bb) (fun xs => xs = List.range K) (fun pre => ∃ m, 1 ≤ m ∧ m ≤ K ∧ pre = List.range m) K w := fun l J Jx W hW hJ hJx hY h0 => by
  have hbW : W.heap[Bb]? = some (.cells #[.int .i64 b0, .int .i64 b1, .int .i64 b2] 74 (0, 0)) := (hW.block Bb hlt).trans hb
  have hc0 : W.cell? ⟨Bb, 0, none⟩ = some (.int .i64 b0) := (blk_cell hbW 0).trans rfl
  have hc1 : W.cell? ⟨Bb, 1, none⟩ = some (.int .i64 b1) := (blk_cell hbW 1).trans rfl
  have HK := Aside0.mk hK
  have HW := Aside0.mk hbW
  clear hb hbW hW hK
  refine callsIn_of_wp Try.func118 rfl hf ?_ hro
  simp only [Try.ntmps118, List.size_toArray, List.length_cons, List.length_nil, Nat.reduceAdd, Nat.reduceSub, Array.replicate_succ, Array.replicate_zero, List.push_toArray, List.append_toArray, List.nil_append, List.cons_append]
  gi_wp2
  gi_region
  all_goals
    have h0' : J [] W.drew := by
      refine hJ _ _ _ none h0 ⟨rfl, rfl, rfl, Nat.le_refl _, fun _ _ _ => rfl⟩ (fun r e => by cases e)
    have HY := Aside0.mk hY
    clear hY h0
    gi_wp2
    gi_loopw [3, 4] (fun s3 s4 wr => ∃ i : Nat, i ≤ K ∧ s3 = .int .i64 i ∧ s4 = .int .i64 (b0 * 2 ^ i) ∧ J (List.range i) wr ∧ KeepB Bb W wr) (fun s3 _ _ => K - (intOf s3).toNat)
    case atStart => exact ⟨0, Nat.zero_le _, rfl, by simp, h0', rfl⟩
    case round =>
      obtain ⟨i, hi, rfl, rfl, hJs, hB⟩ := hrel
      have c1 : wr.cell? ⟨Bb, 1, none⟩ = some (.int .i64 b1) := (blk_cell (Eq.trans hB HW.out) 1).trans rfl
      obtain ⟨k1, k2⟩ := HK.out.bound i hi
      by_cases hlt2 : i < K
      · have h4 : b0 * 2 ^ i < b1 := HK.out.2.2.2.1 i hlt2
        obtain ⟨fn, tmps, assign, body, hy, hR⟩ := HY.out (List.range i) i wr hJs (by simp; exact hlt2)
        dsimp only [encIS] at hy
        obtain ⟨z, hz⟩ : ∃ z, b0 * 2 ^ i = z := ⟨_, rfl⟩
        have HZ := Aside0.mk hz
        rw [hz] at hy k1 k2 h4 ⊢
        clear hz
        have h31 : i ≤ 31 := Nat.le_trans hi HK.out.le
        gi_wp2
        refine hR.mono ?_
        rintro e W3 (⟨rfl, hJ3, hk3⟩ | ⟨rfl, hJx3⟩)
        · have c1' : W3.cell? ⟨Bb, 1, none⟩ = some (.int .i64 b1) := (blk_cell (Eq.trans hk3 (Eq.trans hB HW.out)) 1).trans rfl
          gi_wp2
          go_roundw
          case rel => exact ⟨i + 1, by omega, by go_num, by rw [Int.pow_succ, ← Int.mul_assoc, HZ.out]; congr 1; omega, by rw [List.range_succ]; exact hJ3, Eq.trans hk3 hB⟩
          case measure => simp [intOf]; omega
        · gi_wp2
          go_end0
          exact ⟨⟨_, rfl⟩, .inr ⟨_, ⟨i + 1, by omega, by omega, rfl⟩, by rw [List.range_succ]; exact hJx3⟩⟩
      · have : i = K := by omega
        subst this
        have h5 := HK.out.2.2.2.2
        have h5' : b1 ≤ b0 * 2 ^ i := by omega
        clear h5
        gi_wp2
        refine ⟨fun _ h => (by cases h), ?_⟩
        gi_wp2
        go_end0
        exact ⟨⟨_, rfl⟩, .inl ⟨_, rfl, hJs⟩⟩
theorem steps_stops (F : Fence) (n : Nat) (hf : F.fn 118) (hro : F.round = none) (hn : 1 ≤ n) (Bb n₀ : Nat) (b0 b1 b2 : Int) (K : Nat) (hK : Doubles b0 b1 K) (w : World) (hn₀ : n₀ ≤ w.heap.size) (hlt : Bb < n₀)
    (hb : w.heap[Bb]? = some (.cells #[.int .i64 b0, .int .i64 b1, .int .i64 b2] 74 (0, 0))) :
    SeqStopsK F n Try.prog 118 #[.pointer (some ⟨Bb, 0, none⟩)] (encIS b0) (Below n₀) (fun xs => xs = List.range K) (fun pre => ∃ m, 1 ≤ m ∧ m ≤ K ∧ pre = List.range m) K w :=
  fun l J Jx W hW hJ hJx hY h0 => steps_stopsB F n hf hro hn Bb b0 b1 b2 K hK w (by omega) hb l J Jx W hW hJ hJx (fun pre x W1 h1 h2 => (hY pre x W1 h1 h2).mono fun e W' h => h.imp (fun h => ⟨h.1, h.2.1, h.2.2.block Bb hlt⟩) id) h0
theorem Doubles.no {b0 b1 : Int} {K : Nat} (h : Doubles b0 b1 K) (i : Nat) (hi : K ≤ i) : ¬ b0 * 2 ^ i < b1 := by
  obtain ⟨h1, h2, h3, h4, h5⟩ := h
  induction hi with
  | refl => exact h5
  | step hi ih =>
    rename_i m
    rw [Int.pow_succ, ← Int.mul_assoc]
    have : 0 ≤ b0 * 2 ^ m := Int.mul_nonneg (by omega) (by have := Int.pow_pos (n := 2) (m := m) (by omega); omega)
    omega
theorem steps_calls (b0 b1 b2 : Int) (w : World) : Calls Try.prog 81 #[.agg #[.int .i64 b0, .int .i64 b1, .int .i64 b2]] w fun e w' => e = .returned (.func (.func 118) #[] #[.pointer (some ⟨w.heap.size, 0, none⟩)]) ∧ w.alloc (.cells #[.int .i64 b0, .int .i64 b1, .int .i64 b2] 74) = w' := by
  have hmf : ∀ (fn : Fn) (first cap : Array Value) (w : World), (Instr.makeFunc fn first cap).run Try.prog w = .ok (.func fn first cap) w := fun _ _ _ _ => rfl
  go_enter Try.func81, Try.ntmps81
  go_wp2
  go_ret
  exact ⟨rfl, rfl⟩
def BackMay (b0 b1 b2 : Int) : Prop := (1 ≤ b0 ∧ b0 ≤ 1048576) ∧ (b0 ≤ b1 ∧ b1 ≤ 1073741824) ∧ 0 ≤ b2 ∧ b2 ≤ 1048576
def kOf (b0 b1 : Int) : Nat := (List.range 40).findIdx fun i => decide (b1 ≤ b0 * 2 ^ i)
theorem kOf_doubles {b0 b1 b2 : Int} (h : BackMay b0 b1 b2) : Doubles b0 b1 (kOf b0 b1) := by
  obtain ⟨⟨h1, h2⟩, ⟨h3, h4⟩, h5, h6⟩ := h
  have hlt : kOf b0 b1 < (List.range 40).length := by
    unfold kOf
    rw [List.findIdx_lt_length]
    refine ⟨31, by simp, ?_⟩
    have : (2 : Int) ^ 31 = 2147483648 := by decide
    rw [decide_eq_true_eq, this]
    omega
  refine ⟨h1, h4, h3, fun i hi => ?_, ?_⟩
  · have := List.not_of_lt_findIdx (p := fun i => decide (b1 ≤ b0 * 2 ^ i)) (xs := List.range 40) (i := i) hi
    rw [List.getElem_range] at this
    simp only [Bool.not_eq_true, decide_eq_false_iff_not] at this
    omega
  · have hlt2 : (List.range 40).findIdx (fun i => decide (b1 ≤ b0 * 2 ^ i)) < (List.range 40).length := hlt
    have := List.findIdx_getElem (p := fun i => decide (b1 ≤ b0 * 2 ^ i)) (xs := List.range 40) (w := hlt2)
    simp only [List.getElem_range, decide_eq_true_eq] at this
    unfold kOf
    omega
instance (b0 b1 b2 : Int) : Decidable (BackMay b0 b1 b2) := by unfold BackMay; infer_instance
end Go.Proofs.Ytkphinfijppkeaa.G
