/- Contracts of functions of the given program, each proved by a walk of its code: written by gprint.py, this session's program round the kit's print; texts of our own stand among the printed ones. No condition beyond each theorem's own premises. -/
import Derived.Test.YtkkopknlhijgiaaG0
namespace Go.Proofs.Ytkkopknlhijgiaa.G
open Go.RowKit Go.Proofs.YtkkopknlhijgiaaW.PrintWords Go.Proofs.YtkkopknlhijgiaaW.PrintLast Go.Proofs.YtkkopknlhijgiaaW.PrintMore
attribute [local go_sem] max2_int min2_int max_two min_two max_three min_three max_four min_four   -- for this text's walks alone
set_option linter.unusedVariables false
set_option linter.unusedSimpArgs false

/-! ### backoff_in: function 68 -/
def backoff_in.f (a0 : Int) (a1 : Int) (a2 : Int) : Option (Bool) := if a0 ≥ a1 then (some (decide (a0 ≤ a2))) else (some false)
set_option maxHeartbeats 8000000 in
set_option maxRecDepth 100000 in
theorem backoff_in.calls (a0 : Int) (a1 : Int) (a2 : Int) (r : Bool) (w : World) (h : backoff_in.f a0 a1 a2 = some r) :
    Calls Try.prog 68 #[.int .i64 a0, .int .i64 a1, .int .i64 a2] w fun e w' => e = .returned (.bool r) ∧ Drawn0 w w' := by
  have H : (if a0 ≥ a1 then (some (decide (a0 ≤ a2))) else (some false)) = some r := h
  clear h
  by_cases c4 : a0 ≥ a1
  · rw [if_pos c4] at H
    have c4b0 : decide (a1 ≤ a0) = true := decide_eq_true c4
    clear c4
    obtain rfl := Option.some.inj H
    go_enter Try.func68, Try.ntmps68
    go_wp2
    go_ret
    exact ⟨by first | rfl | (simp; done) | (simp [*]; done), by repeat (first | exact Drawn0.refl _ | apply Drawn0.step)⟩
  · rw [if_neg c4] at H
    have c4b0 : decide (a1 ≤ a0) = false := decide_eq_false c4
    clear c4
    obtain rfl := Option.some.inj H
    go_enter Try.func68, Try.ntmps68
    go_wp2
    go_ret
    exact ⟨by first | rfl | (simp; done) | (simp [*]; done), by repeat (first | exact Drawn0.refl _ | apply Drawn0.step)⟩

/-! ### backoff_Right: function 44 -/
def backoff_Right.f (a0_0 : Int) (a0_1 : Int) (a0_2 : Int) : Option (Bool) := (backoff_in.f a0_0 1 1048576).bind fun t408 => (if t408 = true then ((backoff_in.f a0_1 a0_0 1073741824).bind fun t409 => (if t409 = true then ((backoff_in.f a0_2 0 1048576).bind fun t410 => (some t410)) else (some false))) else (some false))
set_option maxHeartbeats 8000000 in
set_option maxRecDepth 100000 in
theorem backoff_Right.calls (a0_0 : Int) (a0_1 : Int) (a0_2 : Int) (r : Bool) (w : World) (h : backoff_Right.f a0_0 a0_1 a0_2 = some r) :
    Calls Try.prog 44 #[.agg #[.int .i64 a0_0, .int .i64 a0_1, .int .i64 a0_2]] w fun e w' => e = .returned (.bool r) ∧ Below w.heap.size w w' := by
  have hu23 := Try.underlying23
  have HB := Aside0.mk (Below.refl w.heap.size w)
  have H : ((backoff_in.f a0_0 1 1048576).bind fun t408 => (if t408 = true then ((backoff_in.f a0_1 a0_0 1073741824).bind fun t409 => (if t409 = true then ((backoff_in.f a0_2 0 1048576).bind fun t410 => (some t410)) else (some false))) else (some false))) = some r := h
  clear h
  replace H := Option.bind_eq_some_iff.mp H
  obtain ⟨t408, A20, H⟩ := H
  replace H : (if t408 = true then ((backoff_in.f a0_1 a0_0 1073741824).bind fun t409 => (if t409 = true then ((backoff_in.f a0_2 0 1048576).bind fun t410 => (some t410)) else (some false))) else (some false)) = some r := H
  have A2 := Aside0.mk A20
  clear A20
  by_cases c3 : t408 = true
  · subst c3
    have H1 : ((backoff_in.f a0_1 a0_0 1073741824).bind fun t409 => (if t409 = true then ((backoff_in.f a0_2 0 1048576).bind fun t410 => (some t410)) else (some false))) = some r := by rw [if_pos rfl] at H; exact H
    clear H
    have H := H1
    clear H1
    replace H := Option.bind_eq_some_iff.mp H
    obtain ⟨t409, A40, H⟩ := H
    replace H : (if t409 = true then ((backoff_in.f a0_2 0 1048576).bind fun t410 => (some t410)) else (some false)) = some r := H
    have A4 := Aside0.mk A40
    clear A40
    by_cases c5 : t409 = true
    · subst c5
      have H1 : ((backoff_in.f a0_2 0 1048576).bind fun t410 => (some t410)) = some r := by rw [if_pos rfl] at H; exact H
      clear H
      have H := H1
      clear H1
      replace H := Option.bind_eq_some_iff.mp H
      obtain ⟨t410, A60, H⟩ := H
      replace H : (some t410) = some r := H
      have A6 := Aside0.mk A60
      clear A60
      obtain rfl := Option.some.inj H
      go_enter Try.func44, Try.ntmps44
      go_wp2_with (first | ((with_reducible refine gate_dst (N := 1) rfl ?_); refine box_event ?hg (N := 1) ?hd (cs := #[.int .i64 a0_0, .int .i64 a0_1, .int .i64 a0_2]) (t := 23) ?hr ?_; (case hd => rfl); (case hg => rfl); (case hr => first | (go_simp; done) | (go_simp; rfl)); intro gb407 hg w7 hbox hb; have n0_ := Aside0.mk (below_step (by repeat (first | (with_reducible first | exact HB.out | apply below_alloc | apply pw_below_drewN | apply below_drew1) | exact HB.out)) hb); have n1_ := Aside0.mk (hbox); have n2_ := Aside0.mk ((by rw [hg]; exact (below_size (by repeat (first | (with_reducible first | exact HB.out | apply below_alloc | apply pw_below_drewN | apply below_drew1) | exact HB.out))) : w.heap.size ≤ gb407)); have n3_ := Aside0.mk ((by rw [hg]; exact (below_size (by repeat (first | (with_reducible first | exact HB.out | apply below_alloc | apply pw_below_drewN | apply below_drew1) | exact HB.out))) : w.heap.size ≤ gb407)); clear HB; have HB := n0_; have BK407 := n1_; have GW407 := n2_; have GE407 := n3_; clear n0_ n1_ n2_ n3_; clear hb hbox hg; have hcz8_0 : w7.cell? ⟨gb407, 0, none⟩ = some (.int .i64 a0_0) := (blk_cell BK407.out 0).trans rfl; have hcz8_1 : w7.cell? ⟨gb407, 1, none⟩ = some (.int .i64 a0_1) := (blk_cell BK407.out 1).trans rfl; have hcz8_2 : w7.cell? ⟨gb407, 2, none⟩ = some (.int .i64 a0_2) := (blk_cell BK407.out 2).trans rfl; have hfz8_0 := blk_frozen BK407.out 0; have hfz8_1 := blk_frozen BK407.out 1; have hfz8_2 := blk_frozen BK407.out 2) | ((with_reducible refine gate_callee (f := 68) rfl ?_); refine goesL_ (some 5) rfl rfl Try.func68 (by kernel_rfl) rfl #[.int .i64 a0_0, .int .i64 1, .int .i64 1048576] rfl (by (try simp only [List.map_toArray, List.map_cons, List.map_nil]); first | done | rfl | (simp only [List.length_drop, List.length_take]; rfl)) ?_; (with_reducible refine (backoff_in.calls a0_0 1 1048576 true _ A2.out).mono ?_); rintro e w' ⟨rfl, ⟨nd, rfl⟩⟩; refine ⟨_, rfl, ?_⟩) | (go_at_call 68; (with_reducible refine (backoff_in.calls a0_1 a0_0 1073741824 true _ A4.out).mono ?_); rintro e w' ⟨rfl, ⟨nd, rfl⟩⟩) | (go_at_call 68; (with_reducible refine (backoff_in.calls a0_2 0 1048576 t410 _ A6.out).mono ?_); rintro e w' ⟨rfl, ⟨nd, rfl⟩⟩))
      go_ret
      exact ⟨by first | rfl | (simp [errW_none, errW_some] <;> rfl) | (simp [*, errW_none, errW_some] <;> rfl), by repeat (first | (with_reducible first | exact HB.out | apply below_alloc | apply pw_below_drewN | apply below_drew1 | refine below_set ?_ GE407.out) | exact HB.out)⟩
    · replace c5 := Bool.eq_false_iff.mpr c5
      subst c5
      have H1 : (some false) = some r := by rw [if_neg (show ¬ (false = true) by decide)] at H; exact H
      clear H
      have H := H1
      clear H1
      obtain rfl := Option.some.inj H
      go_enter Try.func44, Try.ntmps44
      go_wp2_with (first | ((with_reducible refine gate_dst (N := 1) rfl ?_); refine box_event ?hg (N := 1) ?hd (cs := #[.int .i64 a0_0, .int .i64 a0_1, .int .i64 a0_2]) (t := 23) ?hr ?_; (case hd => rfl); (case hg => rfl); (case hr => first | (go_simp; done) | (go_simp; rfl)); intro gb407 hg w9 hbox hb; have n0_ := Aside0.mk (below_step (by repeat (first | (with_reducible first | exact HB.out | apply below_alloc | apply pw_below_drewN | apply below_drew1) | exact HB.out)) hb); have n1_ := Aside0.mk (hbox); have n2_ := Aside0.mk ((by rw [hg]; exact (below_size (by repeat (first | (with_reducible first | exact HB.out | apply below_alloc | apply pw_below_drewN | apply below_drew1) | exact HB.out))) : w.heap.size ≤ gb407)); have n3_ := Aside0.mk ((by rw [hg]; exact (below_size (by repeat (first | (with_reducible first | exact HB.out | apply below_alloc | apply pw_below_drewN | apply below_drew1) | exact HB.out))) : w.heap.size ≤ gb407)); clear HB; have HB := n0_; have BK407 := n1_; have GW407 := n2_; have GE407 := n3_; clear n0_ n1_ n2_ n3_; clear hb hbox hg; have hcz10_0 : w9.cell? ⟨gb407, 0, none⟩ = some (.int .i64 a0_0) := (blk_cell BK407.out 0).trans rfl; have hcz10_1 : w9.cell? ⟨gb407, 1, none⟩ = some (.int .i64 a0_1) := (blk_cell BK407.out 1).trans rfl; have hcz10_2 : w9.cell? ⟨gb407, 2, none⟩ = some (.int .i64 a0_2) := (blk_cell BK407.out 2).trans rfl; have hfz10_0 := blk_frozen BK407.out 0; have hfz10_1 := blk_frozen BK407.out 1; have hfz10_2 := blk_frozen BK407.out 2) | ((with_reducible refine gate_callee (f := 68) rfl ?_); refine goesL_ (some 5) rfl rfl Try.func68 (by kernel_rfl) rfl #[.int .i64 a0_0, .int .i64 1, .int .i64 1048576] rfl (by (try simp only [List.map_toArray, List.map_cons, List.map_nil]); first | done | rfl | (simp only [List.length_drop, List.length_take]; rfl)) ?_; (with_reducible refine (backoff_in.calls a0_0 1 1048576 true _ A2.out).mono ?_); rintro e w' ⟨rfl, ⟨nd, rfl⟩⟩; refine ⟨_, rfl, ?_⟩) | (go_at_call 68; (with_reducible refine (backoff_in.calls a0_1 a0_0 1073741824 false _ A4.out).mono ?_); rintro e w' ⟨rfl, ⟨nd, rfl⟩⟩))
      go_ret
      exact ⟨by first | rfl | (simp [errW_none, errW_some] <;> rfl) | (simp [*, errW_none, errW_some] <;> rfl), by repeat (first | (with_reducible first | exact HB.out | apply below_alloc | apply pw_below_drewN | apply below_drew1 | refine below_set ?_ GE407.out) | exact HB.out)⟩
  · replace c3 := Bool.eq_false_iff.mpr c3
    subst c3
    have H1 : (some false) = some r := by rw [if_neg (show ¬ (false = true) by decide)] at H; exact H
    clear H
    have H := H1
    clear H1
    obtain rfl := Option.some.inj H
    go_enter Try.func44, Try.ntmps44
    go_wp2_with (first | ((with_reducible refine gate_dst (N := 1) rfl ?_); refine box_event ?hg (N := 1) ?hd (cs := #[.int .i64 a0_0, .int .i64 a0_1, .int .i64 a0_2]) (t := 23) ?hr ?_; (case hd => rfl); (case hg => rfl); (case hr => first | (go_simp; done) | (go_simp; rfl)); intro gb407 hg w11 hbox hb; have n0_ := Aside0.mk (below_step (by repeat (first | (with_reducible first | exact HB.out | apply below_alloc | apply pw_below_drewN | apply below_drew1) | exact HB.out)) hb); have n1_ := Aside0.mk (hbox); have n2_ := Aside0.mk ((by rw [hg]; exact (below_size (by repeat (first | (with_reducible first | exact HB.out | apply below_alloc | apply pw_below_drewN | apply below_drew1) | exact HB.out))) : w.heap.size ≤ gb407)); have n3_ := Aside0.mk ((by rw [hg]; exact (below_size (by repeat (first | (with_reducible first | exact HB.out | apply below_alloc | apply pw_below_drewN | apply below_drew1) | exact HB.out))) : w.heap.size ≤ gb407)); clear HB; have HB := n0_; have BK407 := n1_; have GW407 := n2_; have GE407 := n3_; clear n0_ n1_ n2_ n3_; clear hb hbox hg; have hcz12_0 : w11.cell? ⟨gb407, 0, none⟩ = some (.int .i64 a0_0) := (blk_cell BK407.out 0).trans rfl; have hcz12_1 : w11.cell? ⟨gb407, 1, none⟩ = some (.int .i64 a0_1) := (blk_cell BK407.out 1).trans rfl; have hcz12_2 : w11.cell? ⟨gb407, 2, none⟩ = some (.int .i64 a0_2) := (blk_cell BK407.out 2).trans rfl; have hfz12_0 := blk_frozen BK407.out 0; have hfz12_1 := blk_frozen BK407.out 1; have hfz12_2 := blk_frozen BK407.out 2) | ((with_reducible refine gate_callee (f := 68) rfl ?_); refine goesL_ (some 5) rfl rfl Try.func68 (by kernel_rfl) rfl #[.int .i64 a0_0, .int .i64 1, .int .i64 1048576] rfl (by (try simp only [List.map_toArray, List.map_cons, List.map_nil]); first | done | rfl | (simp only [List.length_drop, List.length_take]; rfl)) ?_; (with_reducible refine (backoff_in.calls a0_0 1 1048576 false _ A2.out).mono ?_); rintro e w' ⟨rfl, ⟨nd, rfl⟩⟩; refine ⟨_, rfl, ?_⟩))
    go_ret
    exact ⟨by first | rfl | (simp [errW_none, errW_some] <;> rfl) | (simp [*, errW_none, errW_some] <;> rfl), by repeat (first | (with_reducible first | exact HB.out | apply below_alloc | apply pw_below_drewN | apply below_drew1 | refine below_set ?_ GE407.out) | exact HB.out)⟩

/-! ### backoff_steps: function 53 -/
attribute [local go_sem] Oper.semAt_some
open Go.Shelf
abbrev encIS (b0 : Int) (i : Nat) : Array Value := #[.int .i64 i, .int .i64 (b0 * 2 ^ i)]

/-- Below a top there are so many doublings. -/
def Doubles (b0 b1 : Int) (K : Nat) : Prop := 1 ≤ b0 ∧ b1 ≤ 1073741824 ∧ b0 ≤ b1 ∧ (∀ i, i < K → b0 * 2 ^ i < b1) ∧ ¬ b0 * 2 ^ K < b1
theorem Doubles.bound {b0 b1 : Int} {K : Nat} (h : Doubles b0 b1 K) (i : Nat) (hi : i ≤ K) : 1 ≤ b0 * 2 ^ i ∧ b0 * 2 ^ i ≤ 2147483648 := by
  obtain ⟨h1, h2, h3, h4, h5⟩ := h
  have hp : ∀ i : Nat, (1 : Int) ≤ 2 ^ i := fun i => by
    have := Int.pow_pos (n := 2) (m := i) (by omega)
    omega
  have hlo : 1 ≤ b0 * 2 ^ i := by
    have : 1 * 1 ≤ b0 * 2 ^ i := Int.mul_le_mul h1 (hp i) (by omega) (by omega)
    omega
  refine ⟨hlo, ?_⟩
  cases i with
  | zero => simp; omega
  | succ j =>
    have := h4 j (by omega)
    rw [Int.pow_succ, ← Int.mul_assoc]
    omega
theorem Doubles.le {b0 b1 : Int} {K : Nat} (h : Doubles b0 b1 K) : K ≤ 31 := by
  obtain ⟨h1, h2, h3, h4, h5⟩ := h
  rcases Nat.lt_or_ge 31 K with hk | hk
  · have := h4 31 hk
    have e : (2 : Int) ^ 31 = 2147483648 := by decide
    rw [e] at this
    omega
  · exact hk

/-- One block is kept. -/
def KeepB (Bb : Nat) (A B : World) : Prop := B.heap[Bb]? = A.heap[Bb]?
theorem keepB_t {Bb : Nat} {A B C : World} (h : KeepB Bb A B) (k : KeepB Bb B C) : KeepB Bb A C := Eq.trans k h
theorem keepB_b {Bb : Nat} {w : World} (hn : Bb < w.heap.size) (W : World) (l : Nat) (o o' : Obj) (hl : w.heap.size ≤ l) (h : W.heap[l]? = some o) (_ : o.isCells = false) (_ : o.isWalk = false) : KeepB Bb W (W.putObj l o') := by
  unfold KeepB World.putObj
  exact Array.getElem?_setIfInBounds_ne (by omega)
set_option maxHeartbeats 1000000 in
theorem steps_stopsB (F : Fence) (n : Nat) (hf : F.fn 71) (hro : F.round = none) (hn : 1 ≤ n) (Bb : Nat) (b0 b1 b2 : Int) (K : Nat) (hK : Doubles b0 b1 K) (w : World) (hlt : Bb < w.heap.size)
    (hb : w.heap[Bb]? = some (.cells #[.int .i64 b0, .int .i64 b1, .int .i64 b2] 23 (0, 0))) :
    SeqStopsK F n Try.prog 71 #[.pointer (some ⟨Bb, 0, none⟩)] (encIS b0) (KeepB Bb) (fun xs => xs = List.range K) (fun pre => ∃ m, 1 ≤ m ∧ m ≤ K ∧ pre = List.range m) K w := fun l J Jx W hW hJ hJx hY h0 => by
  have hbW : W.heap[Bb]? = some (.cells #[.int .i64 b0, .int .i64 b1, .int .i64 b2] 23 (0, 0)) := (hW.block Bb hlt).trans hb
  have hc0 : W.cell? ⟨Bb, 0, none⟩ = some (.int .i64 b0) := (blk_cell hbW 0).trans rfl
  have hc1 : W.cell? ⟨Bb, 1, none⟩ = some (.int .i64 b1) := (blk_cell hbW 1).trans rfl
  have HK := Aside0.mk hK
  have HW := Aside0.mk hbW
  clear hb hbW hW hK
  refine callsIn_of_wp Try.func71 rfl hf ?_ hro
  simp only [Try.ntmps71, List.size_toArray, List.length_cons, List.length_nil, Nat.reduceAdd, Nat.reduceSub, Array.replicate_succ, Array.replicate_zero, List.push_toArray, List.append_toArray, List.nil_append, List.cons_append]
  gi_wp2
  gi_region
  all_goals
    have h0' : J [] W.drew := by
      refine hJ _ _ _ none h0 ⟨rfl, rfl, rfl, Nat.le_refl _, fun _ _ _ => rfl⟩ (fun r e => by cases e)
    have HY := Aside0.mk hY
    clear hY h0
    gi_wp2
    gi_loopw [3, 4] (fun s3 s4 wr => ∃ i : Nat, i ≤ K ∧ s3 = .int .i64 i ∧ s4 = .int .i64 (b0 * 2 ^ i) ∧ J (List.range i) wr ∧ KeepB Bb W wr) (fun s3 _ _ => K - (intOf s3).toNat)
    case atStart => exact ⟨0, Nat.zero_le _, rfl, by simp, h0', rfl⟩
    case round =>
      obtain ⟨i, hi, rfl, rfl, hJs, hB⟩ := hrel
      have c1 : wr.cell? ⟨Bb, 1, none⟩ = some (.int .i64 b1) := (blk_cell (Eq.trans hB HW.out) 1).trans rfl
      obtain ⟨k1, k2⟩ := HK.out.bound i hi
      by_cases hlt2 : i < K
      · have h4 : b0 * 2 ^ i < b1 := HK.out.2.2.2.1 i hlt2
        obtain ⟨fn, tmps, assign, body, hy, hR⟩ := HY.out (List.range i) i wr hJs (by simp; exact hlt2)
        dsimp only [encIS] at hy
        obtain ⟨z, hz⟩ : ∃ z, b0 * 2 ^ i = z := ⟨_, rfl⟩
        have HZ := Aside0.mk hz
        rw [hz] at hy k1 k2 h4 ⊢
        clear hz
        have h31 : i ≤ 31 := Nat.le_trans hi HK.out.le
        gi_wp2
        refine hR.mono ?_
        rintro e W3 (⟨rfl, hJ3, hk3⟩ | ⟨rfl, hJx3⟩)
        · have c1' : W3.cell? ⟨Bb, 1, none⟩ = some (.int .i64 b1) := (blk_cell (Eq.trans hk3 (Eq.trans hB HW.out)) 1).trans rfl
          gi_wp2
          go_roundw
          case rel => exact ⟨i + 1, by omega, by go_num, by rw [Int.pow_succ, ← Int.mul_assoc, HZ.out]; congr 1; omega, by rw [List.range_succ]; exact hJ3, Eq.trans hk3 hB⟩
          case measure => simp [intOf]; omega
        · gi_wp2
          go_end0
          exact ⟨⟨_, rfl⟩, .inr ⟨_, ⟨i + 1, by omega, by omega, rfl⟩, by rw [List.range_succ]; exact hJx3⟩⟩
      · have : i = K := by omega
        subst this
        have h5 := HK.out.2.2.2.2
        have h5' : b1 ≤ b0 * 2 ^ i := by omega
        clear h5
        gi_wp2
        refine ⟨fun _ h => (by cases h), ?_⟩
        gi_wp2
        go_end0
        exact ⟨⟨_, rfl⟩, .inl ⟨_, rfl, hJs⟩⟩

theorem steps_stops (F : Fence) (n : Nat) (hf : F.fn 71) (hro : F.round = none) (hn : 1 ≤ n) (Bb n₀ : Nat) (b0 b1 b2 : Int) (K : Nat) (hK : Doubles b0 b1 K) (w : World) (hn₀ : n₀ ≤ w.heap.size) (hlt : Bb < n₀)
    (hb : w.heap[Bb]? = some (.cells #[.int .i64 b0, .int .i64 b1, .int .i64 b2] 23 (0, 0))) :
    SeqStopsK F n Try.prog 71 #[.pointer (some ⟨Bb, 0, none⟩)] (encIS b0) (Below n₀) (fun xs => xs = List.range K) (fun pre => ∃ m, 1 ≤ m ∧ m ≤ K ∧ pre = List.range m) K w :=
  fun l J Jx W hW hJ hJx hY h0 => steps_stopsB F n hf hro hn Bb b0 b1 b2 K hK w (by omega) hb l J Jx W hW hJ hJx (fun pre x W1 h1 h2 => (hY pre x W1 h1 h2).mono fun e W' h => h.imp (fun h => ⟨h.1, h.2.1, h.2.2.block Bb hlt⟩) id) h0
theorem Doubles.no {b0 b1 : Int} {K : Nat} (h : Doubles b0 b1 K) (i : Nat) (hi : K ≤ i) : ¬ b0 * 2 ^ i < b1 := by
  obtain ⟨h1, h2, h3, h4, h5⟩ := h
  induction hi with
  | refl => exact h5
  | step hi ih =>
    rename_i m
    rw [Int.pow_succ, ← Int.mul_assoc]
    have : 0 ≤ b0 * 2 ^ m := Int.mul_nonneg (by omega) (by have := Int.pow_pos (n := 2) (m := m) (by omega); omega)
    omega
theorem cell_new_l (W : World) (v : Value) (t : TypeId) : (W.alloc (.cells #[v] t)).cell? ⟨W.heap.size, 0, none⟩ = some v ∧ (W.alloc (.cells #[v] t)).frozen? ⟨W.heap.size, 0, none⟩ = false := by
  constructor <;> simp [go_sem]
theorem steps_calls (b0 b1 b2 : Int) (w : World) : Calls Try.prog 53 #[.agg #[.int .i64 b0, .int .i64 b1, .int .i64 b2]] w fun e w' => e = .returned (.func (.func 71) #[] #[.pointer (some ⟨w.heap.size, 0, none⟩)]) ∧ w.alloc (.cells #[.int .i64 b0, .int .i64 b1, .int .i64 b2] 23) = w' := by
  have hmf : ∀ (fn : Fn) (first cap : Array Value) (w : World), (Instr.makeFunc fn first cap).run Try.prog w = .ok (.func fn first cap) w := fun _ _ _ _ => rfl
  go_enter Try.func53, Try.ntmps53
  go_wp2
  go_ret
  exact ⟨rfl, rfl⟩
def BackMay (b0 b1 b2 : Int) : Prop := (1 ≤ b0 ∧ b0 ≤ 1048576) ∧ (b0 ≤ b1 ∧ b1 ≤ 1073741824) ∧ 0 ≤ b2 ∧ b2 ≤ 1048576
/-- The number of a back's steps below its top. -/
def kOf (b0 b1 : Int) : Nat := (List.range 40).findIdx fun i => decide (b1 ≤ b0 * 2 ^ i)
theorem kOf_doubles {b0 b1 b2 : Int} (h : BackMay b0 b1 b2) : Doubles b0 b1 (kOf b0 b1) := by
  obtain ⟨⟨h1, h2⟩, ⟨h3, h4⟩, h5, h6⟩ := h
  have hlt : kOf b0 b1 < (List.range 40).length := by
    unfold kOf
    rw [List.findIdx_lt_length]
    refine ⟨31, by simp, ?_⟩
    have : (2 : Int) ^ 31 = 2147483648 := by decide
    rw [decide_eq_true_eq, this]
    omega
  refine ⟨h1, h4, h3, fun i hi => ?_, ?_⟩
  · have := List.not_of_lt_findIdx (p := fun i => decide (b1 ≤ b0 * 2 ^ i)) (xs := List.range 40) (i := i) hi
    rw [List.getElem_range] at this
    simp only [Bool.not_eq_true, decide_eq_false_iff_not] at this
    omega
  · have hlt2 : (List.range 40).findIdx (fun i => decide (b1 ≤ b0 * 2 ^ i)) < (List.range 40).length := hlt
    have := List.findIdx_getElem (p := fun i => decide (b1 ≤ b0 * 2 ^ i)) (xs := List.range 40) (w := hlt2)
    simp only [List.getElem_range, decide_eq_true_eq] at this
    unfold kOf
    omega
instance (b0 b1 b2 : Int) : Decidable (BackMay b0 b1 b2) := by unfold BackMay; infer_instance


end Go.Proofs.Ytkkopknlhijgiaa.G
