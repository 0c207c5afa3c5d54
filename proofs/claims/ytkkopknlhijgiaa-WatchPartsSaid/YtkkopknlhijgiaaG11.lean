/- Contracts of functions of the given program, each proved by a walk of its code: written by gprint.py, this session's program round the kit's print; texts of our own stand among the printed ones. No condition beyond each theorem's own premises. -/
import Derived.Test.YtkkopknlhijgiaaG0
import Derived.Test.YtkkopknlhijgiaaG10
namespace Go.Proofs.Ytkkopknlhijgiaa.G
open Go.RowKit Go.Proofs.YtkkopknlhijgiaaW.PrintWords Go.Proofs.YtkkopknlhijgiaaW.PrintLast Go.Proofs.YtkkopknlhijgiaaW.PrintMore
attribute [local go_sem] max2_int min2_int max_two min_two max_three min_three max_four min_four   -- for this text's walks alone
set_option linter.unusedVariables false
set_option linter.unusedSimpArgs false

/-! ### foghornlaw23_some: function 40 -/
def foghornlaw23_some.l0 : Nat → List (S51) → Int → Int → Int → Option ((List (S51)))
  | 0, _, _, _, _ => none
  | k + 1, x0, x3, x8, x9 => if x9 < x8 then (if 0 ≤ x9 then (if x9 < (x0.length : Int) then ((some (x0.set (x9 : Int).toNat (⟨wrap64 (x3 + (Int.tmod (wrap64 ((Int.tmod ((rd_T51 x0 x9).f0) 5) + 5)) 5)), (rd_T51 x0 x9).f1, (rd_T51 x0 x9).f2, (rd_T51 x0 x9).f3⟩ : S51) : List (S51))).bind fun y140 => (foghornlaw23_some.l0 k (y140.set (x9 : Int).toNat (⟨(rd_T51 y140 x9).f0, wrap64 ((Int.tmod (wrap64 ((Int.tmod ((rd_T51 x0 x9).f1) 3) + 3)) 3) - 1), (rd_T51 y140 x9).f2, (rd_T51 y140 x9).f3⟩ : S51)) (wrap64 (x3 + (Int.tmod (wrap64 ((Int.tmod ((rd_T51 x0 x9).f0) 5) + 5)) 5))) x8 (wrap64 (x9 + 1)))) else (none)) else (none)) else (some x0)
def foghornlaw23_some.f (k : Nat) (l0 : List (S51)) : Option ((List (S51))) := (foghornlaw23_few.f k l0).bind fun t135 => (foghornlaw23_some.l0 k t135 0 (t135.length : Int) 0)
theorem foghornlaw23_some.mono_l : ∀ k, (∀ y0 y1 y2 y3, LeO (foghornlaw23_some.l0 k y0 y1 y2 y3) (foghornlaw23_some.l0 (k + 1) y0 y1 y2 y3))
  | 0 => fun _ _ _ _ r h => by simp [foghornlaw23_some.l0] at h
  | k + 1 => by
    have ih0 := foghornlaw23_some.mono_l k
    · intro y0 y1 y2 y3
      unfold foghornlaw23_some.l0
      repeat' first
      | (with_reducible exact ih0 _ _ _ _)
      | (with_reducible exact foghornlaw23_few.mono _ _)
      | (with_reducible exact LeO.refl _)
      | (with_reducible exact LeO.none _)
      | (with_reducible refine LeO.ite ?_ ?_)
      | (with_reducible refine LeO.bind ?_ (fun _ => ?_))
      | exact ih0 _ _ _ _
      | exact foghornlaw23_few.mono _ _
      | exact LeO.none _
      | refine LeO.ite ?_ ?_
      | refine LeO.bind ?_ (fun _ => ?_)
theorem foghornlaw23_some.mono : ∀ a0 k, LeO (foghornlaw23_some.f k a0) (foghornlaw23_some.f (k + 1) a0) := by
  intro a0 k
  have ih0 := foghornlaw23_some.mono_l k
  unfold foghornlaw23_some.f
  repeat' first
      | (with_reducible exact ih0 _ _ _ _)
      | (with_reducible exact foghornlaw23_few.mono _ _)
      | (with_reducible exact LeO.refl _)
      | (with_reducible exact LeO.none _)
      | (with_reducible refine LeO.ite ?_ ?_)
      | (with_reducible refine LeO.bind ?_ (fun _ => ?_))
      | exact ih0 _ _ _ _
      | exact foghornlaw23_few.mono _ _
      | exact LeO.none _
      | refine LeO.ite ?_ ?_
      | refine LeO.bind ?_ (fun _ => ?_)
set_option maxHeartbeats 8000000 in
set_option maxRecDepth 100000 in
theorem foghornlaw23_some.calls (k : Nat) (A0 : Option Addr) (c0 : Nat) (l0 : List (S51)) (r : List (S51)) (w : World) (hr0 : Kd.C k51 w A0 l0.length l0) (hc0 : l0.length ≤ c0) (h : foghornlaw23_some.f k l0 = some r) :
    Calls Try.prog 40 #[.slice A0 l0.length c0] w fun e w' => ∃ v0_ : Value, e = .returned (v0_) ∧ Kd.R k51 51 w' w.heap.size (fun _ => True) v0_ r ∧ Below w.heap.size w w' := by
  have HR0 := Aside0.mk hr0
  have HC0 := Aside0.mk hc0
  clear hr0 hc0
  have HB := Aside0.mk (Below.refl w.heap.size w)
  have H : ((foghornlaw23_few.f k l0).bind fun t135 => (foghornlaw23_some.l0 k t135 0 (t135.length : Int) 0)) = some r := h
  clear h
  replace H := Option.bind_eq_some_iff.mp H
  obtain ⟨t135, A20, H⟩ := H
  replace H : (foghornlaw23_some.l0 k t135 0 (t135.length : Int) 0) = some r := H
  have A2 := Aside0.mk A20
  clear A20
  have H' := Aside0.mk H
  clear H
  go_enter Try.func40, Try.ntmps40
  go_wp2_with (first | ((with_reducible refine gate_callee (f := 65) rfl ?_); refine goesL_ (some 6) rfl rfl Try.func65 (by kernel_rfl) rfl #[.slice A0 l0.length c0] rfl (by (try simp only [List.map_toArray, List.map_cons, List.map_nil]); first | done | rfl | (simp only [List.length_drop, List.length_take]; rfl)) ?_; (with_reducible refine (foghornlaw23_few.calls k _ _ l0 t135 _ ?side1 ?side2 A2.out).mono ?_); (case side1 => repeat (first | exact HR0.out | (with_reducible refine Kd.C_alloc ?_ _) | (with_reducible refine Kd.C_drewN ?_ _) | (with_reducible refine Kd.C_drew ?_))); (case side2 => exact HC0.out); rintro e w3 ⟨v136, rfl, ho0, hb⟩; refine ⟨_, rfl, ?_⟩; have n0_ := Aside0.mk (Kd.R_lower ho0 (below_size (by repeat (first | (with_reducible first | exact HB.out | apply below_alloc | apply pw_below_drewN | apply below_drew1) | exact HB.out)))); have n1_ := Aside0.mk (below_step (by repeat (first | (with_reducible first | exact HB.out | apply below_alloc | apply pw_below_drewN | apply below_drew1) | exact HB.out)) hb); clear HB; have HO137 := n0_; have HB := n1_; clear n0_ n1_; (try clear hb); (try clear hb2); (try clear hk); (try clear hi); (try clear ho0); obtain ⟨Ao4, co4, eo4⟩ := Kd.R_slice HO137.out; subst eo4))
  go_loopg [3, 9] k (fun kq v3 v9 w' => ∃ (x0_1 : List (S51)) (x3_1 : Int) (x9_1 : Int), v3 = .int .i64 x3_1 ∧ v9 = .int .i64 x9_1 ∧ Aside0 (foghornlaw23_some.l0 kq x0_1 x3_1 (t135.length : Int) x9_1 = some r) ∧ Aside0 (kq ≤ k) ∧ Aside0 (Kd.R k51 51 w' w.heap.size (fun _ => True) (.slice Ao4 t135.length co4) x0_1) ∧ Aside0 (Below w.heap.size w w'))
  case atStart => exact ⟨(t135), (0), (0), (by first | rfl | (simp; done) | (simp [*]; done)), (by first | rfl | (simp; done) | (simp [*]; done)), H', ⟨Nat.le_refl _⟩, ⟨by (with_reducible repeat (first | apply Kd.R_alloc | apply Kd.R_drewN | apply Kd.R_drew)); exact HO137.out⟩, ⟨by repeat (first | (with_reducible first | exact HB.out | apply below_alloc | apply pw_below_drewN | apply below_drew1) | exact HB.out)⟩⟩
  case round =>
    clear H'
    try clear p2
    try clear c4
    obtain ⟨x0_1, x3_1, x9_1, rfl, rfl, HA, HK1, HO_0, HB⟩ := hrel
    have hl0_1 := (Kd.R_reads' HO_0.out).1
    rw [hl0_1] at HO_0
    (try simp only [hl0_1])
    cases gk with
    | zero => exact absurd HA.out (by simp [foghornlaw23_some.l0])
    | succ k1 =>
      have H := HA.out
      clear HA
      simp only [foghornlaw23_some.l0] at H
      by_cases c5 : x9_1 < (t135.length : Int)
      · rw [if_pos c5] at H
        have c5b0 : decide (x9_1 < (t135.length : Int)) = true := decide_eq_true c5
        clear c5
        by_cases c6 : 0 ≤ x9_1
        · rw [if_pos c6] at H
          have c6b0 : decide (0 ≤ x9_1) = true := decide_eq_true c6
          clear c6
          by_cases c7 : x9_1 < (x0_1.length : Int)
          · rw [if_pos c7] at H
            have c7b0 : decide (x9_1 < (x0_1.length : Int)) = true := decide_eq_true c7
            clear c7
            obtain ⟨y140, hy140⟩ : ∃ y_ : List (S51), y_ = (x0_1.set (x9_1 : Int).toNat (⟨wrap64 (x3_1 + (Int.tmod (wrap64 ((Int.tmod ((rd_T51 x0_1 x9_1).f0) 5) + 5)) 5)), (rd_T51 x0_1 x9_1).f1, (rd_T51 x0_1 x9_1).f2, (rd_T51 x0_1 x9_1).f3⟩ : S51)) := ⟨_, rfl⟩
            replace H : (foghornlaw23_some.l0 k1 (y140.set (x9_1 : Int).toNat (⟨(rd_T51 y140 x9_1).f0, wrap64 ((Int.tmod (wrap64 ((Int.tmod ((rd_T51 x0_1 x9_1).f1) 3) + 3)) 3) - 1), (rd_T51 y140 x9_1).f2, (rd_T51 y140 x9_1).f3⟩ : S51)) (wrap64 (x3_1 + (Int.tmod (wrap64 ((Int.tmod ((rd_T51 x0_1 x9_1).f0) 5) + 5)) 5))) (t135.length : Int) (wrap64 (x9_1 + 1))) = some r := by first | (rw [hy140]; with_reducible exact H) | (have H2_ := (Option.bind_some _ _).symm.trans H; rw [hy140]; with_reducible exact H2_) | (have H2_ := (Option.bind_some _ _).symm.trans H; with_reducible exact H2_) | with_reducible exact H | (rw [hy140]; exact H) | exact H
            have Ny140 := Aside0.mk hy140
            clear hy140
            obtain ⟨y141, hy141⟩ : ∃ y_ : List (S51), y_ = (y140.set (x9_1 : Int).toNat (⟨(rd_T51 y140 x9_1).f0, wrap64 ((Int.tmod (wrap64 ((Int.tmod ((rd_T51 x0_1 x9_1).f1) 3) + 3)) 3) - 1), (rd_T51 y140 x9_1).f2, (rd_T51 y140 x9_1).f3⟩ : S51)) := ⟨_, rfl⟩
            replace H : (foghornlaw23_some.l0 k1 y141 (wrap64 (x3_1 + (Int.tmod (wrap64 ((Int.tmod ((rd_T51 x0_1 x9_1).f0) 5) + 5)) 5))) (t135.length : Int) (wrap64 (x9_1 + 1))) = some r := by first | (rw [hy141]; with_reducible exact H) | (have H2_ := (Option.bind_some _ _).symm.trans H; rw [hy141]; with_reducible exact H2_) | (have H2_ := (Option.bind_some _ _).symm.trans H; with_reducible exact H2_) | with_reducible exact H | (rw [hy141]; exact H) | exact H
            have Ny141 := Aside0.mk hy141
            clear hy141
            have H' := Aside0.mk H
            clear H
            have p138 : 0 ≤ (x9_1 : Int) := of_decide_eq_true (by first | (with_reducible assumption) | assumption)
            have q138 : x9_1 < (x0_1.length : Int) := of_decide_eq_true (by first | (with_reducible assumption) | assumption)
            obtain ⟨ad138, e138, hx138_0, hx138_1, hx138_2, hx138_3⟩ := at_T51 (Kd.R_reads' HO_0.out).2.2 x9_1 p138 q138
            cases e138
            replace p138 := eq_true p138
            replace q138 := eq_true q138
            have p139 : 0 ≤ (x9_1 : Int) := of_decide_eq_true (by first | (with_reducible assumption) | assumption)
            have q139 : x9_1 < (x0_1.length : Int) := of_decide_eq_true (by first | (with_reducible assumption) | assumption)
            obtain ⟨ad139, e139, hx139_0, hx139_1, hx139_2, hx139_3⟩ := at_T51 (Kd.R_reads' HO_0.out).2.2 x9_1 p139 q139
            obtain rfl : ad138 = ad139 := (by injection e139)
            replace p139 := eq_true p139
            replace q139 := eq_true q139
            have p8 : 0 ≤ (x9_1 : Int) := of_decide_eq_true (by first | (with_reducible assumption) | assumption)
            have q8 : (x9_1 : Int) < ((x0_1.length : Int) : Int) := of_decide_eq_true (by first | (with_reducible assumption) | assumption)
            obtain ⟨go8, co8, eo8, gb8, gl8, cl8, HG8⟩ := Kd.R_form HO_0.out (by omega)
            (first | cases eo8 | (injection eo8 with ea_ en_ ec_; (first | subst ea_ | (injection ea_ with ea_; subst ea_)); subst ec_; clear en_))
            have GB8 := Aside0.mk gb8
            have GG8 := Aside0.mk HG8
            clear gb8 gl8 HG8
            (first | simp only [add_plain] at hx138_0 | skip)
            (first | simp only [add_plain] at hx138_1 | skip)
            (first | simp only [add_plain] at hx138_2 | skip)
            (first | simp only [add_plain] at hx138_3 | skip)
            (first | simp only [add_plain] at hx139_0 | skip)
            (first | simp only [add_plain] at hx139_1 | skip)
            (first | simp only [add_plain] at hx139_2 | skip)
            (first | simp only [add_plain] at hx139_3 | skip)
            obtain ⟨ce8, hcl8, hM8, hcc8, hfr8⟩ := Kd.R_elem HO_0.out z51 (x9_1 : Int) p8 q8
            obtain rfl := k51_openM hM8
            have hx8_0 : wr.cell? ⟨go8, (x9_1 : Int).toNat * 4, none⟩ = some (.int .i64 ((rd_T51 x0_1 x9_1).f0)) := hcc8 0 _ rfl
            have hx8_1 : wr.cell? ⟨go8, (x9_1 : Int).toNat * 4 + 1, none⟩ = some (.int .i64 ((rd_T51 x0_1 x9_1).f1)) := hcc8 1 _ rfl
            have hx8_2 : wr.cell? ⟨go8, (x9_1 : Int).toNat * 4 + 2, none⟩ = some (.string ((rd_T51 x0_1 x9_1).f2)) := hcc8 2 _ rfl
            have hx8_3 : wr.cell? ⟨go8, (x9_1 : Int).toNat * 4 + 3, none⟩ = some (.bool ((rd_T51 x0_1 x9_1).f3)) := hcc8 3 _ rfl
            have hf8_0 : wr.frozen? ⟨go8, (x9_1 : Int).toNat * 4, none⟩ = false := hfr8 0
            have hf8_1 : wr.frozen? ⟨go8, (x9_1 : Int).toNat * 4 + 1, none⟩ = false := hfr8 1
            have hf8_2 : wr.frozen? ⟨go8, (x9_1 : Int).toNat * 4 + 2, none⟩ = false := hfr8 2
            have hf8_3 : wr.frozen? ⟨go8, (x9_1 : Int).toNat * 4 + 3, none⟩ = false := hfr8 3
            clear hcl8 hcc8 hfr8 hM8
            replace p8 := eq_true p8
            replace q8 := eq_true q8
            have HX10 := Aside0.mk (show Kd.R k51 51 wr w.heap.size (fun _ => True) (.slice (some ⟨go8, 0, none⟩) x0_1.length co4) x0_1 from (by (with_reducible repeat (first | apply Kd.R_alloc | apply Kd.R_drewN | apply Kd.R_drew)); exact HO_0.out))
            obtain ⟨ce10, hcl10, hM10, hcc10, hfr10⟩ := Kd.R_elem HX10.out z51 (x9_1 : Int) (of_decide_eq_true (by first | (with_reducible assumption) | assumption)) (by have h_ : (x9_1 : Int) < ((x0_1.length : Int) : Int) := of_decide_eq_true (by first | (with_reducible assumption) | assumption); first | exact h_ | (have e_ := (Kd.R_reads' HO_0.out).1; omega) | simpa using h_)
            obtain rfl := k51_openM hM10
            have HP10 := Kd.R_seg HX10.out (x9_1 : Int) (of_decide_eq_true (by first | (with_reducible assumption) | assumption)) (by have h_ : (x9_1 : Int) < ((x0_1.length : Int) : Int) := of_decide_eq_true (by first | (with_reducible assumption) | assumption); first | exact h_ | (have e_ := (Kd.R_reads' HO_0.out).1; omega) | simpa using h_) (seg := [.int .i64 (wrap64 (x3_1 + (Int.tmod (wrap64 ((Int.tmod ((rd_T51 x0_1 x9_1).f0) 5) + 5)) 5)))]) (j := 0) hcl10 hcc10 (show 1 ≤ 4 from by decide) (x' := (⟨wrap64 (x3_1 + (Int.tmod (wrap64 ((Int.tmod ((rd_T51 x0_1 x9_1).f0) 5) + 5)) 5)), (rd_T51 x0_1 x9_1).f1, (rd_T51 x0_1 x9_1).f2, (rd_T51 x0_1 x9_1).f3⟩ : S51)) (k51_mkM _ _ _ (⟨wrap64 (x3_1 + (Int.tmod (wrap64 ((Int.tmod ((rd_T51 x0_1 x9_1).f0) 5) + 5)) 5)), (rd_T51 x0_1 x9_1).f1, (rd_T51 x0_1 x9_1).f2, (rd_T51 x0_1 x9_1).f3⟩ : S51) ) (fun _ hk => hk)
            have hx10_0 := hcc10 0 _ rfl
            (try simp only [show (k51).sz = 4 from rfl, Nat.mul_one, Nat.add_zero] at hx10_0)
            have hf10_0 := hfr10 0
            (try simp only [show (k51).sz = 4 from rfl, Nat.mul_one, Nat.add_zero] at hf10_0)
            clear hcl10 hcc10 hfr10 hM10
            go_wp2_with (first | ((with_reducible refine gate_store (t := 3) (p := 37) rfl ?_); refine store_event (t := 3) (p := 37) (v := ?vo_w11) (w1 := (wr.setCell ⟨go8, (x9_1 : Int).toNat * 4, none⟩ (.int .i64 (wrap64 (x3_1 + (Int.tmod (wrap64 ((Int.tmod ((rd_T51 x0_1 x9_1).f0) 5) + 5)) 5)))))) ?hg ?ho ?hn ?hr ?_; (case ho => rfl); (case hg => rfl); (case hn => rfl); (case hr => first | (go_simp; done) | (go_simp; rfl)); intro w11 hw; have hg : wr.grownBy w11 (some go8) := (by rw [hw]; exact HP10.2); have hp_ : Kd.R k51 51 w11 w.heap.size (fun _ => True) (.slice (some ⟨go8, 0, none⟩) x0_1.length co4) y140 := (by rw [hw, Ny140.out]; exact HP10.1); clear HP10; have n0_ := Aside0.mk (hp_); have n1_ := Aside0.mk ((by rw [hw]; exact below_set (HB.out) GB8.out : Below w.heap.size w w11)); clear HO_0; clear HB; have HO_0 := n0_; have HB := n1_; clear n0_ n1_; clear hg hw hp_; have p9 : 0 ≤ (x9_1 : Int) := of_decide_eq_true (by first | (with_reducible assumption) | assumption); have q9 : (x9_1 : Int) < ((x0_1.length : Int) : Int) := of_decide_eq_true (by first | (with_reducible assumption) | assumption); obtain ⟨ce9, hcl9, hM9, hcc9, hfr9⟩ := Kd.R_elem HO_0.out z51 (x9_1 : Int) p9 q9; obtain rfl := k51_openM hM9; have hx9_0 : w11.cell? ⟨go8, (x9_1 : Int).toNat * 4, none⟩ = some (.int .i64 ((rd_T51 y140 x9_1).f0)) := hcc9 0 _ rfl; have hx9_1 : w11.cell? ⟨go8, (x9_1 : Int).toNat * 4 + 1, none⟩ = some (.int .i64 ((rd_T51 y140 x9_1).f1)) := hcc9 1 _ rfl; have hx9_2 : w11.cell? ⟨go8, (x9_1 : Int).toNat * 4 + 2, none⟩ = some (.string ((rd_T51 y140 x9_1).f2)) := hcc9 2 _ rfl; have hx9_3 : w11.cell? ⟨go8, (x9_1 : Int).toNat * 4 + 3, none⟩ = some (.bool ((rd_T51 y140 x9_1).f3)) := hcc9 3 _ rfl; have hf9_0 : w11.frozen? ⟨go8, (x9_1 : Int).toNat * 4, none⟩ = false := hfr9 0; have hf9_1 : w11.frozen? ⟨go8, (x9_1 : Int).toNat * 4 + 1, none⟩ = false := hfr9 1; have hf9_2 : w11.frozen? ⟨go8, (x9_1 : Int).toNat * 4 + 2, none⟩ = false := hfr9 2; have hf9_3 : w11.frozen? ⟨go8, (x9_1 : Int).toNat * 4 + 3, none⟩ = false := hfr9 3; clear hcl9 hcc9 hfr9 hM9; replace p9 := eq_true p9; replace q9 := eq_true q9; have HX12 := Aside0.mk (show Kd.R k51 51 w11 w.heap.size (fun _ => True) (.slice (some ⟨go8, 0, none⟩) x0_1.length co4) y140 from (by (with_reducible repeat (first | apply Kd.R_alloc | apply Kd.R_drewN | apply Kd.R_drew)); exact HO_0.out)); obtain ⟨ce12, hcl12, hM12, hcc12, hfr12⟩ := Kd.R_elem HX12.out z51 (x9_1 : Int) (of_decide_eq_true (by first | (with_reducible assumption) | assumption)) (by have h_ : (x9_1 : Int) < ((x0_1.length : Int) : Int) := of_decide_eq_true (by first | (with_reducible assumption) | assumption); first | exact h_ | (have e_ := (Kd.R_reads' HO_0.out).1; omega) | simpa using h_); obtain rfl := k51_openM hM12; have HP12 := Kd.R_seg HX12.out (x9_1 : Int) (of_decide_eq_true (by first | (with_reducible assumption) | assumption)) (by have h_ : (x9_1 : Int) < ((x0_1.length : Int) : Int) := of_decide_eq_true (by first | (with_reducible assumption) | assumption); first | exact h_ | (have e_ := (Kd.R_reads' HO_0.out).1; omega) | simpa using h_) (seg := [.int .i64 (wrap64 ((Int.tmod (wrap64 ((Int.tmod ((rd_T51 x0_1 x9_1).f1) 3) + 3)) 3) - 1))]) (j := 1) hcl12 hcc12 (show 2 ≤ 4 from by decide) (x' := (⟨(rd_T51 y140 x9_1).f0, wrap64 ((Int.tmod (wrap64 ((Int.tmod ((rd_T51 x0_1 x9_1).f1) 3) + 3)) 3) - 1), (rd_T51 y140 x9_1).f2, (rd_T51 y140 x9_1).f3⟩ : S51)) (k51_mkM _ _ _ (⟨(rd_T51 y140 x9_1).f0, wrap64 ((Int.tmod (wrap64 ((Int.tmod ((rd_T51 x0_1 x9_1).f1) 3) + 3)) 3) - 1), (rd_T51 y140 x9_1).f2, (rd_T51 y140 x9_1).f3⟩ : S51) ) (fun _ hk => hk); have hx12_1 := hcc12 1 _ rfl; (try simp only [show (k51).sz = 4 from rfl, Nat.mul_one, Nat.add_zero] at hx12_1); have hf12_1 := hfr12 1; (try simp only [show (k51).sz = 4 from rfl, Nat.mul_one, Nat.add_zero] at hf12_1); clear hcl12 hcc12 hfr12 hM12) | ((with_reducible refine gate_store (t := 3) (p := 39) rfl ?_); refine store_event (t := 3) (p := 39) (v := ?vo_w13) (w1 := (w11.setCell ⟨go8, (x9_1 : Int).toNat * 4 + 1, none⟩ (.int .i64 (wrap64 ((Int.tmod (wrap64 ((Int.tmod ((rd_T51 x0_1 x9_1).f1) 3) + 3)) 3) - 1))))) ?hg ?ho ?hn ?hr ?_; (case ho => rfl); (case hg => rfl); (case hn => rfl); (case hr => first | (go_simp; done) | (go_simp; rfl)); intro w13 hw; have hg : w11.grownBy w13 (some go8) := (by rw [hw]; exact HP12.2); have hp_ : Kd.R k51 51 w13 w.heap.size (fun _ => True) (.slice (some ⟨go8, 0, none⟩) x0_1.length co4) y141 := (by rw [hw, Ny141.out]; exact HP12.1); clear HP12; have n0_ := Aside0.mk (hp_); have n1_ := Aside0.mk ((by rw [hw]; exact below_set (HB.out) GB8.out : Below w.heap.size w w13)); clear HO_0; clear HB; have HO_0 := n0_; have HB := n1_; clear n0_ n1_; clear hg hw hp_))
            (try simp only [← hl0_1])
            go_roundg k1
            case measure => have := HK1.out; omega
            case rel => exact ⟨(y141), (wrap64 (x3_1 + (Int.tmod (wrap64 ((Int.tmod ((rd_T51 x0_1 x9_1).f0) 5) + 5)) 5))), (wrap64 (x9_1 + 1)), (by first | rfl | (simp; done) | (simp [*]; done)), (by first | rfl | (simp; done) | (simp [*]; done)), H', ⟨by have := HK1.out; omega⟩, ⟨by (try simp only [hl0_1]); (with_reducible repeat (first | apply Kd.R_alloc | apply Kd.R_drewN | apply Kd.R_drew)); exact HO_0.out⟩, ⟨by repeat (first | (with_reducible first | exact HB.out | apply below_alloc | apply pw_below_drewN | apply below_drew1) | exact HB.out)⟩⟩
          · rw [if_neg c7] at H
            exact absurd H (by simp)
        · rw [if_neg c6] at H
          exact absurd H (by simp)
      · rw [if_neg c5] at H
        have c5b0 : decide (x9_1 < (t135.length : Int)) = false := decide_eq_false c5
        clear c5
        try rw [hl0_1] at c5b0
        obtain rfl := Option.some.inj H
        go_wp2
        go_ret
        exact ⟨_, by first | rfl | (simp [errW_none, errW_some] <;> rfl) | (simp [*, errW_none, errW_some] <;> rfl), by (with_reducible repeat (first | apply Kd.R_alloc | apply Kd.R_drewN | apply Kd.R_drew)); exact HO_0.out, by repeat (first | (with_reducible first | exact HB.out | apply below_alloc | apply pw_below_drewN | apply below_drew1) | exact HB.out)⟩

end Go.Proofs.Ytkkopknlhijgiaa.G
