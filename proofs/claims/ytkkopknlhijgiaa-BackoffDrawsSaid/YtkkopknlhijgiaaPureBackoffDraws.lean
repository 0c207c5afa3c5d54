/- The statement BackoffDraws: the walk of the law itself, with its map: a key for each part of the jitter, each met once, in whatever order the map is ranged over. The numbers of functions and types are those of this seat's translation. No condition. -/
import Derived.Test.YtkkopknlhijgiaaG23
import Derived.Test.YtkkopknlhijgiaaG24
import Derived.Test.YtkkopknlhijgiaaG25
import Derived.Test.YtkkopknlhijgiaaBackoff
import Derived.Maps.Own
import Derived.Maps.OwnOps
import Derived.Maps.OwnSet
import Derived.Maps.RangeWalk
import Derived.WalkKit
namespace Go.Proofs.Ytkkopknlhijgiaa.Pure
open Go.Maps Go.RowKit Go.Proofs.Ytkkopknlhijgiaa.G Go.Proofs.YtkkopknlhijgiaaW.PrintWords Go.Proofs.YtkkopknlhijgiaaW.PrintLast Go.Proofs.YtkkopknlhijgiaaW.PrintMore Go.Proofs.Ytkkopknlhijgiaa.Backoff
set_option linter.unusedVariables false
set_option linter.unusedSimpArgs false
theorem law3 : Keyed Try.prog 3 := int_keyed Try.underlying3
theorem zero3 (w : World) : (zeroValue 3).run Try.prog w = .ok (.int .i64 0) w := by kernel_rfl
theorem draws_facts (w w1 : World) (b0 b1 j : Int) (hb : Below (w.alloc (.cells #[.int .i64 b0, .int .i64 b1, .int .i64 j] 23)).heap.size (w.alloc (.cells #[.int .i64 b0, .int .i64 b1, .int .i64 j] 23)) w1) :
    w1.heap[w.heap.size]? = some (.cells #[.int .i64 b0, .int .i64 b1, .int .i64 j] 23 (0, 0)) ∧ w.heap.size < w1.heap.size ∧ Below w.heap.size w w1 := by
  have hs := hb.size
  simp only [World.size_alloc] at hs
  refine ⟨?_, by omega, ?_⟩
  · exact (hb.block _ (by simp)).trans (World.alloc_heap_new w _)
  · exact ((Below.refl _ w).alloc (Nat.le_refl _) _).trans (hb.mono (by simp))
theorem own_below {H : Type} {P : Program} {k : TypeId} {R : Value → Option (DataW H × List MemPlace)} {w w' : World} {b n N : Nat} {D : DataW H} (h : w.ownsMap P k R b n D) (hb : Below N w w') (hN : b < N) : w'.ownsMap P k R b n D := by
  obtain ⟨es, clock, hb', F, hs, hD⟩ := h
  exact ⟨es, clock, (hb.block b hN).trans hb', F, hs, hD⟩
/-- The keys that so many draws make. -/
def keysOf (j dd : Int) (k : Nat) : List Lit := (List.range k).map fun i : Nat => Lit.int .i64 (Backoff.part (dd + (i : Int)) j)
def datOf (j dd : Int) (k : Nat) : DataW Unit := setOf (.lit (.int .i64 1)) (keysOf j dd k)
theorem keys_lit (j dd : Int) (k : Nat) : ∀ x ∈ keysOf j dd k, WideAt.IsKeyLit x := by
  intro x hx
  simp only [keysOf, List.mem_map] at hx
  obtain ⟨i, _, rfl⟩ := hx
  trivial
theorem part_emod (d j : Int) (hj : 0 ≤ j) : Backoff.part d j = d % (j + 1) := by
  obtain ⟨q1, q2, q3, q4⟩ := part_bd d j hj
  have e : d % (j + 1) = Int.tmod d (j + 1) % (j + 1) := by
    conv => lhs; rw [← Int.tmod_add_mul_tdiv d (j + 1)]
    rw [Int.add_mul_emod_self_left]
  rw [e]
  unfold Backoff.part
  by_cases c : Int.tmod d (j + 1) < 0
  · rw [if_pos c, ← Int.add_emod_right, Int.emod_eq_of_lt (by omega) (by omega)]
  · rw [if_neg c, Int.emod_eq_of_lt (by omega) (by omega)]
theorem part_ne (d j : Int) (hj : 0 ≤ j) (a b : Nat) (hab : a < b) (hb : (b : Int) ≤ j) : Backoff.part (d + a) j ≠ Backoff.part (d + b) j := by
  rw [part_emod _ _ hj, part_emod _ _ hj]
  intro e
  have := Int.emod_eq_emod_iff_emod_sub_eq_zero.1 e.symm
  rw [show d + (b : Int) - (d + a) = (b : Int) - a by omega, Int.emod_eq_of_lt (by omega) (by omega)] at this
  omega
theorem has_dat (j dd : Int) (hj : 0 ≤ j) (k : Nat) (hk : (k : Int) ≤ j) : Maps.has (datOf j dd k) (.int .i64 (Backoff.part (dd + k) j)) = false := by
  unfold datOf
  rw [has_setOf _ _ _ (keys_lit j dd k), List.any_eq_false]
  intro x hx
  simp only [keysOf, List.mem_map, List.mem_range] at hx
  obtain ⟨i, hi, rfl⟩ := hx
  rw [sameKey_ne]
  · simp
  · intro e
    injection e with _ e
    exact part_ne dd j hj i k hi hk e
theorem dat_step (j dd : Int) (k : Nat) : datOf j dd (k + 1) = (datOf j dd k).put (.int .i64 (Backoff.part (dd + k) j)) (.lit (.int .i64 1)) := by
  unfold datOf keysOf
  rw [List.range_succ, List.map_append, List.map_singleton, setOf_snoc]
theorem size_dat (j dd : Int) (hj : 0 ≤ j) : ∀ k : Nat, (k : Int) ≤ j + 1 → Maps.size (datOf j dd k) = k
  | 0, _ => rfl
  | k + 1, hk => by
    rw [dat_step, size_put (D := datOf j dd k) (tidy_setOf _ _ (keys_lit j dd k)), has_dat j dd hj k (by omega), size_dat j dd hj k (by omega)]
    rfl
theorem at_dat (j dd : Int) (kl : Lit) : ∀ k : Nat, Maps.has (datOf j dd k) kl = true → ∀ z, (datOf j dd k).atKey kl z = .lit (.int .i64 1)
  | 0, h, _ => by simp [datOf, keysOf, setOf, Maps.has] at h
  | k + 1, h, z => by
    rw [dat_step] at h ⊢
    have hm : IsMap (datOf j dd k) := (tidy_setOf _ _ (keys_lit j dd k)).isMap
    by_cases e : kl = .int .i64 (Backoff.part (dd + k) j)
    · subst e
      exact atKey_put_same hm (show WideAt.IsKeyLit (Lit.int .i64 (Backoff.part (dd + k) j)) from trivial) _ _
    · rw [atKey_put_other e]
      rw [has_put_other e] at h
      exact at_dat j dd kl k h z
theorem wid {n : Int} (h : -9223372036854775808 ≤ n) (h' : n ≤ 9223372036854775807) : wrap64 n = n := by unfold wrap64; omega
theorem czero {D : DataW Unit} {kl : Lit} {c : Int} (h : Maps.has D kl = false) (hat : D.atKey kl (.lit (.int .i64 0)) = .lit (.int .i64 c)) : c = 0 := by
  rw [atKey_of_not_has h] at hat
  injection hat with hat
  injection hat with _ hat
  exact hat.symm
theorem len_at {w : World} {b n : Nat} {D : DataW Unit} (h : w.ownsMap Try.prog 3 (plainElem (H := Unit) Try.prog 3) b n D) (m : Int) (hm : (Maps.size D : Int) = m) : ∀ ty, (Builtin.len_ #[28] ty #[.map (some b)]).run Try.prog w = .ok (.int .i64 m) w := fun ty => by
  rw [← hm]
  exact h.len (t := 28) (e := 3) (by kernel_rfl) ty
theorem keyp {x p : Int} (h : x = p) (h0 : 0 ≤ p) (h1 : p ≤ 100) : keyOf Try.prog 3 (.int .i64 x) = some (.int .i64 p) := by
  subst h
  exact keyOf_int_mk Try.underlying3 (WalkArith.wf_i64 (by omega))
set_option maxHeartbeats 2000000 in
set_option maxRecDepth 100000 in
theorem draws_yes (b0 b1 b2 n d : Int) (j : Int) (i : Nat) (dd : Int) (w : World) (hj : Int.tmod (wrap64 (Int.tmod b2 50 + 50)) 50 = j) (hi : Int.tmod (wrap64 (Int.tmod n 100 + 100)) 100 = i) (hd : Int.tmod d 1000000 = dd)
    (hjb : 0 ≤ j ∧ j ≤ 49) (hib : i < 100) (hdb : -1000000 < dd ∧ dd < 1000000) (h : BackMay b0 b1 j) :
    Calls Try.prog 3 #[.agg #[.int .i64 b0, .int .i64 b1, .int .i64 b2], .int .i64 n, .int .i64 d] w fun e w' => e = .returned (.bool true) ∧ Below w.heap.size w w' := by
  have hmm := @run_makeMap Try.prog
  have HS := Aside0.mk (step_value h i)
  have HW := Aside0.mk (fun x => wait_value h i x)
  have HA := Aside0.mk alive06
  have HJ := Aside0.mk hj
  have HI := Aside0.mk hi
  have HD := Aside0.mk hd
  have HH := Aside0.mk h
  clear hj hi hd h
  go_enter Try.func3, Try.ntmps3
  go_wp2_with (first | (go_at_call 15; refine (backoff_Step.calls b0 b1 _ _ (stepI b0 b1 i) 0 _ (by rw [HJ.out, HI.out]; exact HS.out)).mono ?_; rintro e w1 ⟨rfl, hb1⟩; obtain ⟨q, qs, qB⟩ := draws_facts w w1 b0 b1 _ hb1; have q0 : w1.cell? ⟨w.heap.size, 0, none⟩ = some (.int .i64 b0) := (blk_cell q 0).trans rfl; have q1 : w1.cell? ⟨w.heap.size, 1, none⟩ = some (.int .i64 b1) := (blk_cell q 1).trans rfl; have q2 : w1.cell? ⟨w.heap.size, 2, none⟩ = some (.int .i64 (Int.tmod (wrap64 (Int.tmod b2 50 + 50)) 50)) := (blk_cell q 2).trans rfl; clear hb1))
  obtain ⟨qv, hqv⟩ : ∃ x, Int.tmod (wrap64 (Int.tmod b2 50 + 50)) 50 = x := ⟨_, rfl⟩
  have hM : (w1.alloc (.map #[] 0)).ownsMap Try.prog 3 (plainElem (H := Unit) Try.prog 3) w1.heap.size 0 (datOf j dd 0) := World.ownsMap_made _ _ _ _
  have hBL : (w1.alloc (.map #[] 0)).heap[w.heap.size]? = some (.cells #[.int .i64 b0, .int .i64 b1, .int .i64 j] 23 (0, 0)) := by
    rw [HJ.out] at q; exact (Below.heap_alloc _ _ _ qs).trans q
  have hB1 : Below w.heap.size w (w1.alloc (.map #[] 0)) := qB.alloc (by omega) _
  rw [HJ.out] at q2
  rw [HJ.out, HI.out, HD.out]
  rw [wid (n := j + 1) (by omega) (by omega)]
  clear q q0 q1 q2 hqv
  go_loopw [46] (fun s wr => ∃ k : Nat, (k : Int) ≤ j + 1 ∧ s = .int .i64 k ∧ wr.ownsMap Try.prog 3 (plainElem (H := Unit) Try.prog 3) w1.heap.size k (datOf j dd k) ∧ wr.heap[w.heap.size]? = some (.cells #[.int .i64 b0, .int .i64 b1, .int .i64 j] 23 (0, 0)) ∧ Below w.heap.size w wr) (fun s _ => 60 - (intOf s).toNat)
  case atStart => exact ⟨0, by omega, rfl, hM, hBL, hB1⟩
  case round =>
    obtain ⟨k, hk, rfl, hown, hbl, hB⟩ := hrel
    have c0 : wr.cell? ⟨w.heap.size, 0, none⟩ = some (.int .i64 b0) := (blk_cell hbl 0).trans rfl
    have c1 : wr.cell? ⟨w.heap.size, 1, none⟩ = some (.int .i64 b1) := (blk_cell hbl 1).trans rfl
    have c2 : wr.cell? ⟨w.heap.size, 2, none⟩ = some (.int .i64 j) := (blk_cell hbl 2).trans rfl
    by_cases hlt : (k : Int) < j + 1
    · have W1 : wrap64 (dd + k) = dd + k := wid (by omega) (by omega)
      have W2 : wrap64 (j + 1) = j + 1 := wid (by omega) (by omega)
      have W3 : wrap64 (7 * (j + 1)) = 7 * (j + 1) := wid (by omega) (by omega)
      have W4 : wrap64 (dd + k + 7 * (j + 1)) = dd + k + 7 * (j + 1) := wid (by omega) (by omega)
      have WA := Aside0.mk (And.intro W1 (And.intro W2 (And.intro W3 W4)))
      have PE := Aside0.mk (show Backoff.part (dd + k + 7 * (j + 1)) j = Backoff.part (dd + k) j from by
        rw [part_emod _ _ hjb.1, part_emod _ _ hjb.1, Int.mul_comm, Int.add_mul_emod_self_left])
      have hp := part_bd (dd + k) j hjb.1
      have hsb := st_bd (kOf_doubles HH.out) i
      have HP := Aside0.mk (has_dat j dd hjb.1 k (by omega))
      have HST := Aside0.mk (dat_step j dd k)
      obtain ⟨hb0, hb1, hb2⟩ : 1 ≤ b0 ∧ b1 ≤ 1073741824 ∧ b0 ≤ b1 := ⟨HH.out.1.1, HH.out.2.1.2, HH.out.2.1.1⟩
      obtain ⟨p, hpe⟩ : ∃ p, Backoff.part (dd + k) j = p := ⟨_, rfl⟩
      have HW1 := Aside0.mk (HW.out (dd + k))
      have HW2 := Aside0.mk (HW.out (dd + k + 7 * (j + 1)))
      rw [PE.out] at HW2
      rw [hpe] at HW1 HW2 hp HP HST
      obtain ⟨s, hs⟩ : ∃ s, stepI b0 b1 (i : Int) = s := ⟨_, rfl⟩
      rw [hs] at HW1 HW2 hsb ⊢
      obtain ⟨hp0, hp1, _, _⟩ := hp
      have HPE := Aside0.mk hpe
      clear hpe hs W1 W2 W3 W4 PE HW
      go_wp2_with (first
        | (go_at_call 17; refine (backoff_Wait.calls b0 b1 j i _ (s + p) 0 _ (by first | exact HW1.out | exact HW2.out | (rw [WA.out.1]; exact HW1.out) | (rw [WA.out.1, WA.out.2.1, WA.out.2.2.1, WA.out.2.2.2]; exact HW2.out))).mono ?_; rintro e w2 ⟨rfl, hwb⟩; have hown := own_below hown hwb (hown.lt); have hbl := (hwb.block _ (Array.getElem?_eq_some_iff.1 hbl).1).trans hbl; have hB := hB.trans (hwb.mono hB.size); have c0 : w2.cell? ⟨w.heap.size, 0, none⟩ = some (.int .i64 b0) := (blk_cell hbl 0).trans rfl; have c1 : w2.cell? ⟨w.heap.size, 1, none⟩ = some (.int .i64 b1) := (blk_cell hbl 1).trans rfl; have c2 : w2.cell? ⟨w.heap.size, 2, none⟩ = some (.int .i64 j) := (blk_cell hbl 2).trans rfl)
        | (at_lookup; refine wpList_lookup_own_int _ rfl _ _ 28 rfl 3 3 .i64 law3 (by kernel_rfl) Try.underlying3 (zero3 _) w1.heap.size k _ rfl hown _ _ rfl (keyp (p := p) (by first | omega | (unfold wrap64; omega)) hp0 (by omega)) ?_; intro c hat hwc; obtain rfl : c = 0 := czero HP.out hat)
        | (at_mapUpdate; refine wpList_mapUpdate_own _ rfl _ _ _ 28 rfl 3 3 law3 (by kernel_rfl) _ w1.heap.size k _ rfl hown (by unfold maxLen; omega) _ _ _ rfl rfl (keyp (p := p) (by first | omega | (unfold wrap64; omega)) hp0 (by omega)) _ [] (plainElem_int Try.underlying3 (by first | exact wrap64_wf _ | exact WalkArith.wf_i64 (by omega) | decide)) ?_; intro w3 hown1 hgrow1))
      go_roundw
      case rel => exact ⟨k + 1, by omega, by go_num, (by rw [HST.out]; exact hown1), (hgrow1.block _ (Array.getElem?_eq_some_iff.1 hbl).1 (by simp; omega)).trans hbl, hB.grown hgrow1 hB.size (fun j hj => by cases hj; omega)⟩
      case measure => simp [intOf]; omega
    · have hkj : (k : Int) = j + 1 := by omega
      have hRlt : w.heap.size < wr.heap.size := (Array.getElem?_eq_some_iff.1 hbl).1
      have HSZ := Aside0.mk (size_dat j dd hjb.1 k (by omega))
      have HAT := Aside0.mk (fun {kl : Lit} (hh : Maps.has (datOf j dd k) kl = true) z => at_dat j dd kl k hh z)
      go_wp2_with (first | (at_range; refine wpList_range_own _ rfl _ 28 rfl 3 3 law3 (by kernel_rfl) _ w1.heap.size k _ rfl hown ?_; intro w0 hrg0 hg0 hs0))
      try go_frame
      go_loopw [16] (fun _ wq => ∃ (left : Lit → Bool) (cnt : Nat), wq.ranges Try.prog 3 (plainElem (H := Unit) Try.prog 3) w1.heap.size wr.heap.size k (datOf j dd k) left cnt ∧ (∀ kl, left kl = true → Maps.has (datOf j dd k) kl = true) ∧ wq.heap[w.heap.size]? = some (.cells #[.int .i64 b0, .int .i64 b1, .int .i64 j] 23 (0, 0)) ∧ Below w.heap.size w wq) (fun _ wq => wq.rangeLeft w1.heap.size wr.heap.size)
      case atStart => exact ⟨_, _, hrg0, fun _ h => h, (hg0.block _ (Array.getElem?_eq_some_iff.1 hbl).1 (by simp)).trans hbl, hB.grown hg0 hB.size (fun j hj => by cases hj)⟩
      case round =>
        obtain ⟨left, cnt, hrg, hsub, hbl2, hB2⟩ := hrel
        have c0 : wr.cell? ⟨w.heap.size, 0, none⟩ = some (.int .i64 b0) := (blk_cell hbl2 0).trans rfl
        have c1 : wr.cell? ⟨w.heap.size, 1, none⟩ = some (.int .i64 b1) := (blk_cell hbl2 1).trans rfl
        have c2 : wr.cell? ⟨w.heap.size, 2, none⟩ = some (.int .i64 j) := (blk_cell hbl2 2).trans rfl
        go_wp2_with (first
          | (at_next; refine wpList_next_ranges_ii _ rfl _ rfl 3 3 .i64 .i64 law3 Try.underlying3 Try.underlying3 w1.heap.size _ k _ _ _ rfl hrg ?_ ?_))
        · intro _ hl0
          have hown3 := hrg.owns
          go_wp2_with (first
            | (go_at_call 16; refine (foghornlaw06_alive.calls true _ HA.out).mono ?_; rintro e w4 ⟨rfl, hwb⟩; have hown3 := own_below hown3 hwb (hown3.lt); have hbl := (hwb.block _ (Array.getElem?_eq_some_iff.1 hbl2).1).trans hbl2; have hB := hB2.trans (hwb.mono hB2.size); have c0 : w4.cell? ⟨w.heap.size, 0, none⟩ = some (.int .i64 b0) := (blk_cell hbl 0).trans rfl; have c1 : w4.cell? ⟨w.heap.size, 1, none⟩ = some (.int .i64 b1) := (blk_cell hbl 1).trans rfl; have c2 : w4.cell? ⟨w.heap.size, 2, none⟩ = some (.int .i64 j) := (blk_cell hbl 2).trans rfl; have hlen : ∀ ty, (Builtin.len_ #[28] ty #[.map (some w1.heap.size)]).run Try.prog w4 = .ok (.int .i64 (j + 1)) w4 := len_at hown3 (j + 1) (by rw [HSZ.out]; exact hkj)))
          go_ret
          exact ⟨by simp, by assumption⟩
        · intro x c w2 cnt2 hwx hwc hlx hat hrg1 hlt2 hg1 hs1 hen
          have hc : c = 1 := by
            have := HAT.out (hsub _ hlx) (.lit (.int .i64 0))
            rw [hat] at this
            injection this with this
            injection this
          subst hc
          go_wp2
          exact ⟨⟨_, cnt2, hrg1, fun kl h => hsub kl (by simp at h; exact h.1), (hg1.block _ (Array.getElem?_eq_some_iff.1 hbl2).1 (by simp; omega)).trans hbl2, hB2.grown hg1 hB2.size (fun j hj => by cases hj; omega)⟩, by rw [hrg1.left_eq, hrg.left_eq]; exact hlt2⟩

set_option maxHeartbeats 2000000 in
set_option maxRecDepth 100000 in
theorem draws_no (b0 b1 b2 n d : Int) (j : Int) (i : Nat) (w : World) (hj : Int.tmod (wrap64 (Int.tmod b2 50 + 50)) 50 = j) (hi : Int.tmod (wrap64 (Int.tmod n 100 + 100)) 100 = i) (h : ¬ BackMay b0 b1 j) :
    Calls Try.prog 3 #[.agg #[.int .i64 b0, .int .i64 b1, .int .i64 b2], .int .i64 n, .int .i64 d] w fun e w' => e = .returned (.bool true) ∧ Below w.heap.size w w' := by
  have HS := Aside0.mk (step_none (b0 := b0) (b1 := b1) (b2 := j) (n := (i : Int)) (fun hh => h hh.1))
  have HA := Aside0.mk alive06
  have HJ := Aside0.mk hj
  have HI := Aside0.mk hi
  clear hj hi h
  go_enter Try.func3, Try.ntmps3
  go_wp2_with (first
    | (go_at_call 15; refine (backoff_Step.calls b0 b1 _ _ 0 1 _ (by rw [HJ.out, HI.out]; exact HS.out)).mono ?_; rintro e w1 ⟨rfl, hb1⟩; obtain ⟨q, qs, qB⟩ := draws_facts w w1 b0 b1 _ hb1; clear hb1)
    | (go_at_call 16; refine (foghornlaw06_alive.calls true _ HA.out).mono ?_; rintro e w4 ⟨rfl, hwb⟩; have qB := qB.trans (hwb.mono qB.size)))
  go_ret
  exact ⟨by simp, by assumption⟩
theorem bd_mod (a b : Int) (h : 0 < b) (hb : b ≤ 1000) : 0 ≤ Int.tmod (wrap64 (Int.tmod a b + b)) b ∧ Int.tmod (wrap64 (Int.tmod a b + b)) b < b := by
  have h1 := Int.tmod_lt_of_pos a h
  have h2 : -b < Int.tmod a b := by
    have := Int.tmod_lt_of_pos (-a) h
    rw [Int.neg_tmod] at this
    omega
  rw [wid (by omega) (by omega), Int.tmod_eq_emod_of_nonneg (by omega)]
  exact ⟨Int.emod_nonneg _ (by omega), Int.emod_lt_of_pos _ h⟩
theorem BackoffDraws (b0 b1 b2 n d : Int) (W : World) (w0 : (Lit.int .i64 b0).wf = true) (w1 : (Lit.int .i64 b1).wf = true) (w2 : (Lit.int .i64 b2).wf = true) (wn : (Lit.int .i64 n).wf = true) (wd : (Lit.int .i64 d).wf = true) :
    Calls Try.prog 3 #[.agg #[.int .i64 b0, .int .i64 b1, .int .i64 b2], .int .i64 n, .int .i64 d] W fun e w' => e = .returned (.bool true) ∧ Below W.heap.size W w' := by
  have hj := bd_mod b2 50 (by decide) (by decide)
  have hn := bd_mod n 100 (by decide) (by decide)
  have hd1 := Int.tmod_lt_of_pos d (show (0 : Int) < 1000000 by decide)
  have hd2 : -1000000 < Int.tmod d 1000000 := by
    have := Int.tmod_lt_of_pos (-d) (show (0 : Int) < 1000000 by decide)
    rw [Int.neg_tmod] at this
    omega
  have hi : Int.tmod (wrap64 (Int.tmod n 100 + 100)) 100 = ((Int.tmod (wrap64 (Int.tmod n 100 + 100)) 100).toNat : Int) := by omega
  by_cases h : BackMay b0 b1 (Int.tmod (wrap64 (Int.tmod b2 50 + 50)) 50)
  · exact draws_yes b0 b1 b2 n d _ _ _ W rfl hi rfl ⟨hj.1, by omega⟩ (by omega) ⟨hd2, hd1⟩ h
  · exact draws_no b0 b1 b2 n d _ _ W rfl hi h
end Go.Proofs.Ytkkopknlhijgiaa.Pure
