/- Contracts of functions of the given program: what each comes to, for any arguments. No condition beyond each theorem's own premises. -/
import Derived.Test.YtkphinfijppkeaaLt
namespace Go.Proofs.Ytkphinfijppkeaa.G
open Go.RowKit Go.Proofs.YtkphinfijppkeaaW.PrintWords Go.Proofs.YtkphinfijppkeaaW.PrintLast Go.Proofs.YtkphinfijppkeaaW.PrintMore
attribute [local go_sem] max2_int min2_int max_two min_two max_three min_three max_four min_four
set_option linter.unusedVariables false
set_option linter.unusedSimpArgs false
/-! One more hushes as much and more. -/
theorem kept_hushed (q : List S25) (b : S25) (L : List S92) {now u : Int} (hu : now ≤ u) : hushed ((q.filter fun x => !overP now x) ++ [b]) L u ↔ (hushed q L u ∨ hushed [b] L u) := by
  rw [hushed_iff, hushed_iff, hushed_iff]
  constructor
  · rintro ⟨x, hx, h⟩
    rcases List.mem_append.1 hx with hx | hx
    · exact .inl ⟨x, (List.mem_filter.1 hx).1, h⟩
    · exact .inr ⟨x, hx, h⟩
  · rintro (⟨x, hx, h⟩ | ⟨x, hx, h⟩)
    · refine ⟨x, List.mem_append_left _ (List.mem_filter.2 ⟨hx, ?_⟩), h⟩
      unfold hitB at h
      simp only [Bool.and_eq_true, decide_eq_true_eq] at h
      unfold overP
      rw [Bool.not_eq_true', decide_eq_false_iff_not]
      omega
    · exact ⟨x, List.mem_append_right _ hx, h⟩
theorem hush8 {q : List S25} {b : S25} {now : Int} (h1 : hushesB q = true) (h3 : hushB b = true) (h8 : ¬ (q.filter fun x => !overP now x).length = 8) : hushesB ((q.filter fun x => !overP now x) ++ [b]) = true ∧ ((q.filter fun x => !overP now x) ++ [b]).length ≤ q.length + 1 := by
  unfold hushesB at h1 ⊢
  simp only [Bool.and_eq_true, decide_eq_true_eq] at h1 ⊢
  have hl := List.length_filter_le (fun x => !overP now x) q
  refine ⟨⟨by rw [List.length_append, List.length_singleton]; omega, List.all_eq_true.2 fun x hx => ?_⟩, by rw [List.length_append, List.length_singleton]; omega⟩
  rcases List.mem_append.1 hx with hx | hx
  · exact List.all_eq_true.1 h1.2 x (List.mem_filter.1 hx).1
  · rw [List.mem_singleton.1 hx]; exact h3
theorem hush1 {b : S25} (h3 : hushB b = true) : hushesB [b] = true := by
  unfold hushesB
  simp [h3]
theorem may_of {hs : List S25} {L : List S92} {u : Int} (h : hushesB hs = true) (ht : tmB u = true) : mayB hs L u = rightB L := by
  unfold mayB
  rw [h, ht]; rfl
theorem u_is {now lt : Int} (h0 : 0 ≤ now) (h1 : now ≤ 1099511627776) : ∃ u, wrap64 (now + wrap64 (Int.tmod (IntKind.u64.wrap lt) (1099511627776 - now + 1))) = u ∧ now ≤ u ∧ u ≤ 1099511627776 := by
  obtain ⟨m0, m1⟩ := u64mod lt (1099511627776 - now + 1) (by omega)
  obtain ⟨m, hm⟩ : ∃ m, Int.tmod (IntKind.u64.wrap lt) (1099511627776 - now + 1) = m := ⟨_, rfl⟩
  rw [hm] at m0 m1
  rw [hm, w64' (n := m) (by omega) (by omega), w64' (by omega) (by omega)]
  exact ⟨now + m, rfl, by omega, by omega⟩
theorem HushAdds (A0 : Option Addr) (c0 : Nat) (l0 : List S25) (h0 h1 : Int) (A2 : Option Addr) (c2 : Nat) (l2 : List S88) (A1 : Option Addr) (c1 : Nat) (l1 : List S92) (now lt : Int) (w : World) (hr0 : Kd.C k25 w A0 l0.length l0) (hc0 : l0.length ≤ c0) (hr2 : Kd.C k88 w A2 l2.length l2) (hc2 : l2.length ≤ c2) (hr1 : Kd.C k92 w A1 l1.length l1) (hc1 : l1.length ≤ c1) :
    Calls Try.prog 5 #[.slice A0 l0.length c0, .agg #[.int .i64 h0, .int .i64 h1, .slice A2 l2.length c2], .slice A1 l1.length c1, .int .i64 now, .int .i64 lt] w fun e w' => e = .returned (.bool true) ∧ Below w.heap.size w w' := by
  have hq := few_is l0 30 (by omega)
  obtain ⟨q, hqq⟩ : ∃ q, (l0.take 10).map cutH = q := ⟨_, rfl⟩
  obtain ⟨L, hL⟩ : ∃ L, l1.take 5 = L := ⟨_, rfl⟩
  obtain ⟨b, hb⟩ : ∃ b, cutH ⟨h0, h1, l2⟩ = b := ⟨_, rfl⟩
  have hql : q.length ≤ 10 := by rw [← hqq, List.length_map]; exact List.length_take_le 10 l0
  rw [hqq] at hq
  clear hqq
  have NO := fun E e1 e2 e3 hA => adds_no 30 A0 c0 l0 ⟨h0, h1, l2⟩ A2 c2 A1 c1 l1 now lt w hr0 hc0 hr2 hc2 hr1 hc1 q L b hq hL hb hql E e1 e2 e3 hA
  cases g1 : hushesB q with
  | false => exact NO 1 (by decide) (by decide) (by decide) (fun Aq cq A3 c3 W k1 k2 k3 => add_no1 Aq cq q b A3 c3 now W k1 (by omega) k2 k3 g1)
  | true =>
    cases g2 : tmB now with
    | false => exact NO 1 (by decide) (by decide) (by decide) (fun Aq cq A3 c3 W k1 k2 k3 => add_no2 Aq cq q b A3 c3 now W k1 (by omega) k2 k3 g1 g2)
    | true =>
      cases g3 : hushB b with
      | false => exact NO 1 (by decide) (by decide) (by decide) (fun Aq cq A3 c3 W k1 k2 k3 => add_no3 Aq cq q b A3 c3 now W k1 (by omega) k2 k3 g1 g2 g3)
      | true =>
        by_cases g4 : b.f1 ≤ now
        · exact NO 3 (by decide) (by decide) (by decide) (fun Aq cq A3 c3 W k1 k2 k3 => add_late Aq cq q b A3 c3 now W k1 (by omega) k2 k3 g1 g2 g3 g4)
        · have g5 : now < b.f1 := by omega
          obtain ⟨K, hK⟩ : ∃ K, (q.filter fun x => !overP now x) = K := ⟨_, rfl⟩
          by_cases g8 : K.length = 8
          · exact NO 5 (by decide) (by decide) (by decide) (fun Aq cq A3 c3 W k1 k2 k3 => add_full Aq cq q b A3 c3 now W k1 (by omega) k2 k3 g1 g2 g3 g5 K hK (by rw [g8]; rfl))
          · have hA := fun Aq cq A3 c3 W k1 k2 k3 => add_ok Aq cq q b A3 c3 now W k1 (by omega) k2 k3 g1 g2 g3 g5 K hK (beq_eq_false_iff_ne.2 (by omega))
            have hnow := (tm_iff now).1 g2
            obtain ⟨u, hu, hu1, hu2⟩ := u_is (lt := lt) hnow.1 hnow.2
            have htu : tmB u = true := (tm_iff u).2 ⟨by omega, hu2⟩
            obtain ⟨r1, r2⟩ := hush8 (now := now) g1 g3 (by rw [hK]; exact g8)
            have hkh := kept_hushed q b L hu1
            rw [hK] at r1 r2 hkh
            have y1 := may_of (L := L) g1 htu
            have y2 := may_of (L := L) (hush1 g3) htu
            have y3 := may_of (L := L) r1 htu
            cases hR : rightB L with
            | false =>
              rw [hR] at y1 y2 y3
              exact adds_err 30 A0 c0 l0 ⟨h0, h1, l2⟩ A2 c2 A1 c1 l1 now lt w hr0 hc0 hr2 hc2 hr1 hc1 q L b hq hL hb hql (K ++ [b]) hA hnow.1 hnow.2 u hu r2 r1 _ _ _ (may_no y1).2 (may_no y2).2 (may_no y3).2 rfl rfl rfl
            | true =>
              rw [hR] at y1 y2 y3
              by_cases hw : hushed q L u
              · exact adds_yes 30 A0 c0 l0 ⟨h0, h1, l2⟩ A2 c2 A1 c1 l1 now lt w hr0 hc0 hr2 hc2 hr1 hc1 q L b hq hL hb hql (K ++ [b]) hA hnow.1 hnow.2 u hu r2 r1 _ (may_yes y1).2 (may_yes y2).2 (may_yes y3).2 (by rw [(may_yes y1).1]; exact decide_eq_true hw) rfl (by rw [(may_yes y3).1]; exact decide_eq_true (hkh.2 (.inl hw)))
              · refine adds_not 30 A0 c0 l0 ⟨h0, h1, l2⟩ A2 c2 A1 c1 l1 now lt w hr0 hc0 hr2 hc2 hr1 hc1 q L b hq hL hb hql (K ++ [b]) hA hnow.1 hnow.2 u hu r2 r1 (activeV [b] L u) (may_yes y1).2 (may_yes y2).2 (may_yes y3).2 (by rw [(may_yes y1).1]; exact decide_eq_false hw) rfl ?_
                rw [(may_yes y3).1, (may_yes y2).1]
                refine decide_eq_decide.2 (hkh.trans ⟨fun h => h.resolve_left hw, .inr⟩)
end Go.Proofs.Ytkphinfijppkeaa.G
