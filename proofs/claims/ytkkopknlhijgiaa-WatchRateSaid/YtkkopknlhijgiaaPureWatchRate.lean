/- The statement WatchRate over plain numbers: so many sends at once keep to a rate just if that lets as many through at once. No condition. -/
import Derived.Test.YtkkopknlhijgiaaG0
import Derived.Test.YtkkopknlhijgiaaG2
import Derived.Test.YtkkopknlhijgiaaG4
import Derived.Test.YtkkopknlhijgiaaG5
import Derived.Test.YtkkopknlhijgiaaG6
import Derived.Test.YtkkopknlhijgiaaG8
import Derived.Test.YtkkopknlhijgiaaG9
namespace Go.Proofs.Ytkkopknlhijgiaa.Pure
open Go.RowKit Go.Proofs.Ytkkopknlhijgiaa.G Go.Proofs.YtkkopknlhijgiaaW.PrintWords Go.Proofs.YtkkopknlhijgiaaW.PrintLast Go.Proofs.YtkkopknlhijgiaaW.PrintMore
set_option linter.unusedVariables false
set_option linter.unusedSimpArgs false
theorem w64 {n : Int} (h : -9223372036854775808 ≤ n) (h' : n ≤ 9223372036854775807) : wrap64 n = n := by unfold wrap64; omega
theorem u64w (n : Int) : IntKind.u64.wrap n = n % 18446744073709551616 := by simp [IntKind.wrap, IntKind.signed, IntKind.bits]
theorem u64id {n : Int} (h : 0 ≤ n) (h' : n ≤ 9223372036854775807) : IntKind.u64.wrap n = n := by rw [u64w]; omega
theorem apF_val {a b : Int} (h : 0 ≤ a) (h' : a ≤ b) (hb : b ≤ 9223372036854775807) : apF a b = b - a := by
  unfold apF
  rw [u64id (n := b) (by omega) hb, u64id h (by omega), u64id (by omega) (by omega)]
theorem tmod_range (a m : Int) (hm : 1 ≤ m) (hm' : m ≤ 1000) : 0 ≤ Int.tmod (wrap64 (Int.tmod a m + m)) m ∧ Int.tmod (wrap64 (Int.tmod a m + m)) m < m := by
  have k1 : Int.tmod a m < m := Int.tmod_lt_of_pos a (by omega)
  have k2 : -m < Int.tmod a m := by
    have := Int.tmod_lt_of_pos (-a) (show 0 < m by omega)
    rw [Int.neg_tmod] at this
    omega
  rw [w64 (by omega) (by omega), Int.tmod_eq_emod_of_nonneg (by omega)]
  exact ⟨Int.emod_nonneg _ (by omega), Int.emod_lt_of_pos _ (by omega)⟩
theorem rd_get (l : List S51) (i : Nat) (h : i < l.length) : rd_T51 l i = l[i] := by simp [rd_T51, List.getD_eq_getElem?_getD, h]
theorem upF_of (l : List S51) (h : l.Pairwise fun a b => a.f0 ≤ b.f0) : upF l = true := by
  unfold upF
  rw [List.all_eq_true]
  intro i hi
  rw [List.mem_range] at hi
  have e : ((i : Int) + 1) = ((i + 1 : Nat) : Int) := by omega
  rw [rd_get l i (by omega), e, rd_get l (i + 1) (by omega)]
  exact decide_eq_true (List.pairwise_iff_getElem.1 h i (i + 1) (by omega) (by omega) (by omega))
theorem alive23 : foghornlaw23_alive.f = some true := by decide +kernel
theorem wrL_all (x : Int) : ∀ n, ∀ y ∈ wrL x n, y.f0 = x ∧ y.f2 = ⟨#[]⟩ ∧ y.f3 = false ∧ (y.f1 = 1 ∨ y.f1 = 0)
  | 0, y, h => by simp [wrL] at h
  | n + 1, y, h => by
    rw [wrL, List.mem_append] at h
    rcases h with h | h
    · exact wrL_all x n y h
    · simp only [List.mem_cons, List.not_mem_nil, or_false] at h
      rcases h with rfl | rfl <;> simp
theorem wrL_up (x z : Int) (hz : x ≤ z) (n : Nat) : upF (wrL x n) = true ∧ upF (wrL x n ++ [wrS z 1]) = true := by
  have p : (wrL x n).Pairwise fun a b => a.f0 ≤ b.f0 := by
    rw [List.pairwise_iff_forall_sublist]
    intro a b hs
    have ha := wrL_all x n a (hs.subset (by simp))
    have hb := wrL_all x n b (hs.subset (by simp))
    rw [ha.1, hb.1]; exact Int.le_refl _
  refine ⟨upF_of _ p, upF_of _ ?_⟩
  rw [List.pairwise_append]
  refine ⟨p, by simp, fun a ha b hb => ?_⟩
  rw [List.mem_singleton] at hb
  subst hb
  rw [(wrL_all x n a ha).1]; exact hz
theorem wrL_one (x : Int) : ∀ n, (wrL x n).filter (rateP 1) = List.replicate n (wrS x 1)
  | 0 => rfl
  | n + 1 => by
    rw [wrL, List.filter_append, wrL_one x n, List.replicate_succ']
    simp [rateP]
theorem wrL_two (x : Int) : ∀ n, (wrL x n).filter (rateP 2) = []
  | 0 => rfl
  | n + 1 => by
    rw [wrL, List.filter_append, wrL_two x n]
    simp [rateP]
/-- What is behind so many of one tick. -/
theorem in_same (free ev x : Int) (r : List S51) (hf : 0 ≤ free ∧ free ≤ 100) (he : 1 ≤ ev) (hx : 0 ≤ x ∧ x < 200000) : ∀ (n k : Nat), k + n ≤ 100 →
    rateIn free ev x k (List.replicate n (wrS x 1) ++ r) = ((decide (n = 0) || decide ((k + n : Int) ≤ free)) && rateIn free ev x (k + n) r)
  | 0, k, _ => by simp
  | n + 1, k, h => by
    rw [List.replicate_succ, List.cons_append, rateIn]
    have e0 : apF x (wrS x 1).f0 = 0 := by
      show apF x x = 0
      rw [apF_val hx.1 (Int.le_refl _) (by omega)]; omega
    have eb : rateBad free ev x k (wrS x 1) = decide (free < (k : Int) + 1) := by
      unfold rateBad
      rw [e0, Int.zero_tdiv, u64id (n := 0) (by omega) (by omega)]
      by_cases c : free < (k : Int) + 1
      · rw [u64id (by omega) (by omega)]
        simp [c]
      · simp [c]
    rw [eb]
    by_cases c : free < (k : Int) + 1
    · rw [if_pos (decide_eq_true c)]
      have : ¬ ((k : Int) + ((n + 1 : Nat) : Int) ≤ free) := by omega
      rw [decide_eq_false this]; simp
    · rw [if_neg (by simpa using c), in_same free ev x r hf he hx n (k + 1) (by omega)]
      have e1 : (((k + 1 : Nat) : Int) + (n : Int) ≤ free) = ((k : Int) + ((n + 1 : Nat) : Int) ≤ free) := by
        apply propext; omega
      have e2 : k + 1 + n = k + (n + 1) := by omega
      rw [e2]
      simp only [e1]
      by_cases hn : n = 0
      · subst hn
        have : (k : Int) + ((0 + 1 : Nat) : Int) ≤ free := by omega
        rw [decide_eq_true this]; simp
      · simp [hn]
theorem go_same (free ev x : Int) (r : List S51) (hf : 0 ≤ free ∧ free ≤ 100) (he : 1 ≤ ev) (hx : 0 ≤ x ∧ x < 200000) : ∀ (n : Nat), n ≤ 100 → (∀ k : Nat, k ≤ n → 1 ≤ k → (k : Int) ≤ free → rateIn free ev x k r = true) →
    rateGo free ev (List.replicate n (wrS x 1) ++ r) = (decide ((n : Int) ≤ free) && rateGo free ev r)
  | 0, _, _ => by simp; omega
  | n + 1, h, hr => by
    have ih := go_same free ev x r hf he hx n (by omega) (fun k hk => hr k (by omega))
    have hi := in_same free ev x r hf he hx (n + 1) 0 (by omega)
    rw [List.replicate_succ, List.cons_append] at hi
    rw [List.replicate_succ, List.cons_append, rateGo]
    show (if rateIn free ev x 0 (wrS x 1 :: (List.replicate n (wrS x 1) ++ r)) = true then _ else _) = _
    rw [hi, ih]
    by_cases c : ((n + 1 : Nat) : Int) ≤ free
    · have c1 : ((0 : Nat) : Int) + ((n + 1 : Nat) : Int) ≤ free := by omega
      have c2 : (n : Int) ≤ free := by omega
      have c3 := hr (n + 1) (by omega) (by omega) c
      rw [Nat.zero_add, c3]
      simp only [decide_eq_true c1, decide_eq_true c, decide_eq_true c2, Bool.or_true, Bool.and_true, Bool.true_and, if_true]
    · have c1 : ¬ ((0 : Nat) : Int) + ((n + 1 : Nat) : Int) ≤ free := by omega
      simp only [decide_eq_false c1, decide_eq_false c, Bool.or_false, Nat.add_one_ne_zero, decide_false, Bool.false_and, Bool.false_eq_true, if_false]
theorem free_val {b m : Int} (hb : 0 ≤ b ∧ b ≤ 100) (hm : 0 ≤ m ∧ m ≤ 100) : freeOf b m = b + m := by
  unfold freeOf
  rw [u64id hb.1 (by omega), u64id hm.1 (by omega), u64id (by omega) (by omega)]
theorem rate_at {l : List S51} {who b e m : Int} (hl : l.length ≤ 1000) (hu : upF l = true) (hb : 0 ≤ b) (hm : 0 ≤ m) (he : 1 ≤ e ∧ e ≤ 1000) : watch_Rate.f l who b e m = some (rateGo (freeOf b m) e (l.filter (rateP who)), 0) := by
  unfold watch_Rate.f
  rw [if_pos (by omega), if_pos ⟨hu, hb, hm, he.1⟩, if_pos (by omega)]
theorem bad_last {free ev x z : Int} {k : Nat} (hf : 0 ≤ free ∧ free ≤ 100) (he : 1 ≤ ev ∧ ev ≤ 1000) (hx : 0 ≤ x ∧ x ≤ z ∧ z < 300000) (hk : k ≤ 100) :
    rateBad free ev x k (wrS z 1) = (decide (free < (k : Int) + 1) && decide (Int.tdiv (z - x) ev < (k : Int) + 1 - free)) := by
  unfold rateBad
  have e0 : apF x (wrS z 1).f0 = z - x := by
    show apF x z = z - x
    exact apF_val hx.1 hx.2.1 (by omega)
  have q0 : 0 ≤ Int.tdiv (z - x) ev := Int.tdiv_nonneg (by omega) (by omega)
  have q1 : Int.tdiv (z - x) ev ≤ z - x := Int.tdiv_le_self _ (by omega)
  rw [e0, u64id q0 (by omega)]
  by_cases c : free < (k : Int) + 1
  · rw [u64id (by omega) (by omega)]
  · simp [c]
theorem wrL_snoc (x z : Int) (n : Nat) : (wrL x n ++ [wrS z 1]).filter (rateP 1) = List.replicate n (wrS x 1) ++ [wrS z 1] := by
  rw [List.filter_append, wrL_one]; simp [rateP]
theorem tw_more (q : Int × ByteArray × Bool) : ∀ (l p : List S51), (∀ y ∈ l, twKey y = q) → (∃ y ∈ p, twKey y = q) → twGo p l = l.length
  | [], _, _, _ => rfl
  | a :: r, p, h, hp => by
    have ha : twKey a = q := h a (by simp)
    have hc : 0 < twCnt (twKey a) p := twCnt_pos (by rw [ha]; exact hp)
    rw [twGo, if_pos hc, tw_more q r (p ++ [a]) (fun y hy => h y (by simp [hy])) ⟨a, by simp, ha⟩, List.length_cons]
    omega
theorem tw_first (q : Int × ByteArray × Bool) (l : List S51) (h : ∀ y ∈ l, twKey y = q) (hl : 1 ≤ l.length) : twGo [] l = l.length - 1 := by
  cases l with
  | nil => simp at hl
  | cons a r =>
    have ha : twKey a = q := h a (by simp)
    have h0 : ¬ 0 < twCnt (twKey a) [] := by simp [twCnt]
    rw [twGo, if_neg h0, tw_more q r ([] ++ [a]) (fun y hy => h y (by simp [hy])) ⟨a, by simp, ha⟩, List.length_cons]
    omega
theorem wr_holds {x burst every more : Int} {N : Nat} (hx : 0 ≤ x ∧ x < 100000) (hN : 1 ≤ N ∧ N ≤ 20) (hb : 0 ≤ burst ∧ burst < 12) (he : 1 ≤ every ∧ every ≤ 30) (hm : 0 ≤ more ∧ more < 12) :
    wrHolds x N burst every more = true := by
  have hlen := wrL_length x N
  have hup := wrL_up x (x + every) (by omega) N
  have hup1 := wrL_up x (x + every - 1) (by omega) N
  have b1 : watch_Rate.f (wrL x N) 1 burst every more = some (decide ((N : Int) ≤ burst + more), 0) := by
    rw [rate_at (by omega) hup.1 hb.1 hm.1 ⟨he.1, by omega⟩, free_val ⟨hb.1, by omega⟩ ⟨hm.1, by omega⟩, wrL_one, ← List.append_nil (List.replicate N (wrS x 1)),
      go_same (burst + more) every x [] ⟨by omega, by omega⟩ he.1 ⟨hx.1, by omega⟩ N (by omega) (fun _ _ _ _ => rfl)]
    simp [rateGo]
  have b2 : watch_Rate.f (wrL x N ++ [wrS (x + every) 1]) 1 burst every more = some (decide ((N : Int) ≤ burst + more), 0) := by
    have q1 : Int.tdiv (x + every - x) every = 1 := by
      rw [show x + every - x = every by omega]; exact Int.tdiv_self (by omega)
    rw [rate_at (by simp; omega) hup.2 hb.1 hm.1 ⟨he.1, by omega⟩, free_val ⟨hb.1, by omega⟩ ⟨hm.1, by omega⟩, wrL_snoc,
      go_same (burst + more) every x [wrS (x + every) 1] ⟨by omega, by omega⟩ he.1 ⟨hx.1, by omega⟩ N (by omega) (fun k hk h1 hf => by
        rw [rateIn, bad_last ⟨by omega, by omega⟩ ⟨he.1, by omega⟩ ⟨hx.1, by omega, by omega⟩ (by omega), q1, decide_eq_false (show ¬ (1 : Int) < (k : Int) + 1 - (burst + more) by omega)]
        simp [rateIn])]
    have hl : rateGo (burst + more) every [wrS (x + every) 1] = decide (1 ≤ burst + more) := by
      rw [rateGo]
      show (if rateIn (burst + more) every (x + every) 0 [wrS (x + every) 1] = true then _ else _) = _
      have q0 : Int.tdiv (x + every - (x + every)) every = 0 := by rw [Int.sub_self]; exact Int.zero_tdiv _
      rw [rateIn, bad_last ⟨by omega, by omega⟩ ⟨he.1, by omega⟩ ⟨by omega, by omega, by omega⟩ (by omega), q0]
      by_cases c : 1 ≤ burst + more
      · rw [decide_eq_false (show ¬ burst + more < ((0 : Nat) : Int) + 1 by omega), decide_eq_true c]; simp [rateIn, rateGo]
      · rw [decide_eq_true (show burst + more < ((0 : Nat) : Int) + 1 by omega), decide_eq_true (show (0 : Int) < ((0 : Nat) : Int) + 1 - (burst + more) by omega), decide_eq_false c]; simp
    rw [hl]
    by_cases c : (N : Int) ≤ burst + more
    · rw [decide_eq_true c, decide_eq_true (show 1 ≤ burst + more by omega)]; rfl
    · rw [decide_eq_false c]; rfl
  have b3 : watch_Rate.f (wrL x N ++ [wrS (x + every - 1) 1]) 1 N every 0 = some (false, 0) := by
    have q0 : Int.tdiv (x + every - 1 - x) every = 0 := by
      rw [show x + every - 1 - x = every - 1 by omega]; exact Int.tdiv_eq_zero_of_lt (by omega) (by omega)
    rw [rate_at (by simp; omega) hup1.2 (by omega) (by omega) ⟨he.1, by omega⟩, free_val ⟨by omega, by omega⟩ ⟨by omega, by omega⟩, wrL_snoc]
    obtain ⟨n, rfl⟩ : ∃ n, N = n + 1 := ⟨N - 1, by omega⟩
    have hi := in_same (((n + 1 : Nat) : Int) + 0) every x [wrS (x + every - 1) 1] ⟨by omega, by omega⟩ he.1 ⟨hx.1, by omega⟩ (n + 1) 0 (by omega)
    rw [rateIn, bad_last ⟨by omega, by omega⟩ ⟨he.1, by omega⟩ ⟨hx.1, by omega, by omega⟩ (by omega), q0, Nat.zero_add, decide_eq_true (show ((n + 1 : Nat) : Int) + 0 < ((n + 1 : Nat) : Int) + 1 by omega), decide_eq_true (show (0 : Int) < ((n + 1 : Nat) : Int) + 1 - (((n + 1 : Nat) : Int) + 0) by omega)] at hi
    simp only [Bool.and_self, if_true, Bool.and_false] at hi
    rw [List.replicate_succ, List.cons_append] at hi ⊢
    rw [rateGo]
    show some ((if rateIn _ every x 0 (wrS x 1 :: (List.replicate n (wrS x 1) ++ [wrS (x + every - 1) 1])) = true then _ else _), (0 : Int)) = _
    rw [hi]; rfl
  have b4 : watch_Rate.f (wrL x N) 2 0 every 0 = some (true, 0) := by
    rw [rate_at (by omega) hup.1 (by omega) (by omega) ⟨he.1, by omega⟩, wrL_two]; rfl
  have b5 : watch_Twice.f (wrL x N) = some (2 * (N : Int) - 1, 0) := by
    unfold watch_Twice.f
    have hwf : (wrL x N).all twWf = true := by
      rw [List.all_eq_true]
      intro y hy
      obtain ⟨e1, e2, e3, _⟩ := wrL_all x N y hy
      unfold twWf
      rw [e1, e2]
      have : (Lit.int .i64 x).wf = true := by simp [Lit.wf, IntKind.min, IntKind.max, IntKind.signed, IntKind.bits]; omega
      rw [this]; rfl
    have hft : (wrL x N).filter twP = wrL x N := by
      rw [List.filter_eq_self]
      intro y hy
      obtain ⟨_, _, _, e4⟩ := wrL_all x N y hy
      unfold twP
      rcases e4 with e | e <;> rw [e] <;> rfl
    rw [if_pos ⟨by omega, hwf⟩, if_pos hup.1, hft, tw_first (x, ⟨#[]⟩, false) (wrL x N) (fun y hy => by obtain ⟨e1, e2, e3, _⟩ := wrL_all x N y hy; unfold twKey; rw [e1, e2, e3]) (by omega), hlen]
    simp
  unfold wrHolds
  rw [Int.toNat_natCast, w64 (n := burst + more) (by omega) (by omega), w64 (n := x + every) (by omega) (by omega), w64 (n := x + every - 1) (by omega) (by omega), b1, b2, b3, b4, b5, alive23]
  simp
  omega
theorem WatchRate (a0 a1 a2 a3 a4 : Int) (_ : (Lit.int .i64 a0).wf = true) (_ : (Lit.int .i64 a1).wf = true) (_ : (Lit.int .i64 a2).wf = true) (_ : (Lit.int .i64 a3).wf = true) (_ : (Lit.int .i64 a4).wf = true) : foghornlaw23_WatchRate.f a0 a1 a2 a3 a4 = some true := by
  have hF : 0 ≤ Int.tmod (IntKind.u64.wrap a0) 100000 ∧ Int.tmod (IntKind.u64.wrap a0) 100000 < 100000 := by
    have h0 : 0 ≤ IntKind.u64.wrap a0 := by rw [u64w]; omega
    rw [Int.tmod_eq_emod_of_nonneg h0]
    exact ⟨Int.emod_nonneg _ (by omega), Int.emod_lt_of_pos _ (by omega)⟩
  obtain ⟨n1, n2⟩ := tmod_range a1 20 (by omega) (by omega)
  obtain ⟨c1, c2⟩ := tmod_range a2 12 (by omega) (by omega)
  obtain ⟨e1, e2⟩ := tmod_range a3 30 (by omega) (by omega)
  obtain ⟨m1, m2⟩ := tmod_range a4 12 (by omega) (by omega)
  unfold foghornlaw23_WatchRate.f
  generalize Int.tmod (IntKind.u64.wrap a0) 100000 = F at hF ⊢
  generalize Int.tmod (wrap64 (Int.tmod a1 20 + 20)) 20 = n at n1 n2 ⊢
  generalize Int.tmod (wrap64 (Int.tmod a2 12 + 12)) 12 = c at c1 c2 ⊢
  generalize Int.tmod (wrap64 (Int.tmod a3 30 + 30)) 30 = e at e1 e2 ⊢
  generalize Int.tmod (wrap64 (Int.tmod a4 12 + 12)) 12 = m at m1 m2 ⊢
  rw [w64 (n := F) (by omega) (by omega), w64 (n := 1 + n) (by omega) (by omega), w64 (n := 1 + e) (by omega) (by omega)]
  obtain ⟨N, hN⟩ := Int.eq_ofNat_of_zero_le (show 0 ≤ 1 + n by omega)
  rw [hN, if_pos (wr_holds hF ⟨by omega, by omega⟩ ⟨c1, c2⟩ ⟨by omega, by omega⟩ ⟨m1, m2⟩)]
end Go.Proofs.Ytkkopknlhijgiaa.Pure
