/- The statement WatchLife over plain numbers: signs of life that come every so many ticks are often enough by that number, and not by one less; one left out makes them too seldom. No condition. -/
import Derived.Test.YtkkopknlhijgiaaG0
import Derived.Test.YtkkopknlhijgiaaG2
import Derived.Test.YtkkopknlhijgiaaG4
import Derived.Test.YtkkopknlhijgiaaG6
import Derived.Test.YtkkopknlhijgiaaG7
namespace Go.Proofs.Ytkkopknlhijgiaa.Pure
open Go.RowKit Go.Proofs.Ytkkopknlhijgiaa.G Go.Proofs.YtkkopknlhijgiaaW.PrintWords Go.Proofs.YtkkopknlhijgiaaW.PrintLast Go.Proofs.YtkkopknlhijgiaaW.PrintMore
set_option linter.unusedVariables false
set_option linter.unusedSimpArgs false
theorem w64 {n : Int} (h : -9223372036854775808 ≤ n) (h' : n ≤ 9223372036854775807) : wrap64 n = n := by unfold wrap64; omega
theorem u64w (n : Int) : IntKind.u64.wrap n = n % 18446744073709551616 := by simp [IntKind.wrap, IntKind.signed, IntKind.bits]
theorem u64id {n : Int} (h : 0 ≤ n) (h' : n ≤ 9223372036854775807) : IntKind.u64.wrap n = n := by rw [u64w]; omega
theorem apF_val {a b : Int} (h : 0 ≤ a) (h' : a ≤ b) (hb : b ≤ 9223372036854775807) : apF a b = b - a := by
  unfold apF
  rw [u64id (n := b) (by omega) hb, u64id h (by omega), u64id (by omega) (by omega)]
theorem tmod_range (a m : Int) (hm : 1 ≤ m) (hm' : m ≤ 1000) : 0 ≤ Int.tmod (wrap64 (Int.tmod a m + m)) m ∧ Int.tmod (wrap64 (Int.tmod a m + m)) m < m := by
  have k1 : Int.tmod a m < m := Int.tmod_lt_of_pos a (by omega)
  have k2 : -m < Int.tmod a m := by
    have := Int.tmod_lt_of_pos (-a) (show 0 < m by omega)
    rw [Int.neg_tmod] at this
    omega
  rw [w64 (by omega) (by omega), Int.tmod_eq_emod_of_nonneg (by omega)]
  exact ⟨Int.emod_nonneg _ (by omega), Int.emod_lt_of_pos _ (by omega)⟩
/-- A sign of life. -/
def sv (x : Int) : S51 := ⟨x, -1, ⟨#[]⟩, false⟩
abbrev sn (F E : Int) (i : Nat) : S51 := sv (F + i * E)
theorem rd_get (l : List S51) (i : Nat) (h : i < l.length) : rd_T51 l i = l[i] := by simp [rd_T51, List.getD_eq_getElem?_getD, h]
theorem upF_of (l : List S51) (h : l.Pairwise fun a b => a.f0 ≤ b.f0) : upF l = true := by
  unfold upF
  rw [List.all_eq_true]
  intro i hi
  rw [List.mem_range] at hi
  have e : ((i : Int) + 1) = ((i + 1 : Nat) : Int) := by omega
  rw [rd_get l i (by omega), e, rd_get l (i + 1) (by omega)]
  exact decide_eq_true (List.pairwise_iff_getElem.1 h i (i + 1) (by omega) (by omega) (by omega))
theorem pw_range (F E : Int) (hE : 0 ≤ E) (l : List Nat) (hl : l.Pairwise (· < ·)) : (l.map (sn F E)).Pairwise fun a b => a.f0 ≤ b.f0 := by
  rw [List.pairwise_map]
  refine hl.imp fun {a b} h => ?_
  show F + a * E ≤ F + b * E
  have := Int.mul_le_mul_of_nonneg_right (show (a : Int) ≤ b by omega) hE
  omega
theorem mulb {i : Nat} {E : Int} (hi : i ≤ 100) (hE : 0 ≤ E) (hE2 : E ≤ 100) : 0 ≤ (i : Int) * E ∧ (i : Int) * E ≤ 10000 :=
  ⟨Int.mul_nonneg (by omega) hE, Int.le_trans (Int.mul_le_mul_of_nonneg_right (show (i : Int) ≤ 100 by omega) hE) (by omega)⟩
section
variable {F E : Int} (hF : 0 ≤ F ∧ F < 100000) (hE : 2 ≤ E ∧ E ≤ 51)
include hF hE
theorem gap_one (i : Nat) (hi : i ≤ 90) : apF (F + i * E) (sn F E (i + 1)).f0 = E := by
  show apF (F + i * E) (F + (i + 1 : Nat) * E) = E
  have e : ((i + 1 : Nat) : Int) * E = i * E + E := by push_cast; rw [Int.add_mul, Int.one_mul]
  have := mulb (i := i) (E := E) (by omega) (by omega) (by omega)
  rw [e, apF_val (by omega) (by omega) (by omega)]; omega
theorem gap_two (i : Nat) (hi : i ≤ 90) : apF (F + i * E) (sn F E (i + 2)).f0 = 2 * E := by
  show apF (F + i * E) (F + (i + 2 : Nat) * E) = 2 * E
  have e : ((i + 2 : Nat) : Int) * E = i * E + 2 * E := by rw [show ((i + 2 : Nat) : Int) = (i : Int) + 2 by omega, Int.add_mul]
  have := mulb (i := i) (E := E) (by omega) (by omega) (by omega)
  rw [e, apF_val (by omega) (by omega) (by omega)]; omega
theorem go_all (T : Int) : ∀ (n i : Nat), i + n ≤ 80 → lifeGo T E (F + i * E) ((List.range' (i + 1) n).map (sn F E)) = decide (apF (F + (i + n : Nat) * E) T < E)
  | 0, i, _ => by
    simp only [List.range'_zero, List.map_nil, lifeGo, Nat.add_zero]
    rw [u64id (by omega) (by omega)]
  | n + 1, i, h => by
    rw [List.range'_succ, List.map_cons, lifeGo, gap_one hF hE i (by omega), u64id (by omega) (by omega), if_neg (by omega)]
    have := go_all T n (i + 1) (by omega)
    rw [show (i + 1 + n) = i + (n + 1) by omega] at this
    exact this
theorem go_less (T : Int) (r : List S51) : ∀ (n i : Nat), i + n ≤ 80 → lifeGo T E (F + i * E) ((List.range' (i + 1) n).map (sn F E) ++ sn F E (i + n + 2) :: r) = false
  | 0, i, _ => by
    simp only [List.range'_zero, List.map_nil, List.nil_append, lifeGo, Nat.add_zero]
    rw [gap_two hF hE i (by omega), u64id (by omega) (by omega), if_pos (by omega)]
  | n + 1, i, h => by
    rw [List.range'_succ, List.map_cons, List.cons_append, lifeGo, gap_one hF hE i (by omega), u64id (by omega) (by omega), if_neg (by omega)]
    have := go_less T r n (i + 1) (by omega)
    rw [show (i + 1 + n + 2) = i + (n + 1) + 2 by omega] at this
    exact this
omit hF in
theorem in_all {T : Int} {M : Nat} (hM : M ≤ 80) (hT : T = F + M * E - 1) (l : List Nat) (hl : ∀ i ∈ l, i < M) : (l.map (sn F E)).filter (lifeP F T) = l.map (sn F E) := by
  rw [List.filter_eq_self]
  intro x hx
  obtain ⟨i, hi, rfl⟩ := List.mem_map.1 hx
  have h1 := hl i hi
  have h2 := Int.mul_le_mul_of_nonneg_right (show (i : Int) + 1 ≤ M by omega) (show 0 ≤ E by omega)
  rw [Int.add_mul, Int.one_mul] at h2
  have h3 := (mulb (i := i) (E := E) (by omega) (by omega) (by omega)).1
  have e1 : (sn F E i).f0 = F + i * E := rfl
  have e2 : (sn F E i).f1 = -1 := rfl
  unfold lifeP
  rw [e1, e2]
  simp only [beq_self_eq_true, Bool.true_and, Bool.and_eq_true, decide_eq_true_eq]
  omega
end
theorem alive23 : foghornlaw23_alive.f = some true := by decide +kernel
theorem life_at {l : List S51} {f t m : Int} (hl : l.length ≤ 100) (hu : upF l = true) (hf : f ≤ t) (hm : 1 ≤ m) : watch_Life.f l f t m = some (lifeGo t m f (l.filter (lifeP f t)), 0) := by
  unfold watch_Life.f
  rw [if_pos (by omega), if_pos ⟨hu, hf, hm⟩]
/-- Those but one. -/
def lessU (O n : Nat) : List Nat := (List.range n).filter fun i => !(i == O)
theorem lessU_succ (O n : Nat) : lessU O (n + 1) = if n = O then lessU O n else lessU O n ++ [n] := by
  unfold lessU
  rw [List.range_succ, List.filter_append]
  by_cases h : n = O
  · rw [if_pos h]; simp [h]
  · rw [if_neg h]; simp [h]
theorem lessU_split (O M : Nat) (h1 : 1 ≤ O) (h2 : O + 1 < M) : lessU O M = 0 :: List.range' 1 (O - 1) ++ (O + 1) :: List.range' (O + 2) (M - O - 2) := by
  have e : List.range M = List.range O ++ O :: List.range' (O + 1) (M - O - 1) := by
    have k := List.range'_append_1 (s := 0) (m := O) (n := M - O)
    rw [Nat.zero_add, show O + (M - O) = M by omega, show M - O = (M - O - 1) + 1 by omega, List.range'_succ] at k
    rw [List.range_eq_range', List.range_eq_range', ← k]
  have f1 : (List.range O).filter (fun i => !(i == O)) = List.range O := by
    rw [List.filter_eq_self]; intro i hi; rw [List.mem_range] at hi; simp; omega
  have f2 : (List.range' (O + 1) (M - O - 1)).filter (fun i => !(i == O)) = List.range' (O + 1) (M - O - 1) := by
    rw [List.filter_eq_self]; intro i hi; rw [List.mem_range'_1] at hi; simp; omega
  unfold lessU
  rw [e, List.filter_append, List.filter_cons, f1, f2]
  simp only [beq_self_eq_true, Bool.not_true, Bool.false_eq_true, if_false]
  rw [List.range_eq_range', show O = (O - 1) + 1 by omega, List.range'_succ, show M - (O - 1 + 1) - 1 = (M - (O - 1 + 1) - 2) + 1 by omega, List.range'_succ]
  simp
theorem fin {F E : Int} {M O : Nat} (hF : 0 ≤ F ∧ F < 100000) (hE : 2 ≤ E ∧ E ≤ 51) (hM : 3 ≤ M ∧ M ≤ 32) (hO : 1 ≤ O ∧ O + 1 < M) (k : Nat) :
    foghornlaw23_WatchLife.l0 (k + 1) F E M O ((List.range M).map (sn F E)) ((lessU O M).map (sn F E)) M M = some true := by
  have hme := mulb (i := M) (E := E) (by omega) (by omega) (by omega)
  rw [foghornlaw23_WatchLife.l0, if_neg (by omega)]
  rw [w64 (n := M * E) (by omega) (by omega), w64 (n := F + M * E) (by omega) (by omega), w64 (n := F + M * E - 1) (by omega) (by omega), w64 (n := E - 1) (by omega) (by omega), w64 (n := F + E) (by omega) (by omega), w64 (n := F + E - 1) (by omega) (by omega)]
  have hME : E ≤ M * E := by
    have := Int.mul_le_mul_of_nonneg_right (show (1 : Int) ≤ M by omega) (show 0 ≤ E by omega)
    omega
  have lA : ((List.range M).map (sn F E)).length ≤ 100 := by simp; omega
  have lL : ((lessU O M).map (sn F E)).length ≤ 100 := by
    have := List.length_filter_le (fun i => !(i == O)) (List.range M)
    unfold lessU
    simp only [List.length_map]
    simp only [List.length_range] at this
    omega
  have uA := upF_of _ (pw_range F E (by omega) (List.range M) List.pairwise_lt_range)
  have uL := upF_of _ (pw_range F E (by omega) (lessU O M) (List.pairwise_lt_range.filter _))
  have iA := in_all hE (T := F + M * E - 1) (M := M) (by omega) rfl (List.range M) (fun i hi => List.mem_range.1 hi)
  have iL := in_all hE (T := F + M * E - 1) (M := M) (by omega) rfl (lessU O M) (fun i hi => List.mem_range.1 (List.mem_filter.1 hi).1)
  have sp : (List.range M).map (sn F E) = sn F E 0 :: (List.range' 1 (M - 1)).map (sn F E) := by
    rw [List.range_eq_range', show M = (M - 1) + 1 by omega, List.range'_succ]; simp
  have z0 : apF F (sn F E 0).f0 = 0 := by
    show apF F (F + ((0 : Nat) : Int) * E) = 0
    rw [apF_val (by omega) (by simp) (by simp; omega)]; simp
  have b1 : watch_Life.f ((List.range M).map (sn F E)) F (F + M * E - 1) E = some (true, 0) := by
    rw [life_at lA uA (by omega) (by omega), iA, sp, lifeGo, z0, u64id (by omega) (by omega), if_neg (by omega)]
    have := go_all hF hE (F + M * E - 1) (M - 1) 0 (by omega)
    have e : (sn F E 0).f0 = F + ((0 : Nat) : Int) * E := rfl
    rw [e, this]
    have e2 : ((0 + (M - 1) : Nat) : Int) * E = M * E - E := by
      rw [show ((0 + (M - 1) : Nat) : Int) = (M : Int) - 1 by omega, Int.sub_mul, Int.one_mul]
    rw [e2, apF_val (by omega) (by omega) (by omega), decide_eq_true (by omega)]
  have b2 : watch_Life.f ((List.range M).map (sn F E)) F (F + M * E - 1) (E - 1) = some (false, 0) := by
    rw [life_at lA uA (by omega) (by omega), iA, sp, lifeGo, z0, u64id (by omega) (by omega), if_neg (by omega), show M - 1 = (M - 2) + 1 by omega, List.range'_succ, List.map_cons, lifeGo]
    have := gap_one hF hE 0 (by omega)
    have e : (sn F E 0).f0 = F + ((0 : Nat) : Int) * E := rfl
    rw [e, this, u64id (by omega) (by omega), if_pos (by omega)]
  have b3 : watch_Life.f ((lessU O M).map (sn F E)) F (F + M * E - 1) E = some (false, 0) := by
    rw [life_at lL uL (by omega) (by omega), iL, lessU_split O M hO.1 hO.2, List.cons_append, List.map_cons, List.map_append, List.map_cons, lifeGo, z0, u64id (by omega) (by omega), if_neg (by omega)]
    have := go_less hF hE (F + M * E - 1) ((List.range' (O + 2) (M - O - 2)).map (sn F E)) (O - 1) 0 (by omega)
    rw [show 0 + (O - 1) + 2 = O + 1 by omega] at this
    have e : (sn F E 0).f0 = F + ((0 : Nat) : Int) * E := rfl
    rw [e, this]
  have b4 : watch_Life.f [] F (F + E - 1) E = some (true, 0) := by
    rw [life_at (by simp) (by rfl) (by omega) (by omega)]
    simp only [List.filter_nil, lifeGo]
    rw [apF_val (by omega) (by omega) (by omega), u64id (by omega) (by omega), decide_eq_true (by omega)]
  have b5 : watch_Life.f [] F (F + E) E = some (false, 0) := by
    rw [life_at (by simp) (by rfl) (by omega) (by omega)]
    simp only [List.filter_nil, lifeGo]
    rw [apF_val (by omega) (by omega) (by omega), u64id (by omega) (by omega), decide_eq_false (by omega)]
  rw [b1, b2, b3, b4, b5, alive23]
  rfl
theorem loop {F E : Int} {M O : Nat} (hF : 0 ≤ F ∧ F < 100000) (hE : 2 ≤ E ∧ E ≤ 51) (hM : 3 ≤ M ∧ M ≤ 32) (hO : 1 ≤ O ∧ O + 1 < M) :
    ∀ (d i : Nat), i + d = M → foghornlaw23_WatchLife.l0 (d + 1) F E M O ((List.range i).map (sn F E)) ((lessU O i).map (sn F E)) M i = some true
  | 0, i, h => by
    obtain rfl : i = M := by omega
    exact fin hF hE hM hO 0
  | d + 1, i, h => by
    have hme := mulb (i := i) (E := E) (by omega) (by omega) (by omega)
    have ih := loop hF hE hM hO d (i + 1) (by omega)
    have lL : ((lessU O i).map (sn F E)).length < 3518437208883 := by
      have := List.length_filter_le (fun i => !(i == O)) (List.range i)
      unfold lessU
      simp only [List.length_map]
      simp only [List.length_range] at this
      omega
    rw [foghornlaw23_WatchLife.l0, if_pos (by omega), if_pos (by simp; omega), w64 (n := i * E) (by omega) (by omega), w64 (n := F + i * E) (by omega) (by omega), w64 (n := (i : Int) + 1) (by omega) (by omega)]
    simp only [Option.bind_some]
    rw [List.range_succ, List.map_append, lessU_succ] at ih
    have e : ((i + 1 : Nat) : Int) = (i : Int) + 1 := by omega
    rw [e] at ih
    by_cases c : i = O
    · rw [if_pos (by omega)]
      rw [if_pos c] at ih
      exact ih
    · rw [if_neg (by omega), if_pos lL]
      rw [if_neg c, List.map_append] at ih
      exact ih
theorem WatchLife : foghornlaw23_WatchLife.Pure := by
  intro a0 a1 a2 a3 _ _ _ _
  have hF : 0 ≤ Int.tmod (IntKind.u64.wrap a0) 100000 ∧ Int.tmod (IntKind.u64.wrap a0) 100000 < 100000 := by
    have h0 : 0 ≤ IntKind.u64.wrap a0 := by rw [u64w]; omega
    rw [Int.tmod_eq_emod_of_nonneg h0]
    exact ⟨Int.emod_nonneg _ (by omega), Int.emod_lt_of_pos _ (by omega)⟩
  obtain ⟨e1, e2⟩ := tmod_range a1 50 (by omega) (by omega)
  obtain ⟨m1, m2⟩ := tmod_range a2 30 (by omega) (by omega)
  unfold foghornlaw23_WatchLife.f
  generalize Int.tmod (IntKind.u64.wrap a0) 100000 = F at hF ⊢
  generalize Int.tmod (wrap64 (Int.tmod a1 50 + 50)) 50 = e at e1 e2 ⊢
  generalize Int.tmod (wrap64 (Int.tmod a2 30 + 30)) 30 = m at m1 m2 ⊢
  obtain ⟨M, hM⟩ := Int.eq_ofNat_of_zero_le (show 0 ≤ 3 + m by omega)
  refine ⟨M + 1, ?_⟩
  rw [w64 (n := F) (by omega) (by omega), w64 (n := 2 + e) (by omega) (by omega), w64 (n := 3 + m) (by omega) (by omega), w64 (n := 3 + m - 2) (by omega) (by omega), if_neg (by omega)]
  have o0 : Int.tmod a3 (3 + m - 2) < 3 + m - 2 := Int.tmod_lt_of_pos a3 (by omega)
  have o1 : -(3 + m - 2) < Int.tmod a3 (3 + m - 2) := by
    have := Int.tmod_lt_of_pos (-a3) (show 0 < 3 + m - 2 by omega)
    rw [Int.neg_tmod] at this
    omega
  rw [w64 (n := Int.tmod a3 (3 + m - 2) + (3 + m)) (by omega) (by omega), w64 (n := Int.tmod a3 (3 + m - 2) + (3 + m) - 2) (by omega) (by omega)]
  have o2 : 0 ≤ Int.tmod (Int.tmod a3 (3 + m - 2) + (3 + m) - 2) (3 + m - 2) ∧ Int.tmod (Int.tmod a3 (3 + m - 2) + (3 + m) - 2) (3 + m - 2) < 3 + m - 2 := by
    rw [Int.tmod_eq_emod_of_nonneg (by omega)]
    exact ⟨Int.emod_nonneg _ (by omega), Int.emod_lt_of_pos _ (by omega)⟩
  generalize Int.tmod (Int.tmod a3 (3 + m - 2) + (3 + m) - 2) (3 + m - 2) = o at o2 ⊢
  rw [w64 (n := 1 + o) (by omega) (by omega)]
  obtain ⟨O, hO⟩ := Int.eq_ofNat_of_zero_le (show 0 ≤ 1 + o by omega)
  rw [hM, hO]
  exact loop hF ⟨by omega, by omega⟩ ⟨by omega, by omega⟩ ⟨by omega, by omega⟩ M 0 (by omega)
end Go.Proofs.Ytkkopknlhijgiaa.Pure
