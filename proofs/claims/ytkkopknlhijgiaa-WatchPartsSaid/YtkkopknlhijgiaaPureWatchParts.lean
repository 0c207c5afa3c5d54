/- The statement WatchParts over plain lists: a trace that keeps to a rate does so by a greater burst, by more, and in both its parts; what is calm by a number is so by a less one; what was sent twice in the parts was so in the whole. No condition. -/
import Derived.Test.YtkkopknlhijgiaaG0
import Derived.Test.YtkkopknlhijgiaaG10
import Derived.Test.YtkkopknlhijgiaaG11
import Derived.Test.YtkkopknlhijgiaaG12
import Derived.Test.YtkkopknlhijgiaaG2
import Derived.Test.YtkkopknlhijgiaaG4
import Derived.Test.YtkkopknlhijgiaaG5
import Derived.Test.YtkkopknlhijgiaaG6
import Derived.Test.YtkkopknlhijgiaaG8
import Derived.Test.YtkkopknlhijgiaaWatchPartsWalk
namespace Go.Proofs.Ytkkopknlhijgiaa.Pure
open Go.RowKit Go.Proofs.Ytkkopknlhijgiaa.G Go.Proofs.YtkkopknlhijgiaaW.PrintWords Go.Proofs.YtkkopknlhijgiaaW.PrintLast Go.Proofs.YtkkopknlhijgiaaW.PrintMore
set_option linter.unusedVariables false
set_option linter.unusedSimpArgs false
theorem w64 {n : Int} (h : -9223372036854775808 ≤ n) (h' : n ≤ 9223372036854775807) : wrap64 n = n := by unfold wrap64; omega
theorem u64w (n : Int) : IntKind.u64.wrap n = n % 18446744073709551616 := by simp [IntKind.wrap, IntKind.signed, IntKind.bits]
theorem u64id {n : Int} (h : 0 ≤ n) (h' : n ≤ 9223372036854775807) : IntKind.u64.wrap n = n := by rw [u64w]; omega
theorem apF_val {a b : Int} (h : 0 ≤ a) (h' : a ≤ b) (hb : b ≤ 9223372036854775807) : apF a b = b - a := by
  unfold apF
  rw [u64id (n := b) (by omega) hb, u64id h (by omega), u64id (by omega) (by omega)]
theorem tmod_range (a m : Int) (hm : 1 ≤ m) (hm' : m ≤ 1000) : 0 ≤ Int.tmod (wrap64 (Int.tmod a m + m)) m ∧ Int.tmod (wrap64 (Int.tmod a m + m)) m < m := by
  have k1 : Int.tmod a m < m := Int.tmod_lt_of_pos a (by omega)
  have k2 : -m < Int.tmod a m := by
    have := Int.tmod_lt_of_pos (-a) (show 0 < m by omega)
    rw [Int.neg_tmod] at this
    omega
  rw [w64 (by omega) (by omega), Int.tmod_eq_emod_of_nonneg (by omega)]
  exact ⟨Int.emod_nonneg _ (by omega), Int.emod_lt_of_pos _ (by omega)⟩
theorem rd_get (l : List S51) (i : Nat) (h : i < l.length) : rd_T51 l i = l[i] := by simp [rd_T51, List.getD_eq_getElem?_getD, h]
theorem alive23 : foghornlaw23_alive.f = some true := by decide +kernel
theorem upF_iff (l : List S51) : upF l = true ↔ ∀ i, (h : i + 1 < l.length) → l[i].f0 ≤ l[i + 1].f0 := by
  unfold upF
  rw [List.all_eq_true]
  constructor
  · intro h i hi
    have := h i (List.mem_range.2 (by omega))
    have e : ((i : Int) + 1) = ((i + 1 : Nat) : Int) := by omega
    rw [rd_get l i (by omega), e, rd_get l (i + 1) hi] at this
    exact of_decide_eq_true this
  · intro h i hi
    rw [List.mem_range] at hi
    have e : ((i : Int) + 1) = ((i + 1 : Nat) : Int) := by omega
    rw [rd_get l i (by omega), e, rd_get l (i + 1) (by omega)]
    exact decide_eq_true (h i (by omega))
/-- A trace of few sends, in order. -/
structure Tr (l : List S51) : Prop where
  len : l.length ≤ 60
  up : l.Pairwise fun a b => a.f0 ≤ b.f0
  at_ : ∀ x ∈ l, 0 ≤ x.f0 ∧ x.f0 ≤ 1000
  name : ∀ x ∈ l, x.f2.size ≤ 20
theorem Tr.upF {l : List S51} (h : Tr l) : upF l = true := by
  rw [upF_iff]
  intro i hi
  exact List.pairwise_iff_getElem.1 h.up i (i + 1) (by omega) hi (by omega)
theorem Tr.sub {l s : List S51} (h : Tr l) (hs : s.Sublist l) : Tr s :=
  ⟨Nat.le_trans hs.length_le h.len, h.up.sublist hs, fun x hx => h.at_ x (hs.subset hx), fun x hx => h.name x (hs.subset hx)⟩
/-! What the law's own cutting makes. -/
theorem mn_is (a b : Int) : mn a b = if a < b then a else b := by unfold mn; split <;> split <;> omega
def cutS (x : S51) : S51 := ⟨x.f0, x.f1, x.f2.extract 0 (mn (x.f2.size : Int) 20).toNat, x.f3⟩
theorem cutS_name (x : S51) : (cutS x).f2.size ≤ 20 := by
  show (x.f2.extract 0 _).size ≤ 20
  rw [ByteArray.size_extract, mn_is]
  split <;> omega
theorem few_l0 (l : List S51) (hl : l.length ≤ 60) : ∀ (d k i : Nat) (out : List S51), i + d = l.length → d < k → out.length = i → foghornlaw23_few.l0 k out l (l.length : Int) (i : Int) = some (out ++ (l.drop i).map cutS)
  | 0, k + 1, i, out, hd, hk, ho => by
    rw [foghornlaw23_few.l0, if_neg (by omega), List.drop_of_length_le (by omega)]
    simp
  | d + 1, k + 1, i, out, hd, hk, ho => by
    have ei : rd_T51 l (i : Int) = l[i] := rd_get l i (by omega)
    rw [foghornlaw23_few.l0, if_pos (by omega), if_pos (by omega), if_pos (by omega), ei]
    have h0 : 0 ≤ mn (l[i].f2.size : Int) 20 := by rw [mn_is]; split <;> omega
    have h1 : mn (l[i].f2.size : Int) 20 ≤ (l[i].f2.size : Int) := by rw [mn_is]; split <;> omega
    rw [if_pos h0, if_pos h1, if_pos (by omega), w64 (by omega) (by omega)]
    have := few_l0 l hl d k (i + 1) (out ++ [cutS l[i]]) (by omega) (by omega) (by simp [ho])
    rw [show ((i : Int) + 1) = ((i + 1 : Nat) : Int) by omega]
    refine this.trans ?_
    rw [List.drop_eq_getElem_cons (show i < l.length by omega), List.map_cons, List.append_assoc, List.singleton_append]
theorem few_is (l : List S51) (k : Nat) (hk : 61 < k) : foghornlaw23_few.f k l = some ((l.take 60).map cutS) := by
  unfold foghornlaw23_few.f
  have hm : (mn (l.length : Int) 60).toNat = min l.length 60 := by rw [mn_is]; split <;> omega
  have h0 : 0 ≤ mn (l.length : Int) 60 := by rw [mn_is]; split <;> omega
  have h1 : mn (l.length : Int) 60 ≤ l.length := by rw [mn_is]; split <;> omega
  rw [if_pos h0, if_pos h1, hm, Option.bind_some]
  have ht : l.take (min l.length 60) = l.take 60 := by
    rcases Nat.le_total l.length 60 with h | h
    · rw [Nat.min_eq_left h, List.take_length, List.take_of_length_le h]
    · rw [Nat.min_eq_right h]
  rw [ht]
  have := few_l0 (l.take 60) (by simp; omega) (l.take 60).length k 0 [] (by omega) (by have := List.length_take_le 60 l; omega) rfl
  simpa using this
/-- The law's own times. -/
theorem some_l0 (n : Nat) (hn : n ≤ 60) : ∀ (d k i : Nat) (l : List S51) (t : Int), l.length = n → i + d = n → d < k → 0 ≤ t → t ≤ 4 * i →
    (l.take i).Pairwise (fun a b => a.f0 ≤ b.f0) → (∀ x ∈ l.take i, 0 ≤ x.f0 ∧ x.f0 ≤ t) → (∀ x ∈ l, x.f2.size ≤ 20) → ∃ q, foghornlaw23_some.l0 k l t (n : Int) (i : Int) = some q ∧ Tr q
  | 0, k + 1, i, l, t, hl, hd, hk, ht0, ht, hp, ha, hz => by
    refine ⟨l, by rw [foghornlaw23_some.l0, if_neg (by omega)], ?_⟩
    rw [List.take_of_length_le (by omega)] at hp ha
    exact ⟨by omega, hp, fun x hx => ⟨(ha x hx).1, by have := (ha x hx).2; omega⟩, hz⟩
  | d + 1, k + 1, i, l, t, hl, hd, hk, ht0, ht, hp, ha, hz => by
    have hi : i < l.length := by omega
    have ei : rd_T51 l (i : Int) = l[i] := rd_get l i hi
    obtain ⟨m0, m1⟩ := tmod_range l[i].f0 5 (by omega) (by omega)
    obtain ⟨c0, c1⟩ := tmod_range l[i].f1 3 (by omega) (by omega)
    rw [foghornlaw23_some.l0, if_pos (by omega), if_pos (by omega), if_pos (by omega), ei]
    simp only [Option.bind_some, Int.toNat_natCast]
    generalize Int.tmod (wrap64 (Int.tmod l[i].f0 5 + 5)) 5 = m at m0 m1 ⊢
    generalize Int.tmod (wrap64 (Int.tmod l[i].f1 3 + 3)) 3 = c at c0 c1 ⊢
    rw [w64 (n := t + m) (by omega) (by omega), w64 (n := (i : Int) + 1) (by omega) (by omega)]
    have e2 : rd_T51 (l.set i (⟨t + m, l[i].f1, l[i].f2, l[i].f3⟩ : S51)) (i : Int) = ⟨t + m, l[i].f1, l[i].f2, l[i].f3⟩ := by
      rw [rd_get _ i (by simpa using hi)]; simp
    rw [e2, List.set_set]
    generalize wrap64 (c - 1) = c'
    have hl' : (l.set i (⟨t + m, c', l[i].f2, l[i].f3⟩ : S51)).length = n := by simpa using hl
    have htk : (l.set i (⟨t + m, c', l[i].f2, l[i].f3⟩ : S51)).take (i + 1) = l.take i ++ [⟨t + m, c', l[i].f2, l[i].f3⟩] := by
      rw [List.take_succ_eq_append_getElem (by simpa using hi), List.take_set_of_le (Nat.le_refl i)]
      simp
    rw [show ((i : Int) + 1) = ((i + 1 : Nat) : Int) by omega]
    refine some_l0 n hn d k (i + 1) _ (t + m) hl' (by omega) (by omega) (by omega) (by omega) ?_ ?_ ?_
    · rw [htk, List.pairwise_append]
      refine ⟨hp, by simp, fun a h1 b h2 => ?_⟩
      rw [List.mem_singleton] at h2
      subst h2
      have := (ha a h1).2
      show a.f0 ≤ t + m
      omega
    · intro x hx
      rw [htk, List.mem_append, List.mem_singleton] at hx
      rcases hx with hx | rfl
      · have := ha x hx; omega
      · show 0 ≤ t + m ∧ t + m ≤ t + m
        omega
    · intro x hx
      rcases List.mem_or_eq_of_mem_set hx with hx | rfl
      · exact hz x hx
      · exact hz l[i] (List.getElem_mem _)
theorem some_ok (l : List S51) (k : Nat) (hk : 61 < k) : ∃ q, foghornlaw23_some.f k l = some q ∧ Tr q := by
  unfold foghornlaw23_some.f
  rw [few_is l k hk, Option.bind_some]
  have hl : ((l.take 60).map cutS).length ≤ 60 := by simp; omega
  exact some_l0 _ hl ((l.take 60).map cutS).length k 0 _ 0 rfl (by omega) (by omega) (by omega) (by omega) (by simp) (by simp) (fun x hx => by
    obtain ⟨y, _, rfl⟩ := List.mem_map.1 hx
    exact cutS_name y)
/-! The rate. -/
theorem rateIn_mono {free free' ev a : Int} (h : ∀ k b, rateBad free' ev a k b = true → rateBad free ev a k b = true) : ∀ (l : List S51) (k : Nat), rateIn free ev a k l = true → rateIn free' ev a k l = true
  | [], _, _ => rfl
  | b :: r, k, h1 => by
    rw [rateIn] at h1 ⊢
    by_cases c : rateBad free ev a k b = true
    · rw [if_pos c] at h1; cases h1
    · rw [if_neg c] at h1
      rw [if_neg (fun e => c (h k b e))]
      exact rateIn_mono h r (k + 1) h1
theorem rateIn_app {free ev a : Int} : ∀ (p s : List S51) (k : Nat), rateIn free ev a k (p ++ s) = true → rateIn free ev a k p = true
  | [], _, _, _ => rfl
  | b :: r, s, k, h1 => by
    rw [List.cons_append, rateIn] at h1
    rw [rateIn]
    by_cases c : rateBad free ev a k b = true
    · rw [if_pos c] at h1; cases h1
    · rw [if_neg c] at h1 ⊢
      exact rateIn_app r s (k + 1) h1
theorem rateGo_mono {free free' ev : Int} (h : ∀ a k b, rateBad free' ev a k b = true → rateBad free ev a k b = true) : ∀ (l : List S51), rateGo free ev l = true → rateGo free' ev l = true
  | [], _ => rfl
  | a :: r, h1 => by
    rw [rateGo] at h1 ⊢
    by_cases c : rateIn free ev a.f0 0 (a :: r) = true
    · rw [if_pos c] at h1
      rw [if_pos (rateIn_mono (h a.f0) _ _ c)]
      exact rateGo_mono h r h1
    · rw [if_neg c] at h1; cases h1
theorem rateGo_left {free ev : Int} : ∀ (p s : List S51), rateGo free ev (p ++ s) = true → rateGo free ev p = true
  | [], _, _ => rfl
  | a :: r, s, h1 => by
    rw [List.cons_append, rateGo] at h1
    rw [rateGo]
    by_cases c : rateIn free ev a.f0 0 (a :: (r ++ s)) = true
    · rw [if_pos c] at h1
      rw [if_pos (rateIn_app (a :: r) s 0 c)]
      exact rateGo_left r s h1
    · rw [if_neg c] at h1; cases h1
theorem rateGo_right {free ev : Int} : ∀ (p s : List S51), rateGo free ev (p ++ s) = true → rateGo free ev s = true
  | [], _, h => h
  | a :: r, s, h1 => by
    rw [List.cons_append, rateGo] at h1
    by_cases c : rateIn free ev a.f0 0 (a :: (r ++ s)) = true
    · rw [if_pos c] at h1
      exact rateGo_right r s h1
    · rw [if_neg c] at h1; cases h1
theorem free_val {b m : Int} (hb : 0 ≤ b ∧ b ≤ 100) (hm : 0 ≤ m ∧ m ≤ 100) : freeOf b m = b + m := by
  unfold freeOf
  rw [u64id hb.1 (by omega), u64id hm.1 (by omega), u64id (by omega) (by omega)]
theorem rate_at {l : List S51} {who b e m : Int} (hl : Tr l) (hb : 0 ≤ b) (hm : 0 ≤ m) (he : 1 ≤ e ∧ e ≤ 1000) : watch_Rate.f l who b e m = some (rateGo (freeOf b m) e (l.filter (rateP who)), 0) := by
  unfold watch_Rate.f
  rw [if_pos (by have := hl.len; omega), if_pos ⟨hl.upF, hb, hm, he.1⟩, if_pos (by omega)]
theorem bad_more {free ev a : Int} (hf : 0 ≤ free ∧ free ≤ 100) (k : Nat) (hk : k ≤ 100) (b : S51) (h : rateBad (free + 1) ev a k b = true) : rateBad free ev a k b = true := by
  unfold rateBad at h ⊢
  simp only [Bool.and_eq_true, decide_eq_true_eq] at h ⊢
  obtain ⟨h1, h2⟩ := h
  rw [u64id (n := (k : Int) + 1 - (free + 1)) (by omega) (by omega)] at h2
  rw [u64id (n := (k : Int) + 1 - free) (by omega) (by omega)]
  omega
theorem rateIn_more {free ev a : Int} (hf : 0 ≤ free ∧ free ≤ 100) : ∀ (l : List S51) (k : Nat), k + l.length ≤ 100 → rateIn free ev a k l = true → rateIn (free + 1) ev a k l = true
  | [], _, _, _ => rfl
  | b :: r, k, hk, h1 => by
    rw [List.length_cons] at hk
    rw [rateIn] at h1 ⊢
    by_cases c : rateBad free ev a k b = true
    · rw [if_pos c] at h1; cases h1
    · rw [if_neg c] at h1
      rw [if_neg (fun e => c (bad_more hf k (by omega) b e))]
      exact rateIn_more hf r (k + 1) (by omega) h1
theorem rateGo_more {free ev : Int} (hf : 0 ≤ free ∧ free ≤ 100) : ∀ (l : List S51), l.length ≤ 100 → rateGo free ev l = true → rateGo (free + 1) ev l = true
  | [], _, _ => rfl
  | a :: r, hl, h1 => by
    rw [rateGo] at h1 ⊢
    by_cases c : rateIn free ev a.f0 0 (a :: r) = true
    · rw [if_pos c] at h1
      rw [if_pos (rateIn_more hf _ _ (by omega) c)]
      exact rateGo_more hf r (by rw [List.length_cons] at hl; omega) h1
    · rw [if_neg c] at h1; cases h1
/-! Calm. -/
theorem calm_at {l : List S51} {s : ByteArray} {least : Int} (hl : Tr l) (h : 0 ≤ least) : watch_Calm.f l s least = some (calmGo least (l.filter (calmP s)), 0) := by
  unfold watch_Calm.f
  rw [if_pos (by have := hl.len; omega), if_pos ⟨hl.upF, h⟩]
theorem calm_less {least : Int} (h : 0 ≤ least ∧ least ≤ 100) (l : List S51) (hc : calmGo (least + 1) l = true) : calmGo least l = true := by
  unfold calmGo at hc ⊢
  rw [List.all_eq_true] at hc ⊢
  intro i hi
  have := hc i hi
  rw [u64id (n := least + 1) (by omega) (by omega)] at this
  rw [u64id (n := least) (by omega) (by omega)]
  simp at this ⊢
  omega
/-! What was sent twice. -/
theorem twCnt_le {q : Int × ByteArray × Bool} {p r : List S51} (h : p.Sublist r) : twCnt q p ≤ twCnt q r := h.countP_le
theorem twGo_more : ∀ (l p r : List S51), p.Sublist r → twGo p l ≤ twGo r l
  | [], _, _, _ => Int.le_refl _
  | a :: l, p, r, h => by
    rw [twGo, twGo]
    have ih := twGo_more l (p ++ [a]) (r ++ [a]) (h.append (List.Sublist.refl _))
    have := twCnt_le (q := twKey a) h
    split <;> split <;> omega
theorem twGo_app : ∀ (l p s : List S51), twGo p (l ++ s) = twGo p l + twGo (p ++ l) s
  | [], p, s => by rw [List.nil_append, List.append_nil, twGo]; omega
  | a :: l, p, s => by
    rw [List.cons_append, twGo, twGo, twGo_app l (p ++ [a]) s]
    rw [List.append_assoc]
    show _ + (_ + twGo (p ++ ([a] ++ l)) s) = _ + _ + twGo (p ++ a :: l) s
    rw [List.singleton_append]
    omega
theorem twGo_range : ∀ (l p : List S51), 0 ≤ twGo p l ∧ twGo p l ≤ l.length
  | [], _ => by rw [twGo]; simp
  | a :: l, p => by
    have := twGo_range l (p ++ [a])
    rw [twGo, List.length_cons]
    split <;> omega
theorem tw_wf {x : S51} (h : 0 ≤ x.f0 ∧ x.f0 ≤ 1000) (hz : x.f2.size ≤ 20) : twWf x = true := by
  unfold twWf
  rw [Bool.and_eq_true]
  refine ⟨?_, decide_eq_true (by unfold maxLen; omega)⟩
  simp [Lit.wf, IntKind.min, IntKind.max, IntKind.signed, IntKind.bits]; omega
theorem twice_at {l : List S51} (hl : Tr l) : watch_Twice.f l = some (twGo [] (l.filter twP), 0) := by
  unfold watch_Twice.f
  rw [if_pos ⟨by have := hl.len; omega, List.all_eq_true.2 fun x hx => tw_wf (hl.at_ x hx) (hl.name x hx)⟩, if_pos hl.upF]
theorem WatchParts (A0 : Option Addr) (c0 : Nat) (l0 : List S51) (a1 a2 a3 a4 a5 a6 : Int) (w : World) (hr0 : Kd.C k51 w A0 l0.length l0) (hc0 : l0.length ≤ c0) :
    Calls Try.prog 11 #[.slice A0 l0.length c0, .int .i64 a1, .int .i64 a2, .int .i64 a3, .int .i64 a4, .int .i64 a5, .int .i64 a6] w fun e w' => e = .returned (.bool true) ∧ Below w.heap.size w w' := by
  obtain ⟨q, hq, T⟩ := some_ok l0 100 (by omega)
  have hlen := T.len
  obtain ⟨b0, b1⟩ := tmod_range a2 9 (by omega) (by omega)
  obtain ⟨e0, e1⟩ := tmod_range a3 9 (by omega) (by omega)
  obtain ⟨m0, m1⟩ := tmod_range a4 5 (by omega) (by omega)
  obtain ⟨l0', l1⟩ := tmod_range a5 9 (by omega) (by omega)
  obtain ⟨b, eb⟩ : ∃ b, Int.tmod (wrap64 (Int.tmod a2 9 + 9)) 9 = b := ⟨_, rfl⟩
  obtain ⟨m, em⟩ : ∃ b, Int.tmod (wrap64 (Int.tmod a4 5 + 5)) 5 = b := ⟨_, rfl⟩
  obtain ⟨t, et⟩ : ∃ b, Int.tmod (wrap64 (Int.tmod a5 9 + 9)) 9 = b := ⟨_, rfl⟩
  obtain ⟨e, ee⟩ : ∃ b, wrap64 (1 + Int.tmod (wrap64 (Int.tmod a3 9 + 9)) 9) = b := ⟨_, rfl⟩
  have he : 1 ≤ e ∧ e ≤ 1000 := by rw [← ee, w64 (by omega) (by omega)]; omega
  rw [eb] at b0 b1
  rw [em] at m0 m1
  rw [et] at l0' l1
  have hk : 0 ≤ Int.tmod (wrap64 (wrap64 (Int.tmod a6 ((q.length : Int) + 1) + (q.length : Int)) + 1)) ((q.length : Int) + 1) ∧ Int.tmod (wrap64 (wrap64 (Int.tmod a6 ((q.length : Int) + 1) + (q.length : Int)) + 1)) ((q.length : Int) + 1) ≤ q.length := by
    have k1 : Int.tmod a6 ((q.length : Int) + 1) < (q.length : Int) + 1 := Int.tmod_lt_of_pos a6 (by omega)
    have k2 : -((q.length : Int) + 1) < Int.tmod a6 ((q.length : Int) + 1) := by
      have := Int.tmod_lt_of_pos (-a6) (show 0 < (q.length : Int) + 1 by omega)
      rw [Int.neg_tmod] at this
      omega
    rw [w64 (n := Int.tmod a6 ((q.length : Int) + 1) + (q.length : Int)) (by omega) (by omega), w64 (by omega) (by omega), Int.tmod_eq_emod_of_nonneg (by omega)]
    have p0 := Int.emod_nonneg (Int.tmod a6 ((q.length : Int) + 1) + (q.length : Int) + 1) (show (q.length : Int) + 1 ≠ 0 by omega)
    have p1 := Int.emod_lt_of_pos (Int.tmod a6 ((q.length : Int) + 1) + (q.length : Int) + 1) (show 0 < (q.length : Int) + 1 by omega)
    omega
  obtain ⟨c, hc⟩ : ∃ c : Nat, Int.tmod (wrap64 (wrap64 (Int.tmod a6 ((q.length : Int) + 1) + (q.length : Int)) + 1)) ((q.length : Int) + 1) = c := ⟨_, (Int.toNat_of_nonneg hk.1).symm⟩
  rw [hc] at hk
  have hcq : c ≤ q.length := by omega
  have eb1 : wrap64 (b + 1) = b + 1 := w64 (by omega) (by omega)
  have em1 : wrap64 (m + 1) = m + 1 := w64 (by omega) (by omega)
  have et1 : wrap64 (t + 1) = t + 1 := w64 (by omega) (by omega)
  have f1 : freeOf b m = b + m := free_val (by omega) (by omega)
  have f2 : freeOf (b + 1) m = b + m + 1 := by rw [free_val (by omega) (by omega)]; omega
  have f3 : freeOf b (m + 1) = b + m + 1 := by rw [free_val (by omega) (by omega)]; omega
  have h1 := rate_at (who := a1) T b0 m0 he
  have h2 := rate_at (who := a1) T (show 0 ≤ wrap64 (b + 1) by omega) m0 he
  have h3 := rate_at (who := a1) T b0 (show 0 ≤ wrap64 (m + 1) by omega) he
  have h4 := rate_at (who := a1) (T.sub (List.take_sublist c q)) b0 m0 he
  have h5 := rate_at (who := a1) (T.sub (List.drop_sublist c q)) b0 m0 he
  rw [eb1, f2] at h2
  rw [em1, f3] at h3
  rw [f1] at h1 h4 h5
  have hfl : (q.filter (rateP a1)).length ≤ 100 := by have := List.length_filter_le (rateP a1) q; omega
  have ef : q.filter (rateP a1) = (q.take c).filter (rateP a1) ++ (q.drop c).filter (rateP a1) := by
    rw [← List.filter_append, List.take_append_drop]
  have hra : rateGo (b + m) e (q.filter (rateP a1)) = true → rateGo (b + m + 1) e (q.filter (rateP a1)) = true ∧ rateGo (b + m) e ((q.take c).filter (rateP a1)) = true ∧ rateGo (b + m) e ((q.drop c).filter (rateP a1)) = true := fun h =>
    ⟨rateGo_more (by omega) _ hfl h, rateGo_left _ _ (ef ▸ h), rateGo_right _ _ (ef ▸ h)⟩
  by_cases hz : q.length = 0
  · refine wparts_e 100 A0 c0 l0 a1 a2 a3 a4 a5 a6 w hr0 hc0 q hq hlen b e m t c hcq eb ee em et hc _ _ _ _ h1 (by rw [eb1]; exact h2) (by rw [em1]; exact h3) h4 h5 alive23 hra ?_ ?_ hz
    · unfold watch_Right.f
      rw [if_pos (by omega), T.upF]
    · rw [List.eq_nil_of_length_eq_zero hz]; rfl
  · have r1 := twGo_range ((q.take c).filter twP) []
    have r2 := twGo_range ((q.drop c).filter twP) []
    have r0 := twGo_range (q.filter twP) []
    have s0 := List.length_filter_le twP q
    have s1 := List.length_filter_le twP (q.take c)
    have s2 := List.length_filter_le twP (q.drop c)
    have l1 := List.length_take_le c q
    have l2 : (q.drop c).length ≤ q.length := by simp
    have eq2 : q.filter twP = (q.take c).filter twP ++ (q.drop c).filter twP := by
      rw [← List.filter_append, List.take_append_drop]
    have hge : twGo [] ((q.take c).filter twP) + twGo [] ((q.drop c).filter twP) ≤ twGo [] (q.filter twP) := by
      rw [eq2, twGo_app, List.nil_append]
      have := twGo_more ((q.drop c).filter twP) [] ((q.take c).filter twP) (List.nil_sublist _)
      omega
    exact wparts_n 100 A0 c0 l0 a1 a2 a3 a4 a5 a6 w hr0 hc0 q hq hlen b e m t c hcq eb ee em et hc _ _ _ _ h1 (by rw [eb1]; exact h2) (by rw [em1]; exact h3) h4 h5 alive23 hra (by omega) _ _ _ _ _ (calm_at T (by omega)) (calm_at T l0') (by rw [et1]; exact calm_less (by omega) _)
      (twice_at T) (twice_at (T.sub (List.take_sublist c q))) (twice_at (T.sub (List.drop_sublist c q))) (by rw [w64 (by omega) (by omega)]; exact hge) (by omega)
end Go.Proofs.Ytkkopknlhijgiaa.Pure
