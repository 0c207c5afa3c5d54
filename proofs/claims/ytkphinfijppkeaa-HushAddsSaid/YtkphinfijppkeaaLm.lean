/- Contracts of functions of the given program: what each comes to, for any arguments. No condition beyond each theorem's own premises. -/
import Derived.Test.YtkphinfijppkeaaLl
namespace Go.Proofs.Ytkphinfijppkeaa.G
open Go.RowKit Go.Proofs.YtkphinfijppkeaaW.PrintWords Go.Proofs.YtkphinfijppkeaaW.PrintLast Go.Proofs.YtkphinfijppkeaaW.PrintMore
attribute [local go_sem] max2_int min2_int max_two min_two max_three min_three max_four min_four
set_option linter.unusedVariables false
set_option linter.unusedSimpArgs false
/-! What the law's own cutting makes. -/
theorem w64' {n : Int} (h : -9223372036854775808 ≤ n) (h' : n ≤ 9223372036854775807) : wrap64 n = n := by unfold wrap64; omega
theorem mn_is (a b : Int) : mn a b = if a < b then a else b := by unfold mn; split <;> split <;> omega
def cutM (m : S88) : S88 := ⟨m.f0, m.f1.extract 0 (mn (m.f1.size : Int) 12).toNat, m.f2.extract 0 (mn (m.f2.size : Int) 12).toNat⟩
def cutH (h : S25) : S25 := ⟨h.f0, h.f1, (h.f2.take 6).map cutM⟩
theorem cut_l0 (ms all : List S88) (a b : Int) (hl : ms.length ≤ 6) : ∀ (d k i : Nat) (out : List S88), i + d = ms.length → d < k → out.length = i → foghornlaw14_cut.l0 k out ms (ms.length : Int) (i : Int) a b all = some (a, b, out ++ (ms.drop i).map cutM)
  | 0, k + 1, i, out, hd, hk, ho => by
    rw [foghornlaw14_cut.l0, if_neg (by omega), List.drop_of_length_le (by omega)]
    simp
  | d + 1, k + 1, i, out, hd, hk, ho => by
    have ei : rd_T88 ms (i : Int) = ms[i] := rd_get88 ms i (by omega)
    have h0 : ∀ s : ByteArray, 0 ≤ mn (s.size : Int) 12 := fun s => by rw [mn_is]; split <;> omega
    have h1 : ∀ s : ByteArray, mn (s.size : Int) 12 ≤ (s.size : Int) := fun s => by rw [mn_is]; split <;> omega
    rw [foghornlaw14_cut.l0, if_pos (by omega), if_pos (by omega), if_pos (by omega), ei, if_pos (h0 _), if_pos (h1 _), if_pos (h0 _), if_pos (h1 _), if_pos (by omega), w64' (by omega) (by omega)]
    have := cut_l0 ms all a b hl d k (i + 1) (out ++ [cutM ms[i]]) (by omega) (by omega) (by simp [ho])
    rw [show ((i : Int) + 1) = ((i + 1 : Nat) : Int) by omega]
    refine this.trans ?_
    rw [List.drop_eq_getElem_cons (show i < ms.length by omega), List.map_cons, List.append_assoc, List.singleton_append]
theorem cut_is (k : Nat) (hk : 7 < k) (a b : Int) (ms : List S88) : foghornlaw14_cut.f k a b ms = some (a, b, (ms.take 6).map cutM) := by
  unfold foghornlaw14_cut.f
  have hm : (mn (ms.length : Int) 6).toNat = min 6 ms.length := by rw [mn_is]; split <;> omega
  have h0 : 0 ≤ mn (ms.length : Int) 6 := by rw [mn_is]; split <;> omega
  have h1 : mn (ms.length : Int) 6 ≤ ms.length := by rw [mn_is]; split <;> omega
  have ht : ms.take (min 6 ms.length) = ms.take 6 := by
    rcases Nat.le_total ms.length 6 with h | h
    · rw [Nat.min_eq_right h, List.take_length, List.take_of_length_le h]
    · rw [Nat.min_eq_left h]
  rw [if_pos h0, if_pos h1, hm, ht, Option.bind_some]
  have hl : (ms.take 6).length ≤ 6 := List.length_take_le 6 ms
  have := cut_l0 (ms.take 6) ms a b hl (ms.take 6).length k 0 [] (by omega) (by omega) rfl
  simpa using this
theorem few_l0 (l : List S25) (hl : l.length ≤ 10) : ∀ (d k i : Nat) (out : List S25), i + d = l.length → d + 8 < k → out.length = i → foghornlaw14_few.l0 k out l (l.length : Int) (i : Int) = some (out ++ (l.drop i).map cutH)
  | 0, k + 1, i, out, hd, hk, ho => by
    rw [foghornlaw14_few.l0, if_neg (by omega), List.drop_of_length_le (by omega)]
    simp
  | d + 1, k + 1, i, out, hd, hk, ho => by
    have ei : rd_T25 l (i : Int) = l[i] := rd_get25 l i (by omega)
    rw [foghornlaw14_few.l0, if_pos (by omega), if_pos (by omega), if_pos (by omega), ei, cut_is k (by omega), Option.bind_some, if_pos (by omega), w64' (by omega) (by omega)]
    have := few_l0 l hl d k (i + 1) (out ++ [cutH l[i]]) (by omega) (by omega) (by simp [ho])
    rw [show ((i : Int) + 1) = ((i + 1 : Nat) : Int) by omega]
    refine this.trans ?_
    rw [List.drop_eq_getElem_cons (show i < l.length by omega), List.map_cons, List.append_assoc, List.singleton_append]
theorem few_is (l : List S25) (k : Nat) (hk : 20 < k) : foghornlaw14_few.f k l = some ((l.take 10).map cutH) := by
  unfold foghornlaw14_few.f
  have hm : (mn (l.length : Int) 10).toNat = min 10 l.length := by rw [mn_is]; split <;> omega
  have h0 : 0 ≤ mn (l.length : Int) 10 := by rw [mn_is]; split <;> omega
  have h1 : mn (l.length : Int) 10 ≤ l.length := by rw [mn_is]; split <;> omega
  have ht : l.take (min 10 l.length) = l.take 10 := by
    rcases Nat.le_total l.length 10 with h | h
    · rw [Nat.min_eq_right h, List.take_length, List.take_of_length_le h]
    · rw [Nat.min_eq_left h]
  rw [if_pos h0, if_pos h1, hm, ht, Option.bind_some]
  have hl : (l.take 10).length ≤ 10 := List.length_take_le 10 l
  have := few_l0 (l.take 10) hl (l.take 10).length k 0 [] (by omega) (by omega) rfl
  simpa using this
/-! When labels are free. -/
theorem tillG_hit (l : List S92) (now : Int) (h : S25) (hh : hitB l now h = true) : ∀ (hs : List S25) (out : Int), h ∈ hs → h.f1 ≤ tillG l now out hs
  | [], _, hm => by simp at hm
  | x :: r, out, hm => by
    have e : tillG l now out (x :: r) = tillG l now (if hitB l now x = true then mxI out x.f1 else out) r := rfl
    rw [e]
    rcases List.mem_cons.1 hm with rfl | hm
    · rw [if_pos hh]
      refine Int.le_trans ?_ (tillG_ge l now r _)
      unfold mxI; split <;> omega
    · exact tillG_hit l now h hh r _ hm
/-- Hushed at a time. -/
def hushed (hs : List S25) (l : List S92) (y : Int) : Prop := y < tillG l y y hs
theorem hushed_on {hs : List S25} {l : List S92} {n y : Int} (h : ¬ tillG l n n hs = n) (h1 : n ≤ y) (h2 : y < tillG l n n hs) : hushed hs l y := by
  rcases tillG_mem l n hs n with h3 | ⟨x, hx, h3, h4⟩
  · exact absurd h3 h
  · rw [h4] at h2
    unfold hitB at h3
    simp only [Bool.and_eq_true, decide_eq_true_eq] at h3
    have hy : hitB l y x = true := by
      unfold hitB
      rw [decide_eq_true (show x.f0 ≤ y by omega), decide_eq_true h2, h3.2.2]; rfl
    have := tillG_hit l y x hy hs y hx
    unfold hushed
    omega
theorem free_spec (hs : List S25) (l : List S92) : ∀ (k : Nat) (n : Int), cntH hs n < k → n ≤ freeG hs l k n ∧ ¬ hushed hs l (freeG hs l k n) ∧ (∀ y, n ≤ y → y < freeG hs l k n → hushed hs l y) ∧ (freeG hs l k n = n ∨ ∃ h ∈ hs, freeG hs l k n = h.f1)
  | 0, n, h => by omega
  | k + 1, n, h => by
    rw [freeG]
    by_cases c : tillG l n n hs = n
    · rw [if_pos c]
      exact ⟨Int.le_refl _, by unfold hushed; omega, fun y h1 h2 => by omega, .inl rfl⟩
    · rw [if_neg c]
      have hg := tillG_ge l n hs n
      obtain ⟨i1, i2, i3, i4⟩ := free_spec hs l k (tillG l n n hs) (by have := cnt_less l hs n c; omega)
      refine ⟨by omega, i2, fun y h1 h2 => ?_, ?_⟩
      · by_cases hy : y < tillG l n n hs
        · exact hushed_on c h1 hy
        · exact i3 y (by omega) h2
      · rcases i4 with i4 | i4
        · rcases tillG_mem l n hs n with h3 | ⟨x, hx, _, h4⟩
          · exact absurd h3 c
          · exact .inr ⟨x, hx, by rw [i4, h4]⟩
        · exact .inr i4
theorem cnt_lt (hs : List S25) (n : Int) : cntH hs n < hs.length + 1 := by
  have := List.countP_le_length (p := fun h : S25 => decide (n < h.f1)) (l := hs)
  unfold cntH; omega
/-- It is the first time from then on at which they are not hushed. -/
theorem free_only {hs : List S25} {l : List S92} {n t : Int} (h1 : n ≤ t) (h2 : ¬ hushed hs l t) (h3 : ∀ y, n ≤ y → y < t → hushed hs l y) : freeG hs l (hs.length + 1) n = t := by
  obtain ⟨i1, i2, i3, _⟩ := free_spec hs l (hs.length + 1) n (cnt_lt hs n)
  rcases Int.lt_trichotomy (freeG hs l (hs.length + 1) n) t with c | c | c
  · exact absurd (h3 _ i1 c) i2
  · exact c
  · exact absurd (i3 t h1 c) h2
theorem tm_iff (t : Int) : tmB t = true ↔ 0 ≤ t ∧ t ≤ 1099511627776 := by unfold tmB; simp
theorem may_at {hs : List S25} {l : List S92} {n t : Int} (h : mayB hs l n = true) (ht : 0 ≤ t ∧ t ≤ 1099511627776) : mayB hs l t = true := by
  unfold mayB at h ⊢
  simp only [Bool.and_eq_true] at h ⊢
  exact ⟨h.1, (tm_iff t).2 ht, h.2.2⟩
theorem u64mod (a m : Int) (hm : 0 < m) : 0 ≤ Int.tmod (IntKind.u64.wrap a) m ∧ Int.tmod (IntKind.u64.wrap a) m < m := by
  have e : IntKind.u64.wrap a = a % 18446744073709551616 := by simp [IntKind.wrap, IntKind.signed, IntKind.bits]
  rw [e]
  have h0 := Int.emod_nonneg a (show (18446744073709551616 : Int) ≠ 0 by decide)
  rw [Int.tmod_eq_emod_of_nonneg h0]
  exact ⟨Int.emod_nonneg _ (by omega), Int.emod_lt_of_pos _ hm⟩
theorem HushFrees (A0 : Option Addr) (c0 : Nat) (l0 : List S25) (A1 : Option Addr) (c1 : Nat) (l1 : List S92) (now at_ : Int) (w : World) (hr0 : Kd.C k25 w A0 l0.length l0) (hc0 : l0.length ≤ c0) (hr1 : Kd.C k92 w A1 l1.length l1) (hc1 : l1.length ≤ c1) :
    Calls Try.prog 4 #[.slice A0 l0.length c0, .slice A1 l1.length c1, .int .i64 now, .int .i64 at_] w fun e w' => e = .returned (.bool true) ∧ Below w.heap.size w w' := by
  have hq := few_is l0 30 (by omega)
  obtain ⟨q, hqq⟩ : ∃ q, (l0.take 10).map cutH = q := ⟨_, rfl⟩
  obtain ⟨L, hL⟩ : ∃ L, l1.take 5 = L := ⟨_, rfl⟩
  rw [hqq] at hq
  clear hqq
  cases hm : mayB q L now with
  | false => exact frees_no 30 A0 c0 l0 A1 c1 l1 now at_ w hr0 hc0 hr1 hc1 q L hq hL (by unfold freeV; rw [hm]; rfl) (may_no hm).2
  | true =>
    have hfv : freeV q L now = freeG q L (q.length + 1) now := by unfold freeV; rw [if_pos hm]
    obtain ⟨t, ht⟩ : ∃ t, freeG q L (q.length + 1) now = t := ⟨_, rfl⟩
    obtain ⟨s1, s2, s3, s4⟩ := free_spec q L (q.length + 1) now (cnt_lt q now)
    rw [ht] at s1 s2 s3 s4 hfv
    have hm2 := hm
    unfold mayB at hm2
    simp only [Bool.and_eq_true] at hm2
    obtain ⟨hh, hn, _⟩ := hm2
    rw [tm_iff] at hn
    have htt : 0 ≤ t ∧ t ≤ 1099511627776 := by
      rcases s4 with s4 | ⟨x, hx, s4⟩
      · omega
      · unfold hushesB at hh
        simp only [Bool.and_eq_true] at hh
        have := List.all_eq_true.1 hh.2 x hx
        unfold hushB at this
        simp only [Bool.and_eq_true] at this
        have h9 := (tm_iff x.f1).1 this.2.1
        omega
    have ha : activeV q L t = false ∧ mayE q L t = 0 := by
      have := may_yes (may_at hm htt)
      refine ⟨?_, this.2⟩
      rw [this.1]
      exact decide_eq_false s2
    by_cases he : t = now
    · exact frees_eq 30 A0 c0 l0 A1 c1 l1 now at_ w hr0 hc0 hr1 hc1 q L hq hL t hfv (may_yes hm).2 ha.1 ha.2 he
    · have hlt : now < t := by omega
      obtain ⟨m0, m1⟩ := u64mod at_ (t - now) (by omega)
      obtain ⟨m, hmm⟩ : ∃ m, Int.tmod (IntKind.u64.wrap at_) (t - now) = m := ⟨_, rfl⟩
      rw [hmm] at m0 m1
      have hu : 0 ≤ now + m ∧ now + m ≤ 1099511627776 := by omega
      have hmu := may_at hm hu
      have hhu : hushed q L (now + m) := s3 _ (by omega) (by omega)
      refine frees_lt 30 A0 c0 l0 A1 c1 l1 now at_ w hr0 hc0 hr1 hc1 q L hq hL t (now + m) hfv (may_yes hm).2 ha.1 ha.2 hlt hn.1 htt.2 ?_ ?_ (may_yes hmu).2 ?_
      · rw [hmm, w64' (n := m) (by omega) (by omega), w64' (by omega) (by omega)]
      · rw [(may_yes hmu).1]; exact decide_eq_true hhu
      · unfold freeV
        rw [if_pos hmu]
        exact free_only (by omega) s2 (fun y h1 h2 => s3 y (by omega) h2)
end Go.Proofs.Ytkphinfijppkeaa.G
