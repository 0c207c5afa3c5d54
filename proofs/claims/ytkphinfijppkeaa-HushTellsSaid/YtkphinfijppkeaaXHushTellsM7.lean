/- Contracts of functions of the given program, and what they come to, for any arguments. No condition beyond each theorem's own premises. -/
import Derived.Test.YtkphinfijppkeaaXHushTellsM6
import Derived.Test.YtkphinfijppkeaaXHushTellsM2
import Derived.Test.YtkphinfijppkeaaXHushTellsM5
import Derived.Test.YtkphinfijppkeaaXHushTellsM0
namespace Go.Proofs.Ytkphinfijppkeaa.G
open Go.RowKit Go.Proofs.YtkphinfijppkeaaW.PrintWords Go.Proofs.YtkphinfijppkeaaW.PrintLast Go.Proofs.YtkphinfijppkeaaW.PrintMore
attribute [local go_sem] max2_int min2_int max_two min_two max_three min_three max_four min_four
abbrev aM : S88 := ⟨0, ⟨#[97]⟩, ⟨#[120]⟩⟩
abbrev aH1 : S25 := ⟨2, 5, [aM]⟩
abbrev aH2 : S25 := ⟨5, 9, [aM]⟩
abbrev aL : List S92 := [⟨⟨#[97]⟩, ⟨#[120]⟩⟩]
theorem a_hushes : hushesB [aH1] = true := by decide +kernel
theorem a_hush : hushB aH2 = true := by decide +kernel
theorem a_free : freeV ([aH1] ++ [aH2]) aL 3 = 9 ∧ mayE ([aH1] ++ [aH2]) aL 3 = 0 := by decide +kernel
theorem C_mem {α : Type} {d : Kd α} {w0 w : World} {bs : List Fr.Blk} {rs : List Fr.Row} {g t : Nat} {cs : List Value} {x : α} (hF : Fr.Frame w0 w bs rs) (hm : (g, cs, t) ∈ bs) (hK : d.K w x cs) : Kd.C d w (some ⟨g, 0, none⟩) 1 [x] := by
  have hb := (hF.blk (g, cs, t) hm).2
  refine ⟨rfl, by simp, fun _ => ⟨_, rfl, fun j p hj => ?_⟩⟩
  cases j with
  | zero =>
    obtain rfl : x = p := by simpa using hj
    refine ⟨cs, d.K_len hK, hK, fun i u hu => ?_⟩
    rw [Nat.zero_mul, Nat.zero_add]
    have := blk_cell hb i
    simp only at this
    rw [show (⟨g, 0, none⟩ : Addr).add i = ⟨g, i, none⟩ by unfold Addr.add; split <;> simp_all, this]
    simpa using hu
  | succ j => simp at hj
set_option maxHeartbeats 2000000 in
theorem alive_calls (w : World) : Calls Try.prog 22 #[] w fun e w' => e = .returned (.bool true) ∧ Below w.heap.size w w' := by
  have hF2 := ((Fr.Frame.start w).alloc [.int .i64 0, .string ⟨#[97]⟩, .string ⟨#[120]⟩] 88).alloc [.int .i64 2, .int .i64 5, .slice (some ⟨w.heap.size, 0, none⟩) 1 1] 25
  have e1 : (w.alloc (.cells #[.int .i64 0, .string ⟨#[97]⟩, .string ⟨#[120]⟩] 88)).heap.size = w.heap.size + 1 := by simp
  rw [e1] at hF2
  clear e1
  have hM : Kd.C k88 _ (some ⟨w.heap.size, 0, none⟩) 1 [aM] := C_mem hF2 (List.mem_cons_of_mem _ List.mem_cons_self) (k88_mk _ aM)
  have hH : Kd.C k25 _ (some ⟨w.heap.size + 1, 0, none⟩) 1 [aH1] := C_mem hF2 List.mem_cons_self (k25_mk _ aH1 (A2 := some ⟨w.heap.size, 0, none⟩) (c2 := 1) (Nat.le_refl _) hM)
  have ha := add_keep (some ⟨w.heap.size + 1, 0, none⟩) 1 [aH1] aH2 (some ⟨w.heap.size, 0, none⟩) 1 3 _ hH hM (Nat.le_refl _) a_hushes (by decide) a_hush (by decide) (by simp [overP]) (by decide) (by decide)
  simp only [List.length_cons, List.length_nil, Nat.zero_add, Nat.reduceAdd] at ha
  have HA := Aside0.mk ha
  clear ha
  have hF := Aside0.mk hF2
  have AF := Aside0.mk a_free
  clear hM hH hF2
  go_enter Try.func22, Try.ntmps22
  go_wp2_with fail
  (with_reducible refine HA.out.mono ?_)
  rintro e W ⟨A, c, rfl, hc, hC, hb⟩
  have hF1 := hF.out.call hb
  have hF3 := hF1.alloc [.string ⟨#[97]⟩, .string ⟨#[120]⟩] 92
  have hL : Kd.C k92 _ (some ⟨W.heap.size, 0, none⟩) 1 aL := C_mem hF3 List.mem_cons_self (k92_mk _ ⟨⟨#[97]⟩, ⟨#[120]⟩⟩)
  have hb2 := free_calls A c ([aH1] ++ [aH2]) (some ⟨W.heap.size, 0, none⟩) 1 aL 3 _ (Kd.C_below hC ((Below.refl _ W).alloc (Nat.le_refl _) _)) hL
  rw [AF.out.1, AF.out.2] at hb2
  simp only [List.length_cons, List.length_nil, Nat.zero_add, Nat.reduceAdd, List.length_append] at hb2
  have HB := Aside0.mk hb2
  clear hb2
  have HF := Aside0.mk hF3
  clear hL hF3 hF1 hC hc hb HA hF
  go_wp2_with fail
  (with_reducible refine HB.out.mono ?_)
  rintro e W2 ⟨rfl, hb⟩
  have hF1 := HF.out.call hb
  have HF1 := Aside0.mk hF1
  clear hb hF1 HB HF
  go_wp2
  go_ret
  exact ⟨rfl, HF1.out.below⟩
theorem some16 (A : Option Addr) (c : Nat) (l : List S92) (w : World) (hl : l.length ≤ c) (hm : l.length ≤ 9223372036854775807) : Calls Try.prog 16 #[.slice A l.length c] w fun e w' => e = .returned (.slice A (l.take 5).length c) ∧ w = w' := by
  obtain ⟨n, hn⟩ : ∃ n, (l.take 5).length = n := ⟨_, rfl⟩
  have h1 : (if (5 : Int) < (l.length : Int) then 5 else (l.length : Int)) = (n : Int) := by rw [← hn, List.length_take]; split <;> omega
  have h2 : n ≤ c := by rw [← hn, List.length_take]; omega
  rw [hn]
  clear hn hl
  go_enter Try.func16, Try.ntmps16
  go_wp2
  go_ret
  exact ⟨rfl, rfl⟩
theorem take5 {w : World} {A : Option Addr} {l L : List S92} (hr : Kd.C k92 w A l.length l) (hL : l.take 5 = L) : Kd.C k92 w A L.length L := by
  have h := Kd.C_take (m := min 5 l.length) hr (by omega)
  have e : l.take (min 5 l.length) = L := by
    rw [← hL]
    rcases Nat.le_total l.length 5 with h | h
    · rw [Nat.min_eq_right h, List.take_length, List.take_of_length_le h]
    · rw [Nat.min_eq_left h]
  rwa [e] at h
theorem w64' {n : Int} (h : -9223372036854775808 ≤ n) (h' : n ≤ 9223372036854775807) : wrap64 n = n := by unfold wrap64; omega
theorem mn_is (a b : Int) : mn a b = if a < b then a else b := by unfold mn; split <;> split <;> omega
def cutM (m : S88) : S88 := ⟨m.f0, m.f1.extract 0 (mn (m.f1.size : Int) 12).toNat, m.f2.extract 0 (mn (m.f2.size : Int) 12).toNat⟩
def cutH (h : S25) : S25 := ⟨h.f0, h.f1, (h.f2.take 6).map cutM⟩
theorem cut_l0 (ms all : List S88) (a b : Int) (hl : ms.length ≤ 6) : ∀ (d k i : Nat) (out : List S88), i + d = ms.length → d < k → out.length = i → foghornlaw14_cut.l0 k out ms (ms.length : Int) (i : Int) a b all = some (a, b, out ++ (ms.drop i).map cutM)
  | 0, k + 1, i, out, hd, hk, ho => by
    rw [foghornlaw14_cut.l0, if_neg (by omega), List.drop_of_length_le (by omega)]
    simp
  | d + 1, k + 1, i, out, hd, hk, ho => by
    have ei : rd_T88 ms (i : Int) = ms[i] := rd_get88 ms i (by omega)
    have h0 : ∀ s : ByteArray, 0 ≤ mn (s.size : Int) 12 := fun s => by rw [mn_is]; split <;> omega
    have h1 : ∀ s : ByteArray, mn (s.size : Int) 12 ≤ (s.size : Int) := fun s => by rw [mn_is]; split <;> omega
    rw [foghornlaw14_cut.l0, if_pos (by omega), if_pos (by omega), if_pos (by omega), ei, if_pos (h0 _), if_pos (h1 _), if_pos (h0 _), if_pos (h1 _), if_pos (by omega), w64' (by omega) (by omega)]
    have := cut_l0 ms all a b hl d k (i + 1) (out ++ [cutM ms[i]]) (by omega) (by omega) (by simp [ho])
    rw [show ((i : Int) + 1) = ((i + 1 : Nat) : Int) by omega]
    refine this.trans ?_
    rw [List.drop_eq_getElem_cons (show i < ms.length by omega), List.map_cons, List.append_assoc, List.singleton_append]
theorem cut_is (k : Nat) (hk : 7 < k) (a b : Int) (ms : List S88) : foghornlaw14_cut.f k a b ms = some (a, b, (ms.take 6).map cutM) := by
  unfold foghornlaw14_cut.f
  have hm : (mn (ms.length : Int) 6).toNat = min 6 ms.length := by rw [mn_is]; split <;> omega
  have h0 : 0 ≤ mn (ms.length : Int) 6 := by rw [mn_is]; split <;> omega
  have h1 : mn (ms.length : Int) 6 ≤ ms.length := by rw [mn_is]; split <;> omega
  have ht : ms.take (min 6 ms.length) = ms.take 6 := by
    rcases Nat.le_total ms.length 6 with h | h
    · rw [Nat.min_eq_right h, List.take_length, List.take_of_length_le h]
    · rw [Nat.min_eq_left h]
  rw [if_pos h0, if_pos h1, hm, ht, Option.bind_some]
  have hl : (ms.take 6).length ≤ 6 := List.length_take_le 6 ms
  have := cut_l0 (ms.take 6) ms a b hl (ms.take 6).length k 0 [] (by omega) (by omega) rfl
  simpa using this
theorem few_l0 (l : List S25) (hl : l.length ≤ 10) : ∀ (d k i : Nat) (out : List S25), i + d = l.length → d + 8 < k → out.length = i → foghornlaw14_few.l0 k out l (l.length : Int) (i : Int) = some (out ++ (l.drop i).map cutH)
  | 0, k + 1, i, out, hd, hk, ho => by
    rw [foghornlaw14_few.l0, if_neg (by omega), List.drop_of_length_le (by omega)]
    simp
  | d + 1, k + 1, i, out, hd, hk, ho => by
    have ei : rd_T25 l (i : Int) = l[i] := rd_get25 l i (by omega)
    rw [foghornlaw14_few.l0, if_pos (by omega), if_pos (by omega), if_pos (by omega), ei, cut_is k (by omega), Option.bind_some, if_pos (by omega), w64' (by omega) (by omega)]
    have := few_l0 l hl d k (i + 1) (out ++ [cutH l[i]]) (by omega) (by omega) (by simp [ho])
    rw [show ((i : Int) + 1) = ((i + 1 : Nat) : Int) by omega]
    refine this.trans ?_
    rw [List.drop_eq_getElem_cons (show i < l.length by omega), List.map_cons, List.append_assoc, List.singleton_append]
theorem few_is (l : List S25) (k : Nat) (hk : 20 < k) : foghornlaw14_few.f k l = some ((l.take 10).map cutH) := by
  unfold foghornlaw14_few.f
  have hm : (mn (l.length : Int) 10).toNat = min 10 l.length := by rw [mn_is]; split <;> omega
  have h0 : 0 ≤ mn (l.length : Int) 10 := by rw [mn_is]; split <;> omega
  have h1 : mn (l.length : Int) 10 ≤ l.length := by rw [mn_is]; split <;> omega
  have ht : l.take (min 10 l.length) = l.take 10 := by
    rcases Nat.le_total l.length 10 with h | h
    · rw [Nat.min_eq_right h, List.take_length, List.take_of_length_le h]
    · rw [Nat.min_eq_left h]
  rw [if_pos h0, if_pos h1, hm, ht, Option.bind_some]
  have hl : (l.take 10).length ≤ 10 := List.length_take_le 10 l
  have := few_l0 (l.take 10) hl (l.take 10).length k 0 [] (by omega) (by omega) rfl
  simpa using this
theorem tillG_hit (l : List S92) (now : Int) (h : S25) (hh : hitB l now h = true) : ∀ (hs : List S25) (out : Int), h ∈ hs → h.f1 ≤ tillG l now out hs
  | [], _, hm => by simp at hm
  | x :: r, out, hm => by
    have e : tillG l now out (x :: r) = tillG l now (if hitB l now x = true then mxI out x.f1 else out) r := rfl
    rw [e]
    rcases List.mem_cons.1 hm with rfl | hm
    · rw [if_pos hh]
      refine Int.le_trans ?_ (tillG_ge l now r _)
      unfold mxI; split <;> omega
    · exact tillG_hit l now h hh r _ hm
def hushed (hs : List S25) (l : List S92) (y : Int) : Prop := y < tillG l y y hs
theorem hushed_on {hs : List S25} {l : List S92} {n y : Int} (h : ¬ tillG l n n hs = n) (h1 : n ≤ y) (h2 : y < tillG l n n hs) : hushed hs l y := by
  rcases tillG_mem l n hs n with h3 | ⟨x, hx, h3, h4⟩
  · exact absurd h3 h
  · rw [h4] at h2
    unfold hitB at h3
    simp only [Bool.and_eq_true, decide_eq_true_eq] at h3
    have hy : hitB l y x = true := by
      unfold hitB
      rw [decide_eq_true (show x.f0 ≤ y by omega), decide_eq_true h2, h3.2.2]; rfl
    have := tillG_hit l y x hy hs y hx
    unfold hushed
    omega
theorem free_spec (hs : List S25) (l : List S92) : ∀ (k : Nat) (n : Int), cntH hs n < k → n ≤ freeG hs l k n ∧ ¬ hushed hs l (freeG hs l k n) ∧ (∀ y, n ≤ y → y < freeG hs l k n → hushed hs l y) ∧ (freeG hs l k n = n ∨ ∃ h ∈ hs, freeG hs l k n = h.f1)
  | 0, n, h => by omega
  | k + 1, n, h => by
    rw [freeG]
    by_cases c : tillG l n n hs = n
    · rw [if_pos c]
      exact ⟨Int.le_refl _, by unfold hushed; omega, fun y h1 h2 => by omega, .inl rfl⟩
    · rw [if_neg c]
      have hg := tillG_ge l n hs n
      obtain ⟨i1, i2, i3, i4⟩ := free_spec hs l k (tillG l n n hs) (by have := cnt_less l hs n c; omega)
      refine ⟨by omega, i2, fun y h1 h2 => ?_, ?_⟩
      · by_cases hy : y < tillG l n n hs
        · exact hushed_on c h1 hy
        · exact i3 y (by omega) h2
      · rcases i4 with i4 | i4
        · rcases tillG_mem l n hs n with h3 | ⟨x, hx, _, h4⟩
          · exact absurd h3 c
          · exact .inr ⟨x, hx, by rw [i4, h4]⟩
        · exact .inr i4
theorem cnt_lt (hs : List S25) (n : Int) : cntH hs n < hs.length + 1 := by
  have := List.countP_le_length (p := fun h : S25 => decide (n < h.f1)) (l := hs)
  unfold cntH; omega
theorem free_only {hs : List S25} {l : List S92} {n t : Int} (h1 : n ≤ t) (h2 : ¬ hushed hs l t) (h3 : ∀ y, n ≤ y → y < t → hushed hs l y) : freeG hs l (hs.length + 1) n = t := by
  obtain ⟨i1, i2, i3, _⟩ := free_spec hs l (hs.length + 1) n (cnt_lt hs n)
  rcases Int.lt_trichotomy (freeG hs l (hs.length + 1) n) t with c | c | c
  · exact absurd (h3 _ i1 c) i2
  · exact c
  · exact absurd (i3 t h1 c) h2
theorem tm_iff (t : Int) : tmB t = true ↔ 0 ≤ t ∧ t ≤ 1099511627776 := by unfold tmB; simp
theorem bt_get (s : ByteArray) (i : Nat) (h : i < s.size) : bt s (i : Int) = ((s[i].toNat : Nat) : Int) := by simp [bt, h]
theorem name_l0 (s : ByteArray) (hs : s.size ≤ 9223372036854775807) : ∀ (d k i : Nat), i + d = s.size → d < k → (∀ j, (hj : j < s.size) → j < i → 97 ≤ s[j].toNat ∧ s[j].toNat ≤ 122) → foghornref10_Name.l0 k s (i : Int) = some (nameB s)
  | 0, k + 1, i, hd, hk, ha => by
    rw [foghornref10_Name.l0, if_neg (by omega), name_end (fun j hj => ha j hj (by omega))]
    by_cases h : 1 ≤ s.size
    · rw [if_pos (by omega), decide_eq_true h, dec8]; rfl
    · rw [if_neg (by omega), decide_eq_false h]; rfl
  | d + 1, k + 1, i, hd, hk, ha => by
    have hi : i < s.size := by omega
    rw [foghornref10_Name.l0, if_pos (by omega), if_pos (by omega), bt_get s i hi]
    by_cases h1 : s[i].toNat < 97
    · rw [if_pos (by omega), name_no hi (by omega)]
    · rw [if_neg (by omega)]
      by_cases h2 : 122 < s[i].toNat
      · rw [if_pos (by omega), name_no hi (by omega)]
      · rw [if_neg (by omega), w64' (by omega) (by omega), show ((i : Int) + 1) = ((i + 1 : Nat) : Int) by omega]
        refine name_l0 s hs d k (i + 1) (by omega) (by omega) (fun j hj hji => ?_)
        by_cases e : j = i
        · subst e; omega
        · exact ha j hj (by omega)
theorem name_ref (s : ByteArray) (hs : s.size ≤ 9223372036854775807) (k : Nat) (hk : s.size < k) : foghornref10_Name.f k s = some (nameB s) :=
  name_l0 s hs s.size k 0 (by omega) hk (fun j _ hj => absurd hj (Nat.not_lt_zero _))
theorem value_l0 (s : ByteArray) (hs : s.size ≤ 9223372036854775807) : ∀ (d k i : Nat), i + d = s.size → d < k → (∀ j, (hj : j < s.size) → j < i → (97 ≤ s[j].toNat ∧ s[j].toNat ≤ 122) ∨ (48 ≤ s[j].toNat ∧ s[j].toNat ≤ 57) ∨ s[j].toNat = 45) → foghornref10_Value.l0 k s (i : Int) = some (valueB s)
  | 0, k + 1, i, hd, hk, ha => by
    rw [foghornref10_Value.l0, if_neg (by omega), value_end (fun j hj => ha j hj (by omega)), dec8]
  | d + 1, k + 1, i, hd, hk, ha => by
    have hi : i < s.size := by omega
    have hb := bt_get s i hi
    have hw : wrap64 ((i : Int) + 1) = ((i + 1 : Nat) : Int) := by rw [w64' (by omega) (by omega)]; omega
    rw [foghornref10_Value.l0, if_pos (by omega), if_pos (by omega), hb, hw]
    by_cases h : (97 ≤ s[i].toNat ∧ s[i].toNat ≤ 122) ∨ (48 ≤ s[i].toNat ∧ s[i].toNat ≤ 57) ∨ s[i].toNat = 45
    · have ih := value_l0 s hs d k (i + 1) (by omega) (by omega) (fun j hj hji => by
        by_cases e : j = i
        · subst e; exact h
        · exact ha j hj (by omega))
      rw [ih]
      generalize s[i].toNat = x at h
      split
      · split
        · rfl
        · split
          · split
            · rfl
            · rw [if_pos (by omega)]
          · rw [if_pos (by omega)]
      · split
        · split
          · rfl
          · rw [if_pos (by omega)]
        · rw [if_pos (by omega)]
    · rw [value_no hi h]
      generalize s[i].toNat = x at h
      split
      · rw [if_neg (by omega)]
        split
        · rw [if_neg (by omega), if_neg (by omega)]
        · rw [if_neg (by omega)]
      · split
        · rw [if_neg (by omega), if_neg (by omega)]
        · rw [if_neg (by omega)]
theorem value_ref (s : ByteArray) (hs : s.size ≤ 9223372036854775807) (k : Nat) (hk : s.size < k) : foghornref10_Value.f k s = some (valueB s) :=
  value_l0 s hs s.size k 0 (by omega) hk (fun j _ hj => absurd hj (Nat.not_lt_zero _))
def MSz (k : Nat) (m : S88) : Prop := m.f1.size < k ∧ m.f2.size < k ∧ m.f1.size ≤ 9223372036854775807 ∧ m.f2.size ≤ 9223372036854775807
theorem matcher_ref (m : S88) (k : Nat) (hm : MSz k m) : foghornref10_Matcher.f k m.f0 m.f1 m.f2 = some (matcherB m) := by
  have n := name_ref m.f1 hm.2.2.1 k hm.1
  have v := value_ref m.f2 hm.2.2.2 k hm.2.1
  unfold foghornref10_Matcher.f matcherB
  by_cases h0 : 0 ≤ m.f0
  · by_cases h3 : m.f0 ≤ 3
    · rw [if_pos h0, if_pos h3, n, v, decide_eq_true h0, decide_eq_true h3]
      cases nameB m.f1 with
      | false => rfl
      | true =>
        cases valueB m.f2 with
        | false => rfl
        | true =>
          by_cases h4 : m.f0 = 3
          · by_cases h5 : m.f2.size = 0
            · simp [h4, h5, (empty_list m.f2 h5).2]
            · have := full_list m.f2 h5
              simp [h4, h5, this]
          · simp [h4]
    · rw [if_pos h0, if_neg h3, decide_eq_false h3]; simp
  · rw [if_neg h0, decide_eq_false h0]; simp
theorem matchers_l0 (l : List S88) (hl : l.length ≤ 1000) : ∀ (d k i : Nat), i + d = l.length → d < k → (∀ m ∈ l, MSz (k - d) m) → (∀ j, (hj : j < l.length) → j < i → matcherB l[j] = true) → foghornref10_Matchers.l0 k l l (l.length : Int) (i : Int) = some (l.all matcherB && decide (l.length ≤ 4))
  | 0, k + 1, i, hd, hk, hm, ha => by
    rw [foghornref10_Matchers.l0, if_neg (by omega)]
    have : l.all matcherB = true := List.all_eq_true.2 fun x hx => by
      obtain ⟨j, hj, rfl⟩ := List.mem_iff_getElem.1 hx
      exact ha j hj (by omega)
    rw [this, Bool.true_and]
    congr 1
    rw [decide_eq_decide]; omega
  | d + 1, k + 1, i, hd, hk, hm, ha => by
    have hi : i < l.length := by omega
    have hsz : MSz k l[i] := by have := hm l[i] (List.getElem_mem hi); unfold MSz at this ⊢; omega
    rw [foghornref10_Matchers.l0, if_pos (by omega), if_pos (by omega), if_pos (by omega), rd_get88 l i hi, matcher_ref l[i] k hsz, Option.bind_some]
    cases h : matcherB l[i] with
    | false =>
      rw [if_neg (by decide)]
      have : l.all matcherB = false := by
        rw [List.all_eq_false]
        exact ⟨l[i], List.getElem_mem hi, by simp [h]⟩
      rw [this, Bool.false_and]
    | true =>
      rw [if_pos rfl, w64' (by omega) (by omega), show ((i : Int) + 1) = ((i + 1 : Nat) : Int) by omega]
      refine matchers_l0 l hl d k (i + 1) (by omega) (by omega) (fun m hm' => ?_) (fun j hj hji => ?_)
      · have := hm m hm'; rwa [show k + 1 - (d + 1) = k - d by omega] at this
      · by_cases e : j = i
        · subst e; exact h
        · exact ha j hj (by omega)
theorem MSz.mono {k k' : Nat} {m : S88} (h : MSz k m) (hk : k ≤ k') : MSz k' m := ⟨by have := h.1; omega, by have := h.2.1; omega, h.2.2⟩
theorem matchers_ref (l : List S88) (k : Nat) (hl : l.length ≤ 1000) (hm : ∀ m ∈ l, MSz k m) : foghornref10_Matchers.f (k + l.length + 1) l = some (decide (l.length ≤ 4) && l.all matcherB) := by
  have := matchers_l0 l hl l.length (k + l.length + 1) 0 (by omega) (by omega) (fun m h => (hm m h).mono (by omega)) (fun j _ hj => absurd hj (Nat.not_lt_zero _))
  rw [Bool.and_comm]
  exact this
theorem tick_ref (t : Int) : foghornref05_Right.f t = some (tmB t) := by
  unfold foghornref05_Right.f tmB
  by_cases h : 0 ≤ t
  · rw [if_pos h, decide_eq_true h, Bool.true_and]
  · rw [if_neg h, decide_eq_false h, Bool.false_and]
def HSz (k : Nat) (h : S25) : Prop := h.f2.length ≤ 1000 ∧ ∀ m ∈ h.f2, MSz k m
theorem hush_ref (h : S25) (k K : Nat) (hz : HSz k h) (hK : k + 1001 ≤ K) : foghornref12_Hush.f K h.f0 h.f1 h.f2 = some (hushB h) := by
  have hm : foghornref10_Matchers.f K h.f2 = some (decide (h.f2.length ≤ 4) && h.f2.all matcherB) := by
    have := hz.1
    have h1 := matchers_ref h.f2 (K - h.f2.length - 1) hz.1 (fun m hm => (hz.2 m hm).mono (by omega))
    rwa [show K - h.f2.length - 1 + h.f2.length + 1 = K by omega] at h1
  unfold foghornref12_Hush.f hushB
  rw [tick_ref, tick_ref, hm, Option.bind_some]
  cases tmB h.f0 with
  | false => rfl
  | true =>
    rw [if_pos rfl, Option.bind_some]
    cases tmB h.f1 with
    | false => rfl
    | true =>
      rw [if_pos rfl]
      by_cases h1 : h.f0 < h.f1
      · rw [if_pos h1, decide_eq_true h1]
        by_cases h2 : 1 ≤ h.f2.length
        · rw [if_pos (by omega), decide_eq_true h2, Option.bind_some]; rfl
        · rw [if_neg (by omega), decide_eq_false h2]; rfl
      · rw [if_neg h1, decide_eq_false h1]; rfl
theorem hushes_l0 (l : List S25) (hl : l.length ≤ 1000) (k : Nat) (hz : ∀ h ∈ l, HSz k h) : ∀ (d K i : Nat), i + d = l.length → k + 1001 + d < K → (∀ j, (hj : j < l.length) → j < i → hushB l[j] = true) → foghornref14_Right.l0 K l l (l.length : Int) (i : Int) = some (hushesB l)
  | 0, K + 1, i, hd, hk, ha => by
    rw [foghornref14_Right.l0, if_neg (by omega)]
    have : l.all hushB = true := List.all_eq_true.2 fun x hx => by
      obtain ⟨j, hj, rfl⟩ := List.mem_iff_getElem.1 hx
      exact ha j hj (by omega)
    unfold hushesB
    rw [this, Bool.and_true]
    congr 1
    rw [decide_eq_decide]; omega
  | d + 1, K + 1, i, hd, hk, ha => by
    have hi : i < l.length := by omega
    rw [foghornref14_Right.l0, if_pos (by omega), if_pos (by omega), if_pos (by omega), rd_get25 l i hi, hush_ref l[i] k K (hz _ (List.getElem_mem hi)) (by omega), Option.bind_some]
    cases h : hushB l[i] with
    | false =>
      rw [if_neg (by decide)]
      have : l.all hushB = false := by
        rw [List.all_eq_false]
        exact ⟨l[i], List.getElem_mem hi, by simp [h]⟩
      unfold hushesB
      rw [this, Bool.and_false]
    | true =>
      rw [if_pos rfl, w64' (by omega) (by omega), show ((i : Int) + 1) = ((i + 1 : Nat) : Int) by omega]
      refine hushes_l0 l hl k hz d K (i + 1) (by omega) (by omega) (fun j hj hji => ?_)
      by_cases e : j = i
      · subst e; exact h
      · exact ha j hj (by omega)
theorem hushes_ref (l : List S25) (hl : l.length ≤ 1000) (k K : Nat) (hz : ∀ h ∈ l, HSz k h) (hK : k + 2002 ≤ K) : foghornref14_Right.f K l = some (hushesB l) :=
  hushes_l0 l hl k hz l.length K 0 (by omega) (by omega) (fun j _ hj => absurd hj (Nat.not_lt_zero _))
theorem hushed_iff (hs : List S25) (l : List S92) (y : Int) : hushed hs l y ↔ ∃ h ∈ hs, hitB l y h = true := by
  constructor
  · intro h
    rcases tillG_mem l y hs y with h1 | ⟨x, hx, h1, _⟩
    · unfold hushed at h; omega
    · exact ⟨x, hx, h1⟩
  · rintro ⟨x, hx, h1⟩
    have h2 := tillG_hit l y x h1 hs y hx
    unfold hitB at h1
    simp only [Bool.and_eq_true, decide_eq_true_eq] at h1
    unfold hushed
    omega
end Go.Proofs.Ytkphinfijppkeaa.G
namespace Go.Proofs.Ytkphinfijppkeaa.G
open Go.RowKit Go.Proofs.YtkphinfijppkeaaW.PrintWords Go.Proofs.YtkphinfijppkeaaW.PrintLast Go.Proofs.YtkphinfijppkeaaW.PrintMore
attribute [local go_sem] max2_int min2_int max_two min_two max_three min_three max_four min_four   -- for this text's walks alone
def foghornref10_each.l0 : Nat → List (S92) → List (S92) → Int → Int → Option (Bool)
  | 0, _, _, _, _ => none
  | k + 1, x0, x5, x6, x7 => if x7 < x6 then (if 0 ≤ x7 then (if x7 < (x5.length : Int) then ((foghornref10_Name.f k ((rd_T92 x5 x7).f0)).bind fun t180 => (if t180 = true then ((foghornref10_Value.f k ((rd_T92 x5 x7).f1)).bind fun t181 => (if t181 = true then (foghornref10_each.l0 k x0 x5 x6 (wrap64 (x7 + 1))) else (some false))) else (some false))) else (none)) else (none)) else (if (x0.length : Int) ≥ 1 then (some (decide ((x0.length : Int) ≤ 3))) else (some false))
def foghornref10_each.f (k : Nat) (l0 : List (S92)) : Option (Bool) := foghornref10_each.l0 k l0 l0 (l0.length : Int) 0
set_option maxHeartbeats 8000000 in
set_option maxRecDepth 100000 in
theorem foghornref10_each.calls (k : Nat) (A0 : Option Addr) (c0 : Nat) (l0 : List (S92)) (r : Bool) (w : World) (hr0 : Kd.C k92 w A0 l0.length l0) (hc0 : l0.length ≤ c0) (h : foghornref10_each.f k l0 = some r) :
    Calls Try.prog 64 #[.slice A0 l0.length c0] w fun e w' => e = .returned (.bool r) ∧ Below w.heap.size w w' := by
  have hu92 := Try.underlying92
  have HR0 := Aside0.mk hr0
  have HC0 := Aside0.mk hc0
  clear hr0 hc0
  have HB := Aside0.mk (Below.refl w.heap.size w)
  have H : (foghornref10_each.l0 k l0 l0 (l0.length : Int) 0) = some r := h
  clear h
  have H' := Aside0.mk H
  clear H
  go_enter Try.func64, Try.ntmps64
  go_wp2
  go_loopg [7] k (fun kq v7 w' => ∃ (x7_1 : Int), v7 = .int .i64 x7_1 ∧ Aside0 (foghornref10_each.l0 kq l0 l0 (l0.length : Int) x7_1 = some r) ∧ Aside0 (kq ≤ k) ∧ Aside0 (Below w.heap.size w w'))
  case atStart => exact ⟨(0), (by first | rfl | (simp; done) | (simp [*]; done)), H', ⟨Nat.le_refl _⟩, ⟨by repeat (first | (with_reducible first | exact HB.out | apply below_alloc | apply pw_below_drewN | apply below_drew1) | exact HB.out)⟩⟩
  case round =>
    clear H'
    obtain ⟨x7_1, rfl, HA, HK1, HB⟩ := hrel
    cases gk with
    | zero => exact absurd HA.out (by simp [foghornref10_each.l0])
    | succ k1 =>
      have H := HA.out
      clear HA
      simp only [foghornref10_each.l0] at H
      by_cases c2 : x7_1 < (l0.length : Int)
      · rw [if_pos c2] at H
        have c2b0 : decide (x7_1 < (l0.length : Int)) = true := decide_eq_true c2
        clear c2
        by_cases c3 : 0 ≤ x7_1
        · rw [if_pos c3] at H
          have c3b0 : decide (0 ≤ x7_1) = true := decide_eq_true c3
          clear c3
          by_cases c4 : x7_1 < (l0.length : Int)
          · rw [if_pos c4] at H
            have c4b0 : decide (x7_1 < (l0.length : Int)) = true := decide_eq_true c4
            clear c4
            replace H := Option.bind_eq_some_iff.mp H
            obtain ⟨t180, A50, H⟩ := H
            replace H : (if t180 = true then ((foghornref10_Value.f k1 ((rd_T92 l0 x7_1).f1)).bind fun t181 => (if t181 = true then (foghornref10_each.l0 k1 l0 l0 (l0.length : Int) (wrap64 (x7_1 + 1))) else (some false))) else (some false)) = some r := H
            have A5 := Aside0.mk A50
            clear A50
            by_cases c6 : t180 = true
            · subst c6
              have H1 : ((foghornref10_Value.f k1 ((rd_T92 l0 x7_1).f1)).bind fun t181 => (if t181 = true then (foghornref10_each.l0 k1 l0 l0 (l0.length : Int) (wrap64 (x7_1 + 1))) else (some false))) = some r := by rw [if_pos rfl] at H; exact H
              clear H
              have H := H1
              clear H1
              replace H := Option.bind_eq_some_iff.mp H
              obtain ⟨t181, A70, H⟩ := H
              replace H : (if t181 = true then (foghornref10_each.l0 k1 l0 l0 (l0.length : Int) (wrap64 (x7_1 + 1))) else (some false)) = some r := H
              have A7 := Aside0.mk A70
              clear A70
              by_cases c8 : t181 = true
              · subst c8
                have H1 : (foghornref10_each.l0 k1 l0 l0 (l0.length : Int) (wrap64 (x7_1 + 1))) = some r := by rw [if_pos rfl] at H; exact H
                clear H
                have H := H1
                clear H1
                have H' := Aside0.mk H
                clear H
                have p178 : 0 ≤ (x7_1 : Int) := of_decide_eq_true (by first | (with_reducible assumption) | assumption)
                have q178 : x7_1 < (l0.length : Int) := of_decide_eq_true (by first | (with_reducible assumption) | assumption)
                obtain ⟨ad178, e178, hx178_0, hx178_1⟩ := at_T92 HR0.out x7_1 p178 q178
                cases e178
                replace hx178_0 := (HB.out.cell (World.block_lt_of_cell? w _ hx178_0)).trans hx178_0
                replace hx178_1 := (HB.out.cell (World.block_lt_of_cell? w _ hx178_1)).trans hx178_1
                replace p178 := eq_true p178
                replace q178 := eq_true q178
                go_wp2_with (first | ((with_reducible refine gate_dst (N := 4) rfl ?_); (try (refine gate_guard (by rfl) ?_; dsimp only)); refine box_event ?hg (N := 4) ?hd (cs := #[.string (⟨#[]⟩ : ByteArray), .string (⟨#[]⟩ : ByteArray)]) (t := 92) ?hr ?_; (case hd => rfl); (case hg => rfl); (case hr => first | (go_simp; done) | (go_simp; rfl)); intro gb179 hg w9 hbox hb; have n0_ := Aside0.mk (below_step (by repeat (first | (with_reducible first | exact HB.out | apply below_alloc | apply pw_below_drewN | apply below_drew1) | exact HB.out)) hb); have n1_ := Aside0.mk (hbox); have n2_ := Aside0.mk ((by rw [hg]; exact (below_size (by repeat (first | (with_reducible first | exact HB.out | apply below_alloc | apply pw_below_drewN | apply below_drew1) | exact HB.out))) : w.heap.size ≤ gb179)); have n3_ := Aside0.mk ((by rw [hg]; exact (below_size (by repeat (first | (with_reducible first | exact HB.out | apply below_alloc | apply pw_below_drewN | apply below_drew1) | exact HB.out))) : w.heap.size ≤ gb179)); clear HB; have HB := n0_; have BK179 := n1_; have GW179 := n2_; have GE179 := n3_; clear n0_ n1_ n2_ n3_; clear hb hbox hg; have hcz10_0 : w9.cell? ⟨gb179, 0, none⟩ = some (.string (⟨#[]⟩ : ByteArray)) := (blk_cell BK179.out 0).trans rfl; have hcz10_1 : w9.cell? ⟨gb179, 1, none⟩ = some (.string (⟨#[]⟩ : ByteArray)) := (blk_cell BK179.out 1).trans rfl; have hfz10_0 := blk_frozen BK179.out 0; have hfz10_1 := blk_frozen BK179.out 1) | ((with_reducible refine gate_callee (f := 97) rfl ?_); refine goesL_ (some 13) rfl rfl Try.func97 (by kernel_rfl) rfl #[.string ((rd_T92 l0 x7_1).f0)] rfl (by (try simp only [List.map_toArray, List.map_cons, List.map_nil]); first | done | rfl | (simp only [List.length_drop, List.length_take]; rfl)) ?_; (with_reducible refine (foghornref10_Name.calls k1 ((rd_T92 l0 x7_1).f0) true _ A5.out).mono ?_); rintro e w' ⟨rfl, ⟨nd, rfl⟩⟩; refine ⟨_, rfl, ?_⟩) | (go_at_call 98; (with_reducible refine (foghornref10_Value.calls k1 ((rd_T92 l0 x7_1).f1) true _ A7.out).mono ?_); rintro e w' ⟨rfl, ⟨nd, rfl⟩⟩))
                go_roundg k1
                case measure => have := HK1.out; omega
                case rel => exact ⟨(wrap64 (x7_1 + 1)), (by first | rfl | (simp; done) | (simp [*]; done)), H', ⟨by have := HK1.out; omega⟩, ⟨by repeat (first | (with_reducible first | exact HB.out | apply below_alloc | apply pw_below_drewN | apply below_drew1 | refine below_set ?_ GE179.out) | exact HB.out)⟩⟩
              · replace c8 := Bool.eq_false_iff.mpr c8
                subst c8
                have H1 : (some false) = some r := by rw [if_neg (show ¬ (false = true) by decide)] at H; exact H
                clear H
                have H := H1
                clear H1
                obtain rfl := Option.some.inj H
                have p178 : 0 ≤ (x7_1 : Int) := of_decide_eq_true (by first | (with_reducible assumption) | assumption)
                have q178 : x7_1 < (l0.length : Int) := of_decide_eq_true (by first | (with_reducible assumption) | assumption)
                obtain ⟨ad178, e178, hx178_0, hx178_1⟩ := at_T92 HR0.out x7_1 p178 q178
                cases e178
                replace hx178_0 := (HB.out.cell (World.block_lt_of_cell? w _ hx178_0)).trans hx178_0
                replace hx178_1 := (HB.out.cell (World.block_lt_of_cell? w _ hx178_1)).trans hx178_1
                replace p178 := eq_true p178
                replace q178 := eq_true q178
                go_wp2_with (first | ((with_reducible refine gate_dst (N := 4) rfl ?_); (try (refine gate_guard (by rfl) ?_; dsimp only)); refine box_event ?hg (N := 4) ?hd (cs := #[.string (⟨#[]⟩ : ByteArray), .string (⟨#[]⟩ : ByteArray)]) (t := 92) ?hr ?_; (case hd => rfl); (case hg => rfl); (case hr => first | (go_simp; done) | (go_simp; rfl)); intro gb179 hg w11 hbox hb; have n0_ := Aside0.mk (below_step (by repeat (first | (with_reducible first | exact HB.out | apply below_alloc | apply pw_below_drewN | apply below_drew1) | exact HB.out)) hb); have n1_ := Aside0.mk (hbox); have n2_ := Aside0.mk ((by rw [hg]; exact (below_size (by repeat (first | (with_reducible first | exact HB.out | apply below_alloc | apply pw_below_drewN | apply below_drew1) | exact HB.out))) : w.heap.size ≤ gb179)); have n3_ := Aside0.mk ((by rw [hg]; exact (below_size (by repeat (first | (with_reducible first | exact HB.out | apply below_alloc | apply pw_below_drewN | apply below_drew1) | exact HB.out))) : w.heap.size ≤ gb179)); clear HB; have HB := n0_; have BK179 := n1_; have GW179 := n2_; have GE179 := n3_; clear n0_ n1_ n2_ n3_; clear hb hbox hg; have hcz12_0 : w11.cell? ⟨gb179, 0, none⟩ = some (.string (⟨#[]⟩ : ByteArray)) := (blk_cell BK179.out 0).trans rfl; have hcz12_1 : w11.cell? ⟨gb179, 1, none⟩ = some (.string (⟨#[]⟩ : ByteArray)) := (blk_cell BK179.out 1).trans rfl; have hfz12_0 := blk_frozen BK179.out 0; have hfz12_1 := blk_frozen BK179.out 1) | ((with_reducible refine gate_callee (f := 97) rfl ?_); refine goesL_ (some 13) rfl rfl Try.func97 (by kernel_rfl) rfl #[.string ((rd_T92 l0 x7_1).f0)] rfl (by (try simp only [List.map_toArray, List.map_cons, List.map_nil]); first | done | rfl | (simp only [List.length_drop, List.length_take]; rfl)) ?_; (with_reducible refine (foghornref10_Name.calls k1 ((rd_T92 l0 x7_1).f0) true _ A5.out).mono ?_); rintro e w' ⟨rfl, ⟨nd, rfl⟩⟩; refine ⟨_, rfl, ?_⟩) | (go_at_call 98; (with_reducible refine (foghornref10_Value.calls k1 ((rd_T92 l0 x7_1).f1) false _ A7.out).mono ?_); rintro e w' ⟨rfl, ⟨nd, rfl⟩⟩))
                go_ret
                exact ⟨by first | rfl | (simp [errW_none, errW_some] <;> rfl) | (simp [*, errW_none, errW_some] <;> rfl), by repeat (first | (with_reducible first | exact HB.out | apply below_alloc | apply pw_below_drewN | apply below_drew1 | refine below_set ?_ GE179.out) | exact HB.out)⟩
            · replace c6 := Bool.eq_false_iff.mpr c6
              subst c6
              have H1 : (some false) = some r := by rw [if_neg (show ¬ (false = true) by decide)] at H; exact H
              clear H
              have H := H1
              clear H1
              obtain rfl := Option.some.inj H
              have p178 : 0 ≤ (x7_1 : Int) := of_decide_eq_true (by first | (with_reducible assumption) | assumption)
              have q178 : x7_1 < (l0.length : Int) := of_decide_eq_true (by first | (with_reducible assumption) | assumption)
              obtain ⟨ad178, e178, hx178_0, hx178_1⟩ := at_T92 HR0.out x7_1 p178 q178
              cases e178
              replace hx178_0 := (HB.out.cell (World.block_lt_of_cell? w _ hx178_0)).trans hx178_0
              replace hx178_1 := (HB.out.cell (World.block_lt_of_cell? w _ hx178_1)).trans hx178_1
              replace p178 := eq_true p178
              replace q178 := eq_true q178
              go_wp2_with (first | ((with_reducible refine gate_dst (N := 4) rfl ?_); (try (refine gate_guard (by rfl) ?_; dsimp only)); refine box_event ?hg (N := 4) ?hd (cs := #[.string (⟨#[]⟩ : ByteArray), .string (⟨#[]⟩ : ByteArray)]) (t := 92) ?hr ?_; (case hd => rfl); (case hg => rfl); (case hr => first | (go_simp; done) | (go_simp; rfl)); intro gb179 hg w13 hbox hb; have n0_ := Aside0.mk (below_step (by repeat (first | (with_reducible first | exact HB.out | apply below_alloc | apply pw_below_drewN | apply below_drew1) | exact HB.out)) hb); have n1_ := Aside0.mk (hbox); have n2_ := Aside0.mk ((by rw [hg]; exact (below_size (by repeat (first | (with_reducible first | exact HB.out | apply below_alloc | apply pw_below_drewN | apply below_drew1) | exact HB.out))) : w.heap.size ≤ gb179)); have n3_ := Aside0.mk ((by rw [hg]; exact (below_size (by repeat (first | (with_reducible first | exact HB.out | apply below_alloc | apply pw_below_drewN | apply below_drew1) | exact HB.out))) : w.heap.size ≤ gb179)); clear HB; have HB := n0_; have BK179 := n1_; have GW179 := n2_; have GE179 := n3_; clear n0_ n1_ n2_ n3_; clear hb hbox hg; have hcz14_0 : w13.cell? ⟨gb179, 0, none⟩ = some (.string (⟨#[]⟩ : ByteArray)) := (blk_cell BK179.out 0).trans rfl; have hcz14_1 : w13.cell? ⟨gb179, 1, none⟩ = some (.string (⟨#[]⟩ : ByteArray)) := (blk_cell BK179.out 1).trans rfl; have hfz14_0 := blk_frozen BK179.out 0; have hfz14_1 := blk_frozen BK179.out 1) | ((with_reducible refine gate_callee (f := 97) rfl ?_); refine goesL_ (some 13) rfl rfl Try.func97 (by kernel_rfl) rfl #[.string ((rd_T92 l0 x7_1).f0)] rfl (by (try simp only [List.map_toArray, List.map_cons, List.map_nil]); first | done | rfl | (simp only [List.length_drop, List.length_take]; rfl)) ?_; (with_reducible refine (foghornref10_Name.calls k1 ((rd_T92 l0 x7_1).f0) false _ A5.out).mono ?_); rintro e w' ⟨rfl, ⟨nd, rfl⟩⟩; refine ⟨_, rfl, ?_⟩))
              go_ret
              exact ⟨by first | rfl | (simp [errW_none, errW_some] <;> rfl) | (simp [*, errW_none, errW_some] <;> rfl), by repeat (first | (with_reducible first | exact HB.out | apply below_alloc | apply pw_below_drewN | apply below_drew1 | refine below_set ?_ GE179.out) | exact HB.out)⟩
          · rw [if_neg c4] at H
            exact absurd H (by simp)
        · rw [if_neg c3] at H
          exact absurd H (by simp)
      · rw [if_neg c2] at H
        have c2b0 : decide (x7_1 < (l0.length : Int)) = false := decide_eq_false c2
        clear c2
        by_cases c15 : (l0.length : Int) ≥ 1
        · rw [if_pos c15] at H
          have c15b0 : decide (1 ≤ (l0.length : Int)) = true := decide_eq_true c15
          have c15b1 : decide (1 ≤ l0.length) = true := decide_eq_true (by omega)
          clear c15
          obtain rfl := Option.some.inj H
          go_wp2
          go_ret
          exact ⟨by first | rfl | (simp [errW_none, errW_some] <;> rfl) | (simp [*, errW_none, errW_some] <;> rfl), by repeat (first | (with_reducible first | exact HB.out | apply below_alloc | apply pw_below_drewN | apply below_drew1) | exact HB.out)⟩
        · rw [if_neg c15] at H
          have c15b0 : decide (1 ≤ (l0.length : Int)) = false := decide_eq_false c15
          have c15b1 : decide (1 ≤ l0.length) = false := decide_eq_false (by omega)
          clear c15
          obtain rfl := Option.some.inj H
          go_wp2
          go_ret
          exact ⟨by first | rfl | (simp [errW_none, errW_some] <;> rfl) | (simp [*, errW_none, errW_some] <;> rfl), by repeat (first | (with_reducible first | exact HB.out | apply below_alloc | apply pw_below_drewN | apply below_drew1) | exact HB.out)⟩
def foghornref10_Right.l0 : Nat → List (S92) → List (S92) → Int → Int → Option (Bool)
  | 0, _, _, _, _ => none
  | k + 1, x0, x5, x6, x7 => if x7 < x6 then (if 0 ≤ x7 then (if x7 < (x5.length : Int) then (if x7 > 0 then (if 0 ≤ (wrap64 (x7 - 1)) then (if (wrap64 (x7 - 1)) < (x0.length : Int) then (if ((Op.bytesLess (((rd_T92 x0 (wrap64 (x7 - 1))).f0).toList) (((rd_T92 x5 x7).f0).toList)) = true) then (foghornref10_Right.l0 k x0 x5 x6 (wrap64 (x7 + 1))) else (some false)) else (none)) else (none)) else (foghornref10_Right.l0 k x0 x5 x6 (wrap64 (x7 + 1)))) else (none)) else (none)) else ((foghornref10_each.f k x0).bind fun t185 => (some t185))
def foghornref10_Right.f (k : Nat) (l0 : List (S92)) : Option (Bool) := foghornref10_Right.l0 k l0 l0 (l0.length : Int) 0
set_option maxHeartbeats 8000000 in
set_option maxRecDepth 100000 in
theorem foghornref10_Right.calls (k : Nat) (A0 : Option Addr) (c0 : Nat) (l0 : List (S92)) (r : Bool) (w : World) (hr0 : Kd.C k92 w A0 l0.length l0) (hc0 : l0.length ≤ c0) (h : foghornref10_Right.f k l0 = some r) :
    Calls Try.prog 27 #[.slice A0 l0.length c0] w fun e w' => e = .returned (.bool r) ∧ Below w.heap.size w w' := by
  have hu92 := Try.underlying92
  have HR0 := Aside0.mk hr0
  have HC0 := Aside0.mk hc0
  clear hr0 hc0
  have HB := Aside0.mk (Below.refl w.heap.size w)
  have H : (foghornref10_Right.l0 k l0 l0 (l0.length : Int) 0) = some r := h
  clear h
  have H' := Aside0.mk H
  clear H
  go_enter Try.func27, Try.ntmps27
  go_wp2
  repeat (go_quiet (fail); try go_wp2)
  go_loopg [7] k (fun kq v7 w' => ∃ (x7_1 : Int), v7 = .int .i64 x7_1 ∧ Aside0 (foghornref10_Right.l0 kq l0 l0 (l0.length : Int) x7_1 = some r) ∧ Aside0 (kq ≤ k) ∧ Aside0 (Below w.heap.size w w'))
  case atStart => exact ⟨(0), (by first | rfl | (simp; done) | (simp [*]; done)), H', ⟨Nat.le_refl _⟩, ⟨by repeat (first | (with_reducible first | exact HB.out | apply below_alloc | apply pw_below_drewN | apply below_drew1) | exact HB.out)⟩⟩
  case round =>
    clear H'
    obtain ⟨x7_1, rfl, HA, HK1, HB⟩ := hrel
    cases gk with
    | zero => exact absurd HA.out (by simp [foghornref10_Right.l0])
    | succ k1 =>
      have H := HA.out
      clear HA
      simp only [foghornref10_Right.l0] at H
      by_cases c2 : x7_1 < (l0.length : Int)
      · rw [if_pos c2] at H
        have c2b0 : decide (x7_1 < (l0.length : Int)) = true := decide_eq_true c2
        clear c2
        by_cases c3 : 0 ≤ x7_1
        · rw [if_pos c3] at H
          have c3b0 : decide (0 ≤ x7_1) = true := decide_eq_true c3
          clear c3
          by_cases c4 : x7_1 < (l0.length : Int)
          · rw [if_pos c4] at H
            have c4b0 : decide (x7_1 < (l0.length : Int)) = true := decide_eq_true c4
            clear c4
            by_cases c5 : x7_1 > 0
            · rw [if_pos c5] at H
              have c5b0 : decide (0 < x7_1) = true := decide_eq_true c5
              clear c5
              obtain ⟨ji6, hji6⟩ : ∃ j_ : Int, (wrap64 (x7_1 - 1)) = j_ := ⟨_, rfl⟩
              replace H : (if 0 ≤ (ji6) then (if (ji6) < (l0.length : Int) then (if ((Op.bytesLess (((rd_T92 l0 (ji6)).f0).toList) (((rd_T92 l0 x7_1).f0).toList)) = true) then (foghornref10_Right.l0 k1 l0 l0 (l0.length : Int) (wrap64 (x7_1 + 1))) else (some false)) else (none)) else (none)) = some r := by first | (rw [hji6] at H; exact H) | (simp only [hji6] at H ⊢; exact H)
              have hji6w : (IntKind.i64.wrap (x7_1 - 1)) = ji6 := (i64_w _).trans hji6
              by_cases c7 : 0 ≤ (ji6)
              · rw [if_pos c7] at H
                have c7b0 : decide (0 ≤ (ji6)) = true := decide_eq_true c7
                clear c7
                by_cases c8 : (ji6) < (l0.length : Int)
                · rw [if_pos c8] at H
                  have c8b0 : decide ((ji6) < (l0.length : Int)) = true := decide_eq_true c8
                  clear c8
                  by_cases c9 : ((Op.bytesLess (((rd_T92 l0 (ji6)).f0).toList) (((rd_T92 l0 x7_1).f0).toList)) = true)
                  · rw [if_pos c9] at H
                    have c9b0 : (Op.bytesLess (((rd_T92 l0 (ji6)).f0).toList) (((rd_T92 l0 x7_1).f0).toList)) = true := c9
                    clear c9
                    have H' := Aside0.mk H
                    clear H
                    have p182 : 0 ≤ (x7_1 : Int) := of_decide_eq_true (by first | (with_reducible assumption) | assumption)
                    have q182 : x7_1 < (l0.length : Int) := of_decide_eq_true (by first | (with_reducible assumption) | assumption)
                    obtain ⟨ad182, e182, hx182_0, hx182_1⟩ := at_T92 HR0.out x7_1 p182 q182
                    cases e182
                    replace hx182_0 := (HB.out.cell (World.block_lt_of_cell? w _ hx182_0)).trans hx182_0
                    replace hx182_1 := (HB.out.cell (World.block_lt_of_cell? w _ hx182_1)).trans hx182_1
                    replace p182 := eq_true p182
                    replace q182 := eq_true q182
                    go_wp2_with (first | ((with_reducible refine gate_dst (N := 4) rfl ?_); refine box_event ?hg (N := 4) ?hd (cs := #[.string (⟨#[]⟩ : ByteArray), .string (⟨#[]⟩ : ByteArray)]) (t := 92) ?hr ?_; (case hd => rfl); (case hg => rfl); (case hr => first | (go_simp; done) | (go_simp; rfl)); intro gb183 hg w10 hbox hb; have n0_ := Aside0.mk (below_step (by repeat (first | (with_reducible first | exact HB.out | apply below_alloc | apply pw_below_drewN | apply below_drew1) | exact HB.out)) hb); have n1_ := Aside0.mk (hbox); have n2_ := Aside0.mk ((by rw [hg]; exact (below_size (by repeat (first | (with_reducible first | exact HB.out | apply below_alloc | apply pw_below_drewN | apply below_drew1) | exact HB.out))) : w.heap.size ≤ gb183)); have n3_ := Aside0.mk ((by rw [hg]; exact (below_size (by repeat (first | (with_reducible first | exact HB.out | apply below_alloc | apply pw_below_drewN | apply below_drew1) | exact HB.out))) : w.heap.size ≤ gb183)); clear HB; have HB := n0_; have BK183 := n1_; have GW183 := n2_; have GE183 := n3_; clear n0_ n1_ n2_ n3_; clear hb hbox hg; have hcz11_0 : w10.cell? ⟨gb183, 0, none⟩ = some (.string (⟨#[]⟩ : ByteArray)) := (blk_cell BK183.out 0).trans rfl; have hcz11_1 : w10.cell? ⟨gb183, 1, none⟩ = some (.string (⟨#[]⟩ : ByteArray)) := (blk_cell BK183.out 1).trans rfl; have hfz11_0 := blk_frozen BK183.out 0; have hfz11_1 := blk_frozen BK183.out 1; have p184 : 0 ≤ ((ji6) : Int) := of_decide_eq_true (by first | (with_reducible assumption) | assumption); have q184 : (ji6) < (l0.length : Int) := of_decide_eq_true (by first | (with_reducible assumption) | assumption); obtain ⟨ad184, e184, hx184_0, hx184_1⟩ := at_T92 HR0.out (ji6) p184 q184; obtain rfl : ad182 = ad184 := (by injection e184); have hn184_0 : ad182.block ≠ gb183 := Nat.ne_of_lt (Nat.lt_of_lt_of_le (by have := World.block_lt_of_cell? _ _ hx184_0; first | rwa [add_block] at this | exact this) GW183.out); have hn184_1 : ad182.block ≠ gb183 := Nat.ne_of_lt (Nat.lt_of_lt_of_le (by have := World.block_lt_of_cell? _ _ hx184_0; first | rwa [add_block] at this | exact this) GW183.out); replace hx184_0 := (HB.out.cell (World.block_lt_of_cell? w _ hx184_0)).trans hx184_0; replace hx184_1 := (HB.out.cell (World.block_lt_of_cell? w _ hx184_1)).trans hx184_1; replace hx184_0 := (cell_far (p := ⟨gb183, 0, none⟩) (by first | (rw [add_block]; exact hn184_0) | (show (Addr.add _ _).block ≠ _; rw [add_block]; exact hn184_0) | exact hn184_0) (.string ((rd_T92 l0 x7_1).f0))).trans hx184_0; replace hx184_1 := (cell_far (p := ⟨gb183, 0, none⟩) (by first | (rw [add_block]; exact hn184_0) | (show (Addr.add _ _).block ≠ _; rw [add_block]; exact hn184_0) | exact hn184_0) (.string ((rd_T92 l0 x7_1).f0))).trans hx184_1; replace hx184_0 := (cell_far (p := ⟨gb183, 1, none⟩) (by first | (rw [add_block]; exact hn184_1) | (show (Addr.add _ _).block ≠ _; rw [add_block]; exact hn184_1) | exact hn184_1) (.string ((rd_T92 l0 x7_1).f1))).trans hx184_0; replace hx184_1 := (cell_far (p := ⟨gb183, 1, none⟩) (by first | (rw [add_block]; exact hn184_1) | (show (Addr.add _ _).block ≠ _; rw [add_block]; exact hn184_1) | exact hn184_1) (.string ((rd_T92 l0 x7_1).f1))).trans hx184_1; (try have hy184_0 := fun (n_ : Nat) => (show ((((w10.drewN n_).setCell ⟨gb183, 0, none⟩ (.string ((rd_T92 l0 x7_1).f0))).setCell ⟨gb183, 1, none⟩ (.string ((rd_T92 l0 x7_1).f1)))).cell? _ = some _ from hx184_0)); (try have hy184_1 := fun (n_ : Nat) => (show ((((w10.drewN n_).setCell ⟨gb183, 0, none⟩ (.string ((rd_T92 l0 x7_1).f0))).setCell ⟨gb183, 1, none⟩ (.string ((rd_T92 l0 x7_1).f1)))).cell? _ = some _ from hx184_1)); clear hn184_0; clear hn184_1; replace p184 := eq_true p184; replace q184 := eq_true q184))
                    repeat (go_quiet (first | ((with_reducible refine gate_dst (N := 4) rfl ?_); refine box_event ?hg (N := 4) ?hd (cs := #[.string (⟨#[]⟩ : ByteArray), .string (⟨#[]⟩ : ByteArray)]) (t := 92) ?hr ?_; (case hd => rfl); (case hg => rfl); (case hr => first | (go_simp; done) | (go_simp; rfl)); intro gb183 hg w10 hbox hb; have n0_ := Aside0.mk (below_step (by repeat (first | (with_reducible first | exact HB.out | apply below_alloc | apply pw_below_drewN | apply below_drew1) | exact HB.out)) hb); have n1_ := Aside0.mk (hbox); have n2_ := Aside0.mk ((by rw [hg]; exact (below_size (by repeat (first | (with_reducible first | exact HB.out | apply below_alloc | apply pw_below_drewN | apply below_drew1) | exact HB.out))) : w.heap.size ≤ gb183)); have n3_ := Aside0.mk ((by rw [hg]; exact (below_size (by repeat (first | (with_reducible first | exact HB.out | apply below_alloc | apply pw_below_drewN | apply below_drew1) | exact HB.out))) : w.heap.size ≤ gb183)); clear HB; have HB := n0_; have BK183 := n1_; have GW183 := n2_; have GE183 := n3_; clear n0_ n1_ n2_ n3_; clear hb hbox hg; have hcz11_0 : w10.cell? ⟨gb183, 0, none⟩ = some (.string (⟨#[]⟩ : ByteArray)) := (blk_cell BK183.out 0).trans rfl; have hcz11_1 : w10.cell? ⟨gb183, 1, none⟩ = some (.string (⟨#[]⟩ : ByteArray)) := (blk_cell BK183.out 1).trans rfl; have hfz11_0 := blk_frozen BK183.out 0; have hfz11_1 := blk_frozen BK183.out 1; have p184 : 0 ≤ ((ji6) : Int) := of_decide_eq_true (by first | (with_reducible assumption) | assumption); have q184 : (ji6) < (l0.length : Int) := of_decide_eq_true (by first | (with_reducible assumption) | assumption); obtain ⟨ad184, e184, hx184_0, hx184_1⟩ := at_T92 HR0.out (ji6) p184 q184; obtain rfl : ad182 = ad184 := (by injection e184); have hn184_0 : ad182.block ≠ gb183 := Nat.ne_of_lt (Nat.lt_of_lt_of_le (by have := World.block_lt_of_cell? _ _ hx184_0; first | rwa [add_block] at this | exact this) GW183.out); have hn184_1 : ad182.block ≠ gb183 := Nat.ne_of_lt (Nat.lt_of_lt_of_le (by have := World.block_lt_of_cell? _ _ hx184_0; first | rwa [add_block] at this | exact this) GW183.out); replace hx184_0 := (HB.out.cell (World.block_lt_of_cell? w _ hx184_0)).trans hx184_0; replace hx184_1 := (HB.out.cell (World.block_lt_of_cell? w _ hx184_1)).trans hx184_1; replace hx184_0 := (cell_far (p := ⟨gb183, 0, none⟩) (by first | (rw [add_block]; exact hn184_0) | (show (Addr.add _ _).block ≠ _; rw [add_block]; exact hn184_0) | exact hn184_0) (.string ((rd_T92 l0 x7_1).f0))).trans hx184_0; replace hx184_1 := (cell_far (p := ⟨gb183, 0, none⟩) (by first | (rw [add_block]; exact hn184_0) | (show (Addr.add _ _).block ≠ _; rw [add_block]; exact hn184_0) | exact hn184_0) (.string ((rd_T92 l0 x7_1).f0))).trans hx184_1; replace hx184_0 := (cell_far (p := ⟨gb183, 1, none⟩) (by first | (rw [add_block]; exact hn184_1) | (show (Addr.add _ _).block ≠ _; rw [add_block]; exact hn184_1) | exact hn184_1) (.string ((rd_T92 l0 x7_1).f1))).trans hx184_0; replace hx184_1 := (cell_far (p := ⟨gb183, 1, none⟩) (by first | (rw [add_block]; exact hn184_1) | (show (Addr.add _ _).block ≠ _; rw [add_block]; exact hn184_1) | exact hn184_1) (.string ((rd_T92 l0 x7_1).f1))).trans hx184_1; (try have hy184_0 := fun (n_ : Nat) => (show ((((w10.drewN n_).setCell ⟨gb183, 0, none⟩ (.string ((rd_T92 l0 x7_1).f0))).setCell ⟨gb183, 1, none⟩ (.string ((rd_T92 l0 x7_1).f1)))).cell? _ = some _ from hx184_0)); (try have hy184_1 := fun (n_ : Nat) => (show ((((w10.drewN n_).setCell ⟨gb183, 0, none⟩ (.string ((rd_T92 l0 x7_1).f0))).setCell ⟨gb183, 1, none⟩ (.string ((rd_T92 l0 x7_1).f1)))).cell? _ = some _ from hx184_1)); clear hn184_0; clear hn184_1; replace p184 := eq_true p184; replace q184 := eq_true q184)); try go_wp2_with (first | ((with_reducible refine gate_dst (N := 4) rfl ?_); refine box_event ?hg (N := 4) ?hd (cs := #[.string (⟨#[]⟩ : ByteArray), .string (⟨#[]⟩ : ByteArray)]) (t := 92) ?hr ?_; (case hd => rfl); (case hg => rfl); (case hr => first | (go_simp; done) | (go_simp; rfl)); intro gb183 hg w10 hbox hb; have n0_ := Aside0.mk (below_step (by repeat (first | (with_reducible first | exact HB.out | apply below_alloc | apply pw_below_drewN | apply below_drew1) | exact HB.out)) hb); have n1_ := Aside0.mk (hbox); have n2_ := Aside0.mk ((by rw [hg]; exact (below_size (by repeat (first | (with_reducible first | exact HB.out | apply below_alloc | apply pw_below_drewN | apply below_drew1) | exact HB.out))) : w.heap.size ≤ gb183)); have n3_ := Aside0.mk ((by rw [hg]; exact (below_size (by repeat (first | (with_reducible first | exact HB.out | apply below_alloc | apply pw_below_drewN | apply below_drew1) | exact HB.out))) : w.heap.size ≤ gb183)); clear HB; have HB := n0_; have BK183 := n1_; have GW183 := n2_; have GE183 := n3_; clear n0_ n1_ n2_ n3_; clear hb hbox hg; have hcz11_0 : w10.cell? ⟨gb183, 0, none⟩ = some (.string (⟨#[]⟩ : ByteArray)) := (blk_cell BK183.out 0).trans rfl; have hcz11_1 : w10.cell? ⟨gb183, 1, none⟩ = some (.string (⟨#[]⟩ : ByteArray)) := (blk_cell BK183.out 1).trans rfl; have hfz11_0 := blk_frozen BK183.out 0; have hfz11_1 := blk_frozen BK183.out 1; have p184 : 0 ≤ ((ji6) : Int) := of_decide_eq_true (by first | (with_reducible assumption) | assumption); have q184 : (ji6) < (l0.length : Int) := of_decide_eq_true (by first | (with_reducible assumption) | assumption); obtain ⟨ad184, e184, hx184_0, hx184_1⟩ := at_T92 HR0.out (ji6) p184 q184; obtain rfl : ad182 = ad184 := (by injection e184); have hn184_0 : ad182.block ≠ gb183 := Nat.ne_of_lt (Nat.lt_of_lt_of_le (by have := World.block_lt_of_cell? _ _ hx184_0; first | rwa [add_block] at this | exact this) GW183.out); have hn184_1 : ad182.block ≠ gb183 := Nat.ne_of_lt (Nat.lt_of_lt_of_le (by have := World.block_lt_of_cell? _ _ hx184_0; first | rwa [add_block] at this | exact this) GW183.out); replace hx184_0 := (HB.out.cell (World.block_lt_of_cell? w _ hx184_0)).trans hx184_0; replace hx184_1 := (HB.out.cell (World.block_lt_of_cell? w _ hx184_1)).trans hx184_1; replace hx184_0 := (cell_far (p := ⟨gb183, 0, none⟩) (by first | (rw [add_block]; exact hn184_0) | (show (Addr.add _ _).block ≠ _; rw [add_block]; exact hn184_0) | exact hn184_0) (.string ((rd_T92 l0 x7_1).f0))).trans hx184_0; replace hx184_1 := (cell_far (p := ⟨gb183, 0, none⟩) (by first | (rw [add_block]; exact hn184_0) | (show (Addr.add _ _).block ≠ _; rw [add_block]; exact hn184_0) | exact hn184_0) (.string ((rd_T92 l0 x7_1).f0))).trans hx184_1; replace hx184_0 := (cell_far (p := ⟨gb183, 1, none⟩) (by first | (rw [add_block]; exact hn184_1) | (show (Addr.add _ _).block ≠ _; rw [add_block]; exact hn184_1) | exact hn184_1) (.string ((rd_T92 l0 x7_1).f1))).trans hx184_0; replace hx184_1 := (cell_far (p := ⟨gb183, 1, none⟩) (by first | (rw [add_block]; exact hn184_1) | (show (Addr.add _ _).block ≠ _; rw [add_block]; exact hn184_1) | exact hn184_1) (.string ((rd_T92 l0 x7_1).f1))).trans hx184_1; (try have hy184_0 := fun (n_ : Nat) => (show ((((w10.drewN n_).setCell ⟨gb183, 0, none⟩ (.string ((rd_T92 l0 x7_1).f0))).setCell ⟨gb183, 1, none⟩ (.string ((rd_T92 l0 x7_1).f1)))).cell? _ = some _ from hx184_0)); (try have hy184_1 := fun (n_ : Nat) => (show ((((w10.drewN n_).setCell ⟨gb183, 0, none⟩ (.string ((rd_T92 l0 x7_1).f0))).setCell ⟨gb183, 1, none⟩ (.string ((rd_T92 l0 x7_1).f1)))).cell? _ = some _ from hx184_1)); clear hn184_0; clear hn184_1; replace p184 := eq_true p184; replace q184 := eq_true q184)))
                    go_roundg k1
                    case measure => have := HK1.out; omega
                    case rel => exact ⟨(wrap64 (x7_1 + 1)), (by first | rfl | (simp; done) | (simp [*]; done)), H', ⟨by have := HK1.out; omega⟩, ⟨by repeat (first | (with_reducible first | exact HB.out | apply below_alloc | apply pw_below_drewN | apply below_drew1 | refine below_set ?_ GE183.out) | exact HB.out)⟩⟩
                  · rw [if_neg c9] at H
                    have c9b0 : (Op.bytesLess (((rd_T92 l0 (ji6)).f0).toList) (((rd_T92 l0 x7_1).f0).toList)) = false := by simpa using c9
                    clear c9
                    obtain rfl := Option.some.inj H
                    have p182 : 0 ≤ (x7_1 : Int) := of_decide_eq_true (by first | (with_reducible assumption) | assumption)
                    have q182 : x7_1 < (l0.length : Int) := of_decide_eq_true (by first | (with_reducible assumption) | assumption)
                    obtain ⟨ad182, e182, hx182_0, hx182_1⟩ := at_T92 HR0.out x7_1 p182 q182
                    cases e182
                    replace hx182_0 := (HB.out.cell (World.block_lt_of_cell? w _ hx182_0)).trans hx182_0
                    replace hx182_1 := (HB.out.cell (World.block_lt_of_cell? w _ hx182_1)).trans hx182_1
                    replace p182 := eq_true p182
                    replace q182 := eq_true q182
                    go_wp2_with (first | ((with_reducible refine gate_dst (N := 4) rfl ?_); refine box_event ?hg (N := 4) ?hd (cs := #[.string (⟨#[]⟩ : ByteArray), .string (⟨#[]⟩ : ByteArray)]) (t := 92) ?hr ?_; (case hd => rfl); (case hg => rfl); (case hr => first | (go_simp; done) | (go_simp; rfl)); intro gb183 hg w12 hbox hb; have n0_ := Aside0.mk (below_step (by repeat (first | (with_reducible first | exact HB.out | apply below_alloc | apply pw_below_drewN | apply below_drew1) | exact HB.out)) hb); have n1_ := Aside0.mk (hbox); have n2_ := Aside0.mk ((by rw [hg]; exact (below_size (by repeat (first | (with_reducible first | exact HB.out | apply below_alloc | apply pw_below_drewN | apply below_drew1) | exact HB.out))) : w.heap.size ≤ gb183)); have n3_ := Aside0.mk ((by rw [hg]; exact (below_size (by repeat (first | (with_reducible first | exact HB.out | apply below_alloc | apply pw_below_drewN | apply below_drew1) | exact HB.out))) : w.heap.size ≤ gb183)); clear HB; have HB := n0_; have BK183 := n1_; have GW183 := n2_; have GE183 := n3_; clear n0_ n1_ n2_ n3_; clear hb hbox hg; have hcz13_0 : w12.cell? ⟨gb183, 0, none⟩ = some (.string (⟨#[]⟩ : ByteArray)) := (blk_cell BK183.out 0).trans rfl; have hcz13_1 : w12.cell? ⟨gb183, 1, none⟩ = some (.string (⟨#[]⟩ : ByteArray)) := (blk_cell BK183.out 1).trans rfl; have hfz13_0 := blk_frozen BK183.out 0; have hfz13_1 := blk_frozen BK183.out 1; have p184 : 0 ≤ ((ji6) : Int) := of_decide_eq_true (by first | (with_reducible assumption) | assumption); have q184 : (ji6) < (l0.length : Int) := of_decide_eq_true (by first | (with_reducible assumption) | assumption); obtain ⟨ad184, e184, hx184_0, hx184_1⟩ := at_T92 HR0.out (ji6) p184 q184; obtain rfl : ad182 = ad184 := (by injection e184); have hn184_0 : ad182.block ≠ gb183 := Nat.ne_of_lt (Nat.lt_of_lt_of_le (by have := World.block_lt_of_cell? _ _ hx184_0; first | rwa [add_block] at this | exact this) GW183.out); have hn184_1 : ad182.block ≠ gb183 := Nat.ne_of_lt (Nat.lt_of_lt_of_le (by have := World.block_lt_of_cell? _ _ hx184_0; first | rwa [add_block] at this | exact this) GW183.out); replace hx184_0 := (HB.out.cell (World.block_lt_of_cell? w _ hx184_0)).trans hx184_0; replace hx184_1 := (HB.out.cell (World.block_lt_of_cell? w _ hx184_1)).trans hx184_1; replace hx184_0 := (cell_far (p := ⟨gb183, 0, none⟩) (by first | (rw [add_block]; exact hn184_0) | (show (Addr.add _ _).block ≠ _; rw [add_block]; exact hn184_0) | exact hn184_0) (.string ((rd_T92 l0 x7_1).f0))).trans hx184_0; replace hx184_1 := (cell_far (p := ⟨gb183, 0, none⟩) (by first | (rw [add_block]; exact hn184_0) | (show (Addr.add _ _).block ≠ _; rw [add_block]; exact hn184_0) | exact hn184_0) (.string ((rd_T92 l0 x7_1).f0))).trans hx184_1; replace hx184_0 := (cell_far (p := ⟨gb183, 1, none⟩) (by first | (rw [add_block]; exact hn184_1) | (show (Addr.add _ _).block ≠ _; rw [add_block]; exact hn184_1) | exact hn184_1) (.string ((rd_T92 l0 x7_1).f1))).trans hx184_0; replace hx184_1 := (cell_far (p := ⟨gb183, 1, none⟩) (by first | (rw [add_block]; exact hn184_1) | (show (Addr.add _ _).block ≠ _; rw [add_block]; exact hn184_1) | exact hn184_1) (.string ((rd_T92 l0 x7_1).f1))).trans hx184_1; (try have hy184_0 := fun (n_ : Nat) => (show ((((w12.drewN n_).setCell ⟨gb183, 0, none⟩ (.string ((rd_T92 l0 x7_1).f0))).setCell ⟨gb183, 1, none⟩ (.string ((rd_T92 l0 x7_1).f1)))).cell? _ = some _ from hx184_0)); (try have hy184_1 := fun (n_ : Nat) => (show ((((w12.drewN n_).setCell ⟨gb183, 0, none⟩ (.string ((rd_T92 l0 x7_1).f0))).setCell ⟨gb183, 1, none⟩ (.string ((rd_T92 l0 x7_1).f1)))).cell? _ = some _ from hx184_1)); clear hn184_0; clear hn184_1; replace p184 := eq_true p184; replace q184 := eq_true q184))
                    repeat (go_quiet (first | ((with_reducible refine gate_dst (N := 4) rfl ?_); refine box_event ?hg (N := 4) ?hd (cs := #[.string (⟨#[]⟩ : ByteArray), .string (⟨#[]⟩ : ByteArray)]) (t := 92) ?hr ?_; (case hd => rfl); (case hg => rfl); (case hr => first | (go_simp; done) | (go_simp; rfl)); intro gb183 hg w12 hbox hb; have n0_ := Aside0.mk (below_step (by repeat (first | (with_reducible first | exact HB.out | apply below_alloc | apply pw_below_drewN | apply below_drew1) | exact HB.out)) hb); have n1_ := Aside0.mk (hbox); have n2_ := Aside0.mk ((by rw [hg]; exact (below_size (by repeat (first | (with_reducible first | exact HB.out | apply below_alloc | apply pw_below_drewN | apply below_drew1) | exact HB.out))) : w.heap.size ≤ gb183)); have n3_ := Aside0.mk ((by rw [hg]; exact (below_size (by repeat (first | (with_reducible first | exact HB.out | apply below_alloc | apply pw_below_drewN | apply below_drew1) | exact HB.out))) : w.heap.size ≤ gb183)); clear HB; have HB := n0_; have BK183 := n1_; have GW183 := n2_; have GE183 := n3_; clear n0_ n1_ n2_ n3_; clear hb hbox hg; have hcz13_0 : w12.cell? ⟨gb183, 0, none⟩ = some (.string (⟨#[]⟩ : ByteArray)) := (blk_cell BK183.out 0).trans rfl; have hcz13_1 : w12.cell? ⟨gb183, 1, none⟩ = some (.string (⟨#[]⟩ : ByteArray)) := (blk_cell BK183.out 1).trans rfl; have hfz13_0 := blk_frozen BK183.out 0; have hfz13_1 := blk_frozen BK183.out 1; have p184 : 0 ≤ ((ji6) : Int) := of_decide_eq_true (by first | (with_reducible assumption) | assumption); have q184 : (ji6) < (l0.length : Int) := of_decide_eq_true (by first | (with_reducible assumption) | assumption); obtain ⟨ad184, e184, hx184_0, hx184_1⟩ := at_T92 HR0.out (ji6) p184 q184; obtain rfl : ad182 = ad184 := (by injection e184); have hn184_0 : ad182.block ≠ gb183 := Nat.ne_of_lt (Nat.lt_of_lt_of_le (by have := World.block_lt_of_cell? _ _ hx184_0; first | rwa [add_block] at this | exact this) GW183.out); have hn184_1 : ad182.block ≠ gb183 := Nat.ne_of_lt (Nat.lt_of_lt_of_le (by have := World.block_lt_of_cell? _ _ hx184_0; first | rwa [add_block] at this | exact this) GW183.out); replace hx184_0 := (HB.out.cell (World.block_lt_of_cell? w _ hx184_0)).trans hx184_0; replace hx184_1 := (HB.out.cell (World.block_lt_of_cell? w _ hx184_1)).trans hx184_1; replace hx184_0 := (cell_far (p := ⟨gb183, 0, none⟩) (by first | (rw [add_block]; exact hn184_0) | (show (Addr.add _ _).block ≠ _; rw [add_block]; exact hn184_0) | exact hn184_0) (.string ((rd_T92 l0 x7_1).f0))).trans hx184_0; replace hx184_1 := (cell_far (p := ⟨gb183, 0, none⟩) (by first | (rw [add_block]; exact hn184_0) | (show (Addr.add _ _).block ≠ _; rw [add_block]; exact hn184_0) | exact hn184_0) (.string ((rd_T92 l0 x7_1).f0))).trans hx184_1; replace hx184_0 := (cell_far (p := ⟨gb183, 1, none⟩) (by first | (rw [add_block]; exact hn184_1) | (show (Addr.add _ _).block ≠ _; rw [add_block]; exact hn184_1) | exact hn184_1) (.string ((rd_T92 l0 x7_1).f1))).trans hx184_0; replace hx184_1 := (cell_far (p := ⟨gb183, 1, none⟩) (by first | (rw [add_block]; exact hn184_1) | (show (Addr.add _ _).block ≠ _; rw [add_block]; exact hn184_1) | exact hn184_1) (.string ((rd_T92 l0 x7_1).f1))).trans hx184_1; (try have hy184_0 := fun (n_ : Nat) => (show ((((w12.drewN n_).setCell ⟨gb183, 0, none⟩ (.string ((rd_T92 l0 x7_1).f0))).setCell ⟨gb183, 1, none⟩ (.string ((rd_T92 l0 x7_1).f1)))).cell? _ = some _ from hx184_0)); (try have hy184_1 := fun (n_ : Nat) => (show ((((w12.drewN n_).setCell ⟨gb183, 0, none⟩ (.string ((rd_T92 l0 x7_1).f0))).setCell ⟨gb183, 1, none⟩ (.string ((rd_T92 l0 x7_1).f1)))).cell? _ = some _ from hx184_1)); clear hn184_0; clear hn184_1; replace p184 := eq_true p184; replace q184 := eq_true q184)); try go_wp2_with (first | ((with_reducible refine gate_dst (N := 4) rfl ?_); refine box_event ?hg (N := 4) ?hd (cs := #[.string (⟨#[]⟩ : ByteArray), .string (⟨#[]⟩ : ByteArray)]) (t := 92) ?hr ?_; (case hd => rfl); (case hg => rfl); (case hr => first | (go_simp; done) | (go_simp; rfl)); intro gb183 hg w12 hbox hb; have n0_ := Aside0.mk (below_step (by repeat (first | (with_reducible first | exact HB.out | apply below_alloc | apply pw_below_drewN | apply below_drew1) | exact HB.out)) hb); have n1_ := Aside0.mk (hbox); have n2_ := Aside0.mk ((by rw [hg]; exact (below_size (by repeat (first | (with_reducible first | exact HB.out | apply below_alloc | apply pw_below_drewN | apply below_drew1) | exact HB.out))) : w.heap.size ≤ gb183)); have n3_ := Aside0.mk ((by rw [hg]; exact (below_size (by repeat (first | (with_reducible first | exact HB.out | apply below_alloc | apply pw_below_drewN | apply below_drew1) | exact HB.out))) : w.heap.size ≤ gb183)); clear HB; have HB := n0_; have BK183 := n1_; have GW183 := n2_; have GE183 := n3_; clear n0_ n1_ n2_ n3_; clear hb hbox hg; have hcz13_0 : w12.cell? ⟨gb183, 0, none⟩ = some (.string (⟨#[]⟩ : ByteArray)) := (blk_cell BK183.out 0).trans rfl; have hcz13_1 : w12.cell? ⟨gb183, 1, none⟩ = some (.string (⟨#[]⟩ : ByteArray)) := (blk_cell BK183.out 1).trans rfl; have hfz13_0 := blk_frozen BK183.out 0; have hfz13_1 := blk_frozen BK183.out 1; have p184 : 0 ≤ ((ji6) : Int) := of_decide_eq_true (by first | (with_reducible assumption) | assumption); have q184 : (ji6) < (l0.length : Int) := of_decide_eq_true (by first | (with_reducible assumption) | assumption); obtain ⟨ad184, e184, hx184_0, hx184_1⟩ := at_T92 HR0.out (ji6) p184 q184; obtain rfl : ad182 = ad184 := (by injection e184); have hn184_0 : ad182.block ≠ gb183 := Nat.ne_of_lt (Nat.lt_of_lt_of_le (by have := World.block_lt_of_cell? _ _ hx184_0; first | rwa [add_block] at this | exact this) GW183.out); have hn184_1 : ad182.block ≠ gb183 := Nat.ne_of_lt (Nat.lt_of_lt_of_le (by have := World.block_lt_of_cell? _ _ hx184_0; first | rwa [add_block] at this | exact this) GW183.out); replace hx184_0 := (HB.out.cell (World.block_lt_of_cell? w _ hx184_0)).trans hx184_0; replace hx184_1 := (HB.out.cell (World.block_lt_of_cell? w _ hx184_1)).trans hx184_1; replace hx184_0 := (cell_far (p := ⟨gb183, 0, none⟩) (by first | (rw [add_block]; exact hn184_0) | (show (Addr.add _ _).block ≠ _; rw [add_block]; exact hn184_0) | exact hn184_0) (.string ((rd_T92 l0 x7_1).f0))).trans hx184_0; replace hx184_1 := (cell_far (p := ⟨gb183, 0, none⟩) (by first | (rw [add_block]; exact hn184_0) | (show (Addr.add _ _).block ≠ _; rw [add_block]; exact hn184_0) | exact hn184_0) (.string ((rd_T92 l0 x7_1).f0))).trans hx184_1; replace hx184_0 := (cell_far (p := ⟨gb183, 1, none⟩) (by first | (rw [add_block]; exact hn184_1) | (show (Addr.add _ _).block ≠ _; rw [add_block]; exact hn184_1) | exact hn184_1) (.string ((rd_T92 l0 x7_1).f1))).trans hx184_0; replace hx184_1 := (cell_far (p := ⟨gb183, 1, none⟩) (by first | (rw [add_block]; exact hn184_1) | (show (Addr.add _ _).block ≠ _; rw [add_block]; exact hn184_1) | exact hn184_1) (.string ((rd_T92 l0 x7_1).f1))).trans hx184_1; (try have hy184_0 := fun (n_ : Nat) => (show ((((w12.drewN n_).setCell ⟨gb183, 0, none⟩ (.string ((rd_T92 l0 x7_1).f0))).setCell ⟨gb183, 1, none⟩ (.string ((rd_T92 l0 x7_1).f1)))).cell? _ = some _ from hx184_0)); (try have hy184_1 := fun (n_ : Nat) => (show ((((w12.drewN n_).setCell ⟨gb183, 0, none⟩ (.string ((rd_T92 l0 x7_1).f0))).setCell ⟨gb183, 1, none⟩ (.string ((rd_T92 l0 x7_1).f1)))).cell? _ = some _ from hx184_1)); clear hn184_0; clear hn184_1; replace p184 := eq_true p184; replace q184 := eq_true q184)))
                    go_ret
                    exact ⟨by first | rfl | (simp [errW_none, errW_some] <;> rfl) | (simp only [← hji6]; first | rfl | (simp [errW_none, errW_some] <;> rfl)) | (simp [*, errW_none, errW_some] <;> rfl), by repeat (first | (with_reducible first | exact HB.out | apply below_alloc | apply pw_below_drewN | apply below_drew1 | refine below_set ?_ GE183.out) | exact HB.out)⟩
                · rw [if_neg c8] at H
                  exact absurd H (by simp)
              · rw [if_neg c7] at H
                exact absurd H (by simp)
            · rw [if_neg c5] at H
              have c5b0 : decide (0 < x7_1) = false := decide_eq_false c5
              clear c5
              have H' := Aside0.mk H
              clear H
              have p182 : 0 ≤ (x7_1 : Int) := of_decide_eq_true (by first | (with_reducible assumption) | assumption)
              have q182 : x7_1 < (l0.length : Int) := of_decide_eq_true (by first | (with_reducible assumption) | assumption)
              obtain ⟨ad182, e182, hx182_0, hx182_1⟩ := at_T92 HR0.out x7_1 p182 q182
              cases e182
              replace hx182_0 := (HB.out.cell (World.block_lt_of_cell? w _ hx182_0)).trans hx182_0
              replace hx182_1 := (HB.out.cell (World.block_lt_of_cell? w _ hx182_1)).trans hx182_1
              replace p182 := eq_true p182
              replace q182 := eq_true q182
              go_wp2_with (first | ((with_reducible refine gate_dst (N := 4) rfl ?_); refine box_event ?hg (N := 4) ?hd (cs := #[.string (⟨#[]⟩ : ByteArray), .string (⟨#[]⟩ : ByteArray)]) (t := 92) ?hr ?_; (case hd => rfl); (case hg => rfl); (case hr => first | (go_simp; done) | (go_simp; rfl)); intro gb183 hg w14 hbox hb; have n0_ := Aside0.mk (below_step (by repeat (first | (with_reducible first | exact HB.out | apply below_alloc | apply pw_below_drewN | apply below_drew1) | exact HB.out)) hb); have n1_ := Aside0.mk (hbox); have n2_ := Aside0.mk ((by rw [hg]; exact (below_size (by repeat (first | (with_reducible first | exact HB.out | apply below_alloc | apply pw_below_drewN | apply below_drew1) | exact HB.out))) : w.heap.size ≤ gb183)); have n3_ := Aside0.mk ((by rw [hg]; exact (below_size (by repeat (first | (with_reducible first | exact HB.out | apply below_alloc | apply pw_below_drewN | apply below_drew1) | exact HB.out))) : w.heap.size ≤ gb183)); clear HB; have HB := n0_; have BK183 := n1_; have GW183 := n2_; have GE183 := n3_; clear n0_ n1_ n2_ n3_; clear hb hbox hg; have hcz15_0 : w14.cell? ⟨gb183, 0, none⟩ = some (.string (⟨#[]⟩ : ByteArray)) := (blk_cell BK183.out 0).trans rfl; have hcz15_1 : w14.cell? ⟨gb183, 1, none⟩ = some (.string (⟨#[]⟩ : ByteArray)) := (blk_cell BK183.out 1).trans rfl; have hfz15_0 := blk_frozen BK183.out 0; have hfz15_1 := blk_frozen BK183.out 1))
              repeat (go_quiet (first | ((with_reducible refine gate_dst (N := 4) rfl ?_); refine box_event ?hg (N := 4) ?hd (cs := #[.string (⟨#[]⟩ : ByteArray), .string (⟨#[]⟩ : ByteArray)]) (t := 92) ?hr ?_; (case hd => rfl); (case hg => rfl); (case hr => first | (go_simp; done) | (go_simp; rfl)); intro gb183 hg w14 hbox hb; have n0_ := Aside0.mk (below_step (by repeat (first | (with_reducible first | exact HB.out | apply below_alloc | apply pw_below_drewN | apply below_drew1) | exact HB.out)) hb); have n1_ := Aside0.mk (hbox); have n2_ := Aside0.mk ((by rw [hg]; exact (below_size (by repeat (first | (with_reducible first | exact HB.out | apply below_alloc | apply pw_below_drewN | apply below_drew1) | exact HB.out))) : w.heap.size ≤ gb183)); have n3_ := Aside0.mk ((by rw [hg]; exact (below_size (by repeat (first | (with_reducible first | exact HB.out | apply below_alloc | apply pw_below_drewN | apply below_drew1) | exact HB.out))) : w.heap.size ≤ gb183)); clear HB; have HB := n0_; have BK183 := n1_; have GW183 := n2_; have GE183 := n3_; clear n0_ n1_ n2_ n3_; clear hb hbox hg; have hcz15_0 : w14.cell? ⟨gb183, 0, none⟩ = some (.string (⟨#[]⟩ : ByteArray)) := (blk_cell BK183.out 0).trans rfl; have hcz15_1 : w14.cell? ⟨gb183, 1, none⟩ = some (.string (⟨#[]⟩ : ByteArray)) := (blk_cell BK183.out 1).trans rfl; have hfz15_0 := blk_frozen BK183.out 0; have hfz15_1 := blk_frozen BK183.out 1)); try go_wp2_with (first | ((with_reducible refine gate_dst (N := 4) rfl ?_); refine box_event ?hg (N := 4) ?hd (cs := #[.string (⟨#[]⟩ : ByteArray), .string (⟨#[]⟩ : ByteArray)]) (t := 92) ?hr ?_; (case hd => rfl); (case hg => rfl); (case hr => first | (go_simp; done) | (go_simp; rfl)); intro gb183 hg w14 hbox hb; have n0_ := Aside0.mk (below_step (by repeat (first | (with_reducible first | exact HB.out | apply below_alloc | apply pw_below_drewN | apply below_drew1) | exact HB.out)) hb); have n1_ := Aside0.mk (hbox); have n2_ := Aside0.mk ((by rw [hg]; exact (below_size (by repeat (first | (with_reducible first | exact HB.out | apply below_alloc | apply pw_below_drewN | apply below_drew1) | exact HB.out))) : w.heap.size ≤ gb183)); have n3_ := Aside0.mk ((by rw [hg]; exact (below_size (by repeat (first | (with_reducible first | exact HB.out | apply below_alloc | apply pw_below_drewN | apply below_drew1) | exact HB.out))) : w.heap.size ≤ gb183)); clear HB; have HB := n0_; have BK183 := n1_; have GW183 := n2_; have GE183 := n3_; clear n0_ n1_ n2_ n3_; clear hb hbox hg; have hcz15_0 : w14.cell? ⟨gb183, 0, none⟩ = some (.string (⟨#[]⟩ : ByteArray)) := (blk_cell BK183.out 0).trans rfl; have hcz15_1 : w14.cell? ⟨gb183, 1, none⟩ = some (.string (⟨#[]⟩ : ByteArray)) := (blk_cell BK183.out 1).trans rfl; have hfz15_0 := blk_frozen BK183.out 0; have hfz15_1 := blk_frozen BK183.out 1)))
              go_roundg k1
              case measure => have := HK1.out; omega
              case rel => exact ⟨(wrap64 (x7_1 + 1)), (by first | rfl | (simp; done) | (simp [*]; done)), H', ⟨by have := HK1.out; omega⟩, ⟨by repeat (first | (with_reducible first | exact HB.out | apply below_alloc | apply pw_below_drewN | apply below_drew1 | refine below_set ?_ GE183.out) | exact HB.out)⟩⟩
          · rw [if_neg c4] at H
            exact absurd H (by simp)
        · rw [if_neg c3] at H
          exact absurd H (by simp)
      · rw [if_neg c2] at H
        have c2b0 : decide (x7_1 < (l0.length : Int)) = false := decide_eq_false c2
        clear c2
        replace H := Option.bind_eq_some_iff.mp H
        obtain ⟨t185, A160, H⟩ := H
        replace H : (some t185) = some r := H
        have A16 := Aside0.mk A160
        clear A160
        obtain rfl := Option.some.inj H
        go_wp2_with (first | (go_at_call 64; (with_reducible refine (foghornref10_each.calls k1 _ _ l0 t185 _ ?side1 ?side2 A16.out).mono ?_); (case side1 => repeat (first | exact (Kd.C_below HR0.out HB.out) | (with_reducible refine Kd.C_alloc ?_ _) | (with_reducible refine Kd.C_drewN ?_ _) | (with_reducible refine Kd.C_drew ?_))); (case side2 => exact HC0.out); rintro e w17 ⟨rfl, hb⟩; have n0_ := Aside0.mk (below_step (by repeat (first | (with_reducible first | exact HB.out | apply below_alloc | apply pw_below_drewN | apply below_drew1) | exact HB.out)) hb); clear HB; have HB := n0_; clear n0_; (try clear hb); (try clear hb2); (try clear hk); (try clear hi)))
        repeat (go_quiet (first | (go_at_call 64; (with_reducible refine (foghornref10_each.calls k1 _ _ l0 t185 _ ?side1 ?side2 A16.out).mono ?_); (case side1 => repeat (first | exact (Kd.C_below HR0.out HB.out) | (with_reducible refine Kd.C_alloc ?_ _) | (with_reducible refine Kd.C_drewN ?_ _) | (with_reducible refine Kd.C_drew ?_))); (case side2 => exact HC0.out); rintro e w17 ⟨rfl, hb⟩; have n0_ := Aside0.mk (below_step (by repeat (first | (with_reducible first | exact HB.out | apply below_alloc | apply pw_below_drewN | apply below_drew1) | exact HB.out)) hb); clear HB; have HB := n0_; clear n0_; (try clear hb); (try clear hb2); (try clear hk); (try clear hi))); try go_wp2_with (first | (go_at_call 64; (with_reducible refine (foghornref10_each.calls k1 _ _ l0 t185 _ ?side1 ?side2 A16.out).mono ?_); (case side1 => repeat (first | exact (Kd.C_below HR0.out HB.out) | (with_reducible refine Kd.C_alloc ?_ _) | (with_reducible refine Kd.C_drewN ?_ _) | (with_reducible refine Kd.C_drew ?_))); (case side2 => exact HC0.out); rintro e w17 ⟨rfl, hb⟩; have n0_ := Aside0.mk (below_step (by repeat (first | (with_reducible first | exact HB.out | apply below_alloc | apply pw_below_drewN | apply below_drew1) | exact HB.out)) hb); clear HB; have HB := n0_; clear n0_; (try clear hb); (try clear hb2); (try clear hk); (try clear hi))))
        go_ret
        exact ⟨by first | rfl | (simp [errW_none, errW_some] <;> rfl) | (simp [*, errW_none, errW_some] <;> rfl), by repeat (first | (with_reducible first | exact HB.out | apply below_alloc | apply pw_below_drewN | apply below_drew1) | exact HB.out)⟩
end Go.Proofs.Ytkphinfijppkeaa.G
