/- Contracts of functions of the given program: what each comes to, for any arguments. No condition beyond each theorem's own premises. -/
import Derived.Laws.RangeString
import Derived.Laws.RangeAny
import Derived.LoopNIn
import Derived.LoopIn
import Derived.Test.YtkphinfijppkeaaG0
import Derived.Test.YtkphinfijppkeaaFrame
import Derived.Test.YtkphinfijppkeaaFrameMore
namespace Go.Proofs.Ytkphinfijppkeaa.G
open Go.RowKit Go.Proofs.YtkphinfijppkeaaW.PrintWords Go.Proofs.YtkphinfijppkeaaW.PrintLast Go.Proofs.YtkphinfijppkeaaW.PrintMore
attribute [local go_sem] max2_int min2_int max_two min_two max_three min_three max_four min_four
set_option linter.unusedVariables false
set_option linter.unusedSimpArgs false
/-! Names and values: texts whose bytes are all of some kind. -/
def lowB (b : UInt8) : Bool := decide (97 ≤ b.toNat) && decide (b.toNat ≤ 122)
def valB (b : UInt8) : Bool := (decide (97 ≤ b.toNat) && decide (b.toNat ≤ 122)) || (decide (48 ≤ b.toNat) && decide (b.toNat ≤ 57)) || decide (b.toNat = 45)
def nameB (s : ByteArray) : Bool := s.data.toList.all lowB && (decide (1 ≤ s.size) && decide (s.size ≤ 8))
def valueB (s : ByteArray) : Bool := s.data.toList.all valB && decide (s.size ≤ 8)
theorem all_at (p : UInt8 → Bool) (s : ByteArray) : s.data.toList.all p = true ↔ ∀ i, (h : i < s.size) → p s[i] = true := by
  rw [List.all_eq_true]
  constructor
  · intro h i hi
    exact h _ (by rw [ByteArray.getElem_eq_getElem_data]; simp)
  · intro h x hx
    obtain ⟨i, hi, rfl⟩ := List.mem_iff_getElem.1 hx
    have := h i (by simpa using hi)
    simpa [ByteArray.getElem_eq_getElem_data] using this
theorem below_iter (w : World) (s : ByteArray) (pos : Nat) : Below w.heap.size w (w.iter s pos) := (Below.refl _ w).alloc (Nat.le_refl _) _
theorem next_rune (w : World) (s : ByteArray) (pos : Nat) (h : pos < s.size) : ∃ r wd : Nat, 1 ≤ wd ∧ (∀ ty, (Instr.next (.pointer (some ⟨w.heap.size, 0, none⟩)) true ty).run Try.prog (w.iter s pos) = .ok (.tuple #[.bool true, .int .i64 pos, .int .i32 (r : Int)]) (w.iter s (pos + wd))) ∧
    ((r < 128 ∧ s[pos].toNat = r ∧ wd = 1) ∨ (128 ≤ r ∧ 128 ≤ s[pos].toNat)) := by
  by_cases ha : s[pos].toNat < 128
  · exact ⟨s[pos].toNat, 1, Nat.le_refl _, fun ty => run_next_ascii w s pos ty h ha, .inl ⟨ha, rfl, rfl⟩⟩
  · have hd := decode_high s pos h (by omega)
    exact ⟨(Utf8.decode s pos).1, (Utf8.decode s pos).2, hd.2, fun ty => run_next_any w s pos ty h, .inr ⟨hd.1, by omega⟩⟩
theorem dec8 (n : Nat) : decide ((n : Int) ≤ 8) = decide (n ≤ 8) := by
  rw [decide_eq_decide]; omega
theorem name_no {s : ByteArray} {pos : Nat} (h : pos < s.size) (hb : ¬ (97 ≤ s[pos].toNat ∧ s[pos].toNat ≤ 122)) : nameB s = false := by
  cases hn : nameB s with
  | false => rfl
  | true =>
    unfold nameB at hn
    rw [Bool.and_eq_true, all_at] at hn
    have := hn.1 pos h
    simp [lowB] at this
    omega
theorem name_end {s : ByteArray} (h : ∀ j, (hj : j < s.size) → 97 ≤ s[j].toNat ∧ s[j].toNat ≤ 122) : nameB s = (decide (1 ≤ s.size) && decide (s.size ≤ 8)) := by
  unfold nameB
  have : s.data.toList.all lowB = true := (all_at lowB s).2 fun i hi => by
    have := h i hi
    simp [lowB, this]
  rw [this, Bool.true_and]
set_option maxHeartbeats 1000000 in
theorem isName_calls (s : ByteArray) (w : World) : Calls Try.prog 109 #[.string s] w fun e w' => e = .returned (.bool (nameB s)) ∧ Below w.heap.size w w' := by
  go_enter Try.func109, Try.ntmps109
  go_wp2
  go_loopw [4] (fun v w' => ∃ pos : Nat, pos ≤ s.size ∧ w' = w.iter s pos ∧ Aside0 (∀ j, (hj : j < s.size) → j < pos → 97 ≤ s[j].toNat ∧ s[j].toNat ≤ 122)) (fun _ w' => s.size - w'.iterPos w.heap.size)
  case atStart => exact ⟨0, Nat.zero_le _, rfl, ⟨fun j _ hj => absurd hj (Nat.not_lt_zero _)⟩⟩
  case round =>
    obtain ⟨pos, hps, rfl, HA⟩ := hrel
    by_cases hp : pos < s.size
    · obtain ⟨r, wd, hwd, hnx, hr⟩ := next_rune w s pos hp
      by_cases hg : 97 ≤ r ∧ r ≤ 122
      · have h1 : s[pos].toNat = r ∧ wd = 1 := by omega
        obtain ⟨hb, rfl⟩ := h1
        have HB := Aside0.mk hb
        have hg1 : (97 : Int) ≤ (r : Int) := by omega
        have hg2 : (r : Int) ≤ 122 := by omega
        have hg3 := hg
        clear hr hb hg
        go_wp2
        go_roundw
        case rel => exact ⟨pos + 1, by omega, rfl, ⟨fun j hj hlt => by
          by_cases e : j = pos
          · subst e; rw [HB.out]; exact hg3
          · exact HA.out j hj (by omega)⟩⟩
        case measure => simp; omega
      · have HV := Aside0.mk (name_no hp (show ¬ (97 ≤ s[pos].toNat ∧ s[pos].toNat ≤ 122) by omega))
        have hB := below_iter w s (pos + wd)
        clear hr
        by_cases hlo : r < 97
        · have hg1 : ((r : Nat) : Int) < 97 := by omega
          clear hg
          go_wp2
          go_ret
          exact ⟨by rw [HV.out]; rfl, hB⟩
        · have hg1 : (97 : Int) ≤ (r : Int) := by omega
          have hg2 : (122 : Int) < (r : Int) := by omega
          clear hg hlo
          go_wp2
          go_ret
          exact ⟨by rw [HV.out]; rfl, hB⟩
    · have hnx : ∀ ty, (Instr.next (.pointer (some ⟨w.heap.size, 0, none⟩)) true ty).run Try.prog (w.iter s pos) = _ := fun ty => run_next_end w s pos ty hp
      have HV := Aside0.mk (name_end (fun j hj => HA.out j hj (by omega)))
      have hB := below_iter w s pos
      by_cases h0 : s.size = 0
      · have hem2 : s.toList = [] := by
          have h : s = ByteArray.empty := by simpa using h0
          rw [ByteArray.toList_eq, h]; rfl
        have hem : s.toList.isEmpty = true := by rw [hem2]; rfl
        have HZ := Aside0.mk h0
        clear h0
        go_wp2
        go_ret
        exact ⟨by rw [HV.out, HZ.out]; rfl, hB⟩
      · have hem : s.toList.isEmpty = false := by
          rw [ByteArray.toList_eq]
          cases hl : s.data.toList with
          | nil => exact absurd (by simpa using congrArg List.length hl) h0
          | cons a b => rfl
        have hem2 : (!s.toList.isEmpty) = true := by rw [hem]; rfl
        have hd1 : decide (1 ≤ s.size) = true := decide_eq_true (by omega)
        have HZ := Aside0.mk hd1
        clear h0 hd1
        go_wp2
        all_goals
          go_ret
          exact ⟨by rw [HV.out, HZ.out, Bool.true_and, ← dec8]; rfl, hB⟩
theorem value_no {s : ByteArray} {pos : Nat} (h : pos < s.size) (hb : ¬ ((97 ≤ s[pos].toNat ∧ s[pos].toNat ≤ 122) ∨ (48 ≤ s[pos].toNat ∧ s[pos].toNat ≤ 57) ∨ s[pos].toNat = 45)) : valueB s = false := by
  cases hn : valueB s with
  | false => rfl
  | true =>
    unfold valueB at hn
    rw [Bool.and_eq_true, all_at] at hn
    have := hn.1 pos h
    simp [valB] at this
    omega
theorem value_end {s : ByteArray} (h : ∀ j, (hj : j < s.size) → (97 ≤ s[j].toNat ∧ s[j].toNat ≤ 122) ∨ (48 ≤ s[j].toNat ∧ s[j].toNat ≤ 57) ∨ s[j].toNat = 45) : valueB s = decide (s.size ≤ 8) := by
  unfold valueB
  have : s.data.toList.all valB = true := (all_at valB s).2 fun i hi => by
    have := h i hi
    simp [valB]; omega
  rw [this, Bool.true_and]
set_option maxHeartbeats 1000000 in
theorem isValue_calls (s : ByteArray) (w : World) : Calls Try.prog 110 #[.string s] w fun e w' => e = .returned (.bool (valueB s)) ∧ Below w.heap.size w w' := by
  go_enter Try.func110, Try.ntmps110
  go_wp2
  go_loopw [4] (fun v w' => ∃ pos : Nat, pos ≤ s.size ∧ w' = w.iter s pos ∧ Aside0 (∀ j, (hj : j < s.size) → j < pos → (97 ≤ s[j].toNat ∧ s[j].toNat ≤ 122) ∨ (48 ≤ s[j].toNat ∧ s[j].toNat ≤ 57) ∨ s[j].toNat = 45)) (fun _ w' => s.size - w'.iterPos w.heap.size)
  case atStart => exact ⟨0, Nat.zero_le _, rfl, ⟨fun j _ hj => absurd hj (Nat.not_lt_zero _)⟩⟩
  case round =>
    obtain ⟨pos, hps, rfl, HA⟩ := hrel
    by_cases hp : pos < s.size
    · obtain ⟨r, wd, hwd, hnx, hr⟩ := next_rune w s pos hp
      by_cases hg : (97 ≤ r ∧ r ≤ 122) ∨ (48 ≤ r ∧ r ≤ 57) ∨ r = 45
      · have h1 : s[pos].toNat = r ∧ wd = 1 := by omega
        obtain ⟨hb, rfl⟩ := h1
        have HB := Aside0.mk hb
        have HG := Aside0.mk hg
        clear hr hb
        have hend : (∀ j, (hj : j < s.size) → j < pos + 1 → (97 ≤ s[j].toNat ∧ s[j].toNat ≤ 122) ∨ (48 ≤ s[j].toNat ∧ s[j].toNat ≤ 57) ∨ s[j].toNat = 45) := fun j hj hlt => by
          by_cases e : j = pos
          · subst e; rw [HB.out]; exact HG.out
          · exact HA.out j hj (by omega)
        have HEND := Aside0.mk hend
        clear hend
        rcases hg with ⟨g1, g2⟩ | ⟨g1, g2⟩ | g1
        · have k1 : (97 : Int) ≤ (r : Int) := by omega
          have k2 : (r : Int) ≤ 122 := by omega
          clear g1 g2
          go_wp2
          go_roundw
          case rel => exact ⟨pos + 1, by omega, rfl, HEND⟩
          case measure => simp; omega
        · have k0 : (r : Int) < 97 := by omega
          have k1 : (48 : Int) ≤ (r : Int) := by omega
          have k2 : (r : Int) ≤ 57 := by omega
          clear g1 g2
          go_wp2
          go_roundw
          case rel => exact ⟨pos + 1, by omega, rfl, HEND⟩
          case measure => simp; omega
        · subst g1
          go_wp2
          go_roundw
          case rel => exact ⟨pos + 1, by omega, rfl, HEND⟩
          case measure => simp; omega
      · have HV := Aside0.mk (value_no hp (by omega))
        have hB := below_iter w s (pos + wd)
        have hne : ((r : Int) == 45) = false := by rw [beq_eq_false_iff_ne]; omega
        have hne2 : ((r : Int) != 45) = true := by rw [bne_iff_ne]; omega
        clear hr
        have hc : (r < 48) ∨ (58 ≤ r ∧ r ≤ 96) ∨ 122 < r := by omega
        clear hg
        rcases hc with g | ⟨g, g'⟩ | g
        · have k1 : (r : Int) < 97 := by omega
          have k2 : (r : Int) < 48 := by omega
          clear g
          go_wp2
          go_ret
          exact ⟨by rw [HV.out]; rfl, hB⟩
        · have k1 : (r : Int) < 97 := by omega
          have k2 : (48 : Int) ≤ (r : Int) := by omega
          have k3 : (57 : Int) < (r : Int) := by omega
          clear g g'
          go_wp2
          go_ret
          exact ⟨by rw [HV.out]; rfl, hB⟩
        · have k1 : (97 : Int) ≤ (r : Int) := by omega
          have k2 : (122 : Int) < (r : Int) := by omega
          have k3 : (48 : Int) ≤ (r : Int) := by omega
          have k4 : (57 : Int) < (r : Int) := by omega
          clear g
          go_wp2
          go_ret
          exact ⟨by rw [HV.out]; rfl, hB⟩
    · have hnx : ∀ ty, (Instr.next (.pointer (some ⟨w.heap.size, 0, none⟩)) true ty).run Try.prog (w.iter s pos) = _ := fun ty => run_next_end w s pos ty hp
      have HV := Aside0.mk (value_end (fun j hj => HA.out j hj (by omega)))
      have hB := below_iter w s pos
      go_wp2
      go_ret
      exact ⟨by rw [HV.out, ← dec8]; rfl, hB⟩
/-! Labels. -/
abbrev cells92 (x : S92) : List Value := [.string x.f0, .string x.f1]
def labelB (x : S92) : Bool := nameB x.f0 && valueB x.f1
set_option maxHeartbeats 1000000 in
theorem isLabel_calls (x : S92) (w : World) : Calls Try.prog 137 #[.agg #[.string x.f0, .string x.f1]] w fun e w' => e = .returned (.bool (labelB x)) ∧ Below w.heap.size w w' := by
  have hF := Aside0.mk (Fr.Frame.start w)
  have HC : True := trivial
  cases hn : nameB x.f0 with
  | true =>
    have HN := Aside0.mk hn
    clear hn
    go_enter Try.func137, Try.ntmps137
    go_wp2_with (first | ((with_reducible refine gate_store rfl ?_); apply Fr.fr_store hF.out rfl rfl rfl; (case hp => rfl); (case hx => first | (go_simp; rfl) | rfl); (case hu => (simp only [Value.cells]; rfl)); (case hs => (repeat (first | exact Fr.Spot.here _ _ | apply Fr.Spot.there))); (case ht => kernel_rfl); (case h1 => simp [Value.oneCell']); (case hfit => simp); intro W hF1; simp only [Fr.patch, List.take_zero, List.nil_append, List.drop, List.append_nil, List.take, List.cons_append, List.length_cons, List.length_nil, Nat.reduceAdd] at hF1; have HC1 := hF1.cells; simp only [Fr.Cells, List.length_cons, List.length_nil, Nat.reduceAdd, and_true] at HC1; clear hF HC; have HC := HC1; have hF := Aside0.mk hF1; clear hF1 HC1) | ((first | (with_reducible refine Fr.gate_alloc rfl ?_) | (with_reducible refine Fr.gate_box rfl ?_)); apply Fr.fr_box hF.out rfl; (case hrun => first | (go_simp; done) | (go_simp; rfl)); intro g W hF1; have HC1 := hF1.cells; simp only [Fr.Cells, List.length_cons, List.length_nil, Nat.reduceAdd, and_true] at HC1; clear hF HC; have HC := HC1; have hF := Aside0.mk hF1; clear hF1 HC1))
    (with_reducible refine (isName_calls x.f0 _).mono ?_); rintro e W ⟨rfl, hb⟩; have hF1 := hF.out.call hb; clear hb; have HC1 := hF1.cells; simp only [Fr.Cells, List.length_cons, List.length_nil, Nat.reduceAdd, and_true] at HC1; clear hF HC; have HC := HC1; have hF := Aside0.mk hF1; clear hF1 HC1
    simp only [HN.out]
    go_wp2_with (first | ((with_reducible refine gate_store rfl ?_); apply Fr.fr_store hF.out rfl rfl rfl; (case hp => rfl); (case hx => first | (go_simp; rfl) | rfl); (case hu => (simp only [Value.cells]; rfl)); (case hs => (repeat (first | exact Fr.Spot.here _ _ | apply Fr.Spot.there))); (case ht => kernel_rfl); (case h1 => simp [Value.oneCell']); (case hfit => simp); intro W hF1; simp only [Fr.patch, List.take_zero, List.nil_append, List.drop, List.append_nil, List.take, List.cons_append, List.length_cons, List.length_nil, Nat.reduceAdd] at hF1; have HC1 := hF1.cells; simp only [Fr.Cells, List.length_cons, List.length_nil, Nat.reduceAdd, and_true] at HC1; clear hF HC; have HC := HC1; have hF := Aside0.mk hF1; clear hF1 HC1) | ((first | (with_reducible refine Fr.gate_alloc rfl ?_) | (with_reducible refine Fr.gate_box rfl ?_)); apply Fr.fr_box hF.out rfl; (case hrun => first | (go_simp; done) | (go_simp; rfl)); intro g W hF1; have HC1 := hF1.cells; simp only [Fr.Cells, List.length_cons, List.length_nil, Nat.reduceAdd, and_true] at HC1; clear hF HC; have HC := HC1; have hF := Aside0.mk hF1; clear hF1 HC1))
    (with_reducible refine (isValue_calls x.f1 _).mono ?_); rintro e W ⟨rfl, hb⟩; have hF1 := hF.out.call hb; clear hb; have HC1 := hF1.cells; simp only [Fr.Cells, List.length_cons, List.length_nil, Nat.reduceAdd, and_true] at HC1; clear hF HC; have HC := HC1; have hF := Aside0.mk hF1; clear hF1 HC1
    go_wp2_with (first | ((with_reducible refine gate_store rfl ?_); apply Fr.fr_store hF.out rfl rfl rfl; (case hp => rfl); (case hx => first | (go_simp; rfl) | rfl); (case hu => (simp only [Value.cells]; rfl)); (case hs => (repeat (first | exact Fr.Spot.here _ _ | apply Fr.Spot.there))); (case ht => kernel_rfl); (case h1 => simp [Value.oneCell']); (case hfit => simp); intro W hF1; simp only [Fr.patch, List.take_zero, List.nil_append, List.drop, List.append_nil, List.take, List.cons_append, List.length_cons, List.length_nil, Nat.reduceAdd] at hF1; have HC1 := hF1.cells; simp only [Fr.Cells, List.length_cons, List.length_nil, Nat.reduceAdd, and_true] at HC1; clear hF HC; have HC := HC1; have hF := Aside0.mk hF1; clear hF1 HC1) | ((first | (with_reducible refine Fr.gate_alloc rfl ?_) | (with_reducible refine Fr.gate_box rfl ?_)); apply Fr.fr_box hF.out rfl; (case hrun => first | (go_simp; done) | (go_simp; rfl)); intro g W hF1; have HC1 := hF1.cells; simp only [Fr.Cells, List.length_cons, List.length_nil, Nat.reduceAdd, and_true] at HC1; clear hF HC; have HC := HC1; have hF := Aside0.mk hF1; clear hF1 HC1))
    go_ret
    exact ⟨by unfold labelB; rw [HN.out, Bool.true_and]; rfl, hF.out.below⟩
  | false =>
    have HN := Aside0.mk hn
    clear hn
    go_enter Try.func137, Try.ntmps137
    go_wp2_with (first | ((with_reducible refine gate_store rfl ?_); apply Fr.fr_store hF.out rfl rfl rfl; (case hp => rfl); (case hx => first | (go_simp; rfl) | rfl); (case hu => (simp only [Value.cells]; rfl)); (case hs => (repeat (first | exact Fr.Spot.here _ _ | apply Fr.Spot.there))); (case ht => kernel_rfl); (case h1 => simp [Value.oneCell']); (case hfit => simp); intro W hF1; simp only [Fr.patch, List.take_zero, List.nil_append, List.drop, List.append_nil, List.take, List.cons_append, List.length_cons, List.length_nil, Nat.reduceAdd] at hF1; have HC1 := hF1.cells; simp only [Fr.Cells, List.length_cons, List.length_nil, Nat.reduceAdd, and_true] at HC1; clear hF HC; have HC := HC1; have hF := Aside0.mk hF1; clear hF1 HC1) | ((first | (with_reducible refine Fr.gate_alloc rfl ?_) | (with_reducible refine Fr.gate_box rfl ?_)); apply Fr.fr_box hF.out rfl; (case hrun => first | (go_simp; done) | (go_simp; rfl)); intro g W hF1; have HC1 := hF1.cells; simp only [Fr.Cells, List.length_cons, List.length_nil, Nat.reduceAdd, and_true] at HC1; clear hF HC; have HC := HC1; have hF := Aside0.mk hF1; clear hF1 HC1))
    (with_reducible refine (isName_calls x.f0 _).mono ?_); rintro e W ⟨rfl, hb⟩; have hF1 := hF.out.call hb; clear hb; have HC1 := hF1.cells; simp only [Fr.Cells, List.length_cons, List.length_nil, Nat.reduceAdd, and_true] at HC1; clear hF HC; have HC := HC1; have hF := Aside0.mk hF1; clear hF1 HC1
    simp only [HN.out]
    go_wp2_with (first | ((with_reducible refine gate_store rfl ?_); apply Fr.fr_store hF.out rfl rfl rfl; (case hp => rfl); (case hx => first | (go_simp; rfl) | rfl); (case hu => (simp only [Value.cells]; rfl)); (case hs => (repeat (first | exact Fr.Spot.here _ _ | apply Fr.Spot.there))); (case ht => kernel_rfl); (case h1 => simp [Value.oneCell']); (case hfit => simp); intro W hF1; simp only [Fr.patch, List.take_zero, List.nil_append, List.drop, List.append_nil, List.take, List.cons_append, List.length_cons, List.length_nil, Nat.reduceAdd] at hF1; have HC1 := hF1.cells; simp only [Fr.Cells, List.length_cons, List.length_nil, Nat.reduceAdd, and_true] at HC1; clear hF HC; have HC := HC1; have hF := Aside0.mk hF1; clear hF1 HC1) | ((first | (with_reducible refine Fr.gate_alloc rfl ?_) | (with_reducible refine Fr.gate_box rfl ?_)); apply Fr.fr_box hF.out rfl; (case hrun => first | (go_simp; done) | (go_simp; rfl)); intro g W hF1; have HC1 := hF1.cells; simp only [Fr.Cells, List.length_cons, List.length_nil, Nat.reduceAdd, and_true] at HC1; clear hF HC; have HC := HC1; have hF := Aside0.mk hF1; clear hF1 HC1))
    go_ret
    exact ⟨by unfold labelB; rw [HN.out, Bool.false_and]; rfl, hF.out.below⟩
end Go.Proofs.Ytkphinfijppkeaa.G
