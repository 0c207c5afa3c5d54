/- Contracts of functions of the given program: what each comes to, for any arguments. No condition beyond each theorem's own premises. -/
import Derived.Test.YtkphinfijppkeaaLj
import Derived.Test.YtkphinfijppkeaaG27
import Derived.Test.YtkphinfijppkeaaG4
namespace Go.Proofs.Ytkphinfijppkeaa.G
open Go.RowKit Go.Proofs.YtkphinfijppkeaaW.PrintWords Go.Proofs.YtkphinfijppkeaaW.PrintLast Go.Proofs.YtkphinfijppkeaaW.PrintMore
attribute [local go_sem] max2_int min2_int max_two min_two max_three min_three max_four min_four
set_option linter.unusedVariables false
set_option linter.unusedSimpArgs false
abbrev aM : S88 := ⟨0, ⟨#[97]⟩, ⟨#[120]⟩⟩
abbrev aH1 : S25 := ⟨2, 5, [aM]⟩
abbrev aH2 : S25 := ⟨5, 9, [aM]⟩
abbrev aL : List S92 := [⟨⟨#[97]⟩, ⟨#[120]⟩⟩]
theorem a_hushes : hushesB [aH1] = true := by decide +kernel
theorem a_hush : hushB aH2 = true := by decide +kernel
theorem a_free : freeV ([aH1] ++ [aH2]) aL 3 = 9 ∧ mayE ([aH1] ++ [aH2]) aL 3 = 0 := by decide +kernel
theorem C_mem {α : Type} {d : Kd α} {w0 w : World} {bs : List Fr.Blk} {rs : List Fr.Row} {g t : Nat} {cs : List Value} {x : α} (hF : Fr.Frame w0 w bs rs) (hm : (g, cs, t) ∈ bs) (hK : d.K w x cs) : Kd.C d w (some ⟨g, 0, none⟩) 1 [x] := by
  have hb := (hF.blk (g, cs, t) hm).2
  refine ⟨rfl, by simp, fun _ => ⟨_, rfl, fun j p hj => ?_⟩⟩
  cases j with
  | zero =>
    obtain rfl : x = p := by simpa using hj
    refine ⟨cs, d.K_len hK, hK, fun i u hu => ?_⟩
    rw [Nat.zero_mul, Nat.zero_add]
    have := blk_cell hb i
    simp only at this
    rw [show (⟨g, 0, none⟩ : Addr).add i = ⟨g, i, none⟩ by unfold Addr.add; split <;> simp_all, this]
    simpa using hu
  | succ j => simp at hj
set_option maxHeartbeats 2000000 in
theorem alive_calls (w : World) : Calls Try.prog 22 #[] w fun e w' => e = .returned (.bool true) ∧ Below w.heap.size w w' := by
  have hF2 := ((Fr.Frame.start w).alloc [.int .i64 0, .string ⟨#[97]⟩, .string ⟨#[120]⟩] 88).alloc [.int .i64 2, .int .i64 5, .slice (some ⟨w.heap.size, 0, none⟩) 1 1] 25
  have e1 : (w.alloc (.cells #[.int .i64 0, .string ⟨#[97]⟩, .string ⟨#[120]⟩] 88)).heap.size = w.heap.size + 1 := by simp
  rw [e1] at hF2
  clear e1
  have hM : Kd.C k88 _ (some ⟨w.heap.size, 0, none⟩) 1 [aM] := C_mem hF2 (List.mem_cons_of_mem _ List.mem_cons_self) (k88_mk _ aM)
  have hH : Kd.C k25 _ (some ⟨w.heap.size + 1, 0, none⟩) 1 [aH1] := C_mem hF2 List.mem_cons_self (k25_mk _ aH1 (A2 := some ⟨w.heap.size, 0, none⟩) (c2 := 1) (Nat.le_refl _) hM)
  have ha := add_keep (some ⟨w.heap.size + 1, 0, none⟩) 1 [aH1] aH2 (some ⟨w.heap.size, 0, none⟩) 1 3 _ hH hM (Nat.le_refl _) a_hushes (by decide) a_hush (by decide) (by simp [overP]) (by decide) (by decide)
  simp only [List.length_cons, List.length_nil, Nat.zero_add, Nat.reduceAdd] at ha
  have HA := Aside0.mk ha
  clear ha
  have hF := Aside0.mk hF2
  have AF := Aside0.mk a_free
  clear hM hH hF2
  go_enter Try.func22, Try.ntmps22
  go_wp2_with fail
  (with_reducible refine HA.out.mono ?_)
  rintro e W ⟨A, c, rfl, hc, hC, hb⟩
  have hF1 := hF.out.call hb
  have hF3 := hF1.alloc [.string ⟨#[97]⟩, .string ⟨#[120]⟩] 92
  have hL : Kd.C k92 _ (some ⟨W.heap.size, 0, none⟩) 1 aL := C_mem hF3 List.mem_cons_self (k92_mk _ ⟨⟨#[97]⟩, ⟨#[120]⟩⟩)
  have hb2 := free_calls A c ([aH1] ++ [aH2]) (some ⟨W.heap.size, 0, none⟩) 1 aL 3 _ (Kd.C_below hC ((Below.refl _ W).alloc (Nat.le_refl _) _)) hL
  rw [AF.out.1, AF.out.2] at hb2
  simp only [List.length_cons, List.length_nil, Nat.zero_add, Nat.reduceAdd, List.length_append] at hb2
  have HB := Aside0.mk hb2
  clear hb2
  have HF := Aside0.mk hF3
  clear hL hF3 hF1 hC hc hb HA hF
  go_wp2_with fail
  (with_reducible refine HB.out.mono ?_)
  rintro e W2 ⟨rfl, hb⟩
  have hF1 := HF.out.call hb
  have HF1 := Aside0.mk hF1
  clear hb hF1 HB HF
  go_wp2
  go_ret
  exact ⟨rfl, HF1.out.below⟩
end Go.Proofs.Ytkphinfijppkeaa.G
