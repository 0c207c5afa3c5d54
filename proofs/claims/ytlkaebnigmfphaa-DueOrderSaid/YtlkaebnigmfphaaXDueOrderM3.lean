/- Contracts of functions of the given program, and what they come to, for any arguments. No condition beyond each theorem's own premises. -/
import Derived.Test.YtlkaebnigmfphaaXDueOrderM2
namespace Go.Proofs.Ytlkaebnigmfphaa.G
open Go.RowKit Go.Proofs.YtlkaebnigmfphaaW.PrintWords Go.Proofs.YtlkaebnigmfphaaW.PrintLast Go.Proofs.YtlkaebnigmfphaaW.PrintMore
attribute [local go_sem] max2_int min2_int max_two min_two max_three min_three max_four min_four
set_option linter.unusedVariables false
set_option linter.unusedSimpArgs false
theorem rem60_run (turn : Int) (T : Nat) (h : (wrap64 (turn.tmod 60 + 60)).tmod 60 = (T : Int)) : ∀ x, x = turn → (wrap64 (x.tmod 60 + 60)).tmod 60 = (T : Int) := fun x hx => by rw [hx]; exact h
theorem wadd_run (i T : Nat) (hi : i ≤ 1000) (hT : T ≤ 1000) : ∀ x, x = (i : Int) → wrap64 (x + (T : Int)) = x + (T : Int) := fun x hx => by rw [hx]; unfold wrap64; omega
theorem rem_run (i T q j : Nat) (hq : 0 < q) (h : (i + T) % q = j) : ∀ x, x = (i : Int) → Int.tmod (x + (T : Int)) (q : Int) = (j : Int) := fun x hx => by
  rw [hx, ← h, Int.tmod_eq_emod_of_nonneg (by omega)]
  simp
set_option maxHeartbeats 16000000 in
set_option maxRecDepth 100000 in
theorem order5_calls (A : Option Addr) (c : Nat) (l : List S32) (turn : Int) (w : World) (hr : Kd.C k32 w A l.length l) (hc : l.length ≤ c) : Calls Try.prog 5 #[.slice A l.length c, .int .i64 turn] w fun e w' => e = .returned (.bool true) ∧ Below w.heap.size w w' := by
  have hm := hr.2.1
  obtain ⟨n, hn⟩ : ∃ n, min l.length 60 = n := ⟨_, rfl⟩
  have h1 : (if (60 : Int) < (l.length : Int) then 60 else (l.length : Int)) = (n : Int) := by rw [← hn]; split <;> omega
  have hnc : n ≤ c := by omega
  have hnb : n ≤ 60 := by omega
  have HNL := Aside0.mk (show n ≤ l.length by omega)
  have HRA := Aside0.mk hr
  obtain ⟨S0, hS0⟩ := (Fr.Frame.start w).rowIn (Kd.R_nil k32 32 w w.heap.size (fun _ => False)) (fun k hk => hk.elim)
  have hF := Aside0.mk hS0
  clear hr hc hn hS0
  have HC : True := trivial
  go_enter Try.func5, Try.ntmps5
  go_wp2_with fail
  go_loopg [5, 33] n (fun kq v5 v33 w' => ∃ (q : Nat) (S : Nat → Prop), v33 = .int .i64 q ∧ q ≤ n ∧ n - q ≤ kq ∧ Aside0 (Fr.Frame w w' [] [Fr.rowR k32 32 w.heap.size v5 ((l.take q).map nrm) S]))
  case atStart => exact ⟨0, S0, rfl, by omega, by omega, by simpa using hF⟩
  case round =>
    clear hF
    obtain ⟨q, S, rfl, hq, hk, hF⟩ := hrel
    by_cases hlt : q < n
    · have hlti : (q : Int) < (n : Int) := by omega
      obtain ⟨ad, rfl, a0, a1⟩ := at_T32 HRA.out (q : Int) (by omega) (by have := HNL.out; omega)
      rw [Int.toNat_natCast, show rd_T32 l (q : Int) = l.getD q z32 by simp [rd_T32]] at a0 a1
      replace a0 := (hF.out.below.cell (World.block_lt_of_cell? w _ a0)).trans a0
      replace a1 := (hF.out.below.cell (World.block_lt_of_cell? w _ a1)).trans a1
      have HTS := Aside0.mk (take_snoc (l := l) (q := q) (by have := HNL.out; omega))
      have HLL := Aside0.mk (show (((l.take q).map nrm).length + 1) * 16 ≤ 140737488355328 by rw [List.length_map, List.length_take]; omega)
      have HXN := Aside0.mk (show nrm (l.getD q z32) = ⟨(wrap64 ((l.getD q z32).f0.tmod 100 + 100)).tmod 100, (l.getD q z32).f1⟩ from rfl)
      generalize l.getD q z32 = x at a0 a1 HTS HXN
      obtain ⟨x0, x1⟩ := x
      have HXN2 : Aside0 (nrm ⟨x0, x1⟩ = ⟨(wrap64 (x0.tmod 100 + 100)).tmod 100, x1⟩) := HXN
      clear HXN
      dsimp only at a0 a1
      go_wp2_with (first | ((with_reducible refine gate_builtin (b := .append) (xs := #[.tmp 37, .tmp 46]) rfl ?_); refine Fr.fr_append k32 (.tmp 37) (.tmp 46) 22 32 (.agg #[.int .i64 0, .int .i64 0]) 16 (⟨(wrap64 (x0.tmod 100 + 100)).tmod 100, x1⟩ : S32) [.int .i64 ((wrap64 (x0.tmod 100 + 100)).tmod 100), .int .i64 x1] hF.out rfl rfl Try.underlying22 (by kernel_rfl) rfl (by decide) (by omega) rfl (by first | (go_simp; done) | (go_simp; rfl)) (k32_mkM _ _ _ _) HLL.out ?_; intro v1 W S1 hF1; rw [← HXN2.out, ← HTS.out] at hF1; have HC1 := hF1.cells; simp only [Fr.Cells, List.length_cons, List.length_nil, Nat.reduceAdd, and_true] at HC1; clear hF HC; have HC := HC1; have hF := Aside0.mk hF1; clear hF1 HC1) | ((with_reducible refine gate_dst (N := 7) rfl ?_); apply Fr.fr_box hF.out rfl; (case hrun => first | (go_simp; done) | (go_simp; rfl)); intro g7 W hF1; clear a0 a1; have HC1 := hF1.cells; simp only [Fr.Cells, List.length_cons, List.length_nil, Nat.reduceAdd, and_true] at HC1; clear hF HC; have HC := HC1; have hF := Aside0.mk hF1; clear hF1 HC1) | ((with_reducible refine gate_store rfl ?_); apply Fr.fr_store hF.out rfl rfl rfl; (case hp => rfl); (case hx => first | (go_simp; rfl) | rfl); (case hu => (simp only [Value.cells]; rfl)); (case hs => (repeat (first | exact Fr.Spot.here _ _ | apply Fr.Spot.there))); (case ht => kernel_rfl); (case h1 => simp [Value.oneCell']); (case hfit => simp); intro W hF1; simp only [Fr.patch, List.take_zero, List.nil_append, List.drop, List.append_nil, List.take, List.cons_append, List.length_cons, List.length_nil, Nat.reduceAdd] at hF1; have HC1 := hF1.cells; simp only [Fr.Cells, List.length_cons, List.length_nil, Nat.reduceAdd, and_true] at HC1; clear hF HC; have HC := HC1; have hF := Aside0.mk hF1; clear hF1 HC1) | ((first | (with_reducible refine Fr.gate_alloc rfl ?_) | (with_reducible refine Fr.gate_box rfl ?_)); apply Fr.fr_box hF.out rfl; (case hrun => first | (go_simp; done) | (go_simp; rfl)); intro g W hF1; have HC1 := hF1.cells; simp only [Fr.Cells, List.length_cons, List.length_nil, Nat.reduceAdd, and_true] at HC1; clear hF HC; have HC := HC1; have hF := Aside0.mk hF1; clear hF1 HC1))
      go_roundg (n - (q + 1))
      case measure => omega
      case rel => exact ⟨q + 1, S1, rfl, by omega, by omega, ⟨hF.out.drop⟩⟩
    · have hqn : q = n := by omega
      subst hqn
      have HLS := Aside0.mk (show ((l.take q).map nrm).length = q by rw [List.length_map, List.length_take]; have := HNL.out; omega)
      have HSB : Aside0 (∀ x ∈ (l.take q).map nrm, 0 ≤ x.f0 ∧ x.f0 < 100) := ⟨fun x hx => by obtain ⟨y, _, rfl⟩ := List.mem_map.1 hx; exact nrm_ok y⟩
      have hFX := hF.out
      generalize (l.take q).map nrm = X at hFX HLS HSB
      obtain ⟨kbS, hhS, hFS⟩ := held_of_row hFX (by rw [HLS.out]; omega)
      rw [HLS.out] at hhS
      rw [List.append_nil] at hFS
      obtain ⟨As, cs, rfl, hcs, hCs, _⟩ := hhS.reads hFS (List.Sublist.refl _)
      have HS := Aside0.mk hCs
      have HB0 := Aside0.mk hFS.below
      have hstart := start_of hFS
      clear hF hFX hhS hFS hCs
      obtain ⟨wb, rfl⟩ : ∃ wb, wb = wr := ⟨_, rfl⟩
      have hF := Aside0.mk hstart
      go_wp2_with (first | ((with_reducible refine gate_store rfl ?_); apply Fr.fr_store hF.out rfl rfl rfl; (case hp => rfl); (case hx => first | (go_simp; rfl) | rfl); (case hu => (simp only [Value.cells]; rfl)); (case hs => (repeat (first | exact Fr.Spot.here _ _ | apply Fr.Spot.there))); (case ht => kernel_rfl); (case h1 => simp [Value.oneCell']); (case hfit => simp); intro W hF1; simp only [Fr.patch, List.take_zero, List.nil_append, List.drop, List.append_nil, List.take, List.cons_append, List.length_cons, List.length_nil, Nat.reduceAdd] at hF1; have HC1 := hF1.cells; simp only [Fr.Cells, List.length_cons, List.length_nil, Nat.reduceAdd, and_true] at HC1; clear hF HC; have HC := HC1; have hF := Aside0.mk hF1; clear hF1 HC1) | ((with_reducible refine gate_dst (N := 8) rfl ?_); apply Fr.fr_box hF.out rfl; (case hrun => first | (go_simp; done) | (go_simp; rfl)); intro g8 W hF1; have HC1 := hF1.cells; simp only [Fr.Cells, List.length_cons, List.length_nil, Nat.reduceAdd, and_true] at HC1; clear hF HC; have HC := HC1; have hF := Aside0.mk hF1; clear hF1 HC1) | ((first | (with_reducible refine Fr.gate_alloc rfl ?_) | (with_reducible refine Fr.gate_box rfl ?_)); apply Fr.fr_box hF.out rfl; (case hrun => first | (go_simp; done) | (go_simp; rfl)); intro g W hF1; have HC1 := hF1.cells; simp only [Fr.Cells, List.length_cons, List.length_nil, Nat.reduceAdd, and_true] at HC1; clear hF HC; have HC := HC1; have hF := Aside0.mk hF1; clear hF1 HC1))
      go_loopg [49] 2 (fun kq v49 w' => ∃ s : Nat, v49 = .int .i64 s ∧ s ≤ 2 ∧ 2 - s ≤ kq ∧ Aside0 (Stage X q g8 wb w' s))
      case atStart => exact ⟨0, rfl, by omega, by omega, ⟨.inl ⟨rfl, hF.out⟩⟩⟩
      case round =>
        clear hF HC
        obtain ⟨s, rfl, hs, hk, HST⟩ := hrel
        rcases HST.out with ⟨rfl, hF0⟩ | ⟨rfl, v0, kb0, hh0, hF0⟩ | ⟨rfl, v0, v1, kb0, kb1, hh0, hh1, hF0⟩
        · have HF0 := Aside0.mk hF0
          clear hF0 HST
          have HEP := Aside0.mk (List.Perm.refl X)
          have HEL := HLS
          go_wp2_with fail
          go_loopg [10, 54] q (fun kq v10 v54 w' => ∃ (i : Nat) (Y : List S32) (kb : List Fr.Blk), v54 = .int .i64 i ∧ i ≤ q ∧ q - i ≤ kq ∧ Aside0 (HeldP v10 i Y kb) ∧ Aside0 (Y.Perm (X.take i)) ∧ Aside0 (Fr.Frame wb w' ((g8, [.slice none 0 0, .slice none 0 0], 42) :: kb) []))
          case atStart => exact ⟨0, [], [], rfl, by omega, by omega, ⟨HeldP.nil none 0⟩, ⟨by simp⟩, HF0⟩
          case round =>
            clear HF0
            obtain ⟨i, Y, kb, rfl, hi, hk2, HH, HP, HF⟩ := hrel
            obtain ⟨Ak, ck, rfl, hck, _, hYl⟩ := HH.out.reads HF.out (.cons _ (List.Sublist.refl _))
            by_cases hlt : i < q
            · have hlti : (i : Int) < (q : Int) := by omega
              obtain ⟨ad, rfl, a0, a1⟩ := at_T32 HS.out (i : Int) (by omega) hlti
              rw [Int.toNat_natCast, show rd_T32 X (i : Int) = X.getD i z32 by simp [rd_T32]] at a0 a1
              replace a0 := (HF.out.below.cell (World.block_lt_of_cell? _ _ a0)).trans a0
              replace a1 := (HF.out.below.cell (World.block_lt_of_cell? _ _ a1)).trans a1
              have HTM := Aside0.mk (show tmB (X.getD i z32).f0 = true from tm_of (S := X) (fun x hx => HSB.out x (HEP.out.mem_iff.1 hx)) (by rw [HEL.out]; exact hlt))
              have HTK := Aside0.mk (take_one (l := X) (q := i) (by rw [HEL.out]; exact hlt))
              have HDB := Aside0.mk (show duesB Y = true from dues_of HSB.out (fun x hx => HEP.out.mem_iff.1 (List.mem_of_mem_take (HP.out.mem_iff.1 hx))) (by omega))
              have HYL := Aside0.mk hYl
              have HHL : Aside0 ((heapL Y).length = i) := ⟨by rw [heapL_len]; exact hYl⟩
              have hF := HF
              have HC : True := trivial
              clear HF hYl
              generalize X.getD i z32 = d at a0 a1 HTM HTK
              obtain ⟨d0, d1⟩ := d
              dsimp only at a0 a1 HTM
              go_wp2_with (first | ((with_reducible refine gate_dst (N := 12) rfl ?_); apply Fr.fr_box hF.out rfl; (case hrun => first | (go_simp; done) | (go_simp; rfl)); intro g12 W hF1; clear a0 a1; have HC1 := hF1.cells; simp only [Fr.Cells, List.length_cons, List.length_nil, Nat.reduceAdd, and_true] at HC1; clear hF HC; have HC := HC1; have hF := Aside0.mk hF1; clear hF1 HC1) | ((with_reducible refine gate_store rfl ?_); apply Fr.fr_store hF.out rfl rfl rfl; (case hp => rfl); (case hx => first | (go_simp; rfl) | rfl); (case hu => (simp only [Value.cells]; rfl)); (case hs => (repeat (first | exact Fr.Spot.here _ _ | apply Fr.Spot.there))); (case ht => kernel_rfl); (case h1 => simp [Value.oneCell']); (case hfit => simp); intro W hF1; simp only [Fr.patch, List.take_zero, List.nil_append, List.drop, List.append_nil, List.take, List.cons_append, List.length_cons, List.length_nil, Nat.reduceAdd] at hF1; have HC1 := hF1.cells; simp only [Fr.Cells, List.length_cons, List.length_nil, Nat.reduceAdd, and_true] at HC1; clear hF HC; have HC := HC1; have hF := Aside0.mk hF1; clear hF1 HC1) | ((first | (with_reducible refine Fr.gate_alloc rfl ?_) | (with_reducible refine Fr.gate_box rfl ?_)); apply Fr.fr_box hF.out rfl; (case hrun => first | (go_simp; done) | (go_simp; rfl)); intro g W hF1; have HC1 := hF1.cells; simp only [Fr.Cells, List.length_cons, List.length_nil, Nat.reduceAdd, and_true] at HC1; clear hF HC; have HC := HC1; have hF := Aside0.mk hF1; clear hF1 HC1))
              have hC := HH.out.readsC hF.out (.cons _ (.cons _ (List.Sublist.refl _)))
              (with_reducible refine (push11_n i Ak ck Y d0 d1 _ HYL.out hC HDB.out HTM.out (by omega)).mono ?_)
              rintro e W ⟨gk, capk, tlk, rfl, hck2, hF2⟩
              have hF3 := frame_sub (frame_join_r hF.out hF2) (bs' := (gk, flat (pushL (heapL Y) ⟨d0, d1⟩) ++ tlk, 32) :: (g8, [.slice none 0 0, .slice none 0 0], 42) :: []) (List.Sublist.cons_cons _ (.cons _ (List.Sublist.cons_cons _ (List.nil_sublist _))))
              have HF4 := Aside0.mk (frame_perm hF3 (List.Perm.swap _ _ _))
              have HCK := Aside0.mk hck2
              clear hF HC hC hF2 hF3 hck2
              go_wp2_with fail
              go_roundg (q - (i + 1))
              case measure => omega
              case rel => exact ⟨i + 1, pushL (heapL Y) ⟨d0, d1⟩, [(gk, flat (pushL (heapL Y) ⟨d0, d1⟩) ++ tlk, 32)], rfl, by omega, by omega, ⟨.inr ⟨gk, capk, tlk, rfl, by rw [pushL_len, HHL.out], HCK.out, by omega, rfl⟩⟩, ⟨by rw [HTK.out]; exact (pushed Y ⟨d0, d1⟩).trans (HP.out.append_right _)⟩, ⟨HF4.out⟩⟩
            · have hiq : i = q := by omega
              subst hiq
              have HPX := Aside0.mk (show srt Y = srt X by have h9 := HP.out; rw [List.take_of_length_le (by rw [HEL.out]; exact Nat.le_refl _)] at h9; exact srt_eq (h9.trans HEP.out))
              have HYM : Aside0 (∀ x ∈ Y, x ∈ X) := ⟨fun x hx => HEP.out.mem_iff.1 (List.mem_of_mem_take (HP.out.mem_iff.1 hx))⟩
              clear HEP HEL
              go_wp2_with fail
              obtain ⟨So, hSo⟩ := HF.out.rowIn (Kd.R_nil k32 32 _ wb.heap.size (fun _ => False)) (fun k hk => hk.elim)
              go_loopg [10, 94] i (fun kq v10 v94 w' => ∃ (j m : Nat) (Y : List S32) (kb : List Fr.Blk) (vo : Value) (So : Nat → Prop), v94 = .int .i64 j ∧ j + m = i ∧ m ≤ kq ∧ Aside0 (HeldP v10 m Y kb) ∧ Aside0 (srt Y = (srt X).drop j) ∧ Aside0 (∀ x ∈ Y, x ∈ X) ∧ Aside0 (Fr.Frame wb w' ((g8, [vo, .slice none 0 0], 42) :: kb) [Fr.rowR k32 32 wb.heap.size vo ((srt X).take j) So]))
              case atStart => exact ⟨0, i, Y, kb, .slice none 0 0, So, rfl, by omega, by omega, HH, ⟨HPX.out⟩, HYM, ⟨hSo⟩⟩
              case round =>
                clear HH HP HF hSo HPX HYM hck hYl
                obtain ⟨j, m, Y, kb, vo, So, rfl, hjm, hk2, HH, HY, HYM, HF⟩ := hrel
                obtain ⟨Ak, ck, rfl, hck, _, hYl⟩ := HH.out.reads HF.out (.cons _ (List.Sublist.refl _))
                cases m with
                | zero =>
                  obtain rfl : j = i := by omega
                  obtain rfl : Y = [] := List.eq_nil_of_length_eq_zero hYl
                  have hF := HF
                  have HC : True := trivial
                  clear HF
                  go_wp2_with fail
                  have h12 := pop12_none Ak ck [] _ (HH.out.readsC hF.out (.cons _ (List.Sublist.refl _))) rfl
                  rw [show ([] : List S32).length = 0 from rfl] at h12
                  (with_reducible refine h12.mono ?_)
                  clear h12
                  rintro e W ⟨rfl, hb⟩
                  have hF1 := hF.out.call hb
                  clear hb
                  have HC1 := hF1.cells; simp only [Fr.Cells, List.length_cons, List.length_nil, Nat.reduceAdd, and_true] at HC1; clear hF HC; have HC := HC1; have hF := Aside0.mk hF1; clear hF1 HC1
                  go_wp2_with (first | ((with_reducible refine gate_dst (N := 19) rfl ?_); apply Fr.fr_box hF.out rfl; (case hrun => first | (go_simp; done) | (go_simp; rfl)); intro g19 W hF1; have HC1 := hF1.cells; simp only [Fr.Cells, List.length_cons, List.length_nil, Nat.reduceAdd, and_true] at HC1; clear hF HC; have HC := HC1; have hF := Aside0.mk hF1; clear hF1 HC1) | ((with_reducible refine gate_store rfl ?_); apply Fr.fr_store hF.out rfl rfl rfl; (case hp => rfl); (case hx => first | (go_simp; rfl) | rfl); (case hu => (simp only [Value.cells]; rfl)); (case hs => (repeat (first | exact Fr.Spot.here _ _ | apply Fr.Spot.there))); (case ht => kernel_rfl); (case h1 => simp [Value.oneCell']); (case hfit => simp); intro W hF1; simp only [Fr.patch, List.take_zero, List.nil_append, List.drop, List.append_nil, List.take, List.cons_append, List.length_cons, List.length_nil, Nat.reduceAdd] at hF1; have HC1 := hF1.cells; simp only [Fr.Cells, List.length_cons, List.length_nil, Nat.reduceAdd, and_true] at HC1; clear hF HC; have HC := HC1; have hF := Aside0.mk hF1; clear hF1 HC1) | ((first | (with_reducible refine Fr.gate_alloc rfl ?_) | (with_reducible refine Fr.gate_box rfl ?_)); apply Fr.fr_box hF.out rfl; (case hrun => first | (go_simp; done) | (go_simp; rfl)); intro g W hF1; have HC1 := hF1.cells; simp only [Fr.Cells, List.length_cons, List.length_nil, Nat.reduceAdd, and_true] at HC1; clear hF HC; have HC := HC1; have hF := Aside0.mk hF1; clear hF1 HC1))
                  obtain ⟨kbo, hho, hFo⟩ := held_of_row hF.out (by rw [List.length_take, srt_len, HLS.out]; omega)
                  rw [List.take_of_length_le (by rw [srt_len, HLS.out]; exact Nat.le_refl _), srt_len, HLS.out] at hho
                  have hF5 := frame_sub hFo (bs' := kbo ++ ((g8, [vo, .slice none 0 0], 42) :: [])) (List.Sublist.append (List.Sublist.refl _) (.cons _ (List.Sublist.cons_cons _ (List.nil_sublist _))))
                  have HF6 := Aside0.mk (frame_perm hF5 (bs' := (g8, [vo, .slice none 0 0], 42) :: (kbo ++ [])) List.perm_middle.symm)
                  have HHO := Aside0.mk hho
                  clear hF HC hFo hF5 hho
                  go_roundg 1
                  case measure => omega
                  case rel => exact ⟨1, rfl, by omega, by omega, ⟨.inr (.inl ⟨rfl, vo, kbo, HHO.out, by have h9 := HF6.out; rw [List.append_nil] at h9; exact h9⟩)⟩⟩
                | succ m =>
                  obtain ⟨x, rr, hxr⟩ : ∃ x rr, srt Y = x :: rr := by
                    cases hsy : srt Y with
                    | nil => rw [← srt_len, hsy] at hYl; simp at hYl
                    | cons x rr => exact ⟨x, rr, rfl⟩
                  obtain ⟨x0, x1⟩ := x
                  obtain ⟨hd1, hd2⟩ := drop_one (show (srt X).drop j = ⟨x0, x1⟩ :: rr by rw [← HY.out, hxr])
                  have HD1 := Aside0.mk hd1
                  have HD2 := Aside0.mk hd2
                  have HXR := Aside0.mk hxr
                  have HYL := Aside0.mk hYl
                  have HDB := Aside0.mk (show duesB Y = true from dues_of HSB.out HYM.out (by omega))
                  have HOL := Aside0.mk (show (((srt X).take j).length + 1) * 16 ≤ 140737488355328 by rw [List.length_take, srt_len, HLS.out]; omega)
                  have HLN := Aside0.mk (show ((srt X).take (j + 1)).length = j + 1 by rw [List.length_take, srt_len, HLS.out]; omega)
                  have hF := HF
                  have HC : True := trivial
                  have hjii : (j : Int) < (i : Int) := by omega
                  clear HF hd1 hd2 hxr hYl
                  go_wp2_with fail
                  (with_reducible refine (pop12_n m Ak ck Y rr x0 x1 _ HYL.out (HH.out.readsC hF.out (.cons _ (List.Sublist.refl _))) HDB.out HXR.out).mono ?_)
                  rintro e W ⟨gk, capk, tlk, Z, rfl, hck2, hZl, hZr, hZm, hF2⟩
                  have hF3 := frame_sub (frame_join_r hF.out hF2) (bs' := (gk, flat Z ++ tlk, 32) :: (g8, [vo, .slice none 0 0], 42) :: []) (List.Sublist.cons_cons _ (List.Sublist.cons_cons _ (List.nil_sublist _)))
                  have hF1 := frame_perm hF3 (List.Perm.swap _ _ _)
                  have HCK := Aside0.mk hck2
                  have HZL := Aside0.mk hZl
                  have HZR := Aside0.mk hZr
                  have HZM := Aside0.mk (fun x hx => HYM.out x (hZm x hx))
                  clear hF2 hF3 hck2 hZl hZr hZm
                  have HC1 := hF1.cells; simp only [Fr.Cells, List.length_cons, List.length_nil, Nat.reduceAdd, and_true] at HC1; clear hF HC; have HC := HC1; have hF := Aside0.mk hF1; clear hF1 HC1
                  go_wp2_with (first | ((with_reducible refine gate_dst (N := 16) rfl ?_); apply Fr.fr_box hF.out rfl; (case hrun => first | (go_simp; done) | (go_simp; rfl)); intro g16 W hF1; have HC1 := hF1.cells; simp only [Fr.Cells, List.length_cons, List.length_nil, Nat.reduceAdd, and_true] at HC1; clear hF HC; have HC := HC1; have hF := Aside0.mk hF1; clear hF1 HC1) | ((with_reducible refine gate_store rfl ?_); apply Fr.fr_store hF.out rfl rfl rfl; (case hp => rfl); (case hx => first | (go_simp; rfl) | rfl); (case hu => (simp only [Value.cells]; rfl)); (case hs => (repeat (first | exact Fr.Spot.here _ _ | apply Fr.Spot.there))); (case ht => kernel_rfl); (case h1 => simp [Value.oneCell']); (case hfit => simp); intro W hF1; simp only [Fr.patch, List.take_zero, List.nil_append, List.drop, List.append_nil, List.take, List.cons_append, List.length_cons, List.length_nil, Nat.reduceAdd] at hF1; have HC1 := hF1.cells; simp only [Fr.Cells, List.length_cons, List.length_nil, Nat.reduceAdd, and_true] at HC1; clear hF HC; have HC := HC1; have hF := Aside0.mk hF1; clear hF1 HC1) | ((first | (with_reducible refine Fr.gate_alloc rfl ?_) | (with_reducible refine Fr.gate_box rfl ?_)); apply Fr.fr_box hF.out rfl; (case hrun => first | (go_simp; done) | (go_simp; rfl)); intro g W hF1; have HC1 := hF1.cells; simp only [Fr.Cells, List.length_cons, List.length_nil, Nat.reduceAdd, and_true] at HC1; clear hF HC; have HC := HC1; have hF := Aside0.mk hF1; clear hF1 HC1))
                  obtain ⟨Ao, co, rfl, hz1, hz2⟩ := Kd.R_reads (hF.out.rowAt (r := Fr.rowR k32 32 wb.heap.size vo ((srt X).take j) So) List.mem_cons_self)
                  clear hz1 hz2
                  refine r29_0 (O := (srt X).take j) hF.out HOL.out (fun _ _ _ _ _ h => h) ?_
                  intro gd Av cv W9 Sc hF9
                  rw [← HD2.out] at hF9
                  have HF9 := Aside0.mk hF9
                  clear hF HC hF9
                  go_wp2_with fail
                  go_roundg m
                  case measure => omega
                  case rel => exact ⟨j + 1, m, Z, [(gk, flat Z ++ tlk, 32)], _, Sc, rfl, by omega, by omega, ⟨.inr ⟨gk, capk, tlk, rfl, HZL.out, HCK.out, by omega, rfl⟩⟩, ⟨by rw [HZR.out, HD1.out]⟩, ⟨HZM.out⟩, ⟨HF9.out.drop.drop⟩⟩
        · have HF0 := Aside0.mk hF0
          clear hF0 HST
          have HH0 := Aside0.mk hh0
          clear hh0
          obtain ⟨t0, t1⟩ := turn_ok turn
          obtain ⟨T, hT⟩ : ∃ T : Nat, (wrap64 (turn.tmod 60 + 60)).tmod 60 = (T : Int) := ⟨((wrap64 (turn.tmod 60 + 60)).tmod 60).toNat, by omega⟩
          have hTb : T < 60 := by omega
          have hrem60 := rem60_run turn T hT
          clear t0 t1 hT
          obtain ⟨E, hE⟩ : ∃ E, rot T X = E := ⟨_, rfl⟩
          have HEP := Aside0.mk (show E.Perm X by rw [← hE]; exact rot_perm T X)
          have HEL := Aside0.mk (show E.length = q by rw [← hE, rot_len, HLS.out])
          have HEA : Aside0 (∀ i, i < q → E.getD i z32 = X.getD ((i + T) % q) z32) := ⟨fun i hi => by rw [← hE, rot_at T X i (by rw [HLS.out]; exact hi), HLS.out]⟩
          clear hE
          go_wp2_with fail
          go_loopg [10, 54] q (fun kq v10 v54 w' => ∃ (i : Nat) (Y : List S32) (kb : List Fr.Blk), v54 = .int .i64 i ∧ i ≤ q ∧ q - i ≤ kq ∧ Aside0 (HeldP v10 i Y kb) ∧ Aside0 (Y.Perm (E.take i)) ∧ Aside0 (Fr.Frame wb w' ((g8, [v0, .slice none 0 0], 42) :: (kb ++ kb0)) []))
          case atStart => exact ⟨0, [], [], rfl, by omega, by omega, ⟨HeldP.nil none 0⟩, ⟨by simp⟩, HF0⟩
          case round =>
            clear HF0
            obtain ⟨i, Y, kb, rfl, hi, hk2, HH, HP, HF⟩ := hrel
            obtain ⟨Ak, ck, rfl, hck, _, hYl⟩ := HH.out.reads HF.out (.cons _ (List.sublist_append_left _ _))
            by_cases hlt : i < q
            · have hlti : (i : Int) < (q : Int) := by omega
              obtain ⟨ad, rfl, a0, a1⟩ := at_T32 HS.out (i : Int) (by omega) hlti
              rw [Int.toNat_natCast, show rd_T32 X (i : Int) = X.getD i z32 by simp [rd_T32]] at a0 a1
              replace a0 := (HF.out.below.cell (World.block_lt_of_cell? _ _ a0)).trans a0
              replace a1 := (HF.out.below.cell (World.block_lt_of_cell? _ _ a1)).trans a1
              have HTM := Aside0.mk (show tmB (E.getD i z32).f0 = true from tm_of (S := E) (fun x hx => HSB.out x (HEP.out.mem_iff.1 hx)) (by rw [HEL.out]; exact hlt))
              have HTK := Aside0.mk (take_one (l := E) (q := i) (by rw [HEL.out]; exact hlt))
              have HDB := Aside0.mk (show duesB Y = true from dues_of HSB.out (fun x hx => HEP.out.mem_iff.1 (List.mem_of_mem_take (HP.out.mem_iff.1 hx))) (by omega))
              have HYL := Aside0.mk hYl
              have HHL : Aside0 ((heapL Y).length = i) := ⟨by rw [heapL_len]; exact hYl⟩
              have hF := HF
              have HC : True := trivial
              clear HF hYl
              obtain ⟨j, hj⟩ : ∃ j, (i + T) % q = j := ⟨_, rfl⟩
              have hjq : j < q := by rw [← hj]; exact Nat.mod_lt _ (by omega)
              have hw := wadd_run i T (by omega) (by omega)
              have hrem := rem_run i T q j (by omega) hj
              have hjqi : (j : Int) < (q : Int) := by omega
              have hea := HEA.out i hlt
              rw [hj] at hea
              rw [hea] at HTM HTK
              clear hea hj
              obtain ⟨ad2, e2, b0, b1⟩ := at_T32 HS.out (j : Int) (by omega) hjqi
              cases e2
              rw [Int.toNat_natCast, show rd_T32 X (j : Int) = X.getD j z32 by simp [rd_T32]] at b0 b1
              have B0 := Aside0.mk b0
              have B1 := Aside0.mk b1
              clear b0 b1
              generalize X.getD i z32 = c at a0 a1
              obtain ⟨c0, c1⟩ := c
              generalize X.getD j z32 = d at B0 B1 HTM HTK
              obtain ⟨d0, d1⟩ := d
              dsimp only at a0 a1 HTM
              have hq0 : ¬ (q : Int) = 0 := by omega
              have b0 := True.intro
              have b1 := True.intro
              go_wp2_with (first | ((with_reducible refine gate_dst (N := 12) rfl ?_); apply Fr.fr_box hF.out rfl; (case hrun => first | (go_simp; done) | (go_simp; rfl)); intro g12 W hF1; clear a0 a1; have HC1 := hF1.cells; simp only [Fr.Cells, List.length_cons, List.length_nil, Nat.reduceAdd, and_true] at HC1; clear hF HC; have HC := HC1; have hF := Aside0.mk hF1; clear hF1 HC1; clear b0 b1; have b0 := (hF.out.below.cell (World.block_lt_of_cell? _ _ B0.out)).trans B0.out; have b1 := (hF.out.below.cell (World.block_lt_of_cell? _ _ B1.out)).trans B1.out) | (((with_reducible refine gate_store rfl ?_); apply Fr.fr_store hF.out rfl rfl rfl; (case hp => rfl); (case hx => first | (go_simp; rfl) | rfl); (case hu => (simp only [Value.cells]; rfl)); (case hs => (repeat (first | exact Fr.Spot.here _ _ | apply Fr.Spot.there))); (case ht => kernel_rfl); (case h1 => simp [Value.oneCell']); (case hfit => simp); intro W hF1; simp only [Fr.patch, List.take_zero, List.nil_append, List.drop, List.append_nil, List.take, List.cons_append, List.length_cons, List.length_nil, Nat.reduceAdd] at hF1; have HC1 := hF1.cells; simp only [Fr.Cells, List.length_cons, List.length_nil, Nat.reduceAdd, and_true] at HC1; clear hF HC; have HC := HC1; have hF := Aside0.mk hF1; clear hF1 HC1); clear b0 b1; have b0 := (hF.out.below.cell (World.block_lt_of_cell? _ _ B0.out)).trans B0.out; have b1 := (hF.out.below.cell (World.block_lt_of_cell? _ _ B1.out)).trans B1.out))
              have hC := HH.out.readsC hF.out (.cons _ (.cons _ (List.sublist_append_left _ _)))
              (with_reducible refine (push11_n i Ak ck Y d0 d1 _ HYL.out hC HDB.out HTM.out (by omega)).mono ?_)
              rintro e W ⟨gk, capk, tlk, rfl, hck2, hF2⟩
              have hF3 := frame_sub (frame_join_r hF.out hF2) (bs' := (gk, flat (pushL (heapL Y) ⟨d0, d1⟩) ++ tlk, 32) :: (g8, [v0, .slice none 0 0], 42) :: kb0) (List.Sublist.cons_cons _ (.cons _ (List.Sublist.cons_cons _ (List.sublist_append_right _ _))))
              have HF4 := Aside0.mk (frame_perm hF3 (List.Perm.swap _ _ _))
              have HCK := Aside0.mk hck2
              clear hF HC hC hF2 hF3 hck2
              go_wp2_with fail
              go_roundg (q - (i + 1))
              case measure => omega
              case rel => exact ⟨i + 1, pushL (heapL Y) ⟨d0, d1⟩, [(gk, flat (pushL (heapL Y) ⟨d0, d1⟩) ++ tlk, 32)], rfl, by omega, by omega, ⟨.inr ⟨gk, capk, tlk, rfl, by rw [pushL_len, HHL.out], HCK.out, by omega, rfl⟩⟩, ⟨by rw [HTK.out]; exact (pushed Y ⟨d0, d1⟩).trans (HP.out.append_right _)⟩, ⟨HF4.out⟩⟩
            · have hiq : i = q := by omega
              subst hiq
              have HPX := Aside0.mk (show srt Y = srt X by have h9 := HP.out; rw [List.take_of_length_le (by rw [HEL.out]; exact Nat.le_refl _)] at h9; exact srt_eq (h9.trans HEP.out))
              have HYM : Aside0 (∀ x ∈ Y, x ∈ X) := ⟨fun x hx => HEP.out.mem_iff.1 (List.mem_of_mem_take (HP.out.mem_iff.1 hx))⟩
              clear HEP HEL HEA
              go_wp2_with fail
              obtain ⟨So, hSo⟩ := HF.out.rowIn (Kd.R_nil k32 32 _ wb.heap.size (fun _ => False)) (fun k hk => hk.elim)
              go_loopg [10, 94] i (fun kq v10 v94 w' => ∃ (j m : Nat) (Y : List S32) (kb : List Fr.Blk) (vo : Value) (So : Nat → Prop), v94 = .int .i64 j ∧ j + m = i ∧ m ≤ kq ∧ Aside0 (HeldP v10 m Y kb) ∧ Aside0 (srt Y = (srt X).drop j) ∧ Aside0 (∀ x ∈ Y, x ∈ X) ∧ Aside0 (Fr.Frame wb w' ((g8, [v0, vo], 42) :: (kb ++ kb0)) [Fr.rowR k32 32 wb.heap.size vo ((srt X).take j) So]))
              case atStart => exact ⟨0, i, Y, kb, .slice none 0 0, So, rfl, by omega, by omega, HH, ⟨HPX.out⟩, HYM, ⟨hSo⟩⟩
              case round =>
                clear HH HP HF hSo HPX HYM hck hYl
                obtain ⟨j, m, Y, kb, vo, So, rfl, hjm, hk2, HH, HY, HYM, HF⟩ := hrel
                obtain ⟨Ak, ck, rfl, hck, _, hYl⟩ := HH.out.reads HF.out (.cons _ (List.sublist_append_left _ _))
                cases m with
                | zero =>
                  obtain rfl : j = i := by omega
                  obtain rfl : Y = [] := List.eq_nil_of_length_eq_zero hYl
                  have hF := HF
                  have HC : True := trivial
                  clear HF
                  go_wp2_with fail
                  have h12 := pop12_none Ak ck [] _ (HH.out.readsC hF.out (.cons _ (List.sublist_append_left _ _))) rfl
                  rw [show ([] : List S32).length = 0 from rfl] at h12
                  (with_reducible refine h12.mono ?_)
                  clear h12
                  rintro e W ⟨rfl, hb⟩
                  have hF1 := hF.out.call hb
                  clear hb
                  have HC1 := hF1.cells; simp only [Fr.Cells, List.length_cons, List.length_nil, Nat.reduceAdd, and_true] at HC1; clear hF HC; have HC := HC1; have hF := Aside0.mk hF1; clear hF1 HC1
                  go_wp2_with (first | ((with_reducible refine gate_dst (N := 19) rfl ?_); apply Fr.fr_box hF.out rfl; (case hrun => first | (go_simp; done) | (go_simp; rfl)); intro g19 W hF1; have HC1 := hF1.cells; simp only [Fr.Cells, List.length_cons, List.length_nil, Nat.reduceAdd, and_true] at HC1; clear hF HC; have HC := HC1; have hF := Aside0.mk hF1; clear hF1 HC1) | ((with_reducible refine gate_store rfl ?_); apply Fr.fr_store hF.out rfl rfl rfl; (case hp => rfl); (case hx => first | (go_simp; rfl) | rfl); (case hu => (simp only [Value.cells]; rfl)); (case hs => (repeat (first | exact Fr.Spot.here _ _ | apply Fr.Spot.there))); (case ht => kernel_rfl); (case h1 => simp [Value.oneCell']); (case hfit => simp); intro W hF1; simp only [Fr.patch, List.take_zero, List.nil_append, List.drop, List.append_nil, List.take, List.cons_append, List.length_cons, List.length_nil, Nat.reduceAdd] at hF1; have HC1 := hF1.cells; simp only [Fr.Cells, List.length_cons, List.length_nil, Nat.reduceAdd, and_true] at HC1; clear hF HC; have HC := HC1; have hF := Aside0.mk hF1; clear hF1 HC1) | ((first | (with_reducible refine Fr.gate_alloc rfl ?_) | (with_reducible refine Fr.gate_box rfl ?_)); apply Fr.fr_box hF.out rfl; (case hrun => first | (go_simp; done) | (go_simp; rfl)); intro g W hF1; have HC1 := hF1.cells; simp only [Fr.Cells, List.length_cons, List.length_nil, Nat.reduceAdd, and_true] at HC1; clear hF HC; have HC := HC1; have hF := Aside0.mk hF1; clear hF1 HC1))
                  obtain ⟨kbo, hho, hFo⟩ := held_of_row hF.out (by rw [List.length_take, srt_len, HLS.out]; omega)
                  rw [List.take_of_length_le (by rw [srt_len, HLS.out]; exact Nat.le_refl _), srt_len, HLS.out] at hho
                  have hF5 := frame_sub hFo (bs' := kbo ++ ((g8, [v0, vo], 42) :: kb0)) (List.Sublist.append (List.Sublist.refl _) (.cons _ (List.Sublist.cons_cons _ (List.sublist_append_right _ _))))
                  have HF6 := Aside0.mk (frame_perm hF5 (bs' := (g8, [v0, vo], 42) :: (kbo ++ kb0)) List.perm_middle.symm)
                  have HHO := Aside0.mk hho
                  clear hF HC hFo hF5 hho
                  go_roundg 0
                  case measure => omega
                  case rel => exact ⟨2, rfl, by omega, by omega, ⟨.inr (.inr ⟨rfl, v0, vo, kb0, kbo, HH0.out, HHO.out, HF6.out⟩)⟩⟩
                | succ m =>
                  obtain ⟨x, rr, hxr⟩ : ∃ x rr, srt Y = x :: rr := by
                    cases hsy : srt Y with
                    | nil => rw [← srt_len, hsy] at hYl; simp at hYl
                    | cons x rr => exact ⟨x, rr, rfl⟩
                  obtain ⟨x0, x1⟩ := x
                  obtain ⟨hd1, hd2⟩ := drop_one (show (srt X).drop j = ⟨x0, x1⟩ :: rr by rw [← HY.out, hxr])
                  have HD1 := Aside0.mk hd1
                  have HD2 := Aside0.mk hd2
                  have HXR := Aside0.mk hxr
                  have HYL := Aside0.mk hYl
                  have HDB := Aside0.mk (show duesB Y = true from dues_of HSB.out HYM.out (by omega))
                  have HOL := Aside0.mk (show (((srt X).take j).length + 1) * 16 ≤ 140737488355328 by rw [List.length_take, srt_len, HLS.out]; omega)
                  have HLN := Aside0.mk (show ((srt X).take (j + 1)).length = j + 1 by rw [List.length_take, srt_len, HLS.out]; omega)
                  have hF := HF
                  have HC : True := trivial
                  have hjii : (j : Int) < (i : Int) := by omega
                  clear HF hd1 hd2 hxr hYl
                  go_wp2_with fail
                  (with_reducible refine (pop12_n m Ak ck Y rr x0 x1 _ HYL.out (HH.out.readsC hF.out (.cons _ (List.sublist_append_left _ _))) HDB.out HXR.out).mono ?_)
                  rintro e W ⟨gk, capk, tlk, Z, rfl, hck2, hZl, hZr, hZm, hF2⟩
                  have hF3 := frame_sub (frame_join_r hF.out hF2) (bs' := (gk, flat Z ++ tlk, 32) :: (g8, [v0, vo], 42) :: kb0) (List.Sublist.cons_cons _ (List.Sublist.cons_cons _ (List.sublist_append_right _ _)))
                  have hF1 := frame_perm hF3 (List.Perm.swap _ _ _)
                  have HCK := Aside0.mk hck2
                  have HZL := Aside0.mk hZl
                  have HZR := Aside0.mk hZr
                  have HZM := Aside0.mk (fun x hx => HYM.out x (hZm x hx))
                  clear hF2 hF3 hck2 hZl hZr hZm
                  have HC1 := hF1.cells; simp only [Fr.Cells, List.length_cons, List.length_nil, Nat.reduceAdd, and_true] at HC1; clear hF HC; have HC := HC1; have hF := Aside0.mk hF1; clear hF1 HC1
                  go_wp2_with (first | ((with_reducible refine gate_dst (N := 16) rfl ?_); apply Fr.fr_box hF.out rfl; (case hrun => first | (go_simp; done) | (go_simp; rfl)); intro g16 W hF1; have HC1 := hF1.cells; simp only [Fr.Cells, List.length_cons, List.length_nil, Nat.reduceAdd, and_true] at HC1; clear hF HC; have HC := HC1; have hF := Aside0.mk hF1; clear hF1 HC1) | ((with_reducible refine gate_store rfl ?_); apply Fr.fr_store hF.out rfl rfl rfl; (case hp => rfl); (case hx => first | (go_simp; rfl) | rfl); (case hu => (simp only [Value.cells]; rfl)); (case hs => (repeat (first | exact Fr.Spot.here _ _ | apply Fr.Spot.there))); (case ht => kernel_rfl); (case h1 => simp [Value.oneCell']); (case hfit => simp); intro W hF1; simp only [Fr.patch, List.take_zero, List.nil_append, List.drop, List.append_nil, List.take, List.cons_append, List.length_cons, List.length_nil, Nat.reduceAdd] at hF1; have HC1 := hF1.cells; simp only [Fr.Cells, List.length_cons, List.length_nil, Nat.reduceAdd, and_true] at HC1; clear hF HC; have HC := HC1; have hF := Aside0.mk hF1; clear hF1 HC1) | ((first | (with_reducible refine Fr.gate_alloc rfl ?_) | (with_reducible refine Fr.gate_box rfl ?_)); apply Fr.fr_box hF.out rfl; (case hrun => first | (go_simp; done) | (go_simp; rfl)); intro g W hF1; have HC1 := hF1.cells; simp only [Fr.Cells, List.length_cons, List.length_nil, Nat.reduceAdd, and_true] at HC1; clear hF HC; have HC := HC1; have hF := Aside0.mk hF1; clear hF1 HC1))
                  obtain ⟨Ao, co, rfl, hz1, hz2⟩ := Kd.R_reads (hF.out.rowAt (r := Fr.rowR k32 32 wb.heap.size vo ((srt X).take j) So) List.mem_cons_self)
                  clear hz1 hz2
                  refine r29_1 (O := (srt X).take j) hF.out HOL.out (fun _ _ _ _ _ h => h) ?_
                  intro gd Av cv W9 Sc hF9
                  rw [← HD2.out] at hF9
                  have HF9 := Aside0.mk hF9
                  clear hF HC hF9
                  go_wp2_with fail
                  go_roundg m
                  case measure => omega
                  case rel => exact ⟨j + 1, m, Z, [(gk, flat Z ++ tlk, 32)], _, Sc, rfl, by omega, by omega, ⟨.inr ⟨gk, capk, tlk, rfl, HZL.out, HCK.out, by omega, rfl⟩⟩, ⟨by rw [HZR.out, HD1.out]⟩, ⟨HZM.out⟩, ⟨HF9.out.drop.drop⟩⟩
        · obtain ⟨A0, c0, rfl, hc0, hC0, hl0⟩ := hh0.reads hF0 (.cons _ (List.sublist_append_right _ _))
          obtain ⟨A1, c1, rfl, hc1, hC1, _⟩ := hh1.reads hF0 (.cons _ (List.sublist_append_left _ _))
          obtain ⟨g80, g81⟩ := cells2 hF0 List.mem_cons_self
          have HO0 := Aside0.mk hC0
          have HO1 := Aside0.mk hC1
          have HC0 := Aside0.mk hc0
          have HC1c := Aside0.mk hc1
          have HS4 := Aside0.mk (Kd.C_below HS.out hF0.below)
          have HB4 := Aside0.mk (below_then HB0.out HB0.out.size hF0.below)
          have HOR := Aside0.mk (srt_order X)
          have HCP := Aside0.mk (fun x => cnt_perm (srt_perm X) x)
          have HOL := Aside0.mk hl0
          have G80 := Aside0.mk g80
          have G81 := Aside0.mk g81
          generalize srt X = O at hC0 hC1 HO0 HO1 HOR HCP HOL hh0 hh1 hl0
          obtain ⟨w4, rfl⟩ : ∃ w4, w4 = wr := ⟨_, rfl⟩
          clear hC0 hC1 hc0 hc1 hh0 hh1 hF0 HST hl0 HS HB0 HSB hstart
          go_wp2_with fail
          clear g80 g81
          go_loopg [134] q (fun kq v134 w' => ∃ i : Nat, v134 = .int .i64 i ∧ i ≤ q ∧ q - i ≤ kq ∧ Aside0 (Below w4.heap.size w4 w'))
          case atStart => exact ⟨0, rfl, by omega, by omega, ⟨Below.refl _ _⟩⟩
          case round =>
            obtain ⟨i, rfl, hi, hk2, HB⟩ := hrel
            by_cases hlt : i < q
            · have hlti : (i : Int) < (q : Int) := by omega
              obtain ⟨ad, rfl, a0, a1⟩ := at_T32 HO0.out (i : Int) (by omega) hlti
              rw [Int.toNat_natCast, show rd_T32 O (i : Int) = O.getD i z32 by simp [rd_T32]] at a0 a1
              replace a0 := (HB.out.cell (World.block_lt_of_cell? _ _ a0)).trans a0
              replace a1 := (HB.out.cell (World.block_lt_of_cell? _ _ a1)).trans a1
              obtain ⟨x, hx⟩ : ∃ x, O.getD i z32 = x := ⟨_, rfl⟩
              rw [hx] at a0 a1
              obtain ⟨x0, x1⟩ := x
              have HX := Aside0.mk hx
              clear hx
              have hF := Aside0.mk (Fr.Frame.start wr)
              have HC : True := trivial
              dsimp only at a0 a1
              go_wp2_with (first | ((with_reducible refine gate_dst (N := 22) rfl ?_); apply Fr.fr_box hF.out rfl; (case hrun => first | (go_simp; done) | (go_simp; rfl)); intro g22 W hF1; clear a0 a1; have HC1 := hF1.cells; simp only [Fr.Cells, List.length_cons, List.length_nil, Nat.reduceAdd, and_true] at HC1; clear hF HC; have HC := HC1; have hF := Aside0.mk hF1; clear hF1 HC1) | ((with_reducible refine gate_store rfl ?_); apply Fr.fr_store hF.out rfl rfl rfl; (case hp => rfl); (case hx => first | (go_simp; rfl) | rfl); (case hu => (simp only [Value.cells]; rfl)); (case hs => (repeat (first | exact Fr.Spot.here _ _ | apply Fr.Spot.there))); (case ht => kernel_rfl); (case h1 => simp [Value.oneCell']); (case hfit => simp); intro W hF1; simp only [Fr.patch, List.take_zero, List.nil_append, List.drop, List.append_nil, List.take, List.cons_append, List.length_cons, List.length_nil, Nat.reduceAdd] at hF1; have HC1 := hF1.cells; simp only [Fr.Cells, List.length_cons, List.length_nil, Nat.reduceAdd, and_true] at HC1; clear hF HC; have HC := HC1; have hF := Aside0.mk hF1; clear hF1 HC1) | ((first | (with_reducible refine Fr.gate_alloc rfl ?_) | (with_reducible refine Fr.gate_box rfl ?_)); apply Fr.fr_box hF.out rfl; (case hrun => first | (go_simp; done) | (go_simp; rfl)); intro g W hF1; have HC1 := hF1.cells; simp only [Fr.Cells, List.length_cons, List.length_nil, Nat.reduceAdd, and_true] at HC1; clear hF HC; have HC := HC1; have hF := Aside0.mk hF1; clear hF1 HC1))
              have hB5 := below_then HB.out HB.out.size hF.out.below
              obtain ⟨x0c, x1c⟩ := cells2 hF.out List.mem_cons_self
              have X0 := Aside0.mk x0c
              have X1 := Aside0.mk x1c
              have G85 := Aside0.mk ((hB5.cell (World.block_lt_of_cell? _ _ G80.out)).trans G80.out)
              have HB5 := Aside0.mk hB5
              obtain ⟨w5, rfl⟩ : ∃ w5, w5 = W := ⟨_, rfl⟩
              clear hF HC x0c x1c hB5 HB
              have hF := Aside0.mk (Fr.Frame.start w5)
              have HC : True := trivial
              cases i with
              | zero =>
                refine Fr.fr_region (by kernel_rfl) (by kernel_rfl) hF.out ?_
                iterate 3 (apply Fr.fr_q_val; (case hw => first | rfl | (go_simp; done)); (case hv => intro W hF1; have q0 := (hF1.below.cell (World.block_lt_of_cell? _ _ X0.out)).trans X0.out; have q1 := (hF1.below.cell (World.block_lt_of_cell? _ _ X1.out)).trans X1.out; have q2 := (hF1.below.cell (World.block_lt_of_cell? _ _ G85.out)).trans G85.out; clear hF1; first | (go_simp; done) | (go_simp; rfl)); simp only [Act.put, List.setIfInBounds_toArray, List.set_cons_zero, List.set_cons_succ])
                iterate 8 ((with_reducible refine Fr.fr_q_skip ?hw ?_); (case hw => kernel_rfl); simp only [Act.put, List.setIfInBounds_toArray, List.set_cons_zero, List.set_cons_succ])
                iterate 1 (apply Fr.fr_q_val; (case hw => first | rfl | (go_simp; done)); (case hv => intro W hF1; have q0 := (hF1.below.cell (World.block_lt_of_cell? _ _ X0.out)).trans X0.out; have q1 := (hF1.below.cell (World.block_lt_of_cell? _ _ X1.out)).trans X1.out; have q2 := (hF1.below.cell (World.block_lt_of_cell? _ _ G85.out)).trans G85.out; clear hF1; first | (go_simp; done) | (go_simp; rfl)); simp only [Act.put, List.setIfInBounds_toArray, List.set_cons_zero, List.set_cons_succ])
                refine wpQuiet_nil ?_; intro W hF1; have HC1 := hF1.cells; simp only [Fr.Cells, List.length_cons, List.length_nil, Nat.reduceAdd, and_true] at HC1; clear hF HC; have HC := HC1; have hF := Aside0.mk hF1; clear hF1 HC1
                have HB6 := Aside0.mk hF.out.below
                clear hF HC
                go_wp2_with fail
                go_loopg [23, 24, 153] q (fun kq v23 v24 v153 w' => ∃ r a b : Nat, v153 = .int .i64 r ∧ v23 = .int .i64 a ∧ v24 = .int .i64 b ∧ r ≤ q ∧ a ≤ r ∧ b ≤ r ∧ q - r ≤ kq ∧ Aside0 (a = cnt ⟨x0, x1⟩ (X.take r)) ∧ Aside0 (b = cnt ⟨x0, x1⟩ (O.take r)) ∧ Aside0 (Below w5.heap.size w5 w'))
                case atStart => exact ⟨0, 0, 0, rfl, rfl, rfl, by omega, by omega, by omega, by omega, ⟨by simp [cnt]⟩, ⟨by simp [cnt]⟩, HB6⟩
                case round =>
                  clear HB6
                  obtain ⟨r, a, b, rfl, rfl, rfl, hr, har, hbr, hk3, HCA, HCB, HB7⟩ := hrel
                  by_cases hltr : r < q
                  · have hltri : (r : Int) < (q : Int) := by omega
                    have hB8 := below_then HB5.out HB5.out.size HB7.out
                    obtain ⟨ads, es, s0, s1⟩ := at_T32 HS4.out (r : Int) (by omega) hltri
                    cases es
                    obtain ⟨ady, ey, y0c, y1c⟩ := at_T32 HO0.out (r : Int) (by omega) hltri
                    cases ey
                    rw [Int.toNat_natCast, show rd_T32 X (r : Int) = X.getD r z32 by simp [rd_T32]] at s0 s1
                    rw [Int.toNat_natCast, show rd_T32 O (r : Int) = O.getD r z32 by simp [rd_T32]] at y0c y1c
                    replace s0 := (hB8.cell (World.block_lt_of_cell? _ _ s0)).trans s0
                    replace s1 := (hB8.cell (World.block_lt_of_cell? _ _ s1)).trans s1
                    replace y0c := (hB8.cell (World.block_lt_of_cell? _ _ y0c)).trans y0c
                    replace y1c := (hB8.cell (World.block_lt_of_cell? _ _ y1c)).trans y1c
                    have x0c := (HB7.out.cell (World.block_lt_of_cell? _ _ X0.out)).trans X0.out
                    have x1c := (HB7.out.cell (World.block_lt_of_cell? _ _ X1.out)).trans X1.out
                    have g8c := (HB7.out.cell (World.block_lt_of_cell? _ _ G85.out)).trans G85.out
                    obtain ⟨s, hs⟩ : ∃ s, X.getD r z32 = s := ⟨_, rfl⟩
                    obtain ⟨y, hy⟩ : ∃ y, O.getD r z32 = y := ⟨_, rfl⟩
                    rw [hs] at s0 s1
                    rw [hy] at y0c y1c
                    obtain ⟨t0, t1⟩ := s
                    obtain ⟨y0, y1⟩ := y
                    dsimp only at s0 s1 y0c y1c
                    obtain ⟨e1, he1⟩ : ∃ e, (t0 == x0 && t1 == x1) = e := ⟨_, rfl⟩
                    obtain ⟨e2, he2⟩ : ∃ e, (y0 == x0 && y1 == x1) = e := ⟨_, rfl⟩
                    have HSA := Aside0.mk (cnt_step x0 x1 t0 t1 X r (by rw [HLS.out]; exact hltr) hs e1 he1)
                    have HSB2 := Aside0.mk (cnt_step x0 x1 y0 y1 O r (by rw [HOL.out]; exact hltr) hy e2 he2)
                    have HE1 := Aside0.mk he1
                    have HE2 := Aside0.mk he2
                    have Y0 := Aside0.mk y0c
                    have Y1 := Aside0.mk y1c
                    have X7 := Aside0.mk x0c
                    have X8 := Aside0.mk x1c
                    have G87 := Aside0.mk g8c
                    have HB9 := HB7
                    clear hs hy he1 he2 hB8 y0c y1c g8c HB7
                    have hF := Aside0.mk (Fr.Frame.start wr)
                    have HC : True := trivial
                    cases e1 with
                    | false =>
                      have he1 := fun W => eql32_run t0 t1 x0 x1 false HE1.out W
                      go_wp2_with (first | ((with_reducible refine gate_dst (N := 26) rfl ?_); apply Fr.fr_box hF.out rfl; (case hrun => first | (go_simp; done) | (go_simp; rfl)); intro g26 W hF1; clear s0 s1; have HC1 := hF1.cells; simp only [Fr.Cells, List.length_cons, List.length_nil, Nat.reduceAdd, and_true] at HC1; clear hF HC; have HC := HC1; have hF := Aside0.mk hF1; clear hF1 HC1; clear x0c x1c; have x0c := (hF.out.below.cell (World.block_lt_of_cell? _ _ X7.out)).trans X7.out; have x1c := (hF.out.below.cell (World.block_lt_of_cell? _ _ X8.out)).trans X8.out) | (((with_reducible refine gate_store rfl ?_); apply Fr.fr_store hF.out rfl rfl rfl; (case hp => rfl); (case hx => first | (go_simp; rfl) | rfl); (case hu => (simp only [Value.cells]; rfl)); (case hs => (repeat (first | exact Fr.Spot.here _ _ | apply Fr.Spot.there))); (case ht => kernel_rfl); (case h1 => simp [Value.oneCell']); (case hfit => simp); intro W hF1; simp only [Fr.patch, List.take_zero, List.nil_append, List.drop, List.append_nil, List.take, List.cons_append, List.length_cons, List.length_nil, Nat.reduceAdd] at hF1; have HC1 := hF1.cells; simp only [Fr.Cells, List.length_cons, List.length_nil, Nat.reduceAdd, and_true] at HC1; clear hF HC; have HC := HC1; have hF := Aside0.mk hF1; clear hF1 HC1); clear x0c x1c; have x0c := (hF.out.below.cell (World.block_lt_of_cell? _ _ X7.out)).trans X7.out; have x1c := (hF.out.below.cell (World.block_lt_of_cell? _ _ X8.out)).trans X8.out))
                      clear x0c x1c
                      have Y09 := Aside0.mk ((hF.out.below.cell (World.block_lt_of_cell? _ _ Y0.out)).trans Y0.out)
                      clear Y0
                      have Y0 := Y09
                      clear Y09
                      have Y19 := Aside0.mk ((hF.out.below.cell (World.block_lt_of_cell? _ _ Y1.out)).trans Y1.out)
                      clear Y1
                      have Y1 := Y19
                      clear Y19
                      have X79 := Aside0.mk ((hF.out.below.cell (World.block_lt_of_cell? _ _ X7.out)).trans X7.out)
                      clear X7
                      have X7 := X79
                      clear X79
                      have X89 := Aside0.mk ((hF.out.below.cell (World.block_lt_of_cell? _ _ X8.out)).trans X8.out)
                      clear X8
                      have X8 := X89
                      clear X89
                      have G879 := Aside0.mk ((hF.out.below.cell (World.block_lt_of_cell? _ _ G87.out)).trans G87.out)
                      clear G87
                      have G87 := G879
                      clear G879
                      have HB10 := Aside0.mk (below_then HB9.out HB9.out.size hF.out.below)
                      clear hF HC HB9
                      have hF := Aside0.mk (Fr.Frame.start W)
                      have HC : True := trivial
                      cases e2 with
                      | false =>
                        have he2 := fun W => eql32_run y0 y1 x0 x1 false HE2.out W
                        refine Fr.fr_region (by kernel_rfl) (by kernel_rfl) hF.out ?_
                        iterate 7 (apply Fr.fr_q_val; (case hw => first | rfl | (go_simp; done)); (case hv => intro W hF1; have q0 := (hF1.below.cell (World.block_lt_of_cell? _ _ Y0.out)).trans Y0.out; have q1 := (hF1.below.cell (World.block_lt_of_cell? _ _ Y1.out)).trans Y1.out; have q2 := (hF1.below.cell (World.block_lt_of_cell? _ _ X7.out)).trans X7.out; have q3 := (hF1.below.cell (World.block_lt_of_cell? _ _ X8.out)).trans X8.out; have q4 := (hF1.below.cell (World.block_lt_of_cell? _ _ G87.out)).trans G87.out; clear hF1; first | (go_simp; done) | (go_simp; rfl)); simp only [Act.put, List.setIfInBounds_toArray, List.set_cons_zero, List.set_cons_succ])
                        refine wpQuiet_nil ?_; intro W hF1; have HC1 := hF1.cells; simp only [Fr.Cells, List.length_cons, List.length_nil, Nat.reduceAdd, and_true] at HC1; clear hF HC; have HC := HC1; have hF := Aside0.mk hF1; clear hF1 HC1
                        have HB11 := Aside0.mk (below_then HB10.out HB10.out.size hF.out.below)
                        clear hF HC HB10
                        go_wp2_with fail
                        go_roundg (q - (r + 1))
                        case measure => omega
                        case rel => exact ⟨r + 1, a, b, rfl, by first | rfl | (congr 1; omega), by first | rfl | (congr 1; omega), by omega, by omega, by omega, by omega, ⟨by rw [HSA.out, ← HCA.out]; rfl⟩, ⟨by rw [HSB2.out, ← HCB.out]; rfl⟩, HB11⟩
                      | true =>
                        have he2 := fun W => eql32_run y0 y1 x0 x1 true HE2.out W
                        refine Fr.fr_region (by kernel_rfl) (by kernel_rfl) hF.out ?_
                        iterate 7 (apply Fr.fr_q_val; (case hw => first | rfl | (go_simp; done)); (case hv => intro W hF1; have q0 := (hF1.below.cell (World.block_lt_of_cell? _ _ Y0.out)).trans Y0.out; have q1 := (hF1.below.cell (World.block_lt_of_cell? _ _ Y1.out)).trans Y1.out; have q2 := (hF1.below.cell (World.block_lt_of_cell? _ _ X7.out)).trans X7.out; have q3 := (hF1.below.cell (World.block_lt_of_cell? _ _ X8.out)).trans X8.out; have q4 := (hF1.below.cell (World.block_lt_of_cell? _ _ G87.out)).trans G87.out; clear hF1; first | (go_simp; done) | (go_simp; rfl)); simp only [Act.put, List.setIfInBounds_toArray, List.set_cons_zero, List.set_cons_succ])
                        refine wpQuiet_nil ?_; intro W hF1; have HC1 := hF1.cells; simp only [Fr.Cells, List.length_cons, List.length_nil, Nat.reduceAdd, and_true] at HC1; clear hF HC; have HC := HC1; have hF := Aside0.mk hF1; clear hF1 HC1
                        have HB11 := Aside0.mk (below_then HB10.out HB10.out.size hF.out.below)
                        clear hF HC HB10
                        go_wp2_with fail
                        go_roundg (q - (r + 1))
                        case measure => omega
                        case rel => exact ⟨r + 1, a, b + 1, rfl, by first | rfl | (congr 1; omega), by first | rfl | (congr 1; omega), by omega, by omega, by omega, by omega, ⟨by rw [HSA.out, ← HCA.out]; rfl⟩, ⟨by rw [HSB2.out, ← HCB.out]; rfl⟩, HB11⟩
                    | true =>
                      have he1 := fun W => eql32_run t0 t1 x0 x1 true HE1.out W
                      go_wp2_with (first | ((with_reducible refine gate_dst (N := 26) rfl ?_); apply Fr.fr_box hF.out rfl; (case hrun => first | (go_simp; done) | (go_simp; rfl)); intro g26 W hF1; clear s0 s1; have HC1 := hF1.cells; simp only [Fr.Cells, List.length_cons, List.length_nil, Nat.reduceAdd, and_true] at HC1; clear hF HC; have HC := HC1; have hF := Aside0.mk hF1; clear hF1 HC1; clear x0c x1c; have x0c := (hF.out.below.cell (World.block_lt_of_cell? _ _ X7.out)).trans X7.out; have x1c := (hF.out.below.cell (World.block_lt_of_cell? _ _ X8.out)).trans X8.out) | (((with_reducible refine gate_store rfl ?_); apply Fr.fr_store hF.out rfl rfl rfl; (case hp => rfl); (case hx => first | (go_simp; rfl) | rfl); (case hu => (simp only [Value.cells]; rfl)); (case hs => (repeat (first | exact Fr.Spot.here _ _ | apply Fr.Spot.there))); (case ht => kernel_rfl); (case h1 => simp [Value.oneCell']); (case hfit => simp); intro W hF1; simp only [Fr.patch, List.take_zero, List.nil_append, List.drop, List.append_nil, List.take, List.cons_append, List.length_cons, List.length_nil, Nat.reduceAdd] at hF1; have HC1 := hF1.cells; simp only [Fr.Cells, List.length_cons, List.length_nil, Nat.reduceAdd, and_true] at HC1; clear hF HC; have HC := HC1; have hF := Aside0.mk hF1; clear hF1 HC1); clear x0c x1c; have x0c := (hF.out.below.cell (World.block_lt_of_cell? _ _ X7.out)).trans X7.out; have x1c := (hF.out.below.cell (World.block_lt_of_cell? _ _ X8.out)).trans X8.out))
                      clear x0c x1c
                      have Y09 := Aside0.mk ((hF.out.below.cell (World.block_lt_of_cell? _ _ Y0.out)).trans Y0.out)
                      clear Y0
                      have Y0 := Y09
                      clear Y09
                      have Y19 := Aside0.mk ((hF.out.below.cell (World.block_lt_of_cell? _ _ Y1.out)).trans Y1.out)
                      clear Y1
                      have Y1 := Y19
                      clear Y19
                      have X79 := Aside0.mk ((hF.out.below.cell (World.block_lt_of_cell? _ _ X7.out)).trans X7.out)
                      clear X7
                      have X7 := X79
                      clear X79
                      have X89 := Aside0.mk ((hF.out.below.cell (World.block_lt_of_cell? _ _ X8.out)).trans X8.out)
                      clear X8
                      have X8 := X89
                      clear X89
                      have G879 := Aside0.mk ((hF.out.below.cell (World.block_lt_of_cell? _ _ G87.out)).trans G87.out)
                      clear G87
                      have G87 := G879
                      clear G879
                      have HB10 := Aside0.mk (below_then HB9.out HB9.out.size hF.out.below)
                      clear hF HC HB9
                      have hF := Aside0.mk (Fr.Frame.start W)
                      have HC : True := trivial
                      cases e2 with
                      | false =>
                        have he2 := fun W => eql32_run y0 y1 x0 x1 false HE2.out W
                        refine Fr.fr_region (by kernel_rfl) (by kernel_rfl) hF.out ?_
                        iterate 7 (apply Fr.fr_q_val; (case hw => first | rfl | (go_simp; done)); (case hv => intro W hF1; have q0 := (hF1.below.cell (World.block_lt_of_cell? _ _ Y0.out)).trans Y0.out; have q1 := (hF1.below.cell (World.block_lt_of_cell? _ _ Y1.out)).trans Y1.out; have q2 := (hF1.below.cell (World.block_lt_of_cell? _ _ X7.out)).trans X7.out; have q3 := (hF1.below.cell (World.block_lt_of_cell? _ _ X8.out)).trans X8.out; have q4 := (hF1.below.cell (World.block_lt_of_cell? _ _ G87.out)).trans G87.out; clear hF1; first | (go_simp; done) | (go_simp; rfl)); simp only [Act.put, List.setIfInBounds_toArray, List.set_cons_zero, List.set_cons_succ])
                        refine wpQuiet_nil ?_; intro W hF1; have HC1 := hF1.cells; simp only [Fr.Cells, List.length_cons, List.length_nil, Nat.reduceAdd, and_true] at HC1; clear hF HC; have HC := HC1; have hF := Aside0.mk hF1; clear hF1 HC1
                        have HB11 := Aside0.mk (below_then HB10.out HB10.out.size hF.out.below)
                        clear hF HC HB10
                        go_wp2_with fail
                        go_roundg (q - (r + 1))
                        case measure => omega
                        case rel => exact ⟨r + 1, a + 1, b, rfl, by first | rfl | (congr 1; omega), by first | rfl | (congr 1; omega), by omega, by omega, by omega, by omega, ⟨by rw [HSA.out, ← HCA.out]; rfl⟩, ⟨by rw [HSB2.out, ← HCB.out]; rfl⟩, HB11⟩
                      | true =>
                        have he2 := fun W => eql32_run y0 y1 x0 x1 true HE2.out W
                        refine Fr.fr_region (by kernel_rfl) (by kernel_rfl) hF.out ?_
                        iterate 7 (apply Fr.fr_q_val; (case hw => first | rfl | (go_simp; done)); (case hv => intro W hF1; have q0 := (hF1.below.cell (World.block_lt_of_cell? _ _ Y0.out)).trans Y0.out; have q1 := (hF1.below.cell (World.block_lt_of_cell? _ _ Y1.out)).trans Y1.out; have q2 := (hF1.below.cell (World.block_lt_of_cell? _ _ X7.out)).trans X7.out; have q3 := (hF1.below.cell (World.block_lt_of_cell? _ _ X8.out)).trans X8.out; have q4 := (hF1.below.cell (World.block_lt_of_cell? _ _ G87.out)).trans G87.out; clear hF1; first | (go_simp; done) | (go_simp; rfl)); simp only [Act.put, List.setIfInBounds_toArray, List.set_cons_zero, List.set_cons_succ])
                        refine wpQuiet_nil ?_; intro W hF1; have HC1 := hF1.cells; simp only [Fr.Cells, List.length_cons, List.length_nil, Nat.reduceAdd, and_true] at HC1; clear hF HC; have HC := HC1; have hF := Aside0.mk hF1; clear hF1 HC1
                        have HB11 := Aside0.mk (below_then HB10.out HB10.out.size hF.out.below)
                        clear hF HC HB10
                        go_wp2_with fail
                        go_roundg (q - (r + 1))
                        case measure => omega
                        case rel => exact ⟨r + 1, a + 1, b + 1, rfl, by first | rfl | (congr 1; omega), by first | rfl | (congr 1; omega), by omega, by omega, by omega, by omega, ⟨by rw [HSA.out, ← HCA.out]; rfl⟩, ⟨by rw [HSB2.out, ← HCB.out]; rfl⟩, HB11⟩
                  · have hrq : r = q := by omega
                    subst hrq
                    have hab : a = b := by rw [HCA.out, HCB.out, List.take_of_length_le (by rw [HLS.out]; exact Nat.le_refl _), List.take_of_length_le (by rw [HOL.out]; exact Nat.le_refl _)]; exact (HCP.out _).symm
                    subst hab
                    go_wp2_with fail
                    go_roundg (r - (0 + 1))
                    case measure => omega
                    case rel => exact ⟨0 + 1, by first | rfl | (congr 1; omega), by omega, by omega, ⟨below_then HB5.out HB5.out.size HB7.out⟩⟩
              | succ p =>
                obtain ⟨adp, ep, p0, p1⟩ := at_T32 HO0.out (p : Int) (by omega) (by omega)
                cases ep
                rw [Int.toNat_natCast, show rd_T32 O (p : Int) = O.getD p z32 by simp [rd_T32]] at p0 p1
                replace p0 := (HB5.out.cell (World.block_lt_of_cell? _ _ p0)).trans p0
                replace p1 := (HB5.out.cell (World.block_lt_of_cell? _ _ p1)).trans p1
                have hle := order_at HOR.out (i := p) (by rw [HOL.out]; exact hlt)
                rw [HX.out] at hle
                obtain ⟨y, hy⟩ : ∃ y, O.getD p z32 = y := ⟨_, rfl⟩
                rw [hy] at p0 p1 hle
                obtain ⟨y0, y1⟩ := y
                have P0 := Aside0.mk p0
                have P1 := Aside0.mk p1
                have HLE := Aside0.mk hle
                have hpq : (p : Int) < (q : Int) := by omega
                have hpp : (0 : Int) < (p : Int) + 1 := by omega
                clear p0 p1 hle hy
                have hps : wrap64 (p : Int) = (p : Int) := by unfold wrap64; omega
                have hps2 : IntKind.i64.wrap (p : Int) = (p : Int) := (IntWalk.i64_left _).trans hps
                refine Fr.fr_region (by kernel_rfl) (by kernel_rfl) hF.out ?_
                iterate 10 (apply Fr.fr_q_val; (case hw => first | rfl | (go_simp; done)); (case hv => intro W hF1; have q0 := (hF1.below.cell (World.block_lt_of_cell? _ _ X0.out)).trans X0.out; have q1 := (hF1.below.cell (World.block_lt_of_cell? _ _ X1.out)).trans X1.out; have q2 := (hF1.below.cell (World.block_lt_of_cell? _ _ G85.out)).trans G85.out; have q3 := (hF1.below.cell (World.block_lt_of_cell? _ _ P0.out)).trans P0.out; have q4 := (hF1.below.cell (World.block_lt_of_cell? _ _ P1.out)).trans P1.out; clear hF1; first | (go_simp; done) | (go_simp; rfl)); simp only [Act.put, List.setIfInBounds_toArray, List.set_cons_zero, List.set_cons_succ])
                ((with_reducible refine Fr.gate_qcallee (f := 18) rfl ?_); apply Fr.fr_q_call; (case hw => first | rfl | (go_simp; done)); (case hv => intro W hF1; clear hF1; first | (go_simp; done) | (go_simp; rfl) | (go_simp; exact ⟨rfl, rfl⟩)); (case hc => intro W hF1; refine (ahead18_n x0 x1 y0 y1 false HLE.out _).mono ?_; rintro e W' ⟨rfl, hb⟩; exact ⟨rfl, hb⟩); simp only [Act.put, List.setIfInBounds_toArray, List.set_cons_zero, List.set_cons_succ])
                iterate 1 (apply Fr.fr_q_val; (case hw => first | rfl | (go_simp; done)); (case hv => intro W hF1; have q0 := (hF1.below.cell (World.block_lt_of_cell? _ _ X0.out)).trans X0.out; have q1 := (hF1.below.cell (World.block_lt_of_cell? _ _ X1.out)).trans X1.out; have q2 := (hF1.below.cell (World.block_lt_of_cell? _ _ G85.out)).trans G85.out; have q3 := (hF1.below.cell (World.block_lt_of_cell? _ _ P0.out)).trans P0.out; have q4 := (hF1.below.cell (World.block_lt_of_cell? _ _ P1.out)).trans P1.out; clear hF1; first | (go_simp; done) | (go_simp; rfl)); simp only [Act.put, List.setIfInBounds_toArray, List.set_cons_zero, List.set_cons_succ])
                refine wpQuiet_nil ?_; intro W hF1; have HC1 := hF1.cells; simp only [Fr.Cells, List.length_cons, List.length_nil, Nat.reduceAdd, and_true] at HC1; clear hF HC; have HC := HC1; have hF := Aside0.mk hF1; clear hF1 HC1
                have HB6 := Aside0.mk hF.out.below
                clear hF HC
                go_wp2_with fail
                go_loopg [23, 24, 153] q (fun kq v23 v24 v153 w' => ∃ r a b : Nat, v153 = .int .i64 r ∧ v23 = .int .i64 a ∧ v24 = .int .i64 b ∧ r ≤ q ∧ a ≤ r ∧ b ≤ r ∧ q - r ≤ kq ∧ Aside0 (a = cnt ⟨x0, x1⟩ (X.take r)) ∧ Aside0 (b = cnt ⟨x0, x1⟩ (O.take r)) ∧ Aside0 (Below w5.heap.size w5 w'))
                case atStart => exact ⟨0, 0, 0, rfl, rfl, rfl, by omega, by omega, by omega, by omega, ⟨by simp [cnt]⟩, ⟨by simp [cnt]⟩, HB6⟩
                case round =>
                  clear HB6
                  obtain ⟨r, a, b, rfl, rfl, rfl, hr, har, hbr, hk3, HCA, HCB, HB7⟩ := hrel
                  by_cases hltr : r < q
                  · have hltri : (r : Int) < (q : Int) := by omega
                    have hB8 := below_then HB5.out HB5.out.size HB7.out
                    obtain ⟨ads, es, s0, s1⟩ := at_T32 HS4.out (r : Int) (by omega) hltri
                    cases es
                    obtain ⟨ady, ey, y0c, y1c⟩ := at_T32 HO0.out (r : Int) (by omega) hltri
                    cases ey
                    rw [Int.toNat_natCast, show rd_T32 X (r : Int) = X.getD r z32 by simp [rd_T32]] at s0 s1
                    rw [Int.toNat_natCast, show rd_T32 O (r : Int) = O.getD r z32 by simp [rd_T32]] at y0c y1c
                    replace s0 := (hB8.cell (World.block_lt_of_cell? _ _ s0)).trans s0
                    replace s1 := (hB8.cell (World.block_lt_of_cell? _ _ s1)).trans s1
                    replace y0c := (hB8.cell (World.block_lt_of_cell? _ _ y0c)).trans y0c
                    replace y1c := (hB8.cell (World.block_lt_of_cell? _ _ y1c)).trans y1c
                    have x0c := (HB7.out.cell (World.block_lt_of_cell? _ _ X0.out)).trans X0.out
                    have x1c := (HB7.out.cell (World.block_lt_of_cell? _ _ X1.out)).trans X1.out
                    have g8c := (HB7.out.cell (World.block_lt_of_cell? _ _ G85.out)).trans G85.out
                    obtain ⟨s, hs⟩ : ∃ s, X.getD r z32 = s := ⟨_, rfl⟩
                    obtain ⟨y, hy⟩ : ∃ y, O.getD r z32 = y := ⟨_, rfl⟩
                    rw [hs] at s0 s1
                    rw [hy] at y0c y1c
                    obtain ⟨t0, t1⟩ := s
                    obtain ⟨y0, y1⟩ := y
                    dsimp only at s0 s1 y0c y1c
                    obtain ⟨e1, he1⟩ : ∃ e, (t0 == x0 && t1 == x1) = e := ⟨_, rfl⟩
                    obtain ⟨e2, he2⟩ : ∃ e, (y0 == x0 && y1 == x1) = e := ⟨_, rfl⟩
                    have HSA := Aside0.mk (cnt_step x0 x1 t0 t1 X r (by rw [HLS.out]; exact hltr) hs e1 he1)
                    have HSB2 := Aside0.mk (cnt_step x0 x1 y0 y1 O r (by rw [HOL.out]; exact hltr) hy e2 he2)
                    have HE1 := Aside0.mk he1
                    have HE2 := Aside0.mk he2
                    have Y0 := Aside0.mk y0c
                    have Y1 := Aside0.mk y1c
                    have X7 := Aside0.mk x0c
                    have X8 := Aside0.mk x1c
                    have G87 := Aside0.mk g8c
                    have HB9 := HB7
                    clear hs hy he1 he2 hB8 y0c y1c g8c HB7
                    have hF := Aside0.mk (Fr.Frame.start wr)
                    have HC : True := trivial
                    cases e1 with
                    | false =>
                      have he1 := fun W => eql32_run t0 t1 x0 x1 false HE1.out W
                      go_wp2_with (first | ((with_reducible refine gate_dst (N := 26) rfl ?_); apply Fr.fr_box hF.out rfl; (case hrun => first | (go_simp; done) | (go_simp; rfl)); intro g26 W hF1; clear s0 s1; have HC1 := hF1.cells; simp only [Fr.Cells, List.length_cons, List.length_nil, Nat.reduceAdd, and_true] at HC1; clear hF HC; have HC := HC1; have hF := Aside0.mk hF1; clear hF1 HC1; clear x0c x1c; have x0c := (hF.out.below.cell (World.block_lt_of_cell? _ _ X7.out)).trans X7.out; have x1c := (hF.out.below.cell (World.block_lt_of_cell? _ _ X8.out)).trans X8.out) | (((with_reducible refine gate_store rfl ?_); apply Fr.fr_store hF.out rfl rfl rfl; (case hp => rfl); (case hx => first | (go_simp; rfl) | rfl); (case hu => (simp only [Value.cells]; rfl)); (case hs => (repeat (first | exact Fr.Spot.here _ _ | apply Fr.Spot.there))); (case ht => kernel_rfl); (case h1 => simp [Value.oneCell']); (case hfit => simp); intro W hF1; simp only [Fr.patch, List.take_zero, List.nil_append, List.drop, List.append_nil, List.take, List.cons_append, List.length_cons, List.length_nil, Nat.reduceAdd] at hF1; have HC1 := hF1.cells; simp only [Fr.Cells, List.length_cons, List.length_nil, Nat.reduceAdd, and_true] at HC1; clear hF HC; have HC := HC1; have hF := Aside0.mk hF1; clear hF1 HC1); clear x0c x1c; have x0c := (hF.out.below.cell (World.block_lt_of_cell? _ _ X7.out)).trans X7.out; have x1c := (hF.out.below.cell (World.block_lt_of_cell? _ _ X8.out)).trans X8.out))
                      clear x0c x1c
                      have Y09 := Aside0.mk ((hF.out.below.cell (World.block_lt_of_cell? _ _ Y0.out)).trans Y0.out)
                      clear Y0
                      have Y0 := Y09
                      clear Y09
                      have Y19 := Aside0.mk ((hF.out.below.cell (World.block_lt_of_cell? _ _ Y1.out)).trans Y1.out)
                      clear Y1
                      have Y1 := Y19
                      clear Y19
                      have X79 := Aside0.mk ((hF.out.below.cell (World.block_lt_of_cell? _ _ X7.out)).trans X7.out)
                      clear X7
                      have X7 := X79
                      clear X79
                      have X89 := Aside0.mk ((hF.out.below.cell (World.block_lt_of_cell? _ _ X8.out)).trans X8.out)
                      clear X8
                      have X8 := X89
                      clear X89
                      have G879 := Aside0.mk ((hF.out.below.cell (World.block_lt_of_cell? _ _ G87.out)).trans G87.out)
                      clear G87
                      have G87 := G879
                      clear G879
                      have HB10 := Aside0.mk (below_then HB9.out HB9.out.size hF.out.below)
                      clear hF HC HB9
                      have hF := Aside0.mk (Fr.Frame.start W)
                      have HC : True := trivial
                      cases e2 with
                      | false =>
                        have he2 := fun W => eql32_run y0 y1 x0 x1 false HE2.out W
                        refine Fr.fr_region (by kernel_rfl) (by kernel_rfl) hF.out ?_
                        iterate 7 (apply Fr.fr_q_val; (case hw => first | rfl | (go_simp; done)); (case hv => intro W hF1; have q0 := (hF1.below.cell (World.block_lt_of_cell? _ _ Y0.out)).trans Y0.out; have q1 := (hF1.below.cell (World.block_lt_of_cell? _ _ Y1.out)).trans Y1.out; have q2 := (hF1.below.cell (World.block_lt_of_cell? _ _ X7.out)).trans X7.out; have q3 := (hF1.below.cell (World.block_lt_of_cell? _ _ X8.out)).trans X8.out; have q4 := (hF1.below.cell (World.block_lt_of_cell? _ _ G87.out)).trans G87.out; clear hF1; first | (go_simp; done) | (go_simp; rfl)); simp only [Act.put, List.setIfInBounds_toArray, List.set_cons_zero, List.set_cons_succ])
                        refine wpQuiet_nil ?_; intro W hF1; have HC1 := hF1.cells; simp only [Fr.Cells, List.length_cons, List.length_nil, Nat.reduceAdd, and_true] at HC1; clear hF HC; have HC := HC1; have hF := Aside0.mk hF1; clear hF1 HC1
                        have HB11 := Aside0.mk (below_then HB10.out HB10.out.size hF.out.below)
                        clear hF HC HB10
                        go_wp2_with fail
                        go_roundg (q - (r + 1))
                        case measure => omega
                        case rel => exact ⟨r + 1, a, b, rfl, by first | rfl | (congr 1; omega), by first | rfl | (congr 1; omega), by omega, by omega, by omega, by omega, ⟨by rw [HSA.out, ← HCA.out]; rfl⟩, ⟨by rw [HSB2.out, ← HCB.out]; rfl⟩, HB11⟩
                      | true =>
                        have he2 := fun W => eql32_run y0 y1 x0 x1 true HE2.out W
                        refine Fr.fr_region (by kernel_rfl) (by kernel_rfl) hF.out ?_
                        iterate 7 (apply Fr.fr_q_val; (case hw => first | rfl | (go_simp; done)); (case hv => intro W hF1; have q0 := (hF1.below.cell (World.block_lt_of_cell? _ _ Y0.out)).trans Y0.out; have q1 := (hF1.below.cell (World.block_lt_of_cell? _ _ Y1.out)).trans Y1.out; have q2 := (hF1.below.cell (World.block_lt_of_cell? _ _ X7.out)).trans X7.out; have q3 := (hF1.below.cell (World.block_lt_of_cell? _ _ X8.out)).trans X8.out; have q4 := (hF1.below.cell (World.block_lt_of_cell? _ _ G87.out)).trans G87.out; clear hF1; first | (go_simp; done) | (go_simp; rfl)); simp only [Act.put, List.setIfInBounds_toArray, List.set_cons_zero, List.set_cons_succ])
                        refine wpQuiet_nil ?_; intro W hF1; have HC1 := hF1.cells; simp only [Fr.Cells, List.length_cons, List.length_nil, Nat.reduceAdd, and_true] at HC1; clear hF HC; have HC := HC1; have hF := Aside0.mk hF1; clear hF1 HC1
                        have HB11 := Aside0.mk (below_then HB10.out HB10.out.size hF.out.below)
                        clear hF HC HB10
                        go_wp2_with fail
                        go_roundg (q - (r + 1))
                        case measure => omega
                        case rel => exact ⟨r + 1, a, b + 1, rfl, by first | rfl | (congr 1; omega), by first | rfl | (congr 1; omega), by omega, by omega, by omega, by omega, ⟨by rw [HSA.out, ← HCA.out]; rfl⟩, ⟨by rw [HSB2.out, ← HCB.out]; rfl⟩, HB11⟩
                    | true =>
                      have he1 := fun W => eql32_run t0 t1 x0 x1 true HE1.out W
                      go_wp2_with (first | ((with_reducible refine gate_dst (N := 26) rfl ?_); apply Fr.fr_box hF.out rfl; (case hrun => first | (go_simp; done) | (go_simp; rfl)); intro g26 W hF1; clear s0 s1; have HC1 := hF1.cells; simp only [Fr.Cells, List.length_cons, List.length_nil, Nat.reduceAdd, and_true] at HC1; clear hF HC; have HC := HC1; have hF := Aside0.mk hF1; clear hF1 HC1; clear x0c x1c; have x0c := (hF.out.below.cell (World.block_lt_of_cell? _ _ X7.out)).trans X7.out; have x1c := (hF.out.below.cell (World.block_lt_of_cell? _ _ X8.out)).trans X8.out) | (((with_reducible refine gate_store rfl ?_); apply Fr.fr_store hF.out rfl rfl rfl; (case hp => rfl); (case hx => first | (go_simp; rfl) | rfl); (case hu => (simp only [Value.cells]; rfl)); (case hs => (repeat (first | exact Fr.Spot.here _ _ | apply Fr.Spot.there))); (case ht => kernel_rfl); (case h1 => simp [Value.oneCell']); (case hfit => simp); intro W hF1; simp only [Fr.patch, List.take_zero, List.nil_append, List.drop, List.append_nil, List.take, List.cons_append, List.length_cons, List.length_nil, Nat.reduceAdd] at hF1; have HC1 := hF1.cells; simp only [Fr.Cells, List.length_cons, List.length_nil, Nat.reduceAdd, and_true] at HC1; clear hF HC; have HC := HC1; have hF := Aside0.mk hF1; clear hF1 HC1); clear x0c x1c; have x0c := (hF.out.below.cell (World.block_lt_of_cell? _ _ X7.out)).trans X7.out; have x1c := (hF.out.below.cell (World.block_lt_of_cell? _ _ X8.out)).trans X8.out))
                      clear x0c x1c
                      have Y09 := Aside0.mk ((hF.out.below.cell (World.block_lt_of_cell? _ _ Y0.out)).trans Y0.out)
                      clear Y0
                      have Y0 := Y09
                      clear Y09
                      have Y19 := Aside0.mk ((hF.out.below.cell (World.block_lt_of_cell? _ _ Y1.out)).trans Y1.out)
                      clear Y1
                      have Y1 := Y19
                      clear Y19
                      have X79 := Aside0.mk ((hF.out.below.cell (World.block_lt_of_cell? _ _ X7.out)).trans X7.out)
                      clear X7
                      have X7 := X79
                      clear X79
                      have X89 := Aside0.mk ((hF.out.below.cell (World.block_lt_of_cell? _ _ X8.out)).trans X8.out)
                      clear X8
                      have X8 := X89
                      clear X89
                      have G879 := Aside0.mk ((hF.out.below.cell (World.block_lt_of_cell? _ _ G87.out)).trans G87.out)
                      clear G87
                      have G87 := G879
                      clear G879
                      have HB10 := Aside0.mk (below_then HB9.out HB9.out.size hF.out.below)
                      clear hF HC HB9
                      have hF := Aside0.mk (Fr.Frame.start W)
                      have HC : True := trivial
                      cases e2 with
                      | false =>
                        have he2 := fun W => eql32_run y0 y1 x0 x1 false HE2.out W
                        refine Fr.fr_region (by kernel_rfl) (by kernel_rfl) hF.out ?_
                        iterate 7 (apply Fr.fr_q_val; (case hw => first | rfl | (go_simp; done)); (case hv => intro W hF1; have q0 := (hF1.below.cell (World.block_lt_of_cell? _ _ Y0.out)).trans Y0.out; have q1 := (hF1.below.cell (World.block_lt_of_cell? _ _ Y1.out)).trans Y1.out; have q2 := (hF1.below.cell (World.block_lt_of_cell? _ _ X7.out)).trans X7.out; have q3 := (hF1.below.cell (World.block_lt_of_cell? _ _ X8.out)).trans X8.out; have q4 := (hF1.below.cell (World.block_lt_of_cell? _ _ G87.out)).trans G87.out; clear hF1; first | (go_simp; done) | (go_simp; rfl)); simp only [Act.put, List.setIfInBounds_toArray, List.set_cons_zero, List.set_cons_succ])
                        refine wpQuiet_nil ?_; intro W hF1; have HC1 := hF1.cells; simp only [Fr.Cells, List.length_cons, List.length_nil, Nat.reduceAdd, and_true] at HC1; clear hF HC; have HC := HC1; have hF := Aside0.mk hF1; clear hF1 HC1
                        have HB11 := Aside0.mk (below_then HB10.out HB10.out.size hF.out.below)
                        clear hF HC HB10
                        go_wp2_with fail
                        go_roundg (q - (r + 1))
                        case measure => omega
                        case rel => exact ⟨r + 1, a + 1, b, rfl, by first | rfl | (congr 1; omega), by first | rfl | (congr 1; omega), by omega, by omega, by omega, by omega, ⟨by rw [HSA.out, ← HCA.out]; rfl⟩, ⟨by rw [HSB2.out, ← HCB.out]; rfl⟩, HB11⟩
                      | true =>
                        have he2 := fun W => eql32_run y0 y1 x0 x1 true HE2.out W
                        refine Fr.fr_region (by kernel_rfl) (by kernel_rfl) hF.out ?_
                        iterate 7 (apply Fr.fr_q_val; (case hw => first | rfl | (go_simp; done)); (case hv => intro W hF1; have q0 := (hF1.below.cell (World.block_lt_of_cell? _ _ Y0.out)).trans Y0.out; have q1 := (hF1.below.cell (World.block_lt_of_cell? _ _ Y1.out)).trans Y1.out; have q2 := (hF1.below.cell (World.block_lt_of_cell? _ _ X7.out)).trans X7.out; have q3 := (hF1.below.cell (World.block_lt_of_cell? _ _ X8.out)).trans X8.out; have q4 := (hF1.below.cell (World.block_lt_of_cell? _ _ G87.out)).trans G87.out; clear hF1; first | (go_simp; done) | (go_simp; rfl)); simp only [Act.put, List.setIfInBounds_toArray, List.set_cons_zero, List.set_cons_succ])
                        refine wpQuiet_nil ?_; intro W hF1; have HC1 := hF1.cells; simp only [Fr.Cells, List.length_cons, List.length_nil, Nat.reduceAdd, and_true] at HC1; clear hF HC; have HC := HC1; have hF := Aside0.mk hF1; clear hF1 HC1
                        have HB11 := Aside0.mk (below_then HB10.out HB10.out.size hF.out.below)
                        clear hF HC HB10
                        go_wp2_with fail
                        go_roundg (q - (r + 1))
                        case measure => omega
                        case rel => exact ⟨r + 1, a + 1, b + 1, rfl, by first | rfl | (congr 1; omega), by first | rfl | (congr 1; omega), by omega, by omega, by omega, by omega, ⟨by rw [HSA.out, ← HCA.out]; rfl⟩, ⟨by rw [HSB2.out, ← HCB.out]; rfl⟩, HB11⟩
                  · have hrq : r = q := by omega
                    subst hrq
                    have hab : a = b := by rw [HCA.out, HCB.out, List.take_of_length_le (by rw [HLS.out]; exact Nat.le_refl _), List.take_of_length_le (by rw [HOL.out]; exact Nat.le_refl _)]; exact (HCP.out _).symm
                    subst hab
                    go_wp2_with fail
                    go_roundg (r - ((p + 1) + 1))
                    case measure => omega
                    case rel => exact ⟨(p + 1) + 1, by first | rfl | (congr 1; omega), by omega, by omega, ⟨below_then HB5.out HB5.out.size HB7.out⟩⟩
            · have hiq : i = q := by omega
              subst hiq
              have c80 := (HB.out.cell (World.block_lt_of_cell? _ _ G80.out)).trans G80.out
              have c81 := (HB.out.cell (World.block_lt_of_cell? _ _ G81.out)).trans G81.out
              go_wp2_with fail
              (with_reducible refine (alive8_calls _).mono ?_)
              rintro e W ⟨rfl, hb⟩
              replace c80 := (hb.cell (World.block_lt_of_cell? _ _ c80)).trans c80
              replace c81 := (hb.cell (World.block_lt_of_cell? _ _ c81)).trans c81
              have HB8 := Aside0.mk (below_then HB.out HB.out.size hb)
              clear hb
              go_wp2_with fail
              (with_reducible refine (same9_calls A0 c0 A1 c1 O _ i HOL.out (Kd.C_below HO0.out HB8.out) HC0.out (Kd.C_below HO1.out HB8.out) HC1c.out (by omega)).mono ?_)
              rintro e W ⟨rfl, hb⟩
              have HB9 := Aside0.mk (below_then HB8.out HB8.out.size hb)
              clear hb
              go_wp2_with fail
              go_ret
              exact ⟨rfl, below_then HB4.out HB4.out.size HB9.out⟩
end Go.Proofs.Ytlkaebnigmfphaa.G
