/- Contracts of functions of the given program, each proved by a walk of its code: written by gprint.py, this session's program round the kit's print; texts of our own stand among the printed ones. No condition beyond each theorem's own premises. -/
import Derived.Test.YtkkopknlhijgiaaG0
namespace Go.Proofs.Ytkkopknlhijgiaa.G
open Go.RowKit Go.Proofs.YtkkopknlhijgiaaW.PrintWords Go.Proofs.YtkkopknlhijgiaaW.PrintLast Go.Proofs.YtkkopknlhijgiaaW.PrintMore
attribute [local go_sem] max2_int min2_int max_two min_two max_three min_three max_four min_four   -- for this text's walks alone
set_option linter.unusedVariables false
set_option linter.unusedSimpArgs false

/-! ### watch_neighbours: function 66 -/
attribute [local go_sem] Oper.semAt_some
open Go.Shelf
def encS (x : S51) : Value := .agg #[.int .i64 x.f0, .int .i64 x.f1, .string x.f2, .bool x.f3]
abbrev encNb (l : List S51) (i : Nat) : Array Value := #[.agg #[.int .i64 (rd_T51 l i).f0, .int .i64 (rd_T51 l i).f1, .string (rd_T51 l i).f2, .bool (rd_T51 l i).f3], .agg #[.int .i64 (rd_T51 l (i + 1)).f0, .int .i64 (rd_T51 l (i + 1)).f1, .string (rd_T51 l (i + 1)).f2, .bool (rd_T51 l (i + 1)).f3]]
def RoundB (J Jx : List Nat → World → Prop) (i n₀ : Nat) (A : World) (b : Bool) (W' : World) : Prop := (b = true ∧ J (List.range i ++ [i]) W' ∧ Below n₀ A W') ∨ (b = false ∧ Jx (List.range i ++ [i]) W')
set_option maxHeartbeats 1000000 in
theorem nb_stops (n : Nat) (hn : 1 ≤ n) (Bs : Nat) (A : Option Addr) (c : Nat) (l : List S51) (hlen : l.length * 40 ≤ 140737488351232) (w : World) (hlt : Bs < w.heap.size)
    (hb : w.cell? ⟨Bs, 0, none⟩ = some (.slice A l.length c)) (hr : Kd.C k51 w A l.length l) :
    SeqStopsK Fence.wide n Try.prog 75 #[.pointer (some ⟨Bs, 0, none⟩)] (encNb l) (Below w.heap.size) (fun xs => xs = List.range (l.length - 1)) (fun pre => ∃ m, 1 ≤ m ∧ m ≤ l.length - 1 ∧ pre = List.range m) (l.length - 1) w := fun lp J Jx W hW hJ hJx hY h0 => by
  have HB := Aside0.mk hb
  have HR := Aside0.mk hr
  have HW := Aside0.mk hW
  have HY := Aside0.mk hY
  have HJ := Aside0.mk @hJ
  clear hb hr hW hY hJ hJx
  refine callsIn_of_wp Try.func75 rfl trivial ?_ rfl
  simp only [Try.ntmps75, List.size_toArray, List.length_cons, List.length_nil, Nat.reduceAdd, Nat.reduceSub, Array.replicate_succ, Array.replicate_zero, List.push_toArray, List.append_toArray, List.nil_append, List.cons_append]
  gi_wp2
  gi_loopw [3] (fun s3 wr => ∃ i : Nat, (i = 0 ∨ i < l.length) ∧ s3 = .int .i64 (i + 1) ∧ J (List.range i) wr ∧ Below w.heap.size W wr) (fun s3 _ => l.length - (intOf s3).toNat)
  case atStart => exact ⟨0, .inl rfl, rfl, h0, Below.refl _ _⟩
  case round =>
    obtain ⟨i, hi, rfl, hJs, hB⟩ := hrel
    have hBw : Below w.heap.size w wr := HW.out.trans hB
    have c1 : wr.cell? ⟨Bs, 0, none⟩ = some (.slice A l.length c) := (hBw.cell (p := ⟨Bs, 0, none⟩) hlt).trans HB.out
    have hR := Kd.C_below HR.out hBw
    by_cases hlt2 : i + 1 < l.length
    · obtain ⟨ad, e1, a0, a1, a2, a3⟩ := at_T51 hR i (by omega) (by omega)
      obtain ⟨ad', e2, b0, b1, b2, b3⟩ := at_T51 hR (i + 1 : Int) (by omega) (by omega)
      subst e1
      injection e2 with e2
      subst e2
      have HRx := Aside0.mk hR
      clear hR
      have hJd : J (List.range i) wr.drew := HJ.out _ _ _ none hJs ⟨rfl, rfl, rfl, Nat.le_refl _, fun _ _ _ => rfl⟩ (fun r e => by cases e)
      obtain ⟨fn, tmps, assign, body, hy, hRd⟩ := HY.out (List.range i) i wr.drew hJd (by simp; omega)
      have hRb := hRd.mono (fun e W' h => (show ∃ b : Bool, e = .returned (.bool b) ∧ RoundB J Jx i w.heap.size wr.drew b W' from by
        rcases h with ⟨h1, h2, h3⟩ | ⟨h1, h2⟩
        · exact ⟨true, h1, .inl ⟨rfl, h2, h3⟩⟩
        · exact ⟨false, h1, .inr ⟨rfl, h2⟩⟩))
      clear hRd
      dsimp only [encNb] at hy
      gi_wp2
      have hmo : Try.prog.follows .mixedOrders = true := by kernel_rfl
      simp only [Int.toNat_natCast, Int.toNat_natCast_add_one] at a0 a1 a2 a3 b0 b1 b2 b3
      have g0 : (0 : Int) ≤ i := by omega
      have g1 : (i : Int) < l.length := by omega
      have g2 : (i : Int) + 1 < l.length := by omega
      have g3 : IntKind.i64.wrap (i : Int) = i := by rw [IntKind.wrap_i64]; omega
      gi_region_with_o (refine hRb.mono ?_; rintro e W3 ⟨b, rfl, hb3⟩)
      all_goals
        cases b with
        | true =>
          have h3 : J (List.range i ++ [i]) W3 ∧ Below w.heap.size wr.drew W3 := by
            rcases hb3 with ⟨_, h2, h3⟩ | ⟨h2, _⟩
            · exact ⟨h2, h3⟩
            · cases h2
          obtain ⟨h3, h4⟩ := h3
          have h5 : Below w.heap.size W W3 := hB.drew.trans h4
          clear hb3
          gi_wp2
          go_roundw
          case rel => exact ⟨i + 1, .inr (by omega), by go_num, by rw [List.range_succ]; exact h3, h5⟩
          case measure => simp [intOf]; omega
        | false =>
          have h3 : Jx (List.range i ++ [i]) W3 := by
            rcases hb3 with ⟨h2, _⟩ | ⟨_, h2⟩
            · cases h2
            · exact h2
          clear hb3
          gi_wp2
          refine bodyPost_ret (results_none rfl _ _ _) rfl ?_
          exact ⟨⟨_, rfl⟩, .inr ⟨_, ⟨i + 1, by omega, by omega, rfl⟩, by rw [List.range_succ]; exact h3⟩⟩
    · clear hR
      have g0 : (l.length : Int) ≤ i + 1 := by omega
      gi_wp2
      go_end0
      exact ⟨⟨_, rfl⟩, .inl ⟨_, by congr 1; omega, hJs⟩⟩


end Go.Proofs.Ytkkopknlhijgiaa.G
