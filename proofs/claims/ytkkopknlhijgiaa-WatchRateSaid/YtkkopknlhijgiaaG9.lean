/- Contracts of functions of the given program, each proved by a walk of its code: written by gprint.py, this session's program round the kit's print; texts of our own stand among the printed ones. No condition beyond each theorem's own premises. -/
import Derived.Test.YtkkopknlhijgiaaG0
import Derived.Test.YtkkopknlhijgiaaG5
import Derived.Test.YtkkopknlhijgiaaG6
import Derived.Test.YtkkopknlhijgiaaG8
namespace Go.Proofs.Ytkkopknlhijgiaa.G
open Go.RowKit Go.Proofs.YtkkopknlhijgiaaW.PrintWords Go.Proofs.YtkkopknlhijgiaaW.PrintLast Go.Proofs.YtkkopknlhijgiaaW.PrintMore
attribute [local go_sem] max2_int min2_int max_two min_two max_three min_three max_four min_four   -- for this text's walks alone
set_option linter.unusedVariables false
set_option linter.unusedSimpArgs false

/-! ### foghornlaw23_WatchRate: function 9 -/
-- GIVEN OWN
attribute [local go_sem] Oper.semAt_some
abbrev wrS (x r : Int) : S51 := ⟨x, r, ⟨#[]⟩, false⟩
def wrL (x : Int) : Nat → List S51
  | 0 => []
  | n + 1 => wrL x n ++ [wrS x 1, wrS x 0]
theorem wrL_length (x : Int) : ∀ n, (wrL x n).length = 2 * n
  | 0 => rfl
  | n + 1 => by simp [wrL, wrL_length x n]; omega
abbrev wrC (x r : Int) : List Value := [.int .i64 x, .int .i64 r, .string ⟨#[]⟩, .bool false]
theorem wr_reps1 (x r : Int) (base : Nat) (w : World) (ok : Nat → Prop) : Reps (k51.M w base ok) k51.sz [wrS x r] (wrC x r) := by
  have := (Reps.none (k51.M w base ok) k51.sz).snoc (k51_mkM w base ok (wrS x r)) rfl
  simpa using this
theorem wr_reps2 (x r q : Int) (base : Nat) (w : World) (ok : Nat → Prop) : Reps (k51.M w base ok) k51.sz [wrS x r, wrS x q] (wrC x r ++ wrC x q) := by
  have := (wr_reps1 x r base w ok).snoc (k51_mkM w base ok (wrS x q)) rfl
  simpa using this
theorem wr_rowC {w0 w : World} {bs : List Fr.Blk} {rs : List Fr.Row} {b c : Nat} {A : Option Addr} {xs : List S51} {S : Nat → Prop} (hF : Fr.Frame w0 w bs (Fr.rowR k51 51 b (.slice A xs.length c) xs S :: rs)) : Kd.C k51 w A xs.length xs := by
  have h : Kd.R k51 51 w b S (.slice A xs.length c) xs := hF.rowAt List.mem_cons_self
  exact (Kd.R_reads' h).2.2
theorem wr_rowV {w0 w : World} {bs : List Fr.Blk} {rs : List Fr.Row} {b : Nat} {v : Value} {xs : List S51} {S : Nat → Prop} (hF : Fr.Frame w0 w bs (Fr.rowR k51 51 b v xs S :: rs)) : ∃ A c, v = .slice A xs.length c ∧ xs.length ≤ c := by
  have h : Kd.R k51 51 w b S v xs := hF.rowAt List.mem_cons_self
  obtain ⟨A, c, h1, h2, _⟩ := Kd.R_reads h
  exact ⟨A, c, h1, h2⟩
set_option maxHeartbeats 4000000 in
set_option maxRecDepth 100000 in
theorem wr_walk (a0 a1 a2 a3 a4 : Int) (w : World) (x burst every more : Int) (N : Nat) (hN : N ≤ 1000)
    (e0 : wrap64 (Int.tmod (IntKind.u64.wrap a0) 100000) = x) (e1 : wrap64 (1 + Int.tmod (wrap64 (Int.tmod a1 20 + 20)) 20) = N) (e2 : Int.tmod (wrap64 (Int.tmod a2 12 + 12)) 12 = burst) (e3 : wrap64 (1 + Int.tmod (wrap64 (Int.tmod a3 30 + 30)) 30) = every) (e4 : Int.tmod (wrap64 (Int.tmod a4 12 + 12)) 12 = more)
    (L2 L3 : List S51) (hL2 : wrL x N ++ [wrS (wrap64 (x + every)) 1] = L2) (hL3 : wrL x N ++ [wrS (wrap64 (wrap64 (x + every) - 1)) 1] = L3)
    (h1 : watch_Rate.f (wrL x N) 1 burst every more = some (decide ((N : Int) ≤ wrap64 (burst + more)), 0))
    (h2 : watch_Rate.f L2 1 burst every more = some (decide ((N : Int) ≤ wrap64 (burst + more)), 0))
    (h2' : (N : Int) ≤ wrap64 (burst + more) → 1 ≤ wrap64 (burst + more))
    (h3 : watch_Rate.f L3 1 N every 0 = some (false, 0))
    (h4 : watch_Rate.f (wrL x N) 2 0 every 0 = some (true, 0))
    (h5 : watch_Twice.f (wrL x N) = some (2 * (N : Int) - 1, 0)) (h6 : foghornlaw23_alive.f = some true) :
    Calls Try.prog 9 #[.int .i64 a0, .int .i64 a1, .int .i64 a2, .int .i64 a3, .int .i64 a4] w fun e w' => e = .returned (.bool true) ∧ Below w.heap.size w w' := by
  have HE := Aside0.mk (And.intro e0 (And.intro e1 (And.intro e2 (And.intro e3 e4))))
  have H1 := Aside0.mk h1
  have HL2 := Aside0.mk hL2
  have HL3 := Aside0.mk hL3
  have H2 := Aside0.mk h2
  have H2' := Aside0.mk h2'
  have H3 := Aside0.mk h3
  have H4 := Aside0.mk h4
  have H5 := Aside0.mk h5
  have H6 := Aside0.mk h6
  clear e0 e1 e2 e3 e4 hL2 hL3 h1 h2 h2' h3 h4 h5 h6
  have hF := Aside0.mk (Fr.Frame.start w)
  go_enter Try.func9, Try.ntmps9
  go_wp2
  simp only [HE.out.1, HE.out.2.1, HE.out.2.2.1, HE.out.2.2.2.1, HE.out.2.2.2.2]
  go_loopg [11, 46] N (fun kq v11 v46 w' => ∃ k : Nat, k ≤ N ∧ N - k ≤ kq ∧ v46 = .int .i64 k ∧ Aside0 (∃ S, Fr.Frame w w' [] [Fr.rowR k51 51 w.heap.size v11 (wrL x k) S]))
  case atStart => exact ⟨0, Nat.zero_le _, by omega, rfl, ⟨(Fr.Frame.start w).rowIn (Kd.R_nil k51 51 w w.heap.size (fun _ => True)) (fun k _ b hb => by simp at hb)⟩⟩
  case round =>
    obtain ⟨k, hk, hg, rfl, HF⟩ := hrel
    obtain ⟨S, hF0⟩ := HF.out
    clear hF
    have hF := Aside0.mk hF0
    clear HF hF0
    by_cases hlt : k < N
    · have hlti : (k : Int) < (N : Int) := by omega
      have HL := Aside0.mk (show ((wrL x k).length + 2) * 40 ≤ 140737488355328 by rw [wrL_length]; omega)
      go_wp2_with (first | ((with_reducible refine gate_builtin (b := .append) (xs := #[.tmp 48, .tmp 53]) rfl ?_); refine Fr.fr_appends k51 (.tmp 48) (.tmp 53) 49 51 (.agg #[(.int .i64 0), (.int .i64 0), (.string ⟨#[]⟩), (.bool false)]) 40 [wrS x 1, wrS x 0] [.int .i64 (x), .int .i64 1, .string ⟨#[]⟩, .bool false, .int .i64 (x), .int .i64 0, .string ⟨#[]⟩, .bool false] 2 hF.out ?hgd ?ho ?ht ?hinfo ?hz ?hs0 ?hb0 ?hs ?hx ?hps ?hone ?hm ?hl ?h; (case hgd => rfl); (case ho => rfl); (case ht => exact Try.underlying49); (case hinfo => exact info51); (case hz => rfl); (case hs0 => decide); (case hb0 => omega); (case hs => rfl); (case hx => first | (go_simp; done) | (go_simp; rfl)); (case hps => exact fun w ok => wr_reps2 x 1 0 _ w ok); (case hone => simp [Value.oneCell']); (case hm => rfl); (case hl => exact HL.out); intro v1 W2 S1 S2 hF1; have hF2 := hF1.head; clear hF hF1; have hF := Aside0.mk hF2; clear hF2))
      go_roundg (N - (k + 1))
      case measure => omega
      case rel => exact ⟨k + 1, by omega, by omega, by go_num, ⟨⟨S1, by rw [wrL]; exact hF.out⟩⟩⟩
    · have hks : k = N := by omega
      subst hks
      have hlti : ¬ (k : Int) < (k : Int) := by omega
      obtain ⟨A1, c1, rfl, hc1⟩ := wr_rowV hF.out
      have Hc1 := Aside0.mk hc1
      clear hc1
      have HL := Aside0.mk (show ((wrL x k).length + 1) * 40 ≤ 140737488355328 by rw [wrL_length]; omega)
      by_cases hfit : (k : Int) ≤ wrap64 (burst + more)
      · have hone := H2'.out hfit
        rw [decide_eq_true hfit] at H1 H2
        go_wp2_with (first | (go_at_call 36; with_reducible refine (watch_Rate.calls A1 c1 (wrL x k) 1 burst every more true 0 _ (wr_rowC hF.out) Hc1.out H1.out).mono ?_; rintro e W1 ⟨rfl, hb⟩; have hF1 := (hF.out.call hb); clear hb hF; have hF := Aside0.mk hF1; clear hF1) | ((with_reducible refine gate_builtin (b := .append) (xs := #[.tmp 65, .tmp 70]) rfl ?_); refine Fr.fr_appends k51 (.tmp 65) (.tmp 70) 49 51 (.agg #[(.int .i64 0), (.int .i64 0), (.string ⟨#[]⟩), (.bool false)]) 40 [wrS (wrap64 (x + every)) 1] [.int .i64 (wrap64 (x + every)), .int .i64 1, .string ⟨#[]⟩, .bool false] 1 hF.out ?hgd ?ho ?ht ?hinfo ?hz ?hs0 ?hb0 ?hs ?hx ?hps ?hone ?hm ?hl ?h; (case hgd => rfl); (case ho => rfl); (case ht => exact Try.underlying49); (case hinfo => exact info51); (case hz => rfl); (case hs0 => decide); (case hb0 => omega); (case hs => rfl); (case hx => first | (go_simp; done) | (go_simp; rfl)); (case hps => exact fun w ok => wr_reps1 (wrap64 (x + every)) 1 _ w ok); (case hone => simp [Value.oneCell']); (case hm => rfl); (case hl => exact HL.out); intro v1 W2 S1 S2 hF1; rw [HL2.out] at hF1; obtain ⟨A2, c2, rfl, hc2⟩ := wr_rowV hF1; have HC2 := Aside0.mk hc2; clear hc2; clear hF; have hF := Aside0.mk hF1; clear hF1) | (go_at_call 36; with_reducible refine (watch_Rate.calls A2 c2 L2 1 burst every more true 0 _ (wr_rowC hF.out) HC2.out H2.out).mono ?_; rintro e W1 ⟨rfl, hb⟩; have hF1 := (hF.out.call hb).tail; clear hb hF; have hF := Aside0.mk hF1; clear hF1) | ((with_reducible refine gate_builtin (b := .append) (xs := #[.tmp 79, .tmp 85]) rfl ?_); refine Fr.fr_appends k51 (.tmp 79) (.tmp 85) 49 51 (.agg #[(.int .i64 0), (.int .i64 0), (.string ⟨#[]⟩), (.bool false)]) 40 [wrS (wrap64 (wrap64 (x + every) - 1)) 1] [.int .i64 (wrap64 (wrap64 (x + every) - 1)), .int .i64 1, .string ⟨#[]⟩, .bool false] 1 hF.out ?hgd ?ho ?ht ?hinfo ?hz ?hs0 ?hb0 ?hs ?hx ?hps ?hone ?hm ?hl ?h; (case hgd => rfl); (case ho => rfl); (case ht => exact Try.underlying49); (case hinfo => exact info51); (case hz => rfl); (case hs0 => decide); (case hb0 => omega); (case hs => rfl); (case hx => first | (go_simp; done) | (go_simp; rfl)); (case hps => exact fun w ok => wr_reps1 (wrap64 (wrap64 (x + every) - 1)) 1 _ w ok); (case hone => simp [Value.oneCell']); (case hm => rfl); (case hl => exact HL.out); intro v1 W2 S1 S2 hF1; rw [HL3.out] at hF1; obtain ⟨A2, c2, rfl, hc2⟩ := wr_rowV hF1; have HC2 := Aside0.mk hc2; clear hc2; clear hF; have hF := Aside0.mk hF1; clear hF1) | (go_at_call 36; with_reducible refine (watch_Rate.calls A2 c2 L3 1 k every 0 false 0 _ (wr_rowC hF.out) HC2.out H3.out).mono ?_; rintro e W1 ⟨rfl, hb⟩; have hF1 := (hF.out.call hb).tail; clear hb hF; have hF := Aside0.mk hF1; clear hF1) | (go_at_call 36; with_reducible refine (watch_Rate.calls A1 c1 (wrL x k) 2 0 every 0 true 0 _ (wr_rowC hF.out) Hc1.out H4.out).mono ?_; rintro e W1 ⟨rfl, hb⟩; have hF1 := (hF.out.call hb); clear hb hF; have hF := Aside0.mk hF1; clear hF1) | (go_at_call 37; refine (watch_Twice.calls A1 c1 (wrL x k) (2 * (k : Int) - 1) 0 _ (wr_rowC hF.out) Hc1.out H5.out).mono ?_; rintro e W1 ⟨rfl, hb⟩; have hF1 := (hF.out.call hb); clear hb hF; have hF := Aside0.mk hF1; clear hF1) | (go_at_call 35; refine (foghornlaw23_alive.calls true _ H6.out).mono ?_; rintro e W1 ⟨rfl, hb⟩; have hF1 := (hF.out.call hb); clear hb hF; have hF := Aside0.mk hF1; clear hF1))
        go_ret
        exact ⟨rfl, hF.out.below⟩
      · rw [decide_eq_false hfit] at H1 H2
        go_wp2_with (first | (go_at_call 36; with_reducible refine (watch_Rate.calls A1 c1 (wrL x k) 1 burst every more false 0 _ (wr_rowC hF.out) Hc1.out H1.out).mono ?_; rintro e W1 ⟨rfl, hb⟩; have hF1 := (hF.out.call hb); clear hb hF; have hF := Aside0.mk hF1; clear hF1) | ((with_reducible refine gate_builtin (b := .append) (xs := #[.tmp 65, .tmp 70]) rfl ?_); refine Fr.fr_appends k51 (.tmp 65) (.tmp 70) 49 51 (.agg #[(.int .i64 0), (.int .i64 0), (.string ⟨#[]⟩), (.bool false)]) 40 [wrS (wrap64 (x + every)) 1] [.int .i64 (wrap64 (x + every)), .int .i64 1, .string ⟨#[]⟩, .bool false] 1 hF.out ?hgd ?ho ?ht ?hinfo ?hz ?hs0 ?hb0 ?hs ?hx ?hps ?hone ?hm ?hl ?h; (case hgd => rfl); (case ho => rfl); (case ht => exact Try.underlying49); (case hinfo => exact info51); (case hz => rfl); (case hs0 => decide); (case hb0 => omega); (case hs => rfl); (case hx => first | (go_simp; done) | (go_simp; rfl)); (case hps => exact fun w ok => wr_reps1 (wrap64 (x + every)) 1 _ w ok); (case hone => simp [Value.oneCell']); (case hm => rfl); (case hl => exact HL.out); intro v1 W2 S1 S2 hF1; rw [HL2.out] at hF1; obtain ⟨A2, c2, rfl, hc2⟩ := wr_rowV hF1; have HC2 := Aside0.mk hc2; clear hc2; clear hF; have hF := Aside0.mk hF1; clear hF1) | (go_at_call 36; with_reducible refine (watch_Rate.calls A2 c2 L2 1 burst every more false 0 _ (wr_rowC hF.out) HC2.out H2.out).mono ?_; rintro e W1 ⟨rfl, hb⟩; have hF1 := (hF.out.call hb).tail; clear hb hF; have hF := Aside0.mk hF1; clear hF1) | ((with_reducible refine gate_builtin (b := .append) (xs := #[.tmp 79, .tmp 85]) rfl ?_); refine Fr.fr_appends k51 (.tmp 79) (.tmp 85) 49 51 (.agg #[(.int .i64 0), (.int .i64 0), (.string ⟨#[]⟩), (.bool false)]) 40 [wrS (wrap64 (wrap64 (x + every) - 1)) 1] [.int .i64 (wrap64 (wrap64 (x + every) - 1)), .int .i64 1, .string ⟨#[]⟩, .bool false] 1 hF.out ?hgd ?ho ?ht ?hinfo ?hz ?hs0 ?hb0 ?hs ?hx ?hps ?hone ?hm ?hl ?h; (case hgd => rfl); (case ho => rfl); (case ht => exact Try.underlying49); (case hinfo => exact info51); (case hz => rfl); (case hs0 => decide); (case hb0 => omega); (case hs => rfl); (case hx => first | (go_simp; done) | (go_simp; rfl)); (case hps => exact fun w ok => wr_reps1 (wrap64 (wrap64 (x + every) - 1)) 1 _ w ok); (case hone => simp [Value.oneCell']); (case hm => rfl); (case hl => exact HL.out); intro v1 W2 S1 S2 hF1; rw [HL3.out] at hF1; obtain ⟨A2, c2, rfl, hc2⟩ := wr_rowV hF1; have HC2 := Aside0.mk hc2; clear hc2; clear hF; have hF := Aside0.mk hF1; clear hF1) | (go_at_call 36; with_reducible refine (watch_Rate.calls A2 c2 L3 1 k every 0 false 0 _ (wr_rowC hF.out) HC2.out H3.out).mono ?_; rintro e W1 ⟨rfl, hb⟩; have hF1 := (hF.out.call hb).tail; clear hb hF; have hF := Aside0.mk hF1; clear hF1) | (go_at_call 36; with_reducible refine (watch_Rate.calls A1 c1 (wrL x k) 2 0 every 0 true 0 _ (wr_rowC hF.out) Hc1.out H4.out).mono ?_; rintro e W1 ⟨rfl, hb⟩; have hF1 := (hF.out.call hb); clear hb hF; have hF := Aside0.mk hF1; clear hF1) | (go_at_call 37; refine (watch_Twice.calls A1 c1 (wrL x k) (2 * (k : Int) - 1) 0 _ (wr_rowC hF.out) Hc1.out H5.out).mono ?_; rintro e W1 ⟨rfl, hb⟩; have hF1 := (hF.out.call hb); clear hb hF; have hF := Aside0.mk hF1; clear hF1) | (go_at_call 35; refine (foghornlaw23_alive.calls true _ H6.out).mono ?_; rintro e W1 ⟨rfl, hb⟩; have hF1 := (hF.out.call hb); clear hb hF; have hF := Aside0.mk hF1; clear hF1))
        go_ret
        exact ⟨rfl, hF.out.below⟩
/-- What the law's own walk leans on, said of its derived numbers. -/
def wrHolds (x many burst every more : Int) : Bool :=
  decide (0 ≤ many) && decide (many ≤ 1000) &&
  decide (watch_Rate.f (wrL x many.toNat) 1 burst every more = some (decide (many ≤ wrap64 (burst + more)), 0)) &&
  decide (watch_Rate.f (wrL x many.toNat ++ [wrS (wrap64 (x + every)) 1]) 1 burst every more = some (decide (many ≤ wrap64 (burst + more)), 0)) &&
  decide (many ≤ wrap64 (burst + more) → 1 ≤ wrap64 (burst + more)) &&
  decide (watch_Rate.f (wrL x many.toNat ++ [wrS (wrap64 (wrap64 (x + every) - 1)) 1]) 1 many every 0 = some (false, 0)) &&
  decide (watch_Rate.f (wrL x many.toNat) 2 0 every 0 = some (true, 0)) &&
  decide (watch_Twice.f (wrL x many.toNat) = some (2 * many - 1, 0)) && decide (foghornlaw23_alive.f = some true)
def foghornlaw23_WatchRate.f (a0 a1 a2 a3 a4 : Int) : Option Bool :=
  if wrHolds (wrap64 (Int.tmod (IntKind.u64.wrap a0) 100000)) (wrap64 (1 + Int.tmod (wrap64 (Int.tmod a1 20 + 20)) 20)) (Int.tmod (wrap64 (Int.tmod a2 12 + 12)) 12) (wrap64 (1 + Int.tmod (wrap64 (Int.tmod a3 30 + 30)) 30)) (Int.tmod (wrap64 (Int.tmod a4 12 + 12)) 12) = true then some true else none
theorem foghornlaw23_WatchRate.calls (a0 a1 a2 a3 a4 : Int) (r : Bool) (w : World) (h : foghornlaw23_WatchRate.f a0 a1 a2 a3 a4 = some r) :
    Calls Try.prog 9 #[.int .i64 a0, .int .i64 a1, .int .i64 a2, .int .i64 a3, .int .i64 a4] w fun e w' => e = .returned (.bool r) ∧ Below w.heap.size w w' := by
  unfold foghornlaw23_WatchRate.f at h
  by_cases hc : wrHolds (wrap64 (Int.tmod (IntKind.u64.wrap a0) 100000)) (wrap64 (1 + Int.tmod (wrap64 (Int.tmod a1 20 + 20)) 20)) (Int.tmod (wrap64 (Int.tmod a2 12 + 12)) 12) (wrap64 (1 + Int.tmod (wrap64 (Int.tmod a3 30 + 30)) 30)) (Int.tmod (wrap64 (Int.tmod a4 12 + 12)) 12) = true
  · rw [if_pos hc] at h
    obtain rfl := Option.some.inj h
    simp only [wrHolds, Bool.and_eq_true, decide_eq_true_eq] at hc
    obtain ⟨⟨⟨⟨⟨⟨⟨⟨h0, h1⟩, h2⟩, h3⟩, h4⟩, h5⟩, h6⟩, h7⟩, h8⟩ := hc
    have hn : (((wrap64 (1 + Int.tmod (wrap64 (Int.tmod a1 20 + 20)) 20)).toNat : Nat) : Int) = wrap64 (1 + Int.tmod (wrap64 (Int.tmod a1 20 + 20)) 20) := Int.toNat_of_nonneg h0
    exact wr_walk a0 a1 a2 a3 a4 w _ _ _ _ _ (by omega) rfl hn.symm rfl rfl rfl _ _ rfl rfl (by rw [hn]; exact h2) (by rw [hn]; exact h3) (by rw [hn]; exact h4) (by rw [hn]; exact h5) h6 (by rw [hn]; exact h7) h8
  · rw [if_neg hc] at h; cases h


end Go.Proofs.Ytkkopknlhijgiaa.G
