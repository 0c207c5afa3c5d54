/- Contracts of functions of the given program, each proved by a walk of its code: written by gprint.py, this session's program round the kit's print; texts of our own stand among the printed ones. No condition beyond each theorem's own premises. -/
import Derived.Test.YtkkopknlhijgiaaG0
import Derived.Test.YtkkopknlhijgiaaG2
import Derived.Test.YtkkopknlhijgiaaG3
import Derived.Test.YtkkopknlhijgiaaG4
namespace Go.Proofs.Ytkkopknlhijgiaa.G
open Go.RowKit Go.Proofs.YtkkopknlhijgiaaW.PrintWords Go.Proofs.YtkkopknlhijgiaaW.PrintLast Go.Proofs.YtkkopknlhijgiaaW.PrintMore
attribute [local go_sem] max2_int min2_int max_two min_two max_three min_three max_four min_four   -- for this text's walks alone
set_option linter.unusedVariables false
set_option linter.unusedSimpArgs false

/-! ### watch_Rate: function 36 -/
-- GIVEN OWN
attribute [local go_sem] Oper.semAt_some
open Go.Shelf
def rateP (who : Int) (x : S51) : Bool := x.f1 == who
theorem rate1 (who : Int) (B1 : Nat) (w : World) (h1 : w.cell? ⟨B1, 0, none⟩ = some (.int .i64 who)) : PredS 60 #[.pointer (some ⟨B1, 0, none⟩)] (rateP who) w := by
  intro x W hB
  have c1 := (hB.cell (World.block_lt_of_cell? w _ h1)).trans h1
  have k1 : ∀ o : Obj, (W.alloc o).cell? ⟨B1, 0, none⟩ = some (.int .i64 who) := fun o => cell_al c1 o
  clear h1 hB c1
  show Calls Try.prog 60 #[.agg #[.int .i64 x.f0, .int .i64 x.f1, .string x.f2, .bool x.f3], .pointer (some ⟨B1, 0, none⟩)] W _
  go_enter Try.func60, Try.ntmps60
  go_wp2
  go_ret
  exact ⟨rfl, (Below.refl _ W).alloc (Nat.le_refl _) _⟩
def rateBad (free ev a : Int) (k : Nat) (b : S51) : Bool := decide (free < (k : Int) + 1) && decide (IntKind.u64.wrap (Int.tdiv (apF a b.f0) ev) < IntKind.u64.wrap ((k : Int) + 1 - free))
def rateIn (free ev a : Int) : Nat → List S51 → Bool
  | _, [] => true
  | k, b :: r => if rateBad free ev a k b = true then false else rateIn free ev a (k + 1) r
def rateGo (free ev : Int) : List S51 → Bool
  | [] => true
  | a :: r => if rateIn free ev a.f0 0 (a :: r) = true then rateGo free ev r else false
def freeOf (burst more : Int) : Int := IntKind.u64.wrap (IntKind.u64.wrap burst + IntKind.u64.wrap more)
def watch_Rate.f (l : List S51) (who burst every more : Int) : Option (Bool × Int) :=
  if l.length * 40 ≤ 140737488351232 then (if upF l = true ∧ 0 ≤ burst ∧ 0 ≤ more ∧ 1 ≤ every then (if every ≤ 9223372036854775807 then some (rateGo (freeOf burst more) every (l.filter (rateP who)), 0) else none) else some (false, 1)) else none
set_option maxHeartbeats 2000000 in
set_option maxRecDepth 100000 in
theorem rate_no (A : Option Addr) (c : Nat) (l : List S51) (who burst every more : Int) (w : World) (hr : Kd.C k51 w A l.length l) (hlen : l.length * 40 ≤ 140737488351232) (h : ¬ (upF l = true ∧ 0 ≤ burst ∧ 0 ≤ more ∧ 1 ≤ every)) :
    Calls Try.prog 36 #[.slice A l.length c, .int .i64 who, .int .i64 burst, .int .i64 every, .int .i64 more] w fun e w' => e = .returned (.tuple #[.bool false, .int .i64 1]) ∧ Below w.heap.size w w' := by
  have HR := Aside0.mk hr
  have HH := Aside0.mk h
  have HL := Aside0.mk hlen
  clear hr h hlen
  have hF := Aside0.mk (Fr.Frame.start w)
  have HC : True := trivial
  cases hu : upF l with
  | false =>
    have HU := Aside0.mk hu
    clear hu
    go_enter Try.func36, Try.ntmps36
    go_wp2_with (first | (go_at_call 41; refine (right_calls A c l _ (Kd.C_below HR.out hF.out.below) HL.out).mono ?_; rintro e W1 ⟨rfl, hb⟩; have hF1 := hF.out.call hb; clear hb; simp only [HU.out]; have HC1 := hF1.cells; simp only [Fr.Cells, List.length_cons, List.length_nil, Nat.reduceAdd, and_true] at HC1; clear hF HC; have HC := HC1; have hF := Aside0.mk hF1; clear hF1 HC1) | ((with_reducible refine gate_store rfl ?_); apply Fr.fr_store hF.out rfl rfl rfl; (case hp => rfl); (case hx => first | (go_simp; rfl) | rfl); (case hu => (simp only [Value.cells]; rfl)); (case hs => (repeat (first | exact Fr.Spot.here _ _ | apply Fr.Spot.there))); (case ht => kernel_rfl); (case h1 => simp [Value.oneCell']); (case hfit => simp); intro W hF1; simp only [Fr.patch, List.take_zero, List.nil_append, List.drop, List.append_nil, List.take, List.cons_append, List.length_cons, List.length_nil, Nat.reduceAdd] at hF1; have HC1 := hF1.cells; simp only [Fr.Cells, List.length_cons, List.length_nil, Nat.reduceAdd, and_true] at HC1; clear hF HC; have HC := HC1; have hF := Aside0.mk hF1; clear hF1 HC1) | ((first | (with_reducible refine Fr.gate_alloc rfl ?_) | (with_reducible refine Fr.gate_box rfl ?_)); apply Fr.fr_box hF.out rfl; (case hrun => first | (go_simp; done) | (go_simp; rfl)); intro g W hF1; have HC1 := hF1.cells; simp only [Fr.Cells, List.length_cons, List.length_nil, Nat.reduceAdd, and_true] at HC1; clear hF HC; have HC := HC1; have hF := Aside0.mk hF1; clear hF1 HC1))
    go_ret2
    exact ⟨rfl, hF.out.below⟩
  | true =>
    have HU := Aside0.mk hu
    clear hu
    have hft : burst < 0 ∨ 0 ≤ burst ∧ more < 0 ∨ 0 ≤ burst ∧ 0 ≤ more ∧ every < 1 := by
      have := HH.out; rw [HU.out] at this; simp at this; omega
    clear HH
    rcases hft with hft | ⟨hft, hm⟩ | ⟨hft, hm, he⟩
    all_goals
      go_enter Try.func36, Try.ntmps36
      go_wp2_with (first | (go_at_call 41; refine (right_calls A c l _ (Kd.C_below HR.out hF.out.below) HL.out).mono ?_; rintro e W1 ⟨rfl, hb⟩; have hF1 := hF.out.call hb; clear hb; simp only [HU.out]; have HC1 := hF1.cells; simp only [Fr.Cells, List.length_cons, List.length_nil, Nat.reduceAdd, and_true] at HC1; clear hF HC; have HC := HC1; have hF := Aside0.mk hF1; clear hF1 HC1) | ((with_reducible refine gate_store rfl ?_); apply Fr.fr_store hF.out rfl rfl rfl; (case hp => rfl); (case hx => first | (go_simp; rfl) | rfl); (case hu => (simp only [Value.cells]; rfl)); (case hs => (repeat (first | exact Fr.Spot.here _ _ | apply Fr.Spot.there))); (case ht => kernel_rfl); (case h1 => simp [Value.oneCell']); (case hfit => simp); intro W hF1; simp only [Fr.patch, List.take_zero, List.nil_append, List.drop, List.append_nil, List.take, List.cons_append, List.length_cons, List.length_nil, Nat.reduceAdd] at hF1; have HC1 := hF1.cells; simp only [Fr.Cells, List.length_cons, List.length_nil, Nat.reduceAdd, and_true] at HC1; clear hF HC; have HC := HC1; have hF := Aside0.mk hF1; clear hF1 HC1) | ((first | (with_reducible refine Fr.gate_alloc rfl ?_) | (with_reducible refine Fr.gate_box rfl ?_)); apply Fr.fr_box hF.out rfl; (case hrun => first | (go_simp; done) | (go_simp; rfl)); intro g W hF1; have HC1 := hF1.cells; simp only [Fr.Cells, List.length_cons, List.length_nil, Nat.reduceAdd, and_true] at HC1; clear hF HC; have HC := HC1; have hF := Aside0.mk hF1; clear hF1 HC1))
      go_ret2
      exact ⟨rfl, hF.out.below⟩
set_option maxHeartbeats 4000000 in
set_option maxRecDepth 100000 in
theorem rate_yes (A : Option Addr) (c : Nat) (l : List S51) (who burst every more : Int) (w : World) (hr : Kd.C k51 w A l.length l) (hlen : l.length * 40 ≤ 140737488351232) (h : upF l = true) (hb0 : 0 ≤ burst) (hm0 : 0 ≤ more) (he0 : 1 ≤ every) (he1 : every ≤ 9223372036854775807) (r : Bool) (hG : rateGo (freeOf burst more) every (l.filter (rateP who)) = r) :
    Calls Try.prog 36 #[.slice A l.length c, .int .i64 who, .int .i64 burst, .int .i64 every, .int .i64 more] w fun e w' => e = .returned (.tuple #[.bool r, .int .i64 0]) ∧ Below w.heap.size w w' := by
  have HR := Aside0.mk hr
  have HU := Aside0.mk h
  have HL := Aside0.mk hlen
  have HG0 := Aside0.mk hG
  clear hr h hlen hG
  have hF := Aside0.mk (Fr.Frame.start w)
  have HC : True := trivial
  have hev : IntKind.u64.wrap every = every := by rw [IntKind.wrap]; simp [IntKind.signed, IntKind.bits]; omega
  go_enter Try.func36, Try.ntmps36
  have hmf : ∀ (fn : Fn) (first cap : Array Value) (w : World), (Instr.makeFunc fn first cap).run Try.prog w = .ok (.func fn first cap) w := fun _ _ _ _ => rfl
  go_wp2_with (first | (go_at_call 41; refine (right_calls A c l _ (Kd.C_below HR.out hF.out.below) HL.out).mono ?_; rintro e W1 ⟨rfl, hb⟩; have hF1 := hF.out.call hb; clear hb; simp only [HU.out]; have HC1 := hF1.cells; simp only [Fr.Cells, List.length_cons, List.length_nil, Nat.reduceAdd, and_true] at HC1; clear hF HC; have HC := HC1; have hF := Aside0.mk hF1; clear hF1 HC1) | ((with_reducible refine gate_dst (N := 6) rfl ?_); apply Fr.fr_box hF.out rfl; (case hrun => first | (go_simp; done) | (go_simp; rfl)); intro g6 W hF1; have HC1 := hF1.cells; simp only [Fr.Cells, List.length_cons, List.length_nil, Nat.reduceAdd, and_true] at HC1; clear hF HC; have HC := HC1; have hF := Aside0.mk hF1; clear hF1 HC1) | ((with_reducible refine gate_store rfl ?_); apply Fr.fr_store hF.out rfl rfl rfl; (case hp => rfl); (case hx => first | (go_simp; rfl) | rfl); (case hu => (simp only [Value.cells]; rfl)); (case hs => (repeat (first | exact Fr.Spot.here _ _ | apply Fr.Spot.there))); (case ht => kernel_rfl); (case h1 => simp [Value.oneCell']); (case hfit => simp); intro W hF1; simp only [Fr.patch, List.take_zero, List.nil_append, List.drop, List.append_nil, List.take, List.cons_append, List.length_cons, List.length_nil, Nat.reduceAdd] at hF1; have HC1 := hF1.cells; simp only [Fr.Cells, List.length_cons, List.length_nil, Nat.reduceAdd, and_true] at HC1; clear hF HC; have HC := HC1; have hF := Aside0.mk hF1; clear hF1 HC1))
  have hP := rate1 who g6 _ ((hF.out.cells.1.1 0 Nat.zero_lt_one).trans rfl)
  refine (only_calls 60 _ (rateP who) (enters_of Try.func60 (by kernel_rfl) rfl) A c l _ (Kd.C_below HR.out hF.out.below) HL.out hP).mono ?_
  rintro e W2 ⟨v1, rfl, hR1, hb⟩
  obtain ⟨A1, c1, rfl, hc1, _⟩ := Kd.R_reads hR1
  obtain ⟨S1, hF1⟩ := hF.out.callR hb hR1
  obtain ⟨bN, hbN⟩ : ∃ n : Nat, W1.heap.size = n := ⟨_, rfl⟩
  rw [hbN] at hF1
  have HLn := Aside0.mk (show (l.filter (rateP who)).length ≤ 9223372036854775807 by have := List.length_filter_le (rateP who) l; have := HL.out; omega)
  clear hP hR1 hb hbN
  have HC1 := hF1.cells; simp only [Fr.Cells, List.length_cons, List.length_nil, Nat.reduceAdd, and_true] at HC1; clear hF HC; have HC := HC1; have hF := Aside0.mk hF1; clear hF1 HC1
  obtain ⟨s, hs⟩ : ∃ s, s = l.filter (rateP who) := ⟨_, rfl⟩
  rw [← hs] at hF HLn HG0 hc1 ⊢
  have HG := HG0
  have HC1 := Aside0.mk hc1
  clear HG0 hs hc1
  go_wp2
  go_loopg [44] s.length (fun kq v44 w' => ∃ i : Nat, i ≤ s.length ∧ s.length - i ≤ kq ∧ v44 = .int .i64 i ∧ Aside0 (rateGo (freeOf burst more) every (s.drop i) = r) ∧ Aside0 (Fr.Frame w w' [(g6, [.int .i64 who], 3)] [Fr.rowR k51 51 bN (.slice A1 s.length c1) s S1]))
  case atStart => exact ⟨0, Nat.zero_le _, by omega, rfl, ⟨by rw [List.drop_zero]; exact HG.out⟩, hF⟩
  case round =>
    obtain ⟨wo, rfl⟩ : ∃ wo : World, wo = wr := ⟨_, rfl⟩
    obtain ⟨i, hi, hgi, rfl, HGo, hF⟩ := hrel
    clear HC
    have HC2 := hF.out.cells
    simp only [Fr.Cells, List.length_cons, List.length_nil, Nat.reduceAdd, and_true] at HC2
    have HC := HC2
    clear HC2
    have hRr : Kd.R k51 51 wo bN S1 (.slice A1 s.length c1) s := hF.out.rowAt List.mem_cons_self
    have hCr := (Kd.R_reads' hRr).2.2
    clear hRr
    have hle := HLn.out
    by_cases hlt : i < s.length
    · have hlti : (i : Int) < (s.length : Int) := by omega
      obtain ⟨ad, e1, a0, a1, a2, a3⟩ := at_T51 hCr (i : Int) (by omega) hlti
      cases e1
      rw [Int.toNat_natCast] at a0 a1 a2 a3
      have HD := Aside0.mk (rd_drop s i hlt)
      obtain ⟨i05, hi05, _, hsz5, _⟩ := info_parts info51
      have hcut := cut_from (P := Try.prog) 49 51 .i64 Try.underlying49 hi05 4 hsz5 (some ad) s.length c1 (i : Int) (by omega) (by omega)
      rw [Int.toNat_natCast, if_neg (by have := HC1.out; omega)] at hcut
      simp only [Option.map_some] at hcut
      obtain ⟨t, ht⟩ : ∃ t, t = s.drop i := ⟨_, rfl⟩
      have hlt2 : s.length - i = t.length := by rw [ht, List.length_drop]
      have htl : t.length ≤ 9223372036854775807 := by omega
      rw [hlt2] at hcut
      rw [← ht] at HD HGo
      have HT := Aside0.mk (And.intro ht hlt2)
      obtain ⟨r0, hr0⟩ : ∃ r0, rateIn (freeOf burst more) every (rd_T51 s i).f0 0 t = r0 := ⟨_, rfl⟩
      have HR0 := Aside0.mk hr0
      clear hi05 hsz5 hCr ht hr0 hlt2
      go_wp2_with (first | ((with_reducible refine gate_store rfl ?_); apply Fr.fr_store hF.out rfl rfl rfl; (case hp => rfl); (case hx => first | (go_simp; rfl) | rfl); (case hu => (simp only [Value.cells]; rfl)); (case hs => (repeat (first | exact Fr.Spot.here _ _ | apply Fr.Spot.there))); (case ht => kernel_rfl); (case h1 => simp [Value.oneCell']); (case hfit => simp); intro W hF1; simp only [Fr.patch, List.take_zero, List.nil_append, List.drop, List.append_nil, List.take, List.cons_append, List.length_cons, List.length_nil, Nat.reduceAdd] at hF1; have HC1 := hF1.cells; simp only [Fr.Cells, List.length_cons, List.length_nil, Nat.reduceAdd, and_true] at HC1; clear hF HC; have HC := HC1; have hF := Aside0.mk hF1; clear hF1 HC1) | ((with_reducible refine gate_dst (N := 15) rfl ?_); apply Fr.fr_box hF.out rfl; (case hrun => first | (go_simp; done) | (go_simp; rfl)); intro g15 W hF1; have HC1 := hF1.cells; simp only [Fr.Cells, List.length_cons, List.length_nil, Nat.reduceAdd, and_true] at HC1; clear hF HC; have HC := HC1; have hF := Aside0.mk hF1; clear hF1 HC1))
      go_loopg [53] t.length (fun kq v53 w' => ∃ j : Nat, j ≤ t.length ∧ t.length - j ≤ kq ∧ v53 = .int .i64 j ∧ Aside0 (rateIn (freeOf burst more) every (rd_T51 s i).f0 j (t.drop j) = r0) ∧ Aside0 (Fr.Frame w w' [(g15, [.int .i64 (rd_T51 s i).f0, .int .i64 (rd_T51 s i).f1, .string (rd_T51 s i).f2, .bool (rd_T51 s i).f3], 51), (g6, [.int .i64 who], 3)] [Fr.rowR k51 51 bN (.slice (some ad) s.length c1) s S1]))
      case atStart => exact ⟨0, Nat.zero_le _, by omega, rfl, ⟨by rw [List.drop_zero]; exact HR0.out⟩, hF⟩
      case round =>
        obtain ⟨j, hj, hgj, rfl, HGi, hF⟩ := hrel
        clear HC
        have HC2 := hF.out.cells
        simp only [Fr.Cells, List.length_cons, List.length_nil, Nat.reduceAdd, and_true] at HC2
        have HC := HC2
        clear HC2
        have hRr : Kd.R k51 51 wr bN S1 (.slice (some ad) s.length c1) s := hF.out.rowAt List.mem_cons_self
        have hCr := Kd.C_drop (m := i) (Kd.R_reads' hRr).2.2 hi HC1.out
        rw [if_neg (by have := HC1.out; omega), ← HT.out.1] at hCr
        simp only [Option.map_some, show k51.sz = 4 from rfl] at hCr
        clear hRr
        by_cases hltj : j < t.length
        · have hltji : (j : Int) < (t.length : Int) := by omega
          obtain ⟨ad2, e2, b0, b1, b2, b3⟩ := at_T51 hCr (j : Int) (by omega) hltji
          injection e2 with e2
          subst e2
          rw [Int.toNat_natCast] at b0 b1 b2 b3
          have HDj := Aside0.mk (rd_drop t j hltj)
          clear hCr
          go_wp2_with (first | (go_at_call 59; refine (watch_apart.calls (rd_T51 s i).f0 (rd_T51 t j).f0 _ _ (ap_is _ _)).mono ?_; rintro e W1 ⟨rfl, hb⟩; have hF1 := hF.out.call hb.below; clear hb; have HC1 := hF1.cells; simp only [Fr.Cells, List.length_cons, List.length_nil, Nat.reduceAdd, and_true] at HC1; clear hF HC; have HC := HC1; have hF := Aside0.mk hF1; clear hF1 HC1) | ((with_reducible refine gate_store rfl ?_); apply Fr.fr_store hF.out rfl rfl rfl; (case hp => rfl); (case hx => first | (go_simp; rfl) | rfl); (case hu => (simp only [Value.cells]; rfl)); (case hs => (repeat (first | exact Fr.Spot.here _ _ | apply Fr.Spot.there))); (case ht => kernel_rfl); (case h1 => simp [Value.oneCell']); (case hfit => simp); intro W hF1; simp only [Fr.patch, List.take_zero, List.nil_append, List.drop, List.append_nil, List.take, List.cons_append, List.length_cons, List.length_nil, Nat.reduceAdd] at hF1; have HC1 := hF1.cells; simp only [Fr.Cells, List.length_cons, List.length_nil, Nat.reduceAdd, and_true] at HC1; clear hF HC; have HC := HC1; have hF := Aside0.mk hF1; clear hF1 HC1) | ((with_reducible refine gate_dst (N := 17) rfl ?_); apply Fr.fr_box hF.out rfl; (case hrun => first | (go_simp; done) | (go_simp; rfl)); intro g17 W hF1; have HC1 := hF1.cells; simp only [Fr.Cells, List.length_cons, List.length_nil, Nat.reduceAdd, and_true] at HC1; clear hF HC; have HC := HC1; have hF := Aside0.mk hF1; clear hF1 HC1))
          · have hbad : rateBad (freeOf burst more) every (rd_T51 s i).f0 j (rd_T51 t j) = true := by
              simp only [rateBad, freeOf, Bool.and_eq_true]
              exact ⟨decide_eq_true (by assumption), decide_eq_true (by assumption)⟩
            have hr0 : r0 = false := by
              have h9 := HGi.out
              rw [HDj.out] at h9
              simp only [rateIn] at h9
              rw [if_pos hbad] at h9
              exact h9.symm
            have hrr : r = false := by
              have h9 := HGo.out
              rw [HD.out] at h9
              simp only [rateGo] at h9
              rw [← HD.out, HR0.out, hr0, if_neg (by decide)] at h9
              exact h9.symm
            go_ret2
            exact ⟨by rw [hrr]; rfl, hF.out.below⟩
          all_goals
            have hbad : rateBad (freeOf burst more) every (rd_T51 s i).f0 j (rd_T51 t j) = false := by
              simp only [rateBad, freeOf, Bool.and_eq_false_iff]
              first | exact .inr (decide_eq_false (Int.not_lt.2 (by assumption))) | exact .inl (decide_eq_false (Int.not_lt.2 (by assumption)))
            have HN := Aside0.mk (show rateIn (freeOf burst more) every (rd_T51 s i).f0 (j + 1) (t.drop (j + 1)) = r0 by
              have h9 := HGi.out
              rw [HDj.out] at h9
              simp only [rateIn] at h9
              rw [if_neg (by rw [hbad]; decide)] at h9
              exact h9)
            clear hbad HGi
            go_roundg (t.length - (j + 1))
            case measure => omega
            case rel => exact ⟨j + 1, by omega, by omega, by go_num, HN, ⟨hF.out.drop⟩⟩
        · have hjt : j = t.length := by omega
          subst hjt
          have hr0 : r0 = true := by
            have h9 := HGi.out
            rw [List.drop_length] at h9
            exact h9.symm
          have HN := Aside0.mk (show rateGo (freeOf burst more) every (s.drop (i + 1)) = r by
            have h9 := HGo.out
            rw [HD.out] at h9
            simp only [rateGo] at h9
            rw [← HD.out, HR0.out, hr0, if_pos rfl] at h9
            exact h9)
          clear hr0 hCr HGi
          go_wp2
          go_roundg (s.length - (i + 1))
          case measure => omega
          case rel => exact ⟨i + 1, by omega, by omega, by go_num, HN, ⟨hF.out.drop⟩⟩
    · have his : i = s.length := by omega
      subst his
      have hrr : r = true := by
        have h9 := HGo.out
        rw [List.drop_length] at h9
        exact h9.symm
      clear hCr
      have HV := Aside0.mk hrr
      clear hrr
      go_wp2
      go_ret2
      exact ⟨by rw [HV.out]; rfl, hF.out.below⟩
theorem watch_Rate.calls (A0 : Option Addr) (c0 : Nat) (l0 : List S51) (a1 a2 a3 a4 : Int) (r1 : Bool) (r2 : Int) (w : World) (hr0 : Kd.C k51 w A0 l0.length l0) (hc0 : l0.length ≤ c0) (h : watch_Rate.f l0 a1 a2 a3 a4 = some (r1, r2)) :
    Calls Try.prog 36 #[.slice A0 l0.length c0, .int .i64 a1, .int .i64 a2, .int .i64 a3, .int .i64 a4] w fun e w' => e = .returned (.tuple #[.bool r1, .int .i64 r2]) ∧ Below w.heap.size w w' := by
  unfold watch_Rate.f at h
  by_cases hl : l0.length * 40 ≤ 140737488351232
  · rw [if_pos hl] at h
    by_cases hm : upF l0 = true ∧ 0 ≤ a2 ∧ 0 ≤ a4 ∧ 1 ≤ a3
    · rw [if_pos hm] at h
      by_cases he : a3 ≤ 9223372036854775807
      · rw [if_pos he] at h
        simp only [Option.some.injEq, Prod.mk.injEq] at h
        obtain ⟨h, rfl⟩ := h
        exact rate_yes A0 c0 l0 a1 a2 a3 a4 w hr0 hl hm.1 hm.2.1 hm.2.2.1 hm.2.2.2 he r1 h
      · rw [if_neg he] at h; cases h
    · rw [if_neg hm] at h
      simp only [Option.some.injEq, Prod.mk.injEq] at h
      obtain ⟨rfl, rfl⟩ := h
      exact rate_no A0 c0 l0 a1 a2 a3 a4 w hr0 hl hm
  · rw [if_neg hl] at h; cases h


end Go.Proofs.Ytkkopknlhijgiaa.G
