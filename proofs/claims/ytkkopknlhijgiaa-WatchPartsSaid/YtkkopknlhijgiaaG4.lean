/- Contracts of functions of the given program, each proved by a walk of its code: written by gprint.py, this session's program round the kit's print; texts of our own stand among the printed ones. No condition beyond each theorem's own premises. -/
import Derived.Test.YtkkopknlhijgiaaG0
import Derived.Test.YtkkopknlhijgiaaG2
import Derived.Test.YtkkopknlhijgiaaG3
namespace Go.Proofs.Ytkkopknlhijgiaa.G
open Go.RowKit Go.Proofs.YtkkopknlhijgiaaW.PrintWords Go.Proofs.YtkkopknlhijgiaaW.PrintLast Go.Proofs.YtkkopknlhijgiaaW.PrintMore
attribute [local go_sem] max2_int min2_int max_two min_two max_three min_three max_four min_four   -- for this text's walks alone
set_option linter.unusedVariables false
set_option linter.unusedSimpArgs false

/-! ### watch_Life: function 34 -/
-- GIVEN OWN
attribute [local go_sem] Oper.semAt_some
open Go.Shelf
def lifeP (f t : Int) (x : S51) : Bool := x.f1 == -1 && (decide (f ≤ x.f0) && decide (x.f0 ≤ t))
set_option maxHeartbeats 1000000 in
theorem life1 (f t : Int) (B1 B2 : Nat) (w : World) (h1 : w.cell? ⟨B1, 0, none⟩ = some (.int .i64 f)) (h2 : w.cell? ⟨B2, 0, none⟩ = some (.int .i64 t)) : PredS 58 #[.pointer (some ⟨B1, 0, none⟩), .pointer (some ⟨B2, 0, none⟩)] (lifeP f t) w := by
  intro x W hB
  have c1 := (hB.cell (World.block_lt_of_cell? w _ h1)).trans h1
  have c2 := (hB.cell (World.block_lt_of_cell? w _ h2)).trans h2
  have k1 : ∀ o : Obj, (W.alloc o).cell? ⟨B1, 0, none⟩ = some (.int .i64 f) := fun o => cell_al c1 o
  have k2 : ∀ o : Obj, (W.alloc o).cell? ⟨B2, 0, none⟩ = some (.int .i64 t) := fun o => cell_al c2 o
  clear c1 c2
  clear h1 h2 hB
  show Calls Try.prog 58 #[.agg #[.int .i64 x.f0, .int .i64 x.f1, .string x.f2, .bool x.f3], .pointer (some ⟨B1, 0, none⟩), .pointer (some ⟨B2, 0, none⟩)] W _
  by_cases a : x.f1 = -1
  · have a' : (x.f1 == -1) = true := by simp [a]
    have HA := Aside0.mk a'
    clear a
    by_cases b : f ≤ x.f0
    · by_cases c : x.f0 ≤ t
      all_goals
        go_enter Try.func58, Try.ntmps58
        go_wp2
        go_ret
        exact ⟨by simp [lifeP, HA.out, b, c], (Below.refl _ W).alloc (Nat.le_refl _) _⟩
    · go_enter Try.func58, Try.ntmps58
      go_wp2
      go_ret
      exact ⟨by simp [lifeP]; intros; omega, (Below.refl _ W).alloc (Nat.le_refl _) _⟩
  · have a' : (x.f1 == -1) = false := by simp [a]
    clear a
    go_enter Try.func58, Try.ntmps58
    go_wp2
    go_ret
    exact ⟨by simp [lifeP, a'], (Below.refl _ W).alloc (Nat.le_refl _) _⟩
/-- How many ticks lie between two times. -/
def apF (a b : Int) : Int := IntKind.u64.wrap (IntKind.u64.wrap b - IntKind.u64.wrap a)
theorem ap_is (a b : Int) : watch_apart.f a b = some (apF a b) := rfl
def lifeGo (t m : Int) : Int → List S51 → Bool
  | last, [] => decide (apF last t < IntKind.u64.wrap m)
  | last, s :: r => if IntKind.u64.wrap m < apF last s.f0 then false else lifeGo t m s.f0 r
def watch_Life.f (l : List S51) (f t m : Int) : Option (Bool × Int) :=
  if l.length * 40 ≤ 140737488351232 then (if upF l = true ∧ f ≤ t ∧ 1 ≤ m then some (lifeGo t m f (l.filter (lifeP f t)), 0) else some (false, 1)) else none
theorem rd_drop (s : List S51) (k : Nat) (hk : k < s.length) : s.drop k = rd_T51 s k :: s.drop (k + 1) := by
  have e : rd_T51 s k = s[k] := by simp [rd_T51, List.getD_eq_getElem?_getD, hk]
  rw [List.drop_eq_getElem_cons hk, e]
set_option maxHeartbeats 2000000 in
set_option maxRecDepth 100000 in
theorem life_no (A : Option Addr) (c : Nat) (l : List S51) (f t m : Int) (w : World) (hr : Kd.C k51 w A l.length l) (hlen : l.length * 40 ≤ 140737488351232) (h : ¬ (upF l = true ∧ f ≤ t ∧ 1 ≤ m)) :
    Calls Try.prog 34 #[.slice A l.length c, .int .i64 f, .int .i64 t, .int .i64 m] w fun e w' => e = .returned (.tuple #[.bool false, .int .i64 1]) ∧ Below w.heap.size w w' := by
  have HR := Aside0.mk hr
  have HH := Aside0.mk h
  have HL := Aside0.mk hlen
  clear hr h hlen
  have hF := Aside0.mk (Fr.Frame.start w)
  have HC : True := trivial
  cases hu : upF l with
  | false =>
    have HU := Aside0.mk hu
    clear hu
    go_enter Try.func34, Try.ntmps34
    go_wp2_with (first | (go_at_call 41; refine (right_calls A c l _ (Kd.C_below HR.out hF.out.below) HL.out).mono ?_; rintro e W1 ⟨rfl, hb⟩; have hF1 := hF.out.call hb; clear hb; simp only [HU.out]; have HC1 := hF1.cells; simp only [Fr.Cells, List.length_cons, List.length_nil, Nat.reduceAdd, and_true] at HC1; clear hF HC; have HC := HC1; have hF := Aside0.mk hF1; clear hF1 HC1) | ((with_reducible refine gate_store rfl ?_); apply Fr.fr_store hF.out rfl rfl rfl; (case hp => rfl); (case hx => first | (go_simp; rfl) | rfl); (case hu => (simp only [Value.cells]; rfl)); (case hs => (repeat (first | exact Fr.Spot.here _ _ | apply Fr.Spot.there))); (case ht => kernel_rfl); (case h1 => simp [Value.oneCell']); (case hfit => simp); intro W hF1; simp only [Fr.patch, List.take_zero, List.nil_append, List.drop, List.append_nil, List.take, List.cons_append, List.length_cons, List.length_nil, Nat.reduceAdd] at hF1; have HC1 := hF1.cells; simp only [Fr.Cells, List.length_cons, List.length_nil, Nat.reduceAdd, and_true] at HC1; clear hF HC; have HC := HC1; have hF := Aside0.mk hF1; clear hF1 HC1) | ((first | (with_reducible refine Fr.gate_alloc rfl ?_) | (with_reducible refine Fr.gate_box rfl ?_)); apply Fr.fr_box hF.out rfl; (case hrun => first | (go_simp; done) | (go_simp; rfl)); intro g W hF1; have HC1 := hF1.cells; simp only [Fr.Cells, List.length_cons, List.length_nil, Nat.reduceAdd, and_true] at HC1; clear hF HC; have HC := HC1; have hF := Aside0.mk hF1; clear hF1 HC1))
    go_ret2
    exact ⟨rfl, hF.out.below⟩
  | true =>
    have HU := Aside0.mk hu
    clear hu
    have hft : t < f ∨ f ≤ t ∧ m < 1 := by
      have := HH.out; rw [HU.out] at this; simp at this; omega
    clear HH
    rcases hft with hft | ⟨hft, hm⟩
    all_goals
      go_enter Try.func34, Try.ntmps34
      go_wp2_with (first | (go_at_call 41; refine (right_calls A c l _ (Kd.C_below HR.out hF.out.below) HL.out).mono ?_; rintro e W1 ⟨rfl, hb⟩; have hF1 := hF.out.call hb; clear hb; simp only [HU.out]; have HC1 := hF1.cells; simp only [Fr.Cells, List.length_cons, List.length_nil, Nat.reduceAdd, and_true] at HC1; clear hF HC; have HC := HC1; have hF := Aside0.mk hF1; clear hF1 HC1) | ((with_reducible refine gate_store rfl ?_); apply Fr.fr_store hF.out rfl rfl rfl; (case hp => rfl); (case hx => first | (go_simp; rfl) | rfl); (case hu => (simp only [Value.cells]; rfl)); (case hs => (repeat (first | exact Fr.Spot.here _ _ | apply Fr.Spot.there))); (case ht => kernel_rfl); (case h1 => simp [Value.oneCell']); (case hfit => simp); intro W hF1; simp only [Fr.patch, List.take_zero, List.nil_append, List.drop, List.append_nil, List.take, List.cons_append, List.length_cons, List.length_nil, Nat.reduceAdd] at hF1; have HC1 := hF1.cells; simp only [Fr.Cells, List.length_cons, List.length_nil, Nat.reduceAdd, and_true] at HC1; clear hF HC; have HC := HC1; have hF := Aside0.mk hF1; clear hF1 HC1) | ((first | (with_reducible refine Fr.gate_alloc rfl ?_) | (with_reducible refine Fr.gate_box rfl ?_)); apply Fr.fr_box hF.out rfl; (case hrun => first | (go_simp; done) | (go_simp; rfl)); intro g W hF1; have HC1 := hF1.cells; simp only [Fr.Cells, List.length_cons, List.length_nil, Nat.reduceAdd, and_true] at HC1; clear hF HC; have HC := HC1; have hF := Aside0.mk hF1; clear hF1 HC1))
      go_ret2
      exact ⟨rfl, hF.out.below⟩
set_option maxHeartbeats 4000000 in
set_option maxRecDepth 100000 in
theorem life_yes (A : Option Addr) (c : Nat) (l : List S51) (f t m : Int) (w : World) (hr : Kd.C k51 w A l.length l) (hlen : l.length * 40 ≤ 140737488351232) (h : upF l = true) (hft : f ≤ t) (hm : 1 ≤ m) (r : Bool) (hG : lifeGo t m f (l.filter (lifeP f t)) = r) :
    Calls Try.prog 34 #[.slice A l.length c, .int .i64 f, .int .i64 t, .int .i64 m] w fun e w' => e = .returned (.tuple #[.bool r, .int .i64 0]) ∧ Below w.heap.size w w' := by
  have HR := Aside0.mk hr
  have HU := Aside0.mk h
  have HL := Aside0.mk hlen
  have HG0 := Aside0.mk hG
  clear hr h hlen hG
  have hF := Aside0.mk (Fr.Frame.start w)
  have HC : True := trivial
  go_enter Try.func34, Try.ntmps34
  have hmf : ∀ (fn : Fn) (first cap : Array Value) (w : World), (Instr.makeFunc fn first cap).run Try.prog w = .ok (.func fn first cap) w := fun _ _ _ _ => rfl
  go_wp2_with (first | (go_at_call 41; refine (right_calls A c l _ (Kd.C_below HR.out hF.out.below) HL.out).mono ?_; rintro e W1 ⟨rfl, hb⟩; have hF1 := hF.out.call hb; clear hb; simp only [HU.out]; have HC1 := hF1.cells; simp only [Fr.Cells, List.length_cons, List.length_nil, Nat.reduceAdd, and_true] at HC1; clear hF HC; have HC := HC1; have hF := Aside0.mk hF1; clear hF1 HC1) | ((with_reducible refine gate_store rfl ?_); apply Fr.fr_store hF.out rfl rfl rfl; (case hp => rfl); (case hx => first | (go_simp; rfl) | rfl); (case hu => (simp only [Value.cells]; rfl)); (case hs => (repeat (first | exact Fr.Spot.here _ _ | apply Fr.Spot.there))); (case ht => kernel_rfl); (case h1 => simp [Value.oneCell']); (case hfit => simp); intro W hF1; simp only [Fr.patch, List.take_zero, List.nil_append, List.drop, List.append_nil, List.take, List.cons_append, List.length_cons, List.length_nil, Nat.reduceAdd] at hF1; have HC1 := hF1.cells; simp only [Fr.Cells, List.length_cons, List.length_nil, Nat.reduceAdd, and_true] at HC1; clear hF HC; have HC := HC1; have hF := Aside0.mk hF1; clear hF1 HC1) | ((with_reducible refine gate_dst (N := 5) rfl ?_); apply Fr.fr_box hF.out rfl; (case hrun => first | (go_simp; done) | (go_simp; rfl)); intro g5 W hF1; have HC1 := hF1.cells; simp only [Fr.Cells, List.length_cons, List.length_nil, Nat.reduceAdd, and_true] at HC1; clear hF HC; have HC := HC1; have hF := Aside0.mk hF1; clear hF1 HC1) | ((with_reducible refine gate_dst (N := 6) rfl ?_); apply Fr.fr_box hF.out rfl; (case hrun => first | (go_simp; done) | (go_simp; rfl)); intro g6 W hF1; have HC1 := hF1.cells; simp only [Fr.Cells, List.length_cons, List.length_nil, Nat.reduceAdd, and_true] at HC1; clear hF HC; have HC := HC1; have hF := Aside0.mk hF1; clear hF1 HC1))
  have hP := life1 f t g5 g6 _ ((hF.out.cells.2.1.1 0 Nat.zero_lt_one).trans rfl) ((hF.out.cells.1.1 0 Nat.zero_lt_one).trans rfl)
  refine (only_calls 58 _ (lifeP f t) (enters_of Try.func58 (by kernel_rfl) rfl) A c l _ (Kd.C_below HR.out hF.out.below) HL.out hP).mono ?_
  rintro e W2 ⟨v1, rfl, hR1, hb⟩
  obtain ⟨A1, c1, rfl, hc1, _⟩ := Kd.R_reads hR1
  obtain ⟨S1, hF1⟩ := hF.out.callR hb hR1
  obtain ⟨bN, hbN⟩ : ∃ n : Nat, W1.heap.size = n := ⟨_, rfl⟩
  rw [hbN] at hF1
  have HLn := Aside0.mk (show (l.filter (lifeP f t)).length ≤ 9223372036854775807 by have := List.length_filter_le (lifeP f t) l; have := HL.out; omega)
  clear hP hR1 hb hc1 hbN
  have HC1 := hF1.cells; simp only [Fr.Cells, List.length_cons, List.length_nil, Nat.reduceAdd, and_true] at HC1; clear hF HC; have HC := HC1; have hF := Aside0.mk hF1; clear hF1 HC1
  obtain ⟨s, hs⟩ : ∃ s, s = l.filter (lifeP f t) := ⟨_, rfl⟩
  rw [← hs] at hF HLn HG0 ⊢
  have HG := HG0
  clear HG0 hs
  go_wp2
  go_loopg [11, 32] s.length (fun kq v11 v32 w' => ∃ (k : Nat) (last : Int), k ≤ s.length ∧ s.length - k ≤ kq ∧ v32 = .int .i64 k ∧ v11 = .int .i64 last ∧ Aside0 (lifeGo t m last (s.drop k) = r) ∧ Aside0 (Fr.Frame w w' [(g6, [.int .i64 t], 3), (g5, [.int .i64 f], 3)] [Fr.rowR k51 51 bN (.slice A1 s.length c1) s S1]))
  case atStart => exact ⟨0, f, Nat.zero_le _, by omega, rfl, rfl, ⟨by rw [List.drop_zero]; exact HG.out⟩, hF⟩
  case round =>
    obtain ⟨k, last, hk, hg, rfl, rfl, HGo, hF⟩ := hrel
    clear HC
    have HC1 := hF.out.cells
    simp only [Fr.Cells, List.length_cons, List.length_nil, Nat.reduceAdd, and_true] at HC1
    have HC := HC1
    clear HC1
    have hRr : Kd.R k51 51 wr bN S1 (.slice A1 s.length c1) s := hF.out.rowAt List.mem_cons_self
    have hCr := (Kd.R_reads' hRr).2.2
    clear hRr
    have hle := HLn.out
    by_cases hlt : k < s.length
    · have hlti : (k : Int) < (s.length : Int) := by omega
      obtain ⟨ad, e1, a0, a1, a2, a3⟩ := at_T51 hCr (k : Int) (by omega) hlti
      cases e1
      rw [Int.toNat_natCast] at a0 a1 a2 a3
      have HD := Aside0.mk (rd_drop s k hlt)
      clear hCr
      by_cases hgap : IntKind.u64.wrap m < apF last (rd_T51 s k).f0
      · have HV := Aside0.mk (show r = false by rw [← HGo.out, HD.out]; simp only [lifeGo]; rw [if_pos hgap])
        clear HGo
        go_wp2_with (first | (go_at_call 59; refine (watch_apart.calls last (rd_T51 s k).f0 _ _ (ap_is _ _)).mono ?_; rintro e W1 ⟨rfl, hb⟩; have hF1 := hF.out.call hb.below; clear hb; have HC1 := hF1.cells; simp only [Fr.Cells, List.length_cons, List.length_nil, Nat.reduceAdd, and_true] at HC1; clear hF HC; have HC := HC1; have hF := Aside0.mk hF1; clear hF1 HC1) | ((with_reducible refine gate_store rfl ?_); apply Fr.fr_store hF.out rfl rfl rfl; (case hp => rfl); (case hx => first | (go_simp; rfl) | rfl); (case hu => (simp only [Value.cells]; rfl)); (case hs => (repeat (first | exact Fr.Spot.here _ _ | apply Fr.Spot.there))); (case ht => kernel_rfl); (case h1 => simp [Value.oneCell']); (case hfit => simp); intro W hF1; simp only [Fr.patch, List.take_zero, List.nil_append, List.drop, List.append_nil, List.take, List.cons_append, List.length_cons, List.length_nil, Nat.reduceAdd] at hF1; have HC1 := hF1.cells; simp only [Fr.Cells, List.length_cons, List.length_nil, Nat.reduceAdd, and_true] at HC1; clear hF HC; have HC := HC1; have hF := Aside0.mk hF1; clear hF1 HC1) | ((first | (with_reducible refine Fr.gate_alloc rfl ?_) | (with_reducible refine Fr.gate_box rfl ?_)); apply Fr.fr_box hF.out rfl; (case hrun => first | (go_simp; done) | (go_simp; rfl)); intro g W hF1; have HC1 := hF1.cells; simp only [Fr.Cells, List.length_cons, List.length_nil, Nat.reduceAdd, and_true] at HC1; clear hF HC; have HC := HC1; have hF := Aside0.mk hF1; clear hF1 HC1))
        go_ret2
        exact ⟨by rw [HV.out]; rfl, hF.out.below⟩
      · have HN := Aside0.mk (show lifeGo t m (rd_T51 s k).f0 (s.drop (k + 1)) = r by
          have h9 := HGo.out
          rw [HD.out] at h9
          simp only [lifeGo] at h9
          rw [if_neg hgap] at h9
          exact h9)
        clear HGo
        go_wp2_with (first | (go_at_call 59; refine (watch_apart.calls last (rd_T51 s k).f0 _ _ (ap_is _ _)).mono ?_; rintro e W1 ⟨rfl, hb⟩; have hF1 := hF.out.call hb.below; clear hb; have HC1 := hF1.cells; simp only [Fr.Cells, List.length_cons, List.length_nil, Nat.reduceAdd, and_true] at HC1; clear hF HC; have HC := HC1; have hF := Aside0.mk hF1; clear hF1 HC1) | ((with_reducible refine gate_store rfl ?_); apply Fr.fr_store hF.out rfl rfl rfl; (case hp => rfl); (case hx => first | (go_simp; rfl) | rfl); (case hu => (simp only [Value.cells]; rfl)); (case hs => (repeat (first | exact Fr.Spot.here _ _ | apply Fr.Spot.there))); (case ht => kernel_rfl); (case h1 => simp [Value.oneCell']); (case hfit => simp); intro W hF1; simp only [Fr.patch, List.take_zero, List.nil_append, List.drop, List.append_nil, List.take, List.cons_append, List.length_cons, List.length_nil, Nat.reduceAdd] at hF1; have HC1 := hF1.cells; simp only [Fr.Cells, List.length_cons, List.length_nil, Nat.reduceAdd, and_true] at HC1; clear hF HC; have HC := HC1; have hF := Aside0.mk hF1; clear hF1 HC1) | ((first | (with_reducible refine Fr.gate_alloc rfl ?_) | (with_reducible refine Fr.gate_box rfl ?_)); apply Fr.fr_box hF.out rfl; (case hrun => first | (go_simp; done) | (go_simp; rfl)); intro g W hF1; have HC1 := hF1.cells; simp only [Fr.Cells, List.length_cons, List.length_nil, Nat.reduceAdd, and_true] at HC1; clear hF HC; have HC := HC1; have hF := Aside0.mk hF1; clear hF1 HC1))
        go_roundg (s.length - (k + 1))
        case measure => omega
        case rel => exact ⟨k + 1, _, by omega, by omega, by go_num, rfl, HN, ⟨hF.out.drop⟩⟩
    · have hks : k = s.length := by omega
      subst hks
      have HN := Aside0.mk (show decide (apF last t < IntKind.u64.wrap m) = r by
        have h9 := HGo.out
        rw [List.drop_length] at h9
        exact h9)
      clear HGo hCr
      go_wp2_with (first | (go_at_call 59; refine (watch_apart.calls last t _ _ (ap_is _ _)).mono ?_; rintro e W1 ⟨rfl, hb⟩; have hF1 := hF.out.call hb.below; clear hb; have HC1 := hF1.cells; simp only [Fr.Cells, List.length_cons, List.length_nil, Nat.reduceAdd, and_true] at HC1; clear hF HC; have HC := HC1; have hF := Aside0.mk hF1; clear hF1 HC1) | ((with_reducible refine gate_store rfl ?_); apply Fr.fr_store hF.out rfl rfl rfl; (case hp => rfl); (case hx => first | (go_simp; rfl) | rfl); (case hu => (simp only [Value.cells]; rfl)); (case hs => (repeat (first | exact Fr.Spot.here _ _ | apply Fr.Spot.there))); (case ht => kernel_rfl); (case h1 => simp [Value.oneCell']); (case hfit => simp); intro W hF1; simp only [Fr.patch, List.take_zero, List.nil_append, List.drop, List.append_nil, List.take, List.cons_append, List.length_cons, List.length_nil, Nat.reduceAdd] at hF1; have HC1 := hF1.cells; simp only [Fr.Cells, List.length_cons, List.length_nil, Nat.reduceAdd, and_true] at HC1; clear hF HC; have HC := HC1; have hF := Aside0.mk hF1; clear hF1 HC1) | ((first | (with_reducible refine Fr.gate_alloc rfl ?_) | (with_reducible refine Fr.gate_box rfl ?_)); apply Fr.fr_box hF.out rfl; (case hrun => first | (go_simp; done) | (go_simp; rfl)); intro g W hF1; have HC1 := hF1.cells; simp only [Fr.Cells, List.length_cons, List.length_nil, Nat.reduceAdd, and_true] at HC1; clear hF HC; have HC := HC1; have hF := Aside0.mk hF1; clear hF1 HC1))
      go_ret2
      exact ⟨by rw [← HN.out]; rfl, hF.out.below⟩
theorem watch_Life.calls (A0 : Option Addr) (c0 : Nat) (l0 : List S51) (a1 a2 a3 : Int) (r1 : Bool) (r2 : Int) (w : World) (hr0 : Kd.C k51 w A0 l0.length l0) (hc0 : l0.length ≤ c0) (h : watch_Life.f l0 a1 a2 a3 = some (r1, r2)) :
    Calls Try.prog 34 #[.slice A0 l0.length c0, .int .i64 a1, .int .i64 a2, .int .i64 a3] w fun e w' => e = .returned (.tuple #[.bool r1, .int .i64 r2]) ∧ Below w.heap.size w w' := by
  unfold watch_Life.f at h
  by_cases hl : l0.length * 40 ≤ 140737488351232
  · rw [if_pos hl] at h
    by_cases hm : upF l0 = true ∧ a1 ≤ a2 ∧ 1 ≤ a3
    · rw [if_pos hm] at h
      simp only [Option.some.injEq, Prod.mk.injEq] at h
      obtain ⟨h, rfl⟩ := h
      exact life_yes A0 c0 l0 a1 a2 a3 w hr0 hl hm.1 hm.2.1 hm.2.2 r1 h
    · rw [if_neg hm] at h
      simp only [Option.some.injEq, Prod.mk.injEq] at h
      obtain ⟨rfl, rfl⟩ := h
      exact life_no A0 c0 l0 a1 a2 a3 w hr0 hl hm
  · rw [if_neg hl] at h; cases h


end Go.Proofs.Ytkkopknlhijgiaa.G
