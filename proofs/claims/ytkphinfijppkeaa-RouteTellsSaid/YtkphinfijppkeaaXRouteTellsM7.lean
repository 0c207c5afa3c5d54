/- Contracts of functions of the given program, and what they come to, for any arguments. No condition beyond each theorem's own premises. -/
import Derived.Test.YtkphinfijppkeaaXRouteTellsM4
import Derived.Test.YtkphinfijppkeaaXRouteTellsM6
import Derived.WalkSpells
import Derived.Deep.Slices
import Derived.Test.YtkphinfijppkeaaXRouteTellsM2
import Derived.Test.YtkphinfijppkeaaXRouteTellsM0
namespace Go.Proofs.Ytkphinfijppkeaa.G
open Go.RowKit Go.Proofs.YtkphinfijppkeaaW.PrintWords Go.Proofs.YtkphinfijppkeaaW.PrintLast Go.Proofs.YtkphinfijppkeaaW.PrintMore
attribute [local go_sem] max2_int min2_int max_two min_two max_three min_three max_four min_four
set_option linter.unusedVariables false
set_option linter.unusedSimpArgs false
section
variable {P : Program} {ops : Array Oper} {rest : List Oper} {o : Oper} {a : Act} {Q : Exit → Act → World → Prop} {w0 W : World} {bs : List Fr.Blk} {rs : List Fr.Row}
end
theorem C_one {α : Type} {d : Kd α} {w0 w : World} {bs : List Fr.Blk} {rs : List Fr.Row} {g t : Nat} {cs : List Value} {x : α} (hF : Fr.Frame w0 w ((g, cs, t) :: bs) rs) (hK : d.K w x cs) : Kd.C d w (some ⟨g, 0, none⟩) [x].length [x] := by
  have hb := (hF.blk (g, cs, t) List.mem_cons_self).2
  refine ⟨rfl, by simp, fun _ => ⟨_, rfl, fun j p hj => ?_⟩⟩
  cases j with
  | zero =>
    obtain rfl : x = p := by simpa using hj
    refine ⟨cs, d.K_len hK, hK, fun i u hu => ?_⟩
    rw [Nat.zero_mul, Nat.zero_add]
    have := blk_cell hb i
    simp only at this
    rw [show (⟨g, 0, none⟩ : Addr).add i = ⟨g, i, none⟩ by unfold Addr.add; split <;> simp_all, this]
    simpa using hu
  | succ j => simp at hj
def hasB (c : Cf) (i p : Int) : Bool := decide (0 ≤ i) && (decide (i < (c.ro.length : Int)) && (decide (0 ≤ p) && decide (p < ((rd_T58 c.ro i).f0.length : Int))))
def chainE (c : Cf) (i p : Int) : Int := if cfgB c = true then (if hasB c i p = true then 0 else 3) else 1
def recvV (c : Cf) (i p : Int) : Int := if chainE c i p = 0 then rd (rd_T58 c.ro i).f0 p else 0
def afterV (c : Cf) (i p : Int) : Int := if chainE c i p = 0 then (p + 1) % ((rd_T58 c.ro i).f0.length : Int) else 0
set_option maxHeartbeats 8000000 in
set_option maxRecDepth 100000 in
theorem chainR_no (c : Cf) (A0 : Option Addr) (c0 : Nat) (A1 : Option Addr) (c1 : Nat) (i p : Int) (w : World) (hr0 : Kd.C k76 w A0 c.rs.length c.rs) (hl0 : c.rs.length ≤ c0) (hr1 : Kd.C k58 w A1 c.ro.length c.ro) (hwf : ∀ x ∈ c.ro, WfR x) (hc : chainE c i p ≠ 0) :
    Calls Try.prog 74 #[.agg #[.slice A0 c.rs.length c0, .slice A1 c.ro.length c1, .int .i64 c.rep, .int .i64 c.beat], .int .i64 i, .int .i64 p] w fun e w' => e = .returned (.tuple #[.slice none 0 0, .int .i64 (chainE c i p)]) ∧ Below w.heap.size w w' := by
  have HR0 := Aside0.mk hr0
  have HR1 := Aside0.mk hr1
  have HG := Aside0.mk (fun (W : World) (hb : Below w.heap.size w W) => cfgRight_calls c A0 c0 A1 c1 W (Kd.C_below hr0 hb) hl0 (Kd.C_below hr1 hb) hwf)
  have hll1 : c.ro.length ≤ 9223372036854775807 := hr1.2.1
  clear hr0 hl0 hr1 hwf
  have hF := Aside0.mk (Fr.Frame.start w)
  have HC : True := trivial
  unfold chainE at hc ⊢
  cases h1 : cfgB c with
  | false =>
    rw [h1] at HG
    have HV := Aside0.mk (show (if (false : Bool) = true then (if hasB c i p = true then (0 : Int) else 3) else 1) = 1 from rfl)
    clear h1 hc
    go_enter Try.func74, Try.ntmps74
    go_wp2_with (first | ((with_reducible refine gate_store rfl ?_); apply Fr.fr_store hF.out rfl rfl rfl; (case hp => rfl); (case hx => first | (go_simp; rfl) | rfl); (case hu => (simp only [Value.cells]; rfl)); (case hs => (repeat (first | exact Fr.Spot.here _ _ | apply Fr.Spot.there))); (case ht => kernel_rfl); (case h1 => simp [Value.oneCell']); (case hfit => simp); intro W hF1; simp only [Fr.patch, List.take_zero, List.nil_append, List.drop, List.append_nil, List.take, List.cons_append, List.length_cons, List.length_nil, Nat.reduceAdd] at hF1; have HC1 := hF1.cells; simp only [Fr.Cells, List.length_cons, List.length_nil, Nat.reduceAdd, and_true] at HC1; clear hF HC; have HC := HC1; have hF := Aside0.mk hF1; clear hF1 HC1) | ((first | (with_reducible refine Fr.gate_alloc rfl ?_) | (with_reducible refine Fr.gate_box rfl ?_)); apply Fr.fr_box hF.out rfl; (case hrun => first | (go_simp; done) | (go_simp; rfl)); intro g W hF1; have HC1 := hF1.cells; simp only [Fr.Cells, List.length_cons, List.length_nil, Nat.reduceAdd, and_true] at HC1; clear hF HC; have HC := HC1; have hF := Aside0.mk hF1; clear hF1 HC1))
    (with_reducible refine (HG.out _ hF.out.below).mono ?_); rintro e W ⟨rfl, hb⟩; have hF1 := hF.out.call hb; clear hb; have HC1 := hF1.cells; simp only [Fr.Cells, List.length_cons, List.length_nil, Nat.reduceAdd, and_true] at HC1; clear hF HC; have HC := HC1; have hF := Aside0.mk hF1; clear hF1 HC1
    go_wp2_with (first | ((with_reducible refine gate_store rfl ?_); apply Fr.fr_store hF.out rfl rfl rfl; (case hp => rfl); (case hx => first | (go_simp; rfl) | rfl); (case hu => (simp only [Value.cells]; rfl)); (case hs => (repeat (first | exact Fr.Spot.here _ _ | apply Fr.Spot.there))); (case ht => kernel_rfl); (case h1 => simp [Value.oneCell']); (case hfit => simp); intro W hF1; simp only [Fr.patch, List.take_zero, List.nil_append, List.drop, List.append_nil, List.take, List.cons_append, List.length_cons, List.length_nil, Nat.reduceAdd] at hF1; have HC1 := hF1.cells; simp only [Fr.Cells, List.length_cons, List.length_nil, Nat.reduceAdd, and_true] at HC1; clear hF HC; have HC := HC1; have hF := Aside0.mk hF1; clear hF1 HC1) | ((first | (with_reducible refine Fr.gate_alloc rfl ?_) | (with_reducible refine Fr.gate_box rfl ?_)); apply Fr.fr_box hF.out rfl; (case hrun => first | (go_simp; done) | (go_simp; rfl)); intro g W hF1; have HC1 := hF1.cells; simp only [Fr.Cells, List.length_cons, List.length_nil, Nat.reduceAdd, and_true] at HC1; clear hF HC; have HC := HC1; have hF := Aside0.mk hF1; clear hF1 HC1))
    go_ret2
    exact ⟨rfl, hF.out.below⟩
  | true =>
    rw [h1] at hc HG
    rw [if_pos rfl] at hc ⊢
    cases h2 : hasB c i p with
    | true => rw [h2] at hc; exact absurd rfl hc
    | false =>
      clear h1 hc
      rw [if_neg (by decide)]
      by_cases k1 : 0 ≤ i
      · by_cases k2 : i < (c.ro.length : Int)
        · by_cases k3 : 0 ≤ p
          · have k4 : ((rd_T58 c.ro i).f0.length : Int) ≤ p := by
              unfold hasB at h2
              rw [decide_eq_true k1, decide_eq_true k2, decide_eq_true k3] at h2
              simpa using h2
            obtain ⟨ad, B0, d0, B1, d1, e1, a0, a1, g0, g1, g2, g3⟩ := at_T58 HR1.out i k1 k2
            cases e1
            have hxl : (rd_T58 c.ro i).f0.length ≤ 9223372036854775807 := g1.2.1
            clear h2 g0 g1 g2 g3
            go_enter Try.func74, Try.ntmps74
            go_wp2_with (first | ((with_reducible refine gate_store rfl ?_); apply Fr.fr_store hF.out rfl rfl rfl; (case hp => rfl); (case hx => first | (go_simp; rfl) | rfl); (case hu => (simp only [Value.cells]; rfl)); (case hs => (repeat (first | exact Fr.Spot.here _ _ | apply Fr.Spot.there))); (case ht => kernel_rfl); (case h1 => simp [Value.oneCell']); (case hfit => simp); intro W hF1; simp only [Fr.patch, List.take_zero, List.nil_append, List.drop, List.append_nil, List.take, List.cons_append, List.length_cons, List.length_nil, Nat.reduceAdd] at hF1; have HC1 := hF1.cells; simp only [Fr.Cells, List.length_cons, List.length_nil, Nat.reduceAdd, and_true] at HC1; clear hF HC; have HC := HC1; have hF := Aside0.mk hF1; clear hF1 HC1) | ((first | (with_reducible refine Fr.gate_alloc rfl ?_) | (with_reducible refine Fr.gate_box rfl ?_)); apply Fr.fr_box hF.out rfl; (case hrun => first | (go_simp; done) | (go_simp; rfl)); intro g W hF1; have HC1 := hF1.cells; simp only [Fr.Cells, List.length_cons, List.length_nil, Nat.reduceAdd, and_true] at HC1; clear hF HC; have HC := HC1; have hF := Aside0.mk hF1; clear hF1 HC1))
            (with_reducible refine (HG.out _ hF.out.below).mono ?_); rintro e W ⟨rfl, hb⟩; have hF1 := hF.out.call hb; clear hb; have HC1 := hF1.cells; simp only [Fr.Cells, List.length_cons, List.length_nil, Nat.reduceAdd, and_true] at HC1; clear hF HC; have HC := HC1; have hF := Aside0.mk hF1; clear hF1 HC1
            replace a0 := (hF.out.below.cell (World.block_lt_of_cell? w _ a0)).trans a0
            go_wp2_with (first | ((with_reducible refine gate_store rfl ?_); apply Fr.fr_store hF.out rfl rfl rfl; (case hp => rfl); (case hx => first | (go_simp; rfl) | rfl); (case hu => (simp only [Value.cells]; rfl)); (case hs => (repeat (first | exact Fr.Spot.here _ _ | apply Fr.Spot.there))); (case ht => kernel_rfl); (case h1 => simp [Value.oneCell']); (case hfit => simp); intro W hF1; simp only [Fr.patch, List.take_zero, List.nil_append, List.drop, List.append_nil, List.take, List.cons_append, List.length_cons, List.length_nil, Nat.reduceAdd] at hF1; have HC1 := hF1.cells; simp only [Fr.Cells, List.length_cons, List.length_nil, Nat.reduceAdd, and_true] at HC1; clear hF HC; have HC := HC1; have hF := Aside0.mk hF1; clear hF1 HC1) | ((first | (with_reducible refine Fr.gate_alloc rfl ?_) | (with_reducible refine Fr.gate_box rfl ?_)); apply Fr.fr_box hF.out rfl; (case hrun => first | (go_simp; done) | (go_simp; rfl)); intro g W hF1; have HC1 := hF1.cells; simp only [Fr.Cells, List.length_cons, List.length_nil, Nat.reduceAdd, and_true] at HC1; clear hF HC; have HC := HC1; have hF := Aside0.mk hF1; clear hF1 HC1))
            go_ret2
            exact ⟨rfl, hF.out.below⟩
          · have k3' : p < 0 := by omega
            clear h2 k3
            go_enter Try.func74, Try.ntmps74
            go_wp2_with (first | ((with_reducible refine gate_store rfl ?_); apply Fr.fr_store hF.out rfl rfl rfl; (case hp => rfl); (case hx => first | (go_simp; rfl) | rfl); (case hu => (simp only [Value.cells]; rfl)); (case hs => (repeat (first | exact Fr.Spot.here _ _ | apply Fr.Spot.there))); (case ht => kernel_rfl); (case h1 => simp [Value.oneCell']); (case hfit => simp); intro W hF1; simp only [Fr.patch, List.take_zero, List.nil_append, List.drop, List.append_nil, List.take, List.cons_append, List.length_cons, List.length_nil, Nat.reduceAdd] at hF1; have HC1 := hF1.cells; simp only [Fr.Cells, List.length_cons, List.length_nil, Nat.reduceAdd, and_true] at HC1; clear hF HC; have HC := HC1; have hF := Aside0.mk hF1; clear hF1 HC1) | ((first | (with_reducible refine Fr.gate_alloc rfl ?_) | (with_reducible refine Fr.gate_box rfl ?_)); apply Fr.fr_box hF.out rfl; (case hrun => first | (go_simp; done) | (go_simp; rfl)); intro g W hF1; have HC1 := hF1.cells; simp only [Fr.Cells, List.length_cons, List.length_nil, Nat.reduceAdd, and_true] at HC1; clear hF HC; have HC := HC1; have hF := Aside0.mk hF1; clear hF1 HC1))
            (with_reducible refine (HG.out _ hF.out.below).mono ?_); rintro e W ⟨rfl, hb⟩; have hF1 := hF.out.call hb; clear hb; have HC1 := hF1.cells; simp only [Fr.Cells, List.length_cons, List.length_nil, Nat.reduceAdd, and_true] at HC1; clear hF HC; have HC := HC1; have hF := Aside0.mk hF1; clear hF1 HC1
            go_wp2_with (first | ((with_reducible refine gate_store rfl ?_); apply Fr.fr_store hF.out rfl rfl rfl; (case hp => rfl); (case hx => first | (go_simp; rfl) | rfl); (case hu => (simp only [Value.cells]; rfl)); (case hs => (repeat (first | exact Fr.Spot.here _ _ | apply Fr.Spot.there))); (case ht => kernel_rfl); (case h1 => simp [Value.oneCell']); (case hfit => simp); intro W hF1; simp only [Fr.patch, List.take_zero, List.nil_append, List.drop, List.append_nil, List.take, List.cons_append, List.length_cons, List.length_nil, Nat.reduceAdd] at hF1; have HC1 := hF1.cells; simp only [Fr.Cells, List.length_cons, List.length_nil, Nat.reduceAdd, and_true] at HC1; clear hF HC; have HC := HC1; have hF := Aside0.mk hF1; clear hF1 HC1) | ((first | (with_reducible refine Fr.gate_alloc rfl ?_) | (with_reducible refine Fr.gate_box rfl ?_)); apply Fr.fr_box hF.out rfl; (case hrun => first | (go_simp; done) | (go_simp; rfl)); intro g W hF1; have HC1 := hF1.cells; simp only [Fr.Cells, List.length_cons, List.length_nil, Nat.reduceAdd, and_true] at HC1; clear hF HC; have HC := HC1; have hF := Aside0.mk hF1; clear hF1 HC1))
            go_ret2
            exact ⟨rfl, hF.out.below⟩
        · have k2' : (c.ro.length : Int) ≤ i := by omega
          clear h2 k2
          go_enter Try.func74, Try.ntmps74
          go_wp2_with (first | ((with_reducible refine gate_store rfl ?_); apply Fr.fr_store hF.out rfl rfl rfl; (case hp => rfl); (case hx => first | (go_simp; rfl) | rfl); (case hu => (simp only [Value.cells]; rfl)); (case hs => (repeat (first | exact Fr.Spot.here _ _ | apply Fr.Spot.there))); (case ht => kernel_rfl); (case h1 => simp [Value.oneCell']); (case hfit => simp); intro W hF1; simp only [Fr.patch, List.take_zero, List.nil_append, List.drop, List.append_nil, List.take, List.cons_append, List.length_cons, List.length_nil, Nat.reduceAdd] at hF1; have HC1 := hF1.cells; simp only [Fr.Cells, List.length_cons, List.length_nil, Nat.reduceAdd, and_true] at HC1; clear hF HC; have HC := HC1; have hF := Aside0.mk hF1; clear hF1 HC1) | ((first | (with_reducible refine Fr.gate_alloc rfl ?_) | (with_reducible refine Fr.gate_box rfl ?_)); apply Fr.fr_box hF.out rfl; (case hrun => first | (go_simp; done) | (go_simp; rfl)); intro g W hF1; have HC1 := hF1.cells; simp only [Fr.Cells, List.length_cons, List.length_nil, Nat.reduceAdd, and_true] at HC1; clear hF HC; have HC := HC1; have hF := Aside0.mk hF1; clear hF1 HC1))
          (with_reducible refine (HG.out _ hF.out.below).mono ?_); rintro e W ⟨rfl, hb⟩; have hF1 := hF.out.call hb; clear hb; have HC1 := hF1.cells; simp only [Fr.Cells, List.length_cons, List.length_nil, Nat.reduceAdd, and_true] at HC1; clear hF HC; have HC := HC1; have hF := Aside0.mk hF1; clear hF1 HC1
          go_wp2_with (first | ((with_reducible refine gate_store rfl ?_); apply Fr.fr_store hF.out rfl rfl rfl; (case hp => rfl); (case hx => first | (go_simp; rfl) | rfl); (case hu => (simp only [Value.cells]; rfl)); (case hs => (repeat (first | exact Fr.Spot.here _ _ | apply Fr.Spot.there))); (case ht => kernel_rfl); (case h1 => simp [Value.oneCell']); (case hfit => simp); intro W hF1; simp only [Fr.patch, List.take_zero, List.nil_append, List.drop, List.append_nil, List.take, List.cons_append, List.length_cons, List.length_nil, Nat.reduceAdd] at hF1; have HC1 := hF1.cells; simp only [Fr.Cells, List.length_cons, List.length_nil, Nat.reduceAdd, and_true] at HC1; clear hF HC; have HC := HC1; have hF := Aside0.mk hF1; clear hF1 HC1) | ((first | (with_reducible refine Fr.gate_alloc rfl ?_) | (with_reducible refine Fr.gate_box rfl ?_)); apply Fr.fr_box hF.out rfl; (case hrun => first | (go_simp; done) | (go_simp; rfl)); intro g W hF1; have HC1 := hF1.cells; simp only [Fr.Cells, List.length_cons, List.length_nil, Nat.reduceAdd, and_true] at HC1; clear hF HC; have HC := HC1; have hF := Aside0.mk hF1; clear hF1 HC1))
          go_ret2
          exact ⟨rfl, hF.out.below⟩
      · have k1' : i < 0 := by omega
        clear h2 k1
        go_enter Try.func74, Try.ntmps74
        go_wp2_with (first | ((with_reducible refine gate_store rfl ?_); apply Fr.fr_store hF.out rfl rfl rfl; (case hp => rfl); (case hx => first | (go_simp; rfl) | rfl); (case hu => (simp only [Value.cells]; rfl)); (case hs => (repeat (first | exact Fr.Spot.here _ _ | apply Fr.Spot.there))); (case ht => kernel_rfl); (case h1 => simp [Value.oneCell']); (case hfit => simp); intro W hF1; simp only [Fr.patch, List.take_zero, List.nil_append, List.drop, List.append_nil, List.take, List.cons_append, List.length_cons, List.length_nil, Nat.reduceAdd] at hF1; have HC1 := hF1.cells; simp only [Fr.Cells, List.length_cons, List.length_nil, Nat.reduceAdd, and_true] at HC1; clear hF HC; have HC := HC1; have hF := Aside0.mk hF1; clear hF1 HC1) | ((first | (with_reducible refine Fr.gate_alloc rfl ?_) | (with_reducible refine Fr.gate_box rfl ?_)); apply Fr.fr_box hF.out rfl; (case hrun => first | (go_simp; done) | (go_simp; rfl)); intro g W hF1; have HC1 := hF1.cells; simp only [Fr.Cells, List.length_cons, List.length_nil, Nat.reduceAdd, and_true] at HC1; clear hF HC; have HC := HC1; have hF := Aside0.mk hF1; clear hF1 HC1))
        (with_reducible refine (HG.out _ hF.out.below).mono ?_); rintro e W ⟨rfl, hb⟩; have hF1 := hF.out.call hb; clear hb; have HC1 := hF1.cells; simp only [Fr.Cells, List.length_cons, List.length_nil, Nat.reduceAdd, and_true] at HC1; clear hF HC; have HC := HC1; have hF := Aside0.mk hF1; clear hF1 HC1
        go_wp2_with (first | ((with_reducible refine gate_store rfl ?_); apply Fr.fr_store hF.out rfl rfl rfl; (case hp => rfl); (case hx => first | (go_simp; rfl) | rfl); (case hu => (simp only [Value.cells]; rfl)); (case hs => (repeat (first | exact Fr.Spot.here _ _ | apply Fr.Spot.there))); (case ht => kernel_rfl); (case h1 => simp [Value.oneCell']); (case hfit => simp); intro W hF1; simp only [Fr.patch, List.take_zero, List.nil_append, List.drop, List.append_nil, List.take, List.cons_append, List.length_cons, List.length_nil, Nat.reduceAdd] at hF1; have HC1 := hF1.cells; simp only [Fr.Cells, List.length_cons, List.length_nil, Nat.reduceAdd, and_true] at HC1; clear hF HC; have HC := HC1; have hF := Aside0.mk hF1; clear hF1 HC1) | ((first | (with_reducible refine Fr.gate_alloc rfl ?_) | (with_reducible refine Fr.gate_box rfl ?_)); apply Fr.fr_box hF.out rfl; (case hrun => first | (go_simp; done) | (go_simp; rfl)); intro g W hF1; have HC1 := hF1.cells; simp only [Fr.Cells, List.length_cons, List.length_nil, Nat.reduceAdd, and_true] at HC1; clear hF HC; have HC := HC1; have hF := Aside0.mk hF1; clear hF1 HC1))
        go_ret2
        exact ⟨rfl, hF.out.below⟩
theorem chain_facts {c : Cf} {i p : Int} (hc : chainE c i p = 0) : cfgB c = true ∧ 0 ≤ i ∧ i < (c.ro.length : Int) ∧ 0 ≤ p ∧ p < ((rd_T58 c.ro i).f0.length : Int) := by
  unfold chainE at hc
  cases h1 : cfgB c with
  | false => rw [h1] at hc; simp at hc
  | true =>
    rw [h1, if_pos rfl] at hc
    cases h2 : hasB c i p with
    | false => rw [h2] at hc; simp at hc
    | true =>
      unfold hasB at h2
      simp only [Bool.and_eq_true, decide_eq_true_eq] at h2
      exact ⟨rfl, h2⟩
set_option maxHeartbeats 8000000 in
set_option maxRecDepth 100000 in
theorem chain_ok (c : Cf) (A0 : Option Addr) (c0 : Nat) (A1 : Option Addr) (c1 : Nat) (i p : Int) (w : World) (hr0 : Kd.C k76 w A0 c.rs.length c.rs) (hl0 : c.rs.length ≤ c0) (hr1 : Kd.C k58 w A1 c.ro.length c.ro) (hwf : ∀ x ∈ c.ro, WfR x) (hc : chainE c i p = 0) :
    Calls Try.prog 74 #[.agg #[.slice A0 c.rs.length c0, .slice A1 c.ro.length c1, .int .i64 c.rep, .int .i64 c.beat], .int .i64 i, .int .i64 p] w fun e w' => ∃ A n, e = .returned (.tuple #[.slice A (rd_T58 c.ro i).f0.length n, .int .i64 0]) ∧ Kd.C (Kd.int .i64) w A (rd_T58 c.ro i).f0.length (rd_T58 c.ro i).f0 ∧ Below w.heap.size w w' := by
  have HR0 := Aside0.mk hr0
  have HR1 := Aside0.mk hr1
  have HG := Aside0.mk (fun (W : World) (hb : Below w.heap.size w W) => cfgRight_calls c A0 c0 A1 c1 W (Kd.C_below hr0 hb) hl0 (Kd.C_below hr1 hb) hwf)
  have hll1 : c.ro.length ≤ 9223372036854775807 := hr1.2.1
  clear hr0 hl0 hr1 hwf
  have hF := Aside0.mk (Fr.Frame.start w)
  have HC : True := trivial
  obtain ⟨h1, k1, k2, k3, k4⟩ := chain_facts hc
  rw [h1] at HG
  clear h1 hc
  obtain ⟨ad, B0, d0, B1, d1, e1, a0, a1, g0, g1, g2, g3⟩ := at_T58 HR1.out i k1 k2
  cases e1
  have hxl : (rd_T58 c.ro i).f0.length ≤ 9223372036854775807 := g1.2.1
  have G1 := Aside0.mk g1
  clear g0 g1 g2 g3
  go_enter Try.func74, Try.ntmps74
  go_wp2_with (first | ((with_reducible refine gate_store rfl ?_); apply Fr.fr_store hF.out rfl rfl rfl; (case hp => rfl); (case hx => first | (go_simp; rfl) | rfl); (case hu => (simp only [Value.cells]; rfl)); (case hs => (repeat (first | exact Fr.Spot.here _ _ | apply Fr.Spot.there))); (case ht => kernel_rfl); (case h1 => simp [Value.oneCell']); (case hfit => simp); intro W hF1; simp only [Fr.patch, List.take_zero, List.nil_append, List.drop, List.append_nil, List.take, List.cons_append, List.length_cons, List.length_nil, Nat.reduceAdd] at hF1; have HC1 := hF1.cells; simp only [Fr.Cells, List.length_cons, List.length_nil, Nat.reduceAdd, and_true] at HC1; clear hF HC; have HC := HC1; have hF := Aside0.mk hF1; clear hF1 HC1) | ((first | (with_reducible refine Fr.gate_alloc rfl ?_) | (with_reducible refine Fr.gate_box rfl ?_)); apply Fr.fr_box hF.out rfl; (case hrun => first | (go_simp; done) | (go_simp; rfl)); intro g W hF1; have HC1 := hF1.cells; simp only [Fr.Cells, List.length_cons, List.length_nil, Nat.reduceAdd, and_true] at HC1; clear hF HC; have HC := HC1; have hF := Aside0.mk hF1; clear hF1 HC1))
  (with_reducible refine (HG.out _ hF.out.below).mono ?_); rintro e W ⟨rfl, hb⟩; have hF1 := hF.out.call hb; clear hb; have HC1 := hF1.cells; simp only [Fr.Cells, List.length_cons, List.length_nil, Nat.reduceAdd, and_true] at HC1; clear hF HC; have HC := HC1; have hF := Aside0.mk hF1; clear hF1 HC1
  replace a0 := (hF.out.below.cell (World.block_lt_of_cell? w _ a0)).trans a0
  go_wp2_with (first | ((with_reducible refine gate_store rfl ?_); apply Fr.fr_store hF.out rfl rfl rfl; (case hp => rfl); (case hx => first | (go_simp; rfl) | rfl); (case hu => (simp only [Value.cells]; rfl)); (case hs => (repeat (first | exact Fr.Spot.here _ _ | apply Fr.Spot.there))); (case ht => kernel_rfl); (case h1 => simp [Value.oneCell']); (case hfit => simp); intro W hF1; simp only [Fr.patch, List.take_zero, List.nil_append, List.drop, List.append_nil, List.take, List.cons_append, List.length_cons, List.length_nil, Nat.reduceAdd] at hF1; have HC1 := hF1.cells; simp only [Fr.Cells, List.length_cons, List.length_nil, Nat.reduceAdd, and_true] at HC1; clear hF HC; have HC := HC1; have hF := Aside0.mk hF1; clear hF1 HC1) | ((first | (with_reducible refine Fr.gate_alloc rfl ?_) | (with_reducible refine Fr.gate_box rfl ?_)); apply Fr.fr_box hF.out rfl; (case hrun => first | (go_simp; done) | (go_simp; rfl)); intro g W hF1; have HC1 := hF1.cells; simp only [Fr.Cells, List.length_cons, List.length_nil, Nat.reduceAdd, and_true] at HC1; clear hF HC; have HC := HC1; have hF := Aside0.mk hF1; clear hF1 HC1))
  go_ret2
  exact ⟨B0, d0, rfl, G1.out, hF.out.below⟩
set_option maxHeartbeats 8000000 in
set_option maxRecDepth 100000 in
theorem receiver_calls (c : Cf) (A0 : Option Addr) (c0 : Nat) (A1 : Option Addr) (c1 : Nat) (i p : Int) (w : World) (hr0 : Kd.C k76 w A0 c.rs.length c.rs) (hl0 : c.rs.length ≤ c0) (hr1 : Kd.C k58 w A1 c.ro.length c.ro) (hwf : ∀ x ∈ c.ro, WfR x) :
    Calls Try.prog 35 #[.agg #[.slice A0 c.rs.length c0, .slice A1 c.ro.length c1, .int .i64 c.rep, .int .i64 c.beat], .int .i64 i, .int .i64 p] w fun e w' => e = .returned (.tuple #[.int .i64 (recvV c i p), .int .i64 (chainE c i p)]) ∧ Below w.heap.size w w' := by
  by_cases h : chainE c i p = 0
  · have HV := Aside0.mk h
    have HO := Aside0.mk (fun (W : World) (hb : Below w.heap.size w W) => chain_ok c A0 c0 A1 c1 i p W (Kd.C_below hr0 hb) hl0 (Kd.C_below hr1 hb) hwf h)
    obtain ⟨h1, k1, k2, k3, k4⟩ := chain_facts h
    have hE : recvV c i p = rd (rd_T58 c.ro i).f0 p := by unfold recvV; rw [if_pos h]
    rw [h, hE]
    clear hr0 hl0 hr1 hwf h h1 hE
    obtain ⟨xs, hxs⟩ : ∃ xs, (rd_T58 c.ro i).f0 = xs := ⟨_, rfl⟩
    rw [hxs] at HO k4 ⊢
    have hF := Aside0.mk (Fr.Frame.start w)
    have HC : True := trivial
    go_enter Try.func35, Try.ntmps35
    go_wp2_with (first | ((with_reducible refine gate_store rfl ?_); apply Fr.fr_store hF.out rfl rfl rfl; (case hp => rfl); (case hx => first | (go_simp; rfl) | rfl); (case hu => (simp only [Value.cells]; rfl)); (case hs => (repeat (first | exact Fr.Spot.here _ _ | apply Fr.Spot.there))); (case ht => kernel_rfl); (case h1 => simp [Value.oneCell']); (case hfit => simp); intro W hF1; simp only [Fr.patch, List.take_zero, List.nil_append, List.drop, List.append_nil, List.take, List.cons_append, List.length_cons, List.length_nil, Nat.reduceAdd] at hF1; have HC1 := hF1.cells; simp only [Fr.Cells, List.length_cons, List.length_nil, Nat.reduceAdd, and_true] at HC1; clear hF HC; have HC := HC1; have hF := Aside0.mk hF1; clear hF1 HC1) | ((first | (with_reducible refine Fr.gate_alloc rfl ?_) | (with_reducible refine Fr.gate_box rfl ?_)); apply Fr.fr_box hF.out rfl; (case hrun => first | (go_simp; done) | (go_simp; rfl)); intro g W hF1; have HC1 := hF1.cells; simp only [Fr.Cells, List.length_cons, List.length_nil, Nat.reduceAdd, and_true] at HC1; clear hF HC; have HC := HC1; have hF := Aside0.mk hF1; clear hF1 HC1))
    (with_reducible refine (HO.out _ hF.out.below).mono ?_)
    rintro e W ⟨Ar, nr, rfl, hr, hb⟩
    have hF1 := hF.out.call hb
    have hr2 := Kd.C_below hr hb
    have hxl : xs.length ≤ 9223372036854775807 := hr.2.1
    clear hb hr
    have HC1 := hF1.cells; simp only [Fr.Cells, List.length_cons, List.length_nil, Nat.reduceAdd, and_true] at HC1; clear hF HC; have HC := HC1; have hF := Aside0.mk hF1; clear hF1 HC1
    obtain ⟨ad, e1, a0⟩ := Kd.at_int hr2 p k3 k4
    cases e1
    clear hr2
    go_wp2_with (first | ((with_reducible refine gate_store rfl ?_); apply Fr.fr_store hF.out rfl rfl rfl; (case hp => rfl); (case hx => first | (go_simp; rfl) | rfl); (case hu => (simp only [Value.cells]; rfl)); (case hs => (repeat (first | exact Fr.Spot.here _ _ | apply Fr.Spot.there))); (case ht => kernel_rfl); (case h1 => simp [Value.oneCell']); (case hfit => simp); intro W hF1; simp only [Fr.patch, List.take_zero, List.nil_append, List.drop, List.append_nil, List.take, List.cons_append, List.length_cons, List.length_nil, Nat.reduceAdd] at hF1; have HC1 := hF1.cells; simp only [Fr.Cells, List.length_cons, List.length_nil, Nat.reduceAdd, and_true] at HC1; clear hF HC; have HC := HC1; have hF := Aside0.mk hF1; clear hF1 HC1) | ((first | (with_reducible refine Fr.gate_alloc rfl ?_) | (with_reducible refine Fr.gate_box rfl ?_)); apply Fr.fr_box hF.out rfl; (case hrun => first | (go_simp; done) | (go_simp; rfl)); intro g W hF1; have HC1 := hF1.cells; simp only [Fr.Cells, List.length_cons, List.length_nil, Nat.reduceAdd, and_true] at HC1; clear hF HC; have HC := HC1; have hF := Aside0.mk hF1; clear hF1 HC1))
    go_ret2
    exact ⟨rfl, hF.out.below⟩
  · have HO := Aside0.mk (fun (W : World) (hb : Below w.heap.size w W) => chainR_no c A0 c0 A1 c1 i p W (Kd.C_below hr0 hb) hl0 (Kd.C_below hr1 hb) hwf h)
    have hE : recvV c i p = 0 := by unfold recvV; rw [if_neg h]
    rw [hE]
    have hne : (chainE c i p == 0) = false := by rw [beq_eq_false_iff_ne]; exact h
    clear hr0 hl0 hr1 hwf hE
    obtain ⟨ee, hee⟩ : ∃ ee, chainE c i p = ee := ⟨_, rfl⟩
    rw [hee] at HO h hne ⊢
    have hF := Aside0.mk (Fr.Frame.start w)
    have HC : True := trivial
    have hne2 : (ee != 0) = true := by rw [bne, hne]; rfl
    go_enter Try.func35, Try.ntmps35
    go_wp2_with (first | ((with_reducible refine gate_store rfl ?_); apply Fr.fr_store hF.out rfl rfl rfl; (case hp => rfl); (case hx => first | (go_simp; rfl) | rfl); (case hu => (simp only [Value.cells]; rfl)); (case hs => (repeat (first | exact Fr.Spot.here _ _ | apply Fr.Spot.there))); (case ht => kernel_rfl); (case h1 => simp [Value.oneCell']); (case hfit => simp); intro W hF1; simp only [Fr.patch, List.take_zero, List.nil_append, List.drop, List.append_nil, List.take, List.cons_append, List.length_cons, List.length_nil, Nat.reduceAdd] at hF1; have HC1 := hF1.cells; simp only [Fr.Cells, List.length_cons, List.length_nil, Nat.reduceAdd, and_true] at HC1; clear hF HC; have HC := HC1; have hF := Aside0.mk hF1; clear hF1 HC1) | ((first | (with_reducible refine Fr.gate_alloc rfl ?_) | (with_reducible refine Fr.gate_box rfl ?_)); apply Fr.fr_box hF.out rfl; (case hrun => first | (go_simp; done) | (go_simp; rfl)); intro g W hF1; have HC1 := hF1.cells; simp only [Fr.Cells, List.length_cons, List.length_nil, Nat.reduceAdd, and_true] at HC1; clear hF HC; have HC := HC1; have hF := Aside0.mk hF1; clear hF1 HC1))
    (with_reducible refine (HO.out _ hF.out.below).mono ?_); rintro e W ⟨rfl, hb⟩; have hF1 := hF.out.call hb; clear hb; have HC1 := hF1.cells; simp only [Fr.Cells, List.length_cons, List.length_nil, Nat.reduceAdd, and_true] at HC1; clear hF HC; have HC := HC1; have hF := Aside0.mk hF1; clear hF1 HC1
    go_wp2_with (first | ((with_reducible refine gate_store rfl ?_); apply Fr.fr_store hF.out rfl rfl rfl; (case hp => rfl); (case hx => first | (go_simp; rfl) | rfl); (case hu => (simp only [Value.cells]; rfl)); (case hs => (repeat (first | exact Fr.Spot.here _ _ | apply Fr.Spot.there))); (case ht => kernel_rfl); (case h1 => simp [Value.oneCell']); (case hfit => simp); intro W hF1; simp only [Fr.patch, List.take_zero, List.nil_append, List.drop, List.append_nil, List.take, List.cons_append, List.length_cons, List.length_nil, Nat.reduceAdd] at hF1; have HC1 := hF1.cells; simp only [Fr.Cells, List.length_cons, List.length_nil, Nat.reduceAdd, and_true] at HC1; clear hF HC; have HC := HC1; have hF := Aside0.mk hF1; clear hF1 HC1) | ((first | (with_reducible refine Fr.gate_alloc rfl ?_) | (with_reducible refine Fr.gate_box rfl ?_)); apply Fr.fr_box hF.out rfl; (case hrun => first | (go_simp; done) | (go_simp; rfl)); intro g W hF1; have HC1 := hF1.cells; simp only [Fr.Cells, List.length_cons, List.length_nil, Nat.reduceAdd, and_true] at HC1; clear hF HC; have HC := HC1; have hF := Aside0.mk hF1; clear hF1 HC1))
    go_ret2
    exact ⟨rfl, hF.out.below⟩
set_option maxHeartbeats 8000000 in
set_option maxRecDepth 100000 in
theorem after_calls (c : Cf) (A0 : Option Addr) (c0 : Nat) (A1 : Option Addr) (c1 : Nat) (i p : Int) (w : World) (hr0 : Kd.C k76 w A0 c.rs.length c.rs) (hl0 : c.rs.length ≤ c0) (hr1 : Kd.C k58 w A1 c.ro.length c.ro) (hwf : ∀ x ∈ c.ro, WfR x) :
    Calls Try.prog 36 #[.agg #[.slice A0 c.rs.length c0, .slice A1 c.ro.length c1, .int .i64 c.rep, .int .i64 c.beat], .int .i64 i, .int .i64 p] w fun e w' => e = .returned (.tuple #[.int .i64 (afterV c i p), .int .i64 (chainE c i p)]) ∧ Below w.heap.size w w' := by
  by_cases h : chainE c i p = 0
  · have HV := Aside0.mk h
    have HO := Aside0.mk (fun (W : World) (hb : Below w.heap.size w W) => chain_ok c A0 c0 A1 c1 i p W (Kd.C_below hr0 hb) hl0 (Kd.C_below hr1 hb) hwf h)
    obtain ⟨h1, k1, k2, k3, k4⟩ := chain_facts h
    have hE : afterV c i p = (p + 1) % ((rd_T58 c.ro i).f0.length : Int) := by unfold afterV; rw [if_pos h]
    rw [h, hE]
    clear hr0 hl0 hr1 hwf h h1 hE
    obtain ⟨xs, hxs⟩ : ∃ xs, (rd_T58 c.ro i).f0 = xs := ⟨_, rfl⟩
    rw [hxs] at HO k4 ⊢
    have hF := Aside0.mk (Fr.Frame.start w)
    have HC : True := trivial
    go_enter Try.func36, Try.ntmps36
    go_wp2_with (first | ((with_reducible refine gate_store rfl ?_); apply Fr.fr_store hF.out rfl rfl rfl; (case hp => rfl); (case hx => first | (go_simp; rfl) | rfl); (case hu => (simp only [Value.cells]; rfl)); (case hs => (repeat (first | exact Fr.Spot.here _ _ | apply Fr.Spot.there))); (case ht => kernel_rfl); (case h1 => simp [Value.oneCell']); (case hfit => simp); intro W hF1; simp only [Fr.patch, List.take_zero, List.nil_append, List.drop, List.append_nil, List.take, List.cons_append, List.length_cons, List.length_nil, Nat.reduceAdd] at hF1; have HC1 := hF1.cells; simp only [Fr.Cells, List.length_cons, List.length_nil, Nat.reduceAdd, and_true] at HC1; clear hF HC; have HC := HC1; have hF := Aside0.mk hF1; clear hF1 HC1) | ((first | (with_reducible refine Fr.gate_alloc rfl ?_) | (with_reducible refine Fr.gate_box rfl ?_)); apply Fr.fr_box hF.out rfl; (case hrun => first | (go_simp; done) | (go_simp; rfl)); intro g W hF1; have HC1 := hF1.cells; simp only [Fr.Cells, List.length_cons, List.length_nil, Nat.reduceAdd, and_true] at HC1; clear hF HC; have HC := HC1; have hF := Aside0.mk hF1; clear hF1 HC1))
    (with_reducible refine (HO.out _ hF.out.below).mono ?_)
    rintro e W ⟨Ar, nr, rfl, hr, hb⟩
    have hF1 := hF.out.call hb
    have hr2 := Kd.C_below hr hb
    have hxl : xs.length ≤ 9223372036854775807 := hr.2.1
    clear hb hr
    have HC1 := hF1.cells; simp only [Fr.Cells, List.length_cons, List.length_nil, Nat.reduceAdd, and_true] at HC1; clear hF HC; have HC := HC1; have hF := Aside0.mk hF1; clear hF1 HC1
    obtain ⟨ad, e1, a0⟩ := Kd.at_int hr2 p k3 k4
    cases e1
    clear hr2
    go_wp2_with (first | ((with_reducible refine gate_store rfl ?_); apply Fr.fr_store hF.out rfl rfl rfl; (case hp => rfl); (case hx => first | (go_simp; rfl) | rfl); (case hu => (simp only [Value.cells]; rfl)); (case hs => (repeat (first | exact Fr.Spot.here _ _ | apply Fr.Spot.there))); (case ht => kernel_rfl); (case h1 => simp [Value.oneCell']); (case hfit => simp); intro W hF1; simp only [Fr.patch, List.take_zero, List.nil_append, List.drop, List.append_nil, List.take, List.cons_append, List.length_cons, List.length_nil, Nat.reduceAdd] at hF1; have HC1 := hF1.cells; simp only [Fr.Cells, List.length_cons, List.length_nil, Nat.reduceAdd, and_true] at HC1; clear hF HC; have HC := HC1; have hF := Aside0.mk hF1; clear hF1 HC1) | ((first | (with_reducible refine Fr.gate_alloc rfl ?_) | (with_reducible refine Fr.gate_box rfl ?_)); apply Fr.fr_box hF.out rfl; (case hrun => first | (go_simp; done) | (go_simp; rfl)); intro g W hF1; have HC1 := hF1.cells; simp only [Fr.Cells, List.length_cons, List.length_nil, Nat.reduceAdd, and_true] at HC1; clear hF HC; have HC := HC1; have hF := Aside0.mk hF1; clear hF1 HC1))
    go_ret2
    exact ⟨rfl, hF.out.below⟩
  · have HO := Aside0.mk (fun (W : World) (hb : Below w.heap.size w W) => chainR_no c A0 c0 A1 c1 i p W (Kd.C_below hr0 hb) hl0 (Kd.C_below hr1 hb) hwf h)
    have hE : afterV c i p = 0 := by unfold afterV; rw [if_neg h]
    rw [hE]
    have hne : (chainE c i p == 0) = false := by rw [beq_eq_false_iff_ne]; exact h
    clear hr0 hl0 hr1 hwf hE
    obtain ⟨ee, hee⟩ : ∃ ee, chainE c i p = ee := ⟨_, rfl⟩
    rw [hee] at HO h hne ⊢
    have hF := Aside0.mk (Fr.Frame.start w)
    have HC : True := trivial
    have hne2 : (ee != 0) = true := by rw [bne, hne]; rfl
    go_enter Try.func36, Try.ntmps36
    go_wp2_with (first | ((with_reducible refine gate_store rfl ?_); apply Fr.fr_store hF.out rfl rfl rfl; (case hp => rfl); (case hx => first | (go_simp; rfl) | rfl); (case hu => (simp only [Value.cells]; rfl)); (case hs => (repeat (first | exact Fr.Spot.here _ _ | apply Fr.Spot.there))); (case ht => kernel_rfl); (case h1 => simp [Value.oneCell']); (case hfit => simp); intro W hF1; simp only [Fr.patch, List.take_zero, List.nil_append, List.drop, List.append_nil, List.take, List.cons_append, List.length_cons, List.length_nil, Nat.reduceAdd] at hF1; have HC1 := hF1.cells; simp only [Fr.Cells, List.length_cons, List.length_nil, Nat.reduceAdd, and_true] at HC1; clear hF HC; have HC := HC1; have hF := Aside0.mk hF1; clear hF1 HC1) | ((first | (with_reducible refine Fr.gate_alloc rfl ?_) | (with_reducible refine Fr.gate_box rfl ?_)); apply Fr.fr_box hF.out rfl; (case hrun => first | (go_simp; done) | (go_simp; rfl)); intro g W hF1; have HC1 := hF1.cells; simp only [Fr.Cells, List.length_cons, List.length_nil, Nat.reduceAdd, and_true] at HC1; clear hF HC; have HC := HC1; have hF := Aside0.mk hF1; clear hF1 HC1))
    (with_reducible refine (HO.out _ hF.out.below).mono ?_); rintro e W ⟨rfl, hb⟩; have hF1 := hF.out.call hb; clear hb; have HC1 := hF1.cells; simp only [Fr.Cells, List.length_cons, List.length_nil, Nat.reduceAdd, and_true] at HC1; clear hF HC; have HC := HC1; have hF := Aside0.mk hF1; clear hF1 HC1
    go_wp2_with (first | ((with_reducible refine gate_store rfl ?_); apply Fr.fr_store hF.out rfl rfl rfl; (case hp => rfl); (case hx => first | (go_simp; rfl) | rfl); (case hu => (simp only [Value.cells]; rfl)); (case hs => (repeat (first | exact Fr.Spot.here _ _ | apply Fr.Spot.there))); (case ht => kernel_rfl); (case h1 => simp [Value.oneCell']); (case hfit => simp); intro W hF1; simp only [Fr.patch, List.take_zero, List.nil_append, List.drop, List.append_nil, List.take, List.cons_append, List.length_cons, List.length_nil, Nat.reduceAdd] at hF1; have HC1 := hF1.cells; simp only [Fr.Cells, List.length_cons, List.length_nil, Nat.reduceAdd, and_true] at HC1; clear hF HC; have HC := HC1; have hF := Aside0.mk hF1; clear hF1 HC1) | ((first | (with_reducible refine Fr.gate_alloc rfl ?_) | (with_reducible refine Fr.gate_box rfl ?_)); apply Fr.fr_box hF.out rfl; (case hrun => first | (go_simp; done) | (go_simp; rfl)); intro g W hF1; have HC1 := hF1.cells; simp only [Fr.Cells, List.length_cons, List.length_nil, Nat.reduceAdd, and_true] at HC1; clear hF HC; have HC := HC1; have hF := Aside0.mk hF1; clear hF1 HC1))
    go_ret2
    exact ⟨rfl, hF.out.below⟩
section
variable {P : Program} {ops : Array Oper} {rest : List Oper} {o : Oper} {a : Act} {Q : Exit → Act → World → Prop} {w0 W : World} {bs : List Fr.Blk}
end
def takesB (l : List S92) (x : S58) : Bool := x.f1.all fun m => allV [m] l
def takeI (ro : List S58) (l : List S92) : Int := idxP (takesB l) ro
def chooseE (c : Cf) (l : List S92) : Int := if (cfgB c && rightB l) = true then (if takeI c.ro l < 0 then 4 else 0) else 1
def chooseV (c : Cf) (l : List S92) : Int := if chooseE c l = 0 then takeI c.ro l else 0
theorem choose_bad {c : Cf} {l : List S92} (h : (cfgB c && rightB l) = false) : chooseE c l = 1 ∧ chooseV c l = 0 := by
  have h1 : chooseE c l = 1 := by unfold chooseE; rw [h]; rfl
  exact ⟨h1, by unfold chooseV; rw [h1]; rfl⟩
theorem choose_none {c : Cf} {l : List S92} (h1 : cfgB c = true) (h2 : rightB l = true) (h : takeI c.ro l = -1) : chooseE c l = 4 ∧ chooseV c l = 0 := by
  have h3 : chooseE c l = 4 := by unfold chooseE; rw [h1, h2, h]; rfl
  exact ⟨h3, by unfold chooseV; rw [h3]; rfl⟩
theorem choose_some {c : Cf} {l : List S92} (h1 : cfgB c = true) (h2 : rightB l = true) {k : Nat} (h : takeI c.ro l = k) : chooseE c l = 0 ∧ chooseV c l = k := by
  have h3 : chooseE c l = 0 := by unfold chooseE; rw [h1, h2, h]; rw [if_pos (by rfl), if_neg (by omega)]
  exact ⟨h3, by unfold chooseV; rw [if_pos h3, h]⟩
set_option maxHeartbeats 8000000 in
set_option maxRecDepth 100000 in
theorem choose_calls (c : Cf) (A0 : Option Addr) (c0 : Nat) (A1 : Option Addr) (c1 : Nat) (A2 : Option Addr) (c2 : Nat) (l : List S92) (w : World) (hr0 : Kd.C k76 w A0 c.rs.length c.rs) (hl0 : c.rs.length ≤ c0) (hr1 : Kd.C k58 w A1 c.ro.length c.ro) (hwf : ∀ x ∈ c.ro, WfR x) (hr2 : Kd.C k92 w A2 l.length l) :
    Calls Try.prog 32 #[.agg #[.slice A0 c.rs.length c0, .slice A1 c.ro.length c1, .int .i64 c.rep, .int .i64 c.beat], .slice A2 l.length c2] w fun e w' => e = .returned (.tuple #[.int .i64 (chooseV c l), .int .i64 (chooseE c l)]) ∧ Below w.heap.size w w' := by
  have HR1 := Aside0.mk hr1
  have HR2 := Aside0.mk hr2
  have HG := Aside0.mk (fun (W : World) (hb : Below w.heap.size w W) => cfgRight_calls c A0 c0 A1 c1 W (Kd.C_below hr0 hb) hl0 (Kd.C_below hr1 hb) hwf)
  have hll1 : c.ro.length ≤ 9223372036854775807 := hr1.2.1
  clear hr0 hl0 hr1 hwf hr2
  have hF := Aside0.mk (Fr.Frame.start w)
  have HC : True := trivial
  cases h1 : cfgB c with
  | false =>
    have HV := Aside0.mk (choose_bad (c := c) (l := l) (by rw [h1]; rfl))
    rw [h1] at HG
    clear h1
    go_enter Try.func32, Try.ntmps32
    go_wp2_with (first | ((with_reducible refine gate_store rfl ?_); apply Fr.fr_store hF.out rfl rfl rfl; (case hp => rfl); (case hx => first | (go_simp; rfl) | rfl); (case hu => (simp only [Value.cells]; rfl)); (case hs => (repeat (first | exact Fr.Spot.here _ _ | apply Fr.Spot.there))); (case ht => kernel_rfl); (case h1 => simp [Value.oneCell']); (case hfit => simp); intro W hF1; simp only [Fr.patch, List.take_zero, List.nil_append, List.drop, List.append_nil, List.take, List.cons_append, List.length_cons, List.length_nil, Nat.reduceAdd] at hF1; have HC1 := hF1.cells; simp only [Fr.Cells, List.length_cons, List.length_nil, Nat.reduceAdd, and_true] at HC1; clear hF HC; have HC := HC1; have hF := Aside0.mk hF1; clear hF1 HC1) | ((first | (with_reducible refine Fr.gate_alloc rfl ?_) | (with_reducible refine Fr.gate_box rfl ?_)); apply Fr.fr_box hF.out rfl; (case hrun => first | (go_simp; done) | (go_simp; rfl)); intro g W hF1; have HC1 := hF1.cells; simp only [Fr.Cells, List.length_cons, List.length_nil, Nat.reduceAdd, and_true] at HC1; clear hF HC; have HC := HC1; have hF := Aside0.mk hF1; clear hF1 HC1))
    go_step3
    go_wp2_with (first | ((with_reducible refine gate_store rfl ?_); apply Fr.fr_store hF.out rfl rfl rfl; (case hp => rfl); (case hx => first | (go_simp; rfl) | rfl); (case hu => (simp only [Value.cells]; rfl)); (case hs => (repeat (first | exact Fr.Spot.here _ _ | apply Fr.Spot.there))); (case ht => kernel_rfl); (case h1 => simp [Value.oneCell']); (case hfit => simp); intro W hF1; simp only [Fr.patch, List.take_zero, List.nil_append, List.drop, List.append_nil, List.take, List.cons_append, List.length_cons, List.length_nil, Nat.reduceAdd] at hF1; have HC1 := hF1.cells; simp only [Fr.Cells, List.length_cons, List.length_nil, Nat.reduceAdd, and_true] at HC1; clear hF HC; have HC := HC1; have hF := Aside0.mk hF1; clear hF1 HC1) | ((first | (with_reducible refine Fr.gate_alloc rfl ?_) | (with_reducible refine Fr.gate_box rfl ?_)); apply Fr.fr_box hF.out rfl; (case hrun => first | (go_simp; done) | (go_simp; rfl)); intro g W hF1; have HC1 := hF1.cells; simp only [Fr.Cells, List.length_cons, List.length_nil, Nat.reduceAdd, and_true] at HC1; clear hF HC; have HC := HC1; have hF := Aside0.mk hF1; clear hF1 HC1))
    (with_reducible refine (HG.out _ hF.out.below).mono ?_); rintro e W ⟨rfl, hb⟩; have hF1 := hF.out.call hb; clear hb; have HC1 := hF1.cells; simp only [Fr.Cells, List.length_cons, List.length_nil, Nat.reduceAdd, and_true] at HC1; clear hF HC; have HC := HC1; have hF := Aside0.mk hF1; clear hF1 HC1
    go_wp2_with (first | ((with_reducible refine gate_store rfl ?_); apply Fr.fr_store hF.out rfl rfl rfl; (case hp => rfl); (case hx => first | (go_simp; rfl) | rfl); (case hu => (simp only [Value.cells]; rfl)); (case hs => (repeat (first | exact Fr.Spot.here _ _ | apply Fr.Spot.there))); (case ht => kernel_rfl); (case h1 => simp [Value.oneCell']); (case hfit => simp); intro W hF1; simp only [Fr.patch, List.take_zero, List.nil_append, List.drop, List.append_nil, List.take, List.cons_append, List.length_cons, List.length_nil, Nat.reduceAdd] at hF1; have HC1 := hF1.cells; simp only [Fr.Cells, List.length_cons, List.length_nil, Nat.reduceAdd, and_true] at HC1; clear hF HC; have HC := HC1; have hF := Aside0.mk hF1; clear hF1 HC1) | ((first | (with_reducible refine Fr.gate_alloc rfl ?_) | (with_reducible refine Fr.gate_box rfl ?_)); apply Fr.fr_box hF.out rfl; (case hrun => first | (go_simp; done) | (go_simp; rfl)); intro g W hF1; have HC1 := hF1.cells; simp only [Fr.Cells, List.length_cons, List.length_nil, Nat.reduceAdd, and_true] at HC1; clear hF HC; have HC := HC1; have hF := Aside0.mk hF1; clear hF1 HC1))
    try rw [Exit.noGoto_ret]
    go_ret2
    exact ⟨by rw [HV.out.1, HV.out.2]; rfl, hF.out.below⟩
  | true =>
    rw [h1] at HG
    cases h2 : rightB l with
    | false =>
      have HV := Aside0.mk (choose_bad (c := c) (l := l) (by rw [h2, Bool.and_false]))
      have H2 := Aside0.mk h2
      clear h1 h2
      go_enter Try.func32, Try.ntmps32
      go_wp2_with (first | ((with_reducible refine gate_store rfl ?_); apply Fr.fr_store hF.out rfl rfl rfl; (case hp => rfl); (case hx => first | (go_simp; rfl) | rfl); (case hu => (simp only [Value.cells]; rfl)); (case hs => (repeat (first | exact Fr.Spot.here _ _ | apply Fr.Spot.there))); (case ht => kernel_rfl); (case h1 => simp [Value.oneCell']); (case hfit => simp); intro W hF1; simp only [Fr.patch, List.take_zero, List.nil_append, List.drop, List.append_nil, List.take, List.cons_append, List.length_cons, List.length_nil, Nat.reduceAdd] at hF1; have HC1 := hF1.cells; simp only [Fr.Cells, List.length_cons, List.length_nil, Nat.reduceAdd, and_true] at HC1; clear hF HC; have HC := HC1; have hF := Aside0.mk hF1; clear hF1 HC1) | ((first | (with_reducible refine Fr.gate_alloc rfl ?_) | (with_reducible refine Fr.gate_box rfl ?_)); apply Fr.fr_box hF.out rfl; (case hrun => first | (go_simp; done) | (go_simp; rfl)); intro g W hF1; have HC1 := hF1.cells; simp only [Fr.Cells, List.length_cons, List.length_nil, Nat.reduceAdd, and_true] at HC1; clear hF HC; have HC := HC1; have hF := Aside0.mk hF1; clear hF1 HC1))
      go_step3
      iterate 3 (go_wp2_with (first | ((with_reducible refine gate_store rfl ?_); apply Fr.fr_store hF.out rfl rfl rfl; (case hp => rfl); (case hx => first | (go_simp; rfl) | rfl); (case hu => (simp only [Value.cells]; rfl)); (case hs => (repeat (first | exact Fr.Spot.here _ _ | apply Fr.Spot.there))); (case ht => kernel_rfl); (case h1 => simp [Value.oneCell']); (case hfit => simp); intro W hF1; simp only [Fr.patch, List.take_zero, List.nil_append, List.drop, List.append_nil, List.take, List.cons_append, List.length_cons, List.length_nil, Nat.reduceAdd] at hF1; have HC1 := hF1.cells; simp only [Fr.Cells, List.length_cons, List.length_nil, Nat.reduceAdd, and_true] at HC1; clear hF HC; have HC := HC1; have hF := Aside0.mk hF1; clear hF1 HC1) | ((first | (with_reducible refine Fr.gate_alloc rfl ?_) | (with_reducible refine Fr.gate_box rfl ?_)); apply Fr.fr_box hF.out rfl; (case hrun => first | (go_simp; done) | (go_simp; rfl)); intro g W hF1; have HC1 := hF1.cells; simp only [Fr.Cells, List.length_cons, List.length_nil, Nat.reduceAdd, and_true] at HC1; clear hF HC; have HC := HC1; have hF := Aside0.mk hF1; clear hF1 HC1)); try ((first | ((with_reducible refine (HG.out _ hF.out.below).mono ?_); rintro e W ⟨rfl, hb⟩; have hF1 := hF.out.call hb; clear hb) | ((with_reducible refine (right_calls A2 c2 l _ (Kd.C_below HR2.out hF.out.below)).mono ?_); rintro e W ⟨rfl, hb⟩; have hF1 := hF.out.call hb; clear hb; simp only [H2.out])); have HC1 := hF1.cells; simp only [Fr.Cells, List.length_cons, List.length_nil, Nat.reduceAdd, and_true] at HC1; clear hF HC; have HC := HC1; have hF := Aside0.mk hF1; clear hF1 HC1))
      try rw [Exit.noGoto_ret]
      go_ret2
      exact ⟨by rw [HV.out.1, HV.out.2]; rfl, hF.out.below⟩
    | true =>
      have H1 := Aside0.mk h1
      have H2 := Aside0.mk h2
      clear h1 h2
      go_enter Try.func32, Try.ntmps32
      go_wp2_with (first | ((with_reducible refine gate_store rfl ?_); apply Fr.fr_store hF.out rfl rfl rfl; (case hp => rfl); (case hx => first | (go_simp; rfl) | rfl); (case hu => (simp only [Value.cells]; rfl)); (case hs => (repeat (first | exact Fr.Spot.here _ _ | apply Fr.Spot.there))); (case ht => kernel_rfl); (case h1 => simp [Value.oneCell']); (case hfit => simp); intro W hF1; simp only [Fr.patch, List.take_zero, List.nil_append, List.drop, List.append_nil, List.take, List.cons_append, List.length_cons, List.length_nil, Nat.reduceAdd] at hF1; have HC1 := hF1.cells; simp only [Fr.Cells, List.length_cons, List.length_nil, Nat.reduceAdd, and_true] at HC1; clear hF HC; have HC := HC1; have hF := Aside0.mk hF1; clear hF1 HC1) | ((with_reducible refine gate_dst (N := 2) rfl ?_); apply Fr.fr_box hF.out rfl; (case hrun => first | (go_simp; done) | (go_simp; rfl)); intro gb W hF1; have HC1 := hF1.cells; simp only [Fr.Cells, List.length_cons, List.length_nil, Nat.reduceAdd, and_true] at HC1; clear hF HC; have HC := HC1; have hF := Aside0.mk hF1; clear hF1 HC1) | ((first | (with_reducible refine Fr.gate_alloc rfl ?_) | (with_reducible refine Fr.gate_box rfl ?_)); apply Fr.fr_box hF.out rfl; (case hrun => first | (go_simp; done) | (go_simp; rfl)); intro g W hF1; have HC1 := hF1.cells; simp only [Fr.Cells, List.length_cons, List.length_nil, Nat.reduceAdd, and_true] at HC1; clear hF HC; have HC := HC1; have hF := Aside0.mk hF1; clear hF1 HC1))
      go_step3
      iterate 3 (go_wp2_with (first | ((with_reducible refine gate_store rfl ?_); apply Fr.fr_store hF.out rfl rfl rfl; (case hp => rfl); (case hx => first | (go_simp; rfl) | rfl); (case hu => (simp only [Value.cells]; rfl)); (case hs => (repeat (first | exact Fr.Spot.here _ _ | apply Fr.Spot.there))); (case ht => kernel_rfl); (case h1 => simp [Value.oneCell']); (case hfit => simp); intro W hF1; simp only [Fr.patch, List.take_zero, List.nil_append, List.drop, List.append_nil, List.take, List.cons_append, List.length_cons, List.length_nil, Nat.reduceAdd] at hF1; have HC1 := hF1.cells; simp only [Fr.Cells, List.length_cons, List.length_nil, Nat.reduceAdd, and_true] at HC1; clear hF HC; have HC := HC1; have hF := Aside0.mk hF1; clear hF1 HC1) | ((first | (with_reducible refine Fr.gate_alloc rfl ?_) | (with_reducible refine Fr.gate_box rfl ?_)); apply Fr.fr_box hF.out rfl; (case hrun => first | (go_simp; done) | (go_simp; rfl)); intro g W hF1; have HC1 := hF1.cells; simp only [Fr.Cells, List.length_cons, List.length_nil, Nat.reduceAdd, and_true] at HC1; clear hF HC; have HC := HC1; have hF := Aside0.mk hF1; clear hF1 HC1)); try ((first | ((with_reducible refine (HG.out _ hF.out.below).mono ?_); rintro e W ⟨rfl, hb⟩; have hF1 := hF.out.call hb; clear hb) | ((with_reducible refine (right_calls A2 c2 l _ (Kd.C_below HR2.out hF.out.below)).mono ?_); rintro e W ⟨rfl, hb⟩; have hF1 := hF.out.call hb; clear hb; simp only [H2.out])); have HC1 := hF1.cells; simp only [Fr.Cells, List.length_cons, List.length_nil, Nat.reduceAdd, and_true] at HC1; clear hF HC; have HC := HC1; have hF := Aside0.mk hF1; clear hF1 HC1))
      go_step3
      go_wp2_with (first | ((with_reducible refine gate_store rfl ?_); apply Fr.fr_store hF.out rfl rfl rfl; (case hp => rfl); (case hx => first | (go_simp; rfl) | rfl); (case hu => (simp only [Value.cells]; rfl)); (case hs => (repeat (first | exact Fr.Spot.here _ _ | apply Fr.Spot.there))); (case ht => kernel_rfl); (case h1 => simp [Value.oneCell']); (case hfit => simp); intro W hF1; simp only [Fr.patch, List.take_zero, List.nil_append, List.drop, List.append_nil, List.take, List.cons_append, List.length_cons, List.length_nil, Nat.reduceAdd] at hF1; have HC1 := hF1.cells; simp only [Fr.Cells, List.length_cons, List.length_nil, Nat.reduceAdd, and_true] at HC1; clear hF HC; have HC := HC1; have hF := Aside0.mk hF1; clear hF1 HC1) | ((first | (with_reducible refine Fr.gate_alloc rfl ?_) | (with_reducible refine Fr.gate_box rfl ?_)); apply Fr.fr_box hF.out rfl; (case hrun => first | (go_simp; done) | (go_simp; rfl)); intro g W hF1; have HC1 := hF1.cells; simp only [Fr.Cells, List.length_cons, List.length_nil, Nat.reduceAdd, and_true] at HC1; clear hF HC; have HC := HC1; have hF := Aside0.mk hF1; clear hF1 HC1))
      have hFb := hF
      go_loopg [23] c.ro.length (fun kq v23 w' => ∃ k : Nat, k ≤ c.ro.length ∧ c.ro.length - k ≤ kq ∧ v23 = .int .i64 k ∧ Aside0 (∀ i : Nat, i < k → takesB l (rd_T58 c.ro (i : Nat)) = false) ∧ Aside0 (Fr.Frame w w' [(gb, [.slice A0 c.rs.length c0, .slice A1 c.ro.length c1, .int .i64 c.rep, .int .i64 c.beat], 53)] []))
      case atStart => exact ⟨0, Nat.zero_le _, by omega, rfl, ⟨fun i hi => absurd hi (Nat.not_lt_zero _)⟩, ⟨hFb.out⟩⟩
      case round =>
        clear hF hFb HC
        obtain ⟨k, hk, hg, rfl, HA, hF⟩ := hrel
        have HC1 := hF.out.cells
        simp only [Fr.Cells, List.length_cons, List.length_nil, Nat.reduceAdd, and_true] at HC1
        have HC := HC1
        clear HC1
        by_cases hlt : k < c.ro.length
        · have hlti : (k : Int) < (c.ro.length : Int) := by omega
          obtain ⟨ad, B0, d0, B1, d1, e1, a0, a1, g0, g1, g2, g3⟩ := at_T58 HR1.out (k : Int) (by omega) hlti
          cases e1
          obtain ⟨x, hx⟩ : ∃ x, rd_T58 c.ro (k : Int) = x := ⟨_, rfl⟩
          rw [hx] at a0 a1 g0 g1 g2 g3
          have HX := Aside0.mk hx
          have G3 := Aside0.mk g3
          have hxl : x.f1.length ≤ 9223372036854775807 := g3.2.1
          clear hx g0 g1 g2 g3
          rw [Int.toNat_natCast] at a0 a1
          replace a0 := (hF.out.below.cell (World.block_lt_of_cell? w _ a0)).trans a0
          replace a1 := (hF.out.below.cell (World.block_lt_of_cell? w _ a1)).trans a1
          go_wp2_with (first | ((with_reducible refine gate_store rfl ?_); apply Fr.fr_store hF.out rfl rfl rfl; (case hp => rfl); (case hx => first | (go_simp; rfl) | rfl); (case hu => (simp only [Value.cells]; rfl)); (case hs => (repeat (first | exact Fr.Spot.here _ _ | apply Fr.Spot.there))); (case ht => kernel_rfl); (case h1 => simp [Value.oneCell']); (case hfit => simp); intro W hF1; simp only [Fr.patch, List.take_zero, List.nil_append, List.drop, List.append_nil, List.take, List.cons_append, List.length_cons, List.length_nil, Nat.reduceAdd] at hF1; have HC1 := hF1.cells; simp only [Fr.Cells, List.length_cons, List.length_nil, Nat.reduceAdd, and_true] at HC1; clear hF HC; have HC := HC1; have hF := Aside0.mk hF1; clear hF1 HC1) | ((with_reducible refine gate_dst (N := 7) rfl ?_); apply Fr.fr_box hF.out rfl; (case hrun => first | (go_simp; done) | (go_simp; rfl)); intro gr W hF1; have HC1 := hF1.cells; simp only [Fr.Cells, List.length_cons, List.length_nil, Nat.reduceAdd, and_true] at HC1; clear hF HC; have HC := HC1; have hF := Aside0.mk hF1; clear hF1 HC1) | ((first | (with_reducible refine Fr.gate_alloc rfl ?_) | (with_reducible refine Fr.gate_box rfl ?_)); apply Fr.fr_box hF.out rfl; (case hrun => first | (go_simp; done) | (go_simp; rfl)); intro g W hF1; have HC1 := hF1.cells; simp only [Fr.Cells, List.length_cons, List.length_nil, Nat.reduceAdd, and_true] at HC1; clear hF HC; have HC := HC1; have hF := Aside0.mk hF1; clear hF1 HC1))
          have hFc := hF
          go_loopg [31] x.f1.length (fun jq v31 w' => ∃ j : Nat, j ≤ x.f1.length ∧ x.f1.length - j ≤ jq ∧ v31 = .int .i64 j ∧ Aside0 (∀ i : Nat, i < j → allV [rd_T88 x.f1 (i : Nat)] l = true) ∧ Aside0 (Fr.Frame w w' [(gr, [.slice B0 x.f0.length d0, .slice B1 x.f1.length d1], 58), (gb, [.slice A0 c.rs.length c0, .slice (some ad) c.ro.length c1, .int .i64 c.rep, .int .i64 c.beat], 53)] []))
          case atStart => exact ⟨0, Nat.zero_le _, by omega, rfl, ⟨fun i hi => absurd hi (Nat.not_lt_zero _)⟩, ⟨hFc.out⟩⟩
          case round =>
            clear hF hFc HC
            obtain ⟨j, hj, hgj, rfl, HJ, hF⟩ := hrel
            have HC1 := hF.out.cells
            simp only [Fr.Cells, List.length_cons, List.length_nil, Nat.reduceAdd, and_true] at HC1
            have HC := HC1
            clear HC1
            by_cases hjt : j < x.f1.length
            · have hjti : (j : Int) < (x.f1.length : Int) := by omega
              obtain ⟨ad2, e2, b0, b1, b2⟩ := at_T88 G3.out (j : Int) (by omega) hjti
              cases e2
              rw [Int.toNat_natCast] at b0 b1 b2
              obtain ⟨m, hm⟩ : ∃ m, rd_T88 x.f1 (j : Int) = m := ⟨_, rfl⟩
              rw [hm] at b0 b1 b2
              have HM := Aside0.mk hm
              clear hm
              replace b0 := (hF.out.below.cell (World.block_lt_of_cell? w _ b0)).trans b0
              replace b1 := (hF.out.below.cell (World.block_lt_of_cell? w _ b1)).trans b1
              replace b2 := (hF.out.below.cell (World.block_lt_of_cell? w _ b2)).trans b2
              cases hv : allV [m] l with
              | false =>
                have HVV := Aside0.mk hv
                have HT := Aside0.mk (show takesB l x = false by
                  unfold takesB
                  rw [List.all_eq_false]
                  exact ⟨m, by rw [← HM.out, rd_get88 x.f1 j hjt]; exact List.getElem_mem _, by rw [hv]; simp⟩)
                clear hv
                go_wp2_with (first | ((with_reducible refine gate_store rfl ?_); apply Fr.fr_store hF.out rfl rfl rfl; (case hp => rfl); (case hx => first | (go_simp; rfl) | rfl); (case hu => (simp only [Value.cells]; rfl)); (case hs => (repeat (first | exact Fr.Spot.here _ _ | apply Fr.Spot.there))); (case ht => kernel_rfl); (case h1 => simp [Value.oneCell']); (case hfit => simp); intro W hF1; simp only [Fr.patch, List.take_zero, List.nil_append, List.drop, List.append_nil, List.take, List.cons_append, List.length_cons, List.length_nil, Nat.reduceAdd] at hF1; have HC1 := hF1.cells; simp only [Fr.Cells, List.length_cons, List.length_nil, Nat.reduceAdd, and_true] at HC1; clear hF HC; have HC := HC1; have hF := Aside0.mk hF1; clear hF1 HC1) | ((first | (with_reducible refine Fr.gate_alloc rfl ?_) | (with_reducible refine Fr.gate_box rfl ?_)); apply Fr.fr_box hF.out rfl; (case hrun => first | (go_simp; done) | (go_simp; rfl)); intro g W hF1; have HC1 := hF1.cells; simp only [Fr.Cells, List.length_cons, List.length_nil, Nat.reduceAdd, and_true] at HC1; clear hF HC; have HC := HC1; have hF := Aside0.mk hF1; clear hF1 HC1))
                have hF2 := hF.out.alloc [.int .i64 m.f0, .string m.f1, .string m.f2] 88
                have hh := all_calls (some ⟨W.heap.size, 0, none⟩) 1 [m] A2 c2 l _ (C_one hF2 (k88_mk _ m)) (Kd.C_below HR2.out hF2.below)
                simp only [List.length_cons, List.length_nil, Nat.reduceAdd, HVV.out] at hh
                (with_reducible refine hh.mono ?_)
                clear hh
                rintro e W ⟨rfl, hb⟩
                have hF1 := hF2.call hb
                clear hb hF2
                have HC1 := hF1.cells; simp only [Fr.Cells, List.length_cons, List.length_nil, Nat.reduceAdd, and_true] at HC1; clear hF HC; have HC := HC1; have hF := Aside0.mk hF1; clear hF1 HC1
                go_wp2_with (first | ((with_reducible refine gate_store rfl ?_); apply Fr.fr_store hF.out rfl rfl rfl; (case hp => rfl); (case hx => first | (go_simp; rfl) | rfl); (case hu => (simp only [Value.cells]; rfl)); (case hs => (repeat (first | exact Fr.Spot.here _ _ | apply Fr.Spot.there))); (case ht => kernel_rfl); (case h1 => simp [Value.oneCell']); (case hfit => simp); intro W hF1; simp only [Fr.patch, List.take_zero, List.nil_append, List.drop, List.append_nil, List.take, List.cons_append, List.length_cons, List.length_nil, Nat.reduceAdd] at hF1; have HC1 := hF1.cells; simp only [Fr.Cells, List.length_cons, List.length_nil, Nat.reduceAdd, and_true] at HC1; clear hF HC; have HC := HC1; have hF := Aside0.mk hF1; clear hF1 HC1) | ((first | (with_reducible refine Fr.gate_alloc rfl ?_) | (with_reducible refine Fr.gate_box rfl ?_)); apply Fr.fr_box hF.out rfl; (case hrun => first | (go_simp; done) | (go_simp; rfl)); intro g W hF1; have HC1 := hF1.cells; simp only [Fr.Cells, List.length_cons, List.length_nil, Nat.reduceAdd, and_true] at HC1; clear hF HC; have HC := HC1; have hF := Aside0.mk hF1; clear hF1 HC1))
                go_roundg (c.ro.length - (k + 1))
                case measure => omega
                case rel => exact ⟨k + 1, by omega, by omega, by go_num, ⟨fun i hi => by
                  by_cases e : i = k
                  · subst e; rw [HX.out]; exact HT.out
                  · exact HA.out i (by omega)⟩, ⟨hF.out.drop.drop.drop⟩⟩
              | true =>
                have HVV := Aside0.mk hv
                clear hv
                go_wp2_with (first | ((with_reducible refine gate_store rfl ?_); apply Fr.fr_store hF.out rfl rfl rfl; (case hp => rfl); (case hx => first | (go_simp; rfl) | rfl); (case hu => (simp only [Value.cells]; rfl)); (case hs => (repeat (first | exact Fr.Spot.here _ _ | apply Fr.Spot.there))); (case ht => kernel_rfl); (case h1 => simp [Value.oneCell']); (case hfit => simp); intro W hF1; simp only [Fr.patch, List.take_zero, List.nil_append, List.drop, List.append_nil, List.take, List.cons_append, List.length_cons, List.length_nil, Nat.reduceAdd] at hF1; have HC1 := hF1.cells; simp only [Fr.Cells, List.length_cons, List.length_nil, Nat.reduceAdd, and_true] at HC1; clear hF HC; have HC := HC1; have hF := Aside0.mk hF1; clear hF1 HC1) | ((first | (with_reducible refine Fr.gate_alloc rfl ?_) | (with_reducible refine Fr.gate_box rfl ?_)); apply Fr.fr_box hF.out rfl; (case hrun => first | (go_simp; done) | (go_simp; rfl)); intro g W hF1; have HC1 := hF1.cells; simp only [Fr.Cells, List.length_cons, List.length_nil, Nat.reduceAdd, and_true] at HC1; clear hF HC; have HC := HC1; have hF := Aside0.mk hF1; clear hF1 HC1))
                have hF2 := hF.out.alloc [.int .i64 m.f0, .string m.f1, .string m.f2] 88
                have hh := all_calls (some ⟨W.heap.size, 0, none⟩) 1 [m] A2 c2 l _ (C_one hF2 (k88_mk _ m)) (Kd.C_below HR2.out hF2.below)
                simp only [List.length_cons, List.length_nil, Nat.reduceAdd, HVV.out] at hh
                (with_reducible refine hh.mono ?_)
                clear hh
                rintro e W ⟨rfl, hb⟩
                have hF1 := hF2.call hb
                clear hb hF2
                have HC1 := hF1.cells; simp only [Fr.Cells, List.length_cons, List.length_nil, Nat.reduceAdd, and_true] at HC1; clear hF HC; have HC := HC1; have hF := Aside0.mk hF1; clear hF1 HC1
                go_wp2_with (first | ((with_reducible refine gate_store rfl ?_); apply Fr.fr_store hF.out rfl rfl rfl; (case hp => rfl); (case hx => first | (go_simp; rfl) | rfl); (case hu => (simp only [Value.cells]; rfl)); (case hs => (repeat (first | exact Fr.Spot.here _ _ | apply Fr.Spot.there))); (case ht => kernel_rfl); (case h1 => simp [Value.oneCell']); (case hfit => simp); intro W hF1; simp only [Fr.patch, List.take_zero, List.nil_append, List.drop, List.append_nil, List.take, List.cons_append, List.length_cons, List.length_nil, Nat.reduceAdd] at hF1; have HC1 := hF1.cells; simp only [Fr.Cells, List.length_cons, List.length_nil, Nat.reduceAdd, and_true] at HC1; clear hF HC; have HC := HC1; have hF := Aside0.mk hF1; clear hF1 HC1) | ((first | (with_reducible refine Fr.gate_alloc rfl ?_) | (with_reducible refine Fr.gate_box rfl ?_)); apply Fr.fr_box hF.out rfl; (case hrun => first | (go_simp; done) | (go_simp; rfl)); intro g W hF1; have HC1 := hF1.cells; simp only [Fr.Cells, List.length_cons, List.length_nil, Nat.reduceAdd, and_true] at HC1; clear hF HC; have HC := HC1; have hF := Aside0.mk hF1; clear hF1 HC1))
                go_roundg (x.f1.length - (j + 1))
                case measure => omega
                case rel => exact ⟨j + 1, by omega, by omega, by go_num, ⟨fun i hi => by
                  by_cases e : i = j
                  · subst e; rw [HM.out]; exact HVV.out
                  · exact HJ.out i (by omega)⟩, ⟨hF.out.drop.drop⟩⟩
            · obtain rfl : j = x.f1.length := by omega
              have HT := Aside0.mk (show takesB l (rd_T58 c.ro (k : Nat)) = true by
                rw [HX.out]
                unfold takesB
                rw [List.all_eq_true]
                intro m hm
                obtain ⟨i, hi, rfl⟩ := List.mem_iff_getElem.1 hm
                have := HJ.out i hi
                rwa [rd_get88 x.f1 i hi] at this)
              have HV := Aside0.mk (choose_some H1.out H2.out (idxR_hit58 (takesB l) c.ro k hlt HA.out HT.out).symm)
              have hjti : ¬ (x.f1.length : Int) < (x.f1.length : Int) := by omega
              go_wp2_with (first | ((with_reducible refine gate_store rfl ?_); apply Fr.fr_store hF.out rfl rfl rfl; (case hp => rfl); (case hx => first | (go_simp; rfl) | rfl); (case hu => (simp only [Value.cells]; rfl)); (case hs => (repeat (first | exact Fr.Spot.here _ _ | apply Fr.Spot.there))); (case ht => kernel_rfl); (case h1 => simp [Value.oneCell']); (case hfit => simp); intro W hF1; simp only [Fr.patch, List.take_zero, List.nil_append, List.drop, List.append_nil, List.take, List.cons_append, List.length_cons, List.length_nil, Nat.reduceAdd] at hF1; have HC1 := hF1.cells; simp only [Fr.Cells, List.length_cons, List.length_nil, Nat.reduceAdd, and_true] at HC1; clear hF HC; have HC := HC1; have hF := Aside0.mk hF1; clear hF1 HC1) | ((first | (with_reducible refine Fr.gate_alloc rfl ?_) | (with_reducible refine Fr.gate_box rfl ?_)); apply Fr.fr_box hF.out rfl; (case hrun => first | (go_simp; done) | (go_simp; rfl)); intro g W hF1; have HC1 := hF1.cells; simp only [Fr.Cells, List.length_cons, List.length_nil, Nat.reduceAdd, and_true] at HC1; clear hF HC; have HC := HC1; have hF := Aside0.mk hF1; clear hF1 HC1))
              try rw [Exit.noGoto_ret]
              go_ret2
              exact ⟨by rw [HV.out.1, HV.out.2]; rfl, hF.out.below⟩
        · obtain rfl : k = c.ro.length := by omega
          have HV := Aside0.mk (choose_none H1.out H2.out (idxR_miss58 (takesB l) c.ro HA.out).symm)
          have hlti : ¬ (c.ro.length : Int) < (c.ro.length : Int) := by omega
          go_wp2_with (first | ((with_reducible refine gate_store rfl ?_); apply Fr.fr_store hF.out rfl rfl rfl; (case hp => rfl); (case hx => first | (go_simp; rfl) | rfl); (case hu => (simp only [Value.cells]; rfl)); (case hs => (repeat (first | exact Fr.Spot.here _ _ | apply Fr.Spot.there))); (case ht => kernel_rfl); (case h1 => simp [Value.oneCell']); (case hfit => simp); intro W hF1; simp only [Fr.patch, List.take_zero, List.nil_append, List.drop, List.append_nil, List.take, List.cons_append, List.length_cons, List.length_nil, Nat.reduceAdd] at hF1; have HC1 := hF1.cells; simp only [Fr.Cells, List.length_cons, List.length_nil, Nat.reduceAdd, and_true] at HC1; clear hF HC; have HC := HC1; have hF := Aside0.mk hF1; clear hF1 HC1) | ((first | (with_reducible refine Fr.gate_alloc rfl ?_) | (with_reducible refine Fr.gate_box rfl ?_)); apply Fr.fr_box hF.out rfl; (case hrun => first | (go_simp; done) | (go_simp; rfl)); intro g W hF1; have HC1 := hF1.cells; simp only [Fr.Cells, List.length_cons, List.length_nil, Nat.reduceAdd, and_true] at HC1; clear hF HC; have HC := HC1; have hF := Aside0.mk hF1; clear hF1 HC1))
          try rw [Exit.noGoto_ret]
          go_ret2
          exact ⟨by rw [HV.out.1, HV.out.2]; rfl, hF.out.below⟩
theorem some31 (A : Option Addr) (c : Nat) (l : List S92) (w : World) (hl : l.length ≤ c) (hm : l.length ≤ 9223372036854775807) : Calls Try.prog 31 #[.slice A l.length c] w fun e w' => e = .returned (.slice A (l.take 5).length c) ∧ w = w' := by
  obtain ⟨n, hn⟩ : ∃ n, (l.take 5).length = n := ⟨_, rfl⟩
  have h1 : (if (5 : Int) < (l.length : Int) then 5 else (l.length : Int)) = (n : Int) := by rw [← hn, List.length_take]; split <;> omega
  have h2 : n ≤ c := by rw [← hn, List.length_take]; omega
  rw [hn]
  clear hn hl
  go_enter Try.func31, Try.ntmps31
  go_wp2
  go_ret
  exact ⟨rfl, rfl⟩
theorem C_blk {α : Type} {d : Kd α} {w : World} {g t : Nat} {cs : List Value} {xs : List α} (hb : w.heap[g]? = some (.cells cs.toArray t (0, 0))) (hr : Reps (d.K w) d.sz xs cs) (hl : xs.length ≤ 9223372036854775807) : Kd.C d w (some ⟨g, 0, none⟩) xs.length xs := by
  refine ⟨rfl, hl, fun _ => ⟨_, rfl, fun j p hj => ⟨_, d.K_len (hr.2 j p hj), hr.2 j p hj, fun i u hu => ?_⟩⟩⟩
  have h1 := blk_cell hb (j * d.sz + i)
  rw [show (⟨g, 0, none⟩ : Addr).add (j * d.sz + i) = ⟨g, j * d.sz + i, none⟩ by unfold Addr.add; split <;> simp_all, h1]
  have hi : i < d.sz := by have := (List.getElem?_eq_some_iff.1 hu).1; simp at this; omega
  simpa [List.getElem?_take, hi] using hu
def recv0 (nm : ByteArray) : S76 := ⟨nm, ⟨1, 1, 0⟩, 1, 1, 1, 1, 1⟩
def twoC : Cf := ⟨[recv0 ⟨#[97]⟩, recv0 ⟨#[98]⟩], [⟨[1, 0], [⟨0, ⟨#[122]⟩, ⟨#[101, 117]⟩⟩]⟩, ⟨[0], []⟩], 1, 1⟩
set_option maxHeartbeats 8000000 in
set_option maxRecDepth 100000 in
theorem two_calls (w : World) : Calls Try.prog 68 #[] w fun e w' => ∃ A0 A1, e = .returned (.agg #[.slice A0 2 2, .slice A1 2 2, .int .i64 1, .int .i64 1]) ∧ Kd.C k76 w' A0 2 twoC.rs ∧ Kd.C k58 w' A1 2 twoC.ro ∧ Below w.heap.size w w' := by
  have hF := Aside0.mk (Fr.Frame.start w)
  have HC : True := trivial
  go_enter Try.func68, Try.ntmps68
  go_wp2_with (first | ((with_reducible refine gate_store (t := 53) rfl ?_); have hX := ((((hF.out.alloc [.string ⟨#[97]⟩, .int .i64 1, .int .i64 1, .int .i64 0, .int .i64 1, .int .i64 1, .int .i64 1, .int .i64 1, .int .i64 1, .string ⟨#[98]⟩, .int .i64 1, .int .i64 1, .int .i64 0, .int .i64 1, .int .i64 1, .int .i64 1, .int .i64 1, .int .i64 1] 76).alloc [.int .i64 1, .int .i64 0] 3).alloc [.int .i64 0, .string ⟨#[122]⟩, .string ⟨#[101, 117]⟩] 88).alloc [.int .i64 0] 3).alloc [.slice (some ⟨W.heap.size + 1, 0, none⟩) 2 2, .slice (some ⟨W.heap.size + 1 + 1, 0, none⟩) 1 1, .slice (some ⟨W.heap.size + 1 + 1 + 1, 0, none⟩) 1 1, .slice none 0 0] 58; simp only [World.size_alloc] at hX; apply Fr.fr_store hX rfl rfl rfl; (case hp => rfl); (case hx => first | (go_simp; rfl) | rfl); (case hu => (simp only [Value.cells]; rfl)); (case hs => (repeat (first | exact Fr.Spot.here _ _ | apply Fr.Spot.there))); (case ht => kernel_rfl); (case h1 => simp [Value.oneCell']); (case hfit => simp); intro W2 hF1; simp only [Fr.patch, List.take_zero, List.nil_append, List.drop, List.append_nil, List.take, List.cons_append, List.length_cons, List.length_nil, Nat.reduceAdd] at hF1; have HC1 := hF1.cells; simp only [Fr.Cells, List.length_cons, List.length_nil, Nat.reduceAdd, and_true] at HC1; clear hF HC; have HC := HC1; have hF := Aside0.mk hF1; clear hF1 HC1) | ((with_reducible refine gate_store rfl ?_); apply Fr.fr_store hF.out rfl rfl rfl; (case hp => rfl); (case hx => first | (go_simp; rfl) | rfl); (case hu => (simp only [Value.cells]; rfl)); (case hs => (repeat (first | exact Fr.Spot.here _ _ | apply Fr.Spot.there))); (case ht => kernel_rfl); (case h1 => simp [Value.oneCell']); (case hfit => simp); intro W hF1; simp only [Fr.patch, List.take_zero, List.nil_append, List.drop, List.append_nil, List.take, List.cons_append, List.length_cons, List.length_nil, Nat.reduceAdd] at hF1; have HC1 := hF1.cells; simp only [Fr.Cells, List.length_cons, List.length_nil, Nat.reduceAdd, and_true] at HC1; clear hF HC; have HC := HC1; have hF := Aside0.mk hF1; clear hF1 HC1) | ((with_reducible refine gate_dst (N := 0) rfl ?_); apply Fr.fr_box hF.out rfl; (case hrun => first | (go_simp; done) | (go_simp; rfl)); intro g0 W hF1; have HC1 := hF1.cells; simp only [Fr.Cells, List.length_cons, List.length_nil, Nat.reduceAdd, and_true] at HC1; clear hF HC; have HC := HC1; have hF := Aside0.mk hF1; clear hF1 HC1) | ((with_reducible refine gate_dst (N := 1) rfl ?_); apply Fr.fr_box hF.out rfl; (case hrun => first | (go_simp; done) | (go_simp; rfl)); intro g1 W hF1; have HC1 := hF1.cells; simp only [Fr.Cells, List.length_cons, List.length_nil, Nat.reduceAdd, and_true] at HC1; clear hF HC; have HC := HC1; have hF := Aside0.mk hF1; clear hF1 HC1) | ((with_reducible refine gate_dst (N := 2) rfl ?_); apply Fr.fr_box hF.out rfl; (case hrun => first | (go_simp; done) | (go_simp; rfl)); intro g2 W hF1; have HC1 := hF1.cells; simp only [Fr.Cells, List.length_cons, List.length_nil, Nat.reduceAdd, and_true] at HC1; clear hF HC; have HC := HC1; have hF := Aside0.mk hF1; clear hF1 HC1))
  obtain ⟨s0, hs0⟩ : ∃ s0, W.heap.size = s0 := ⟨_, rfl⟩
  rw [hs0] at hF HC ⊢
  have hF1 := hF.out
  clear hF hX
  have ka : Kd.C k76 W2 (some ⟨s0, 0, none⟩) 2 twoC.rs := C_blk (hF1.blk (s0, _, 76) (by repeat (first | exact List.mem_cons_self | apply List.mem_cons_of_mem))).2 (((Reps.none (k76.K W2) k76.sz).snoc (k76_mk _ (recv0 ⟨#[97]⟩)) rfl).snoc (k76_mk _ (recv0 ⟨#[98]⟩)) rfl) (by decide)
  have kc : Kd.C (Kd.int .i64) W2 (some ⟨s0 + 1, 0, none⟩) 2 [1, 0] := C_blk (hF1.blk (s0 + 1, _, 3) (by repeat (first | exact List.mem_cons_self | apply List.mem_cons_of_mem))).2 (((Reps.none ((Kd.int .i64).K W2) (Kd.int .i64).sz).snoc (p := (1 : Int)) (c := [.int .i64 1]) rfl rfl).snoc (p := (0 : Int)) (c := [.int .i64 0]) rfl rfl) (by decide)
  have km : Kd.C k88 W2 (some ⟨s0 + 1 + 1, 0, none⟩) 1 [⟨0, ⟨#[122]⟩, ⟨#[101, 117]⟩⟩] := C_blk (hF1.blk (s0 + 1 + 1, _, 88) (by repeat (first | exact List.mem_cons_self | apply List.mem_cons_of_mem))).2 ((Reps.none (k88.K W2) k88.sz).snoc (k88_mk _ ⟨0, ⟨#[122]⟩, ⟨#[101, 117]⟩⟩) rfl) (by decide)
  have kd : Kd.C (Kd.int .i64) W2 (some ⟨s0 + 1 + 1 + 1, 0, none⟩) 1 [0] := C_blk (hF1.blk (s0 + 1 + 1 + 1, _, 3) (by repeat (first | exact List.mem_cons_self | apply List.mem_cons_of_mem))).2 ((Reps.none ((Kd.int .i64).K W2) (Kd.int .i64).sz).snoc (p := (0 : Int)) (c := [.int .i64 0]) rfl rfl) (by decide)
  have kn : Kd.C k88 W2 none 0 [] := ⟨rfl, by decide, fun h => absurd h (by decide)⟩
  have kb : Kd.C k58 W2 (some ⟨s0 + 1 + 1 + 1 + 1, 0, none⟩) 2 twoC.ro := C_blk (hF1.blk (s0 + 1 + 1 + 1 + 1, _, 58) (by repeat (first | exact List.mem_cons_self | apply List.mem_cons_of_mem))).2 (((Reps.none (k58.K W2) k58.sz).snoc (k58_mk W2 ⟨[1, 0], [⟨0, ⟨#[122]⟩, ⟨#[101, 117]⟩⟩]⟩ (A0 := some ⟨s0 + 1, 0, none⟩) (c0 := 2) (by decide) kc (A1 := some ⟨s0 + 1 + 1, 0, none⟩) (c1 := 1) (by decide) km) rfl).snoc (k58_mk W2 ⟨[0], []⟩ (A0 := some ⟨s0 + 1 + 1 + 1, 0, none⟩) (c0 := 1) (by decide) kd (A1 := none) (c1 := 0) (by decide) kn) rfl) (by decide)
  have H9 := Aside0.mk (show Below w.heap.size w W2 from hF1.below)
  have HA := Aside0.mk ka
  have HB := Aside0.mk kb
  clear ka kb kc km kd kn hF1 hs0
  refine bodyPost_ret ?_ rfl ⟨some ⟨s0, 0, none⟩, some ⟨s0 + 1 + 1 + 1 + 1, 0, none⟩, rfl, HA.out, HB.out, H9.out⟩
  simp [results, Try.results68, go_sem, HC]
theorem two_choose : chooseV twoC [⟨⟨#[122]⟩, ⟨#[117, 115]⟩⟩] = 1 ∧ chooseE twoC [⟨⟨#[122]⟩, ⟨#[117, 115]⟩⟩] = 0 := by decide +kernel
theorem two_recv : recvV twoC 0 0 = 1 ∧ chainE twoC 0 0 = 0 := by decide +kernel
theorem two_wf : ∀ x ∈ twoC.ro, WfR x := by
  intro x hx
  have : ∀ x ∈ twoC.ro, ∀ k ∈ x.f0, (Lit.int .i64 k).wf = true := by decide +kernel
  exact this x hx
set_option maxHeartbeats 8000000 in
set_option maxRecDepth 100000 in
theorem alive33_calls (w : World) : Calls Try.prog 33 #[] w fun e w' => e = .returned (.bool true) ∧ Below w.heap.size w w' := by
  have hF := Aside0.mk (Fr.Frame.start w)
  have HC : True := trivial
  go_enter Try.func33, Try.ntmps33
  go_wp2_with fail
  (with_reducible refine (two_calls _).mono ?_)
  rintro e W ⟨A0, A1, rfl, h76, h58, hb⟩
  have hF1 := hF.out.call hb
  clear hb
  have HC1 := hF1.cells; simp only [Fr.Cells, List.length_cons, List.length_nil, Nat.reduceAdd, and_true] at HC1; clear hF HC; have HC := HC1; have hF := Aside0.mk hF1; clear hF1 HC1
  have H76 := Aside0.mk h76
  have H58 := Aside0.mk h58
  clear h76 h58
  go_wp2_with fail
  have hF2 := hF.out.alloc [.string ⟨#[122]⟩, .string ⟨#[117, 115]⟩] 92
  have hbb : Below W.heap.size W (W.alloc (.cells #[.string ⟨#[122]⟩, .string ⟨#[117, 115]⟩] 92)) := (Below.refl _ W).alloc (Nat.le_refl _) _
  have hh : Calls Try.prog 32 #[.agg #[.slice A0 2 2, .slice A1 2 2, .int .i64 1, .int .i64 1], .slice (some ⟨W.heap.size, 0, none⟩) 1 1] _ _ := choose_calls twoC A0 2 A1 2 (some ⟨W.heap.size, 0, none⟩) 1 [⟨⟨#[122]⟩, ⟨#[117, 115]⟩⟩] _ (Kd.C_below H76.out hbb) (by decide) (Kd.C_below H58.out hbb) two_wf (C_one hF2 (k92_mk _ ⟨⟨#[122]⟩, ⟨#[117, 115]⟩⟩))
  rw [two_choose.1, two_choose.2] at hh
  (with_reducible refine hh.mono ?_)
  clear hh H76 H58
  rintro e W ⟨rfl, hb⟩
  have hF1 := hF2.call hb
  clear hb hF2
  have HC1 := hF1.cells; simp only [Fr.Cells, List.length_cons, List.length_nil, Nat.reduceAdd, and_true] at HC1; clear hF HC; have HC := HC1; have hF := Aside0.mk hF1; clear hF1 HC1
  go_wp2_with fail
  (with_reducible refine (two_calls _).mono ?_)
  rintro e W ⟨A0, A1, rfl, h76, h58, hb⟩
  have hF1 := hF.out.call hb
  clear hb
  have HC1 := hF1.cells; simp only [Fr.Cells, List.length_cons, List.length_nil, Nat.reduceAdd, and_true] at HC1; clear hF HC; have HC := HC1; have hF := Aside0.mk hF1; clear hF1 HC1
  have hh : Calls Try.prog 35 #[.agg #[.slice A0 2 2, .slice A1 2 2, .int .i64 1, .int .i64 1], .int .i64 0, .int .i64 0] W _ := receiver_calls twoC A0 2 A1 2 0 0 W h76 (by decide) h58 two_wf
  rw [two_recv.1, two_recv.2] at hh
  have HH := Aside0.mk hh
  clear hh h76 h58
  go_wp2_with fail
  (with_reducible refine HH.out.mono ?_)
  clear HH
  rintro e W ⟨rfl, hb⟩
  have hF1 := hF.out.call hb
  clear hb
  have HC1 := hF1.cells; simp only [Fr.Cells, List.length_cons, List.length_nil, Nat.reduceAdd, and_true] at HC1; clear hF HC; have HC := HC1; have hF := Aside0.mk hF1; clear hF1 HC1
  go_wp2
  go_ret
  exact ⟨rfl, hF.out.below⟩
def cutC (c : Cf) : Cf := ⟨c.rs.take 6, c.ro.take 6, c.rep, c.beat⟩
theorem few_calls (g : Nat) (hg : g = 30 ∨ g = 41) (c : Cf) (A0 : Option Addr) (c0 : Nat) (A1 : Option Addr) (c1 : Nat) (w : World) (hl0 : c.rs.length ≤ c0) (hl1 : c.ro.length ≤ c1) (hm0 : c.rs.length ≤ 9223372036854775807) (hm1 : c.ro.length ≤ 9223372036854775807) :
    Calls Try.prog g #[.agg #[.slice A0 c.rs.length c0, .slice A1 c.ro.length c1, .int .i64 c.rep, .int .i64 c.beat]] w fun e w' => e = .returned (.agg #[.slice A0 (cutC c).rs.length c0, .slice A1 (cutC c).ro.length c1, .int .i64 (cutC c).rep, .int .i64 (cutC c).beat]) ∧ Below w.heap.size w w' := by
  show Calls Try.prog g #[.agg #[.slice A0 c.rs.length c0, .slice A1 c.ro.length c1, .int .i64 c.rep, .int .i64 c.beat]] w fun e w' => e = .returned (.agg #[.slice A0 (c.rs.take 6).length c0, .slice A1 (c.ro.take 6).length c1, .int .i64 c.rep, .int .i64 c.beat]) ∧ Below w.heap.size w w'
  obtain ⟨n, hn⟩ : ∃ n, (c.rs.take 6).length = n := ⟨_, rfl⟩
  have h1 : (if (6 : Int) < (c.rs.length : Int) then 6 else (c.rs.length : Int)) = (n : Int) := by rw [← hn, List.length_take]; split <;> omega
  have h2 : n ≤ c0 := by rw [← hn, List.length_take]; omega
  obtain ⟨m, hm⟩ : ∃ m, (c.ro.take 6).length = m := ⟨_, rfl⟩
  have h3 : (if (6 : Int) < (c.ro.length : Int) then 6 else (c.ro.length : Int)) = (m : Int) := by rw [← hm, List.length_take]; split <;> omega
  have h4 : m ≤ c1 := by rw [← hm, List.length_take]; omega
  rw [hn, hm]
  clear hn hm hl0 hl1
  have hF := Aside0.mk (Fr.Frame.start w)
  have HC : True := trivial
  rcases hg with rfl | rfl
  · go_enter Try.func30, Try.ntmps30
    go_wp2_with (first | ((with_reducible refine gate_store rfl ?_); apply Fr.fr_store hF.out rfl rfl rfl; (case hp => rfl); (case hx => first | (go_simp; rfl) | rfl); (case hu => (simp only [Value.cells]; rfl)); (case hs => (repeat (first | exact Fr.Spot.here _ _ | apply Fr.Spot.there))); (case ht => kernel_rfl); (case h1 => simp [Value.oneCell']); (case hfit => simp); intro W hF1; simp only [Fr.patch, List.take_zero, List.nil_append, List.drop, List.append_nil, List.take, List.cons_append, List.length_cons, List.length_nil, Nat.reduceAdd] at hF1; have HC1 := hF1.cells; simp only [Fr.Cells, List.length_cons, List.length_nil, Nat.reduceAdd, and_true] at HC1; clear hF HC; have HC := HC1; have hF := Aside0.mk hF1; clear hF1 HC1) | ((first | (with_reducible refine Fr.gate_alloc rfl ?_) | (with_reducible refine Fr.gate_box rfl ?_)); apply Fr.fr_box hF.out rfl; (case hrun => first | (go_simp; done) | (go_simp; rfl)); intro g W hF1; have HC1 := hF1.cells; simp only [Fr.Cells, List.length_cons, List.length_nil, Nat.reduceAdd, and_true] at HC1; clear hF HC; have HC := HC1; have hF := Aside0.mk hF1; clear hF1 HC1))
    refine bodyPost_ret ?_ rfl ⟨rfl, hF.out.below⟩
    simp [results, Try.results30, go_sem, HC]
  · go_enter Try.func41, Try.ntmps41
    go_wp2_with (first | ((with_reducible refine gate_store rfl ?_); apply Fr.fr_store hF.out rfl rfl rfl; (case hp => rfl); (case hx => first | (go_simp; rfl) | rfl); (case hu => (simp only [Value.cells]; rfl)); (case hs => (repeat (first | exact Fr.Spot.here _ _ | apply Fr.Spot.there))); (case ht => kernel_rfl); (case h1 => simp [Value.oneCell']); (case hfit => simp); intro W hF1; simp only [Fr.patch, List.take_zero, List.nil_append, List.drop, List.append_nil, List.take, List.cons_append, List.length_cons, List.length_nil, Nat.reduceAdd] at hF1; have HC1 := hF1.cells; simp only [Fr.Cells, List.length_cons, List.length_nil, Nat.reduceAdd, and_true] at HC1; clear hF HC; have HC := HC1; have hF := Aside0.mk hF1; clear hF1 HC1) | ((first | (with_reducible refine Fr.gate_alloc rfl ?_) | (with_reducible refine Fr.gate_box rfl ?_)); apply Fr.fr_box hF.out rfl; (case hrun => first | (go_simp; done) | (go_simp; rfl)); intro g W hF1; have HC1 := hF1.cells; simp only [Fr.Cells, List.length_cons, List.length_nil, Nat.reduceAdd, and_true] at HC1; clear hF HC; have HC := HC1; have hF := Aside0.mk hF1; clear hF1 HC1))
    refine bodyPost_ret ?_ rfl ⟨rfl, hF.out.below⟩
    simp [results, Try.results41, go_sem, HC]
theorem w64' {n : Int} (h : -9223372036854775808 ≤ n) (h' : n ≤ 9223372036854775807) : wrap64 n = n := by unfold wrap64; omega
theorem bt_get (s : ByteArray) (i : Nat) (h : i < s.size) : bt s (i : Int) = ((s[i].toNat : Nat) : Int) := by simp [bt, h]
theorem name_l0 (s : ByteArray) (hs : s.size ≤ 9223372036854775807) : ∀ (d k i : Nat), i + d = s.size → d < k → (∀ j, (hj : j < s.size) → j < i → 97 ≤ s[j].toNat ∧ s[j].toNat ≤ 122) → foghornref10_Name.l0 k s (i : Int) = some (nameB s)
  | 0, k + 1, i, hd, hk, ha => by
    rw [foghornref10_Name.l0, if_neg (by omega), name_end (fun j hj => ha j hj (by omega))]
    by_cases h : 1 ≤ s.size
    · rw [if_pos (by omega), decide_eq_true h, dec8]; rfl
    · rw [if_neg (by omega), decide_eq_false h]; rfl
  | d + 1, k + 1, i, hd, hk, ha => by
    have hi : i < s.size := by omega
    rw [foghornref10_Name.l0, if_pos (by omega), if_pos (by omega), bt_get s i hi]
    by_cases h1 : s[i].toNat < 97
    · rw [if_pos (by omega), name_no hi (by omega)]
    · rw [if_neg (by omega)]
      by_cases h2 : 122 < s[i].toNat
      · rw [if_pos (by omega), name_no hi (by omega)]
      · rw [if_neg (by omega), w64' (by omega) (by omega), show ((i : Int) + 1) = ((i + 1 : Nat) : Int) by omega]
        refine name_l0 s hs d k (i + 1) (by omega) (by omega) (fun j hj hji => ?_)
        by_cases e : j = i
        · subst e; omega
        · exact ha j hj (by omega)
theorem name_ref (s : ByteArray) (hs : s.size ≤ 9223372036854775807) (k : Nat) (hk : s.size < k) : foghornref10_Name.f k s = some (nameB s) :=
  name_l0 s hs s.size k 0 (by omega) hk (fun j _ hj => absurd hj (Nat.not_lt_zero _))
theorem value_l0 (s : ByteArray) (hs : s.size ≤ 9223372036854775807) : ∀ (d k i : Nat), i + d = s.size → d < k → (∀ j, (hj : j < s.size) → j < i → (97 ≤ s[j].toNat ∧ s[j].toNat ≤ 122) ∨ (48 ≤ s[j].toNat ∧ s[j].toNat ≤ 57) ∨ s[j].toNat = 45) → foghornref10_Value.l0 k s (i : Int) = some (valueB s)
  | 0, k + 1, i, hd, hk, ha => by
    rw [foghornref10_Value.l0, if_neg (by omega), value_end (fun j hj => ha j hj (by omega)), dec8]
  | d + 1, k + 1, i, hd, hk, ha => by
    have hi : i < s.size := by omega
    have hb := bt_get s i hi
    have hw : wrap64 ((i : Int) + 1) = ((i + 1 : Nat) : Int) := by rw [w64' (by omega) (by omega)]; omega
    rw [foghornref10_Value.l0, if_pos (by omega), if_pos (by omega), hb, hw]
    by_cases h : (97 ≤ s[i].toNat ∧ s[i].toNat ≤ 122) ∨ (48 ≤ s[i].toNat ∧ s[i].toNat ≤ 57) ∨ s[i].toNat = 45
    · have ih := value_l0 s hs d k (i + 1) (by omega) (by omega) (fun j hj hji => by
        by_cases e : j = i
        · subst e; exact h
        · exact ha j hj (by omega))
      rw [ih]
      generalize s[i].toNat = x at h
      split
      · split
        · rfl
        · split
          · split
            · rfl
            · rw [if_pos (by omega)]
          · rw [if_pos (by omega)]
      · split
        · split
          · rfl
          · rw [if_pos (by omega)]
        · rw [if_pos (by omega)]
    · rw [value_no hi h]
      generalize s[i].toNat = x at h
      split
      · rw [if_neg (by omega)]
        split
        · rw [if_neg (by omega), if_neg (by omega)]
        · rw [if_neg (by omega)]
      · split
        · rw [if_neg (by omega), if_neg (by omega)]
        · rw [if_neg (by omega)]
theorem value_ref (s : ByteArray) (hs : s.size ≤ 9223372036854775807) (k : Nat) (hk : s.size < k) : foghornref10_Value.f k s = some (valueB s) :=
  value_l0 s hs s.size k 0 (by omega) hk (fun j _ hj => absurd hj (Nat.not_lt_zero _))
def MSz (k : Nat) (m : S88) : Prop := m.f1.size < k ∧ m.f2.size < k ∧ m.f1.size ≤ 9223372036854775807 ∧ m.f2.size ≤ 9223372036854775807
theorem matcher_ref (m : S88) (k : Nat) (hm : MSz k m) : foghornref10_Matcher.f k m.f0 m.f1 m.f2 = some (matcherB m) := by
  have n := name_ref m.f1 hm.2.2.1 k hm.1
  have v := value_ref m.f2 hm.2.2.2 k hm.2.1
  unfold foghornref10_Matcher.f matcherB
  by_cases h0 : 0 ≤ m.f0
  · by_cases h3 : m.f0 ≤ 3
    · rw [if_pos h0, if_pos h3, n, v, decide_eq_true h0, decide_eq_true h3]
      cases nameB m.f1 with
      | false => rfl
      | true =>
        cases valueB m.f2 with
        | false => rfl
        | true =>
          by_cases h4 : m.f0 = 3
          · by_cases h5 : m.f2.size = 0
            · simp [h4, h5, (empty_list m.f2 h5).2]
            · have := full_list m.f2 h5
              simp [h4, h5, this]
          · simp [h4]
    · rw [if_pos h0, if_neg h3, decide_eq_false h3]; simp
  · rw [if_neg h0, decide_eq_false h0]; simp
theorem tick_ref (t : Int) : foghornref05_Right.f t = some (tmB t) := by
  unfold foghornref05_Right.f tmB
  by_cases h : 0 ≤ t
  · rw [if_pos h, decide_eq_true h, Bool.true_and]
  · rw [if_neg h, decide_eq_false h, Bool.false_and]
end Go.Proofs.Ytkphinfijppkeaa.G
namespace Go.Proofs.Ytkphinfijppkeaa.G
open Go.RowKit Go.Proofs.YtkphinfijppkeaaW.PrintWords Go.Proofs.YtkphinfijppkeaaW.PrintLast Go.Proofs.YtkphinfijppkeaaW.PrintMore
attribute [local go_sem] max2_int min2_int max_two min_two max_three min_three max_four min_four   -- for this text's walks alone
set_option linter.unusedVariables false
set_option linter.unusedSimpArgs false
def foghornref10_each.l0 : Nat → List (S92) → List (S92) → Int → Int → Option (Bool)
  | 0, _, _, _, _ => none
  | k + 1, x0, x5, x6, x7 => if x7 < x6 then (if 0 ≤ x7 then (if x7 < (x5.length : Int) then ((foghornref10_Name.f k ((rd_T92 x5 x7).f0)).bind fun t180 => (if t180 = true then ((foghornref10_Value.f k ((rd_T92 x5 x7).f1)).bind fun t181 => (if t181 = true then (foghornref10_each.l0 k x0 x5 x6 (wrap64 (x7 + 1))) else (some false))) else (some false))) else (none)) else (none)) else (if (x0.length : Int) ≥ 1 then (some (decide ((x0.length : Int) ≤ 3))) else (some false))
def foghornref10_each.f (k : Nat) (l0 : List (S92)) : Option (Bool) := foghornref10_each.l0 k l0 l0 (l0.length : Int) 0
set_option maxHeartbeats 8000000 in
set_option maxRecDepth 100000 in
theorem foghornref10_each.calls (k : Nat) (A0 : Option Addr) (c0 : Nat) (l0 : List (S92)) (r : Bool) (w : World) (hr0 : Kd.C k92 w A0 l0.length l0) (hc0 : l0.length ≤ c0) (h : foghornref10_each.f k l0 = some r) :
    Calls Try.prog 64 #[.slice A0 l0.length c0] w fun e w' => e = .returned (.bool r) ∧ Below w.heap.size w w' := by
  have hu92 := Try.underlying92
  have HR0 := Aside0.mk hr0
  have HC0 := Aside0.mk hc0
  clear hr0 hc0
  have HB := Aside0.mk (Below.refl w.heap.size w)
  have H : (foghornref10_each.l0 k l0 l0 (l0.length : Int) 0) = some r := h
  clear h
  have H' := Aside0.mk H
  clear H
  go_enter Try.func64, Try.ntmps64
  go_wp2
  go_loopg [7] k (fun kq v7 w' => ∃ (x7_1 : Int), v7 = .int .i64 x7_1 ∧ Aside0 (foghornref10_each.l0 kq l0 l0 (l0.length : Int) x7_1 = some r) ∧ Aside0 (kq ≤ k) ∧ Aside0 (Below w.heap.size w w'))
  case atStart => exact ⟨(0), (by first | rfl | (simp; done) | (simp [*]; done)), H', ⟨Nat.le_refl _⟩, ⟨by repeat (first | (with_reducible first | exact HB.out | apply below_alloc | apply pw_below_drewN | apply below_drew1) | exact HB.out)⟩⟩
  case round =>
    clear H'
    obtain ⟨x7_1, rfl, HA, HK1, HB⟩ := hrel
    cases gk with
    | zero => exact absurd HA.out (by simp [foghornref10_each.l0])
    | succ k1 =>
      have H := HA.out
      clear HA
      simp only [foghornref10_each.l0] at H
      by_cases c2 : x7_1 < (l0.length : Int)
      · rw [if_pos c2] at H
        have c2b0 : decide (x7_1 < (l0.length : Int)) = true := decide_eq_true c2
        clear c2
        by_cases c3 : 0 ≤ x7_1
        · rw [if_pos c3] at H
          have c3b0 : decide (0 ≤ x7_1) = true := decide_eq_true c3
          clear c3
          by_cases c4 : x7_1 < (l0.length : Int)
          · rw [if_pos c4] at H
            have c4b0 : decide (x7_1 < (l0.length : Int)) = true := decide_eq_true c4
            clear c4
            replace H := Option.bind_eq_some_iff.mp H
            obtain ⟨t180, A50, H⟩ := H
            replace H : (if t180 = true then ((foghornref10_Value.f k1 ((rd_T92 l0 x7_1).f1)).bind fun t181 => (if t181 = true then (foghornref10_each.l0 k1 l0 l0 (l0.length : Int) (wrap64 (x7_1 + 1))) else (some false))) else (some false)) = some r := H
            have A5 := Aside0.mk A50
            clear A50
            by_cases c6 : t180 = true
            · subst c6
              have H1 : ((foghornref10_Value.f k1 ((rd_T92 l0 x7_1).f1)).bind fun t181 => (if t181 = true then (foghornref10_each.l0 k1 l0 l0 (l0.length : Int) (wrap64 (x7_1 + 1))) else (some false))) = some r := by rw [if_pos rfl] at H; exact H
              clear H
              have H := H1
              clear H1
              replace H := Option.bind_eq_some_iff.mp H
              obtain ⟨t181, A70, H⟩ := H
              replace H : (if t181 = true then (foghornref10_each.l0 k1 l0 l0 (l0.length : Int) (wrap64 (x7_1 + 1))) else (some false)) = some r := H
              have A7 := Aside0.mk A70
              clear A70
              by_cases c8 : t181 = true
              · subst c8
                have H1 : (foghornref10_each.l0 k1 l0 l0 (l0.length : Int) (wrap64 (x7_1 + 1))) = some r := by rw [if_pos rfl] at H; exact H
                clear H
                have H := H1
                clear H1
                have H' := Aside0.mk H
                clear H
                have p178 : 0 ≤ (x7_1 : Int) := of_decide_eq_true (by first | (with_reducible assumption) | assumption)
                have q178 : x7_1 < (l0.length : Int) := of_decide_eq_true (by first | (with_reducible assumption) | assumption)
                obtain ⟨ad178, e178, hx178_0, hx178_1⟩ := at_T92 HR0.out x7_1 p178 q178
                cases e178
                replace hx178_0 := (HB.out.cell (World.block_lt_of_cell? w _ hx178_0)).trans hx178_0
                replace hx178_1 := (HB.out.cell (World.block_lt_of_cell? w _ hx178_1)).trans hx178_1
                replace p178 := eq_true p178
                replace q178 := eq_true q178
                go_wp2_with (first | ((with_reducible refine gate_dst (N := 4) rfl ?_); (try (refine gate_guard (by rfl) ?_; dsimp only)); refine box_event ?hg (N := 4) ?hd (cs := #[.string (⟨#[]⟩ : ByteArray), .string (⟨#[]⟩ : ByteArray)]) (t := 92) ?hr ?_; (case hd => rfl); (case hg => rfl); (case hr => first | (go_simp; done) | (go_simp; rfl)); intro gb179 hg w9 hbox hb; have n0_ := Aside0.mk (below_step (by repeat (first | (with_reducible first | exact HB.out | apply below_alloc | apply pw_below_drewN | apply below_drew1) | exact HB.out)) hb); have n1_ := Aside0.mk (hbox); have n2_ := Aside0.mk ((by rw [hg]; exact (below_size (by repeat (first | (with_reducible first | exact HB.out | apply below_alloc | apply pw_below_drewN | apply below_drew1) | exact HB.out))) : w.heap.size ≤ gb179)); have n3_ := Aside0.mk ((by rw [hg]; exact (below_size (by repeat (first | (with_reducible first | exact HB.out | apply below_alloc | apply pw_below_drewN | apply below_drew1) | exact HB.out))) : w.heap.size ≤ gb179)); clear HB; have HB := n0_; have BK179 := n1_; have GW179 := n2_; have GE179 := n3_; clear n0_ n1_ n2_ n3_; clear hb hbox hg; have hcz10_0 : w9.cell? ⟨gb179, 0, none⟩ = some (.string (⟨#[]⟩ : ByteArray)) := (blk_cell BK179.out 0).trans rfl; have hcz10_1 : w9.cell? ⟨gb179, 1, none⟩ = some (.string (⟨#[]⟩ : ByteArray)) := (blk_cell BK179.out 1).trans rfl; have hfz10_0 := blk_frozen BK179.out 0; have hfz10_1 := blk_frozen BK179.out 1) | ((with_reducible refine gate_callee (f := 97) rfl ?_); refine goesL_ (some 13) rfl rfl Try.func97 (by kernel_rfl) rfl #[.string ((rd_T92 l0 x7_1).f0)] rfl (by (try simp only [List.map_toArray, List.map_cons, List.map_nil]); first | done | rfl | (simp only [List.length_drop, List.length_take]; rfl)) ?_; (with_reducible refine (foghornref10_Name.calls k1 ((rd_T92 l0 x7_1).f0) true _ A5.out).mono ?_); rintro e w' ⟨rfl, ⟨nd, rfl⟩⟩; refine ⟨_, rfl, ?_⟩) | (go_at_call 98; (with_reducible refine (foghornref10_Value.calls k1 ((rd_T92 l0 x7_1).f1) true _ A7.out).mono ?_); rintro e w' ⟨rfl, ⟨nd, rfl⟩⟩))
                go_roundg k1
                case measure => have := HK1.out; omega
                case rel => exact ⟨(wrap64 (x7_1 + 1)), (by first | rfl | (simp; done) | (simp [*]; done)), H', ⟨by have := HK1.out; omega⟩, ⟨by repeat (first | (with_reducible first | exact HB.out | apply below_alloc | apply pw_below_drewN | apply below_drew1 | refine below_set ?_ GE179.out) | exact HB.out)⟩⟩
              · replace c8 := Bool.eq_false_iff.mpr c8
                subst c8
                have H1 : (some false) = some r := by rw [if_neg (show ¬ (false = true) by decide)] at H; exact H
                clear H
                have H := H1
                clear H1
                obtain rfl := Option.some.inj H
                have p178 : 0 ≤ (x7_1 : Int) := of_decide_eq_true (by first | (with_reducible assumption) | assumption)
                have q178 : x7_1 < (l0.length : Int) := of_decide_eq_true (by first | (with_reducible assumption) | assumption)
                obtain ⟨ad178, e178, hx178_0, hx178_1⟩ := at_T92 HR0.out x7_1 p178 q178
                cases e178
                replace hx178_0 := (HB.out.cell (World.block_lt_of_cell? w _ hx178_0)).trans hx178_0
                replace hx178_1 := (HB.out.cell (World.block_lt_of_cell? w _ hx178_1)).trans hx178_1
                replace p178 := eq_true p178
                replace q178 := eq_true q178
                go_wp2_with (first | ((with_reducible refine gate_dst (N := 4) rfl ?_); (try (refine gate_guard (by rfl) ?_; dsimp only)); refine box_event ?hg (N := 4) ?hd (cs := #[.string (⟨#[]⟩ : ByteArray), .string (⟨#[]⟩ : ByteArray)]) (t := 92) ?hr ?_; (case hd => rfl); (case hg => rfl); (case hr => first | (go_simp; done) | (go_simp; rfl)); intro gb179 hg w11 hbox hb; have n0_ := Aside0.mk (below_step (by repeat (first | (with_reducible first | exact HB.out | apply below_alloc | apply pw_below_drewN | apply below_drew1) | exact HB.out)) hb); have n1_ := Aside0.mk (hbox); have n2_ := Aside0.mk ((by rw [hg]; exact (below_size (by repeat (first | (with_reducible first | exact HB.out | apply below_alloc | apply pw_below_drewN | apply below_drew1) | exact HB.out))) : w.heap.size ≤ gb179)); have n3_ := Aside0.mk ((by rw [hg]; exact (below_size (by repeat (first | (with_reducible first | exact HB.out | apply below_alloc | apply pw_below_drewN | apply below_drew1) | exact HB.out))) : w.heap.size ≤ gb179)); clear HB; have HB := n0_; have BK179 := n1_; have GW179 := n2_; have GE179 := n3_; clear n0_ n1_ n2_ n3_; clear hb hbox hg; have hcz12_0 : w11.cell? ⟨gb179, 0, none⟩ = some (.string (⟨#[]⟩ : ByteArray)) := (blk_cell BK179.out 0).trans rfl; have hcz12_1 : w11.cell? ⟨gb179, 1, none⟩ = some (.string (⟨#[]⟩ : ByteArray)) := (blk_cell BK179.out 1).trans rfl; have hfz12_0 := blk_frozen BK179.out 0; have hfz12_1 := blk_frozen BK179.out 1) | ((with_reducible refine gate_callee (f := 97) rfl ?_); refine goesL_ (some 13) rfl rfl Try.func97 (by kernel_rfl) rfl #[.string ((rd_T92 l0 x7_1).f0)] rfl (by (try simp only [List.map_toArray, List.map_cons, List.map_nil]); first | done | rfl | (simp only [List.length_drop, List.length_take]; rfl)) ?_; (with_reducible refine (foghornref10_Name.calls k1 ((rd_T92 l0 x7_1).f0) true _ A5.out).mono ?_); rintro e w' ⟨rfl, ⟨nd, rfl⟩⟩; refine ⟨_, rfl, ?_⟩) | (go_at_call 98; (with_reducible refine (foghornref10_Value.calls k1 ((rd_T92 l0 x7_1).f1) false _ A7.out).mono ?_); rintro e w' ⟨rfl, ⟨nd, rfl⟩⟩))
                go_ret
                exact ⟨by first | rfl | (simp [errW_none, errW_some] <;> rfl) | (simp [*, errW_none, errW_some] <;> rfl), by repeat (first | (with_reducible first | exact HB.out | apply below_alloc | apply pw_below_drewN | apply below_drew1 | refine below_set ?_ GE179.out) | exact HB.out)⟩
            · replace c6 := Bool.eq_false_iff.mpr c6
              subst c6
              have H1 : (some false) = some r := by rw [if_neg (show ¬ (false = true) by decide)] at H; exact H
              clear H
              have H := H1
              clear H1
              obtain rfl := Option.some.inj H
              have p178 : 0 ≤ (x7_1 : Int) := of_decide_eq_true (by first | (with_reducible assumption) | assumption)
              have q178 : x7_1 < (l0.length : Int) := of_decide_eq_true (by first | (with_reducible assumption) | assumption)
              obtain ⟨ad178, e178, hx178_0, hx178_1⟩ := at_T92 HR0.out x7_1 p178 q178
              cases e178
              replace hx178_0 := (HB.out.cell (World.block_lt_of_cell? w _ hx178_0)).trans hx178_0
              replace hx178_1 := (HB.out.cell (World.block_lt_of_cell? w _ hx178_1)).trans hx178_1
              replace p178 := eq_true p178
              replace q178 := eq_true q178
              go_wp2_with (first | ((with_reducible refine gate_dst (N := 4) rfl ?_); (try (refine gate_guard (by rfl) ?_; dsimp only)); refine box_event ?hg (N := 4) ?hd (cs := #[.string (⟨#[]⟩ : ByteArray), .string (⟨#[]⟩ : ByteArray)]) (t := 92) ?hr ?_; (case hd => rfl); (case hg => rfl); (case hr => first | (go_simp; done) | (go_simp; rfl)); intro gb179 hg w13 hbox hb; have n0_ := Aside0.mk (below_step (by repeat (first | (with_reducible first | exact HB.out | apply below_alloc | apply pw_below_drewN | apply below_drew1) | exact HB.out)) hb); have n1_ := Aside0.mk (hbox); have n2_ := Aside0.mk ((by rw [hg]; exact (below_size (by repeat (first | (with_reducible first | exact HB.out | apply below_alloc | apply pw_below_drewN | apply below_drew1) | exact HB.out))) : w.heap.size ≤ gb179)); have n3_ := Aside0.mk ((by rw [hg]; exact (below_size (by repeat (first | (with_reducible first | exact HB.out | apply below_alloc | apply pw_below_drewN | apply below_drew1) | exact HB.out))) : w.heap.size ≤ gb179)); clear HB; have HB := n0_; have BK179 := n1_; have GW179 := n2_; have GE179 := n3_; clear n0_ n1_ n2_ n3_; clear hb hbox hg; have hcz14_0 : w13.cell? ⟨gb179, 0, none⟩ = some (.string (⟨#[]⟩ : ByteArray)) := (blk_cell BK179.out 0).trans rfl; have hcz14_1 : w13.cell? ⟨gb179, 1, none⟩ = some (.string (⟨#[]⟩ : ByteArray)) := (blk_cell BK179.out 1).trans rfl; have hfz14_0 := blk_frozen BK179.out 0; have hfz14_1 := blk_frozen BK179.out 1) | ((with_reducible refine gate_callee (f := 97) rfl ?_); refine goesL_ (some 13) rfl rfl Try.func97 (by kernel_rfl) rfl #[.string ((rd_T92 l0 x7_1).f0)] rfl (by (try simp only [List.map_toArray, List.map_cons, List.map_nil]); first | done | rfl | (simp only [List.length_drop, List.length_take]; rfl)) ?_; (with_reducible refine (foghornref10_Name.calls k1 ((rd_T92 l0 x7_1).f0) false _ A5.out).mono ?_); rintro e w' ⟨rfl, ⟨nd, rfl⟩⟩; refine ⟨_, rfl, ?_⟩))
              go_ret
              exact ⟨by first | rfl | (simp [errW_none, errW_some] <;> rfl) | (simp [*, errW_none, errW_some] <;> rfl), by repeat (first | (with_reducible first | exact HB.out | apply below_alloc | apply pw_below_drewN | apply below_drew1 | refine below_set ?_ GE179.out) | exact HB.out)⟩
          · rw [if_neg c4] at H
            exact absurd H (by simp)
        · rw [if_neg c3] at H
          exact absurd H (by simp)
      · rw [if_neg c2] at H
        have c2b0 : decide (x7_1 < (l0.length : Int)) = false := decide_eq_false c2
        clear c2
        by_cases c15 : (l0.length : Int) ≥ 1
        · rw [if_pos c15] at H
          have c15b0 : decide (1 ≤ (l0.length : Int)) = true := decide_eq_true c15
          have c15b1 : decide (1 ≤ l0.length) = true := decide_eq_true (by omega)
          clear c15
          obtain rfl := Option.some.inj H
          go_wp2
          go_ret
          exact ⟨by first | rfl | (simp [errW_none, errW_some] <;> rfl) | (simp [*, errW_none, errW_some] <;> rfl), by repeat (first | (with_reducible first | exact HB.out | apply below_alloc | apply pw_below_drewN | apply below_drew1) | exact HB.out)⟩
        · rw [if_neg c15] at H
          have c15b0 : decide (1 ≤ (l0.length : Int)) = false := decide_eq_false c15
          have c15b1 : decide (1 ≤ l0.length) = false := decide_eq_false (by omega)
          clear c15
          obtain rfl := Option.some.inj H
          go_wp2
          go_ret
          exact ⟨by first | rfl | (simp [errW_none, errW_some] <;> rfl) | (simp [*, errW_none, errW_some] <;> rfl), by repeat (first | (with_reducible first | exact HB.out | apply below_alloc | apply pw_below_drewN | apply below_drew1) | exact HB.out)⟩
def foghornref10_Right.l0 : Nat → List (S92) → List (S92) → Int → Int → Option (Bool)
  | 0, _, _, _, _ => none
  | k + 1, x0, x5, x6, x7 => if x7 < x6 then (if 0 ≤ x7 then (if x7 < (x5.length : Int) then (if x7 > 0 then (if 0 ≤ (wrap64 (x7 - 1)) then (if (wrap64 (x7 - 1)) < (x0.length : Int) then (if ((Op.bytesLess (((rd_T92 x0 (wrap64 (x7 - 1))).f0).toList) (((rd_T92 x5 x7).f0).toList)) = true) then (foghornref10_Right.l0 k x0 x5 x6 (wrap64 (x7 + 1))) else (some false)) else (none)) else (none)) else (foghornref10_Right.l0 k x0 x5 x6 (wrap64 (x7 + 1)))) else (none)) else (none)) else ((foghornref10_each.f k x0).bind fun t185 => (some t185))
def foghornref10_Right.f (k : Nat) (l0 : List (S92)) : Option (Bool) := foghornref10_Right.l0 k l0 l0 (l0.length : Int) 0
set_option maxHeartbeats 8000000 in
set_option maxRecDepth 100000 in
theorem foghornref10_Right.calls (k : Nat) (A0 : Option Addr) (c0 : Nat) (l0 : List (S92)) (r : Bool) (w : World) (hr0 : Kd.C k92 w A0 l0.length l0) (hc0 : l0.length ≤ c0) (h : foghornref10_Right.f k l0 = some r) :
    Calls Try.prog 27 #[.slice A0 l0.length c0] w fun e w' => e = .returned (.bool r) ∧ Below w.heap.size w w' := by
  have hu92 := Try.underlying92
  have HR0 := Aside0.mk hr0
  have HC0 := Aside0.mk hc0
  clear hr0 hc0
  have HB := Aside0.mk (Below.refl w.heap.size w)
  have H : (foghornref10_Right.l0 k l0 l0 (l0.length : Int) 0) = some r := h
  clear h
  have H' := Aside0.mk H
  clear H
  go_enter Try.func27, Try.ntmps27
  go_wp2
  repeat (go_quiet (fail); try go_wp2)
  go_loopg [7] k (fun kq v7 w' => ∃ (x7_1 : Int), v7 = .int .i64 x7_1 ∧ Aside0 (foghornref10_Right.l0 kq l0 l0 (l0.length : Int) x7_1 = some r) ∧ Aside0 (kq ≤ k) ∧ Aside0 (Below w.heap.size w w'))
  case atStart => exact ⟨(0), (by first | rfl | (simp; done) | (simp [*]; done)), H', ⟨Nat.le_refl _⟩, ⟨by repeat (first | (with_reducible first | exact HB.out | apply below_alloc | apply pw_below_drewN | apply below_drew1) | exact HB.out)⟩⟩
  case round =>
    clear H'
    obtain ⟨x7_1, rfl, HA, HK1, HB⟩ := hrel
    cases gk with
    | zero => exact absurd HA.out (by simp [foghornref10_Right.l0])
    | succ k1 =>
      have H := HA.out
      clear HA
      simp only [foghornref10_Right.l0] at H
      by_cases c2 : x7_1 < (l0.length : Int)
      · rw [if_pos c2] at H
        have c2b0 : decide (x7_1 < (l0.length : Int)) = true := decide_eq_true c2
        clear c2
        by_cases c3 : 0 ≤ x7_1
        · rw [if_pos c3] at H
          have c3b0 : decide (0 ≤ x7_1) = true := decide_eq_true c3
          clear c3
          by_cases c4 : x7_1 < (l0.length : Int)
          · rw [if_pos c4] at H
            have c4b0 : decide (x7_1 < (l0.length : Int)) = true := decide_eq_true c4
            clear c4
            by_cases c5 : x7_1 > 0
            · rw [if_pos c5] at H
              have c5b0 : decide (0 < x7_1) = true := decide_eq_true c5
              clear c5
              obtain ⟨ji6, hji6⟩ : ∃ j_ : Int, (wrap64 (x7_1 - 1)) = j_ := ⟨_, rfl⟩
              replace H : (if 0 ≤ (ji6) then (if (ji6) < (l0.length : Int) then (if ((Op.bytesLess (((rd_T92 l0 (ji6)).f0).toList) (((rd_T92 l0 x7_1).f0).toList)) = true) then (foghornref10_Right.l0 k1 l0 l0 (l0.length : Int) (wrap64 (x7_1 + 1))) else (some false)) else (none)) else (none)) = some r := by first | (rw [hji6] at H; exact H) | (simp only [hji6] at H ⊢; exact H)
              have hji6w : (IntKind.i64.wrap (x7_1 - 1)) = ji6 := (i64_w _).trans hji6
              by_cases c7 : 0 ≤ (ji6)
              · rw [if_pos c7] at H
                have c7b0 : decide (0 ≤ (ji6)) = true := decide_eq_true c7
                clear c7
                by_cases c8 : (ji6) < (l0.length : Int)
                · rw [if_pos c8] at H
                  have c8b0 : decide ((ji6) < (l0.length : Int)) = true := decide_eq_true c8
                  clear c8
                  by_cases c9 : ((Op.bytesLess (((rd_T92 l0 (ji6)).f0).toList) (((rd_T92 l0 x7_1).f0).toList)) = true)
                  · rw [if_pos c9] at H
                    have c9b0 : (Op.bytesLess (((rd_T92 l0 (ji6)).f0).toList) (((rd_T92 l0 x7_1).f0).toList)) = true := c9
                    clear c9
                    have H' := Aside0.mk H
                    clear H
                    have p182 : 0 ≤ (x7_1 : Int) := of_decide_eq_true (by first | (with_reducible assumption) | assumption)
                    have q182 : x7_1 < (l0.length : Int) := of_decide_eq_true (by first | (with_reducible assumption) | assumption)
                    obtain ⟨ad182, e182, hx182_0, hx182_1⟩ := at_T92 HR0.out x7_1 p182 q182
                    cases e182
                    replace hx182_0 := (HB.out.cell (World.block_lt_of_cell? w _ hx182_0)).trans hx182_0
                    replace hx182_1 := (HB.out.cell (World.block_lt_of_cell? w _ hx182_1)).trans hx182_1
                    replace p182 := eq_true p182
                    replace q182 := eq_true q182
                    go_wp2_with (first | ((with_reducible refine gate_dst (N := 4) rfl ?_); refine box_event ?hg (N := 4) ?hd (cs := #[.string (⟨#[]⟩ : ByteArray), .string (⟨#[]⟩ : ByteArray)]) (t := 92) ?hr ?_; (case hd => rfl); (case hg => rfl); (case hr => first | (go_simp; done) | (go_simp; rfl)); intro gb183 hg w10 hbox hb; have n0_ := Aside0.mk (below_step (by repeat (first | (with_reducible first | exact HB.out | apply below_alloc | apply pw_below_drewN | apply below_drew1) | exact HB.out)) hb); have n1_ := Aside0.mk (hbox); have n2_ := Aside0.mk ((by rw [hg]; exact (below_size (by repeat (first | (with_reducible first | exact HB.out | apply below_alloc | apply pw_below_drewN | apply below_drew1) | exact HB.out))) : w.heap.size ≤ gb183)); have n3_ := Aside0.mk ((by rw [hg]; exact (below_size (by repeat (first | (with_reducible first | exact HB.out | apply below_alloc | apply pw_below_drewN | apply below_drew1) | exact HB.out))) : w.heap.size ≤ gb183)); clear HB; have HB := n0_; have BK183 := n1_; have GW183 := n2_; have GE183 := n3_; clear n0_ n1_ n2_ n3_; clear hb hbox hg; have hcz11_0 : w10.cell? ⟨gb183, 0, none⟩ = some (.string (⟨#[]⟩ : ByteArray)) := (blk_cell BK183.out 0).trans rfl; have hcz11_1 : w10.cell? ⟨gb183, 1, none⟩ = some (.string (⟨#[]⟩ : ByteArray)) := (blk_cell BK183.out 1).trans rfl; have hfz11_0 := blk_frozen BK183.out 0; have hfz11_1 := blk_frozen BK183.out 1; have p184 : 0 ≤ ((ji6) : Int) := of_decide_eq_true (by first | (with_reducible assumption) | assumption); have q184 : (ji6) < (l0.length : Int) := of_decide_eq_true (by first | (with_reducible assumption) | assumption); obtain ⟨ad184, e184, hx184_0, hx184_1⟩ := at_T92 HR0.out (ji6) p184 q184; obtain rfl : ad182 = ad184 := (by injection e184); have hn184_0 : ad182.block ≠ gb183 := Nat.ne_of_lt (Nat.lt_of_lt_of_le (by have := World.block_lt_of_cell? _ _ hx184_0; first | rwa [add_block] at this | exact this) GW183.out); have hn184_1 : ad182.block ≠ gb183 := Nat.ne_of_lt (Nat.lt_of_lt_of_le (by have := World.block_lt_of_cell? _ _ hx184_0; first | rwa [add_block] at this | exact this) GW183.out); replace hx184_0 := (HB.out.cell (World.block_lt_of_cell? w _ hx184_0)).trans hx184_0; replace hx184_1 := (HB.out.cell (World.block_lt_of_cell? w _ hx184_1)).trans hx184_1; replace hx184_0 := (cell_far (p := ⟨gb183, 0, none⟩) (by first | (rw [add_block]; exact hn184_0) | (show (Addr.add _ _).block ≠ _; rw [add_block]; exact hn184_0) | exact hn184_0) (.string ((rd_T92 l0 x7_1).f0))).trans hx184_0; replace hx184_1 := (cell_far (p := ⟨gb183, 0, none⟩) (by first | (rw [add_block]; exact hn184_0) | (show (Addr.add _ _).block ≠ _; rw [add_block]; exact hn184_0) | exact hn184_0) (.string ((rd_T92 l0 x7_1).f0))).trans hx184_1; replace hx184_0 := (cell_far (p := ⟨gb183, 1, none⟩) (by first | (rw [add_block]; exact hn184_1) | (show (Addr.add _ _).block ≠ _; rw [add_block]; exact hn184_1) | exact hn184_1) (.string ((rd_T92 l0 x7_1).f1))).trans hx184_0; replace hx184_1 := (cell_far (p := ⟨gb183, 1, none⟩) (by first | (rw [add_block]; exact hn184_1) | (show (Addr.add _ _).block ≠ _; rw [add_block]; exact hn184_1) | exact hn184_1) (.string ((rd_T92 l0 x7_1).f1))).trans hx184_1; (try have hy184_0 := fun (n_ : Nat) => (show ((((w10.drewN n_).setCell ⟨gb183, 0, none⟩ (.string ((rd_T92 l0 x7_1).f0))).setCell ⟨gb183, 1, none⟩ (.string ((rd_T92 l0 x7_1).f1)))).cell? _ = some _ from hx184_0)); (try have hy184_1 := fun (n_ : Nat) => (show ((((w10.drewN n_).setCell ⟨gb183, 0, none⟩ (.string ((rd_T92 l0 x7_1).f0))).setCell ⟨gb183, 1, none⟩ (.string ((rd_T92 l0 x7_1).f1)))).cell? _ = some _ from hx184_1)); clear hn184_0; clear hn184_1; replace p184 := eq_true p184; replace q184 := eq_true q184))
                    repeat (go_quiet (first | ((with_reducible refine gate_dst (N := 4) rfl ?_); refine box_event ?hg (N := 4) ?hd (cs := #[.string (⟨#[]⟩ : ByteArray), .string (⟨#[]⟩ : ByteArray)]) (t := 92) ?hr ?_; (case hd => rfl); (case hg => rfl); (case hr => first | (go_simp; done) | (go_simp; rfl)); intro gb183 hg w10 hbox hb; have n0_ := Aside0.mk (below_step (by repeat (first | (with_reducible first | exact HB.out | apply below_alloc | apply pw_below_drewN | apply below_drew1) | exact HB.out)) hb); have n1_ := Aside0.mk (hbox); have n2_ := Aside0.mk ((by rw [hg]; exact (below_size (by repeat (first | (with_reducible first | exact HB.out | apply below_alloc | apply pw_below_drewN | apply below_drew1) | exact HB.out))) : w.heap.size ≤ gb183)); have n3_ := Aside0.mk ((by rw [hg]; exact (below_size (by repeat (first | (with_reducible first | exact HB.out | apply below_alloc | apply pw_below_drewN | apply below_drew1) | exact HB.out))) : w.heap.size ≤ gb183)); clear HB; have HB := n0_; have BK183 := n1_; have GW183 := n2_; have GE183 := n3_; clear n0_ n1_ n2_ n3_; clear hb hbox hg; have hcz11_0 : w10.cell? ⟨gb183, 0, none⟩ = some (.string (⟨#[]⟩ : ByteArray)) := (blk_cell BK183.out 0).trans rfl; have hcz11_1 : w10.cell? ⟨gb183, 1, none⟩ = some (.string (⟨#[]⟩ : ByteArray)) := (blk_cell BK183.out 1).trans rfl; have hfz11_0 := blk_frozen BK183.out 0; have hfz11_1 := blk_frozen BK183.out 1; have p184 : 0 ≤ ((ji6) : Int) := of_decide_eq_true (by first | (with_reducible assumption) | assumption); have q184 : (ji6) < (l0.length : Int) := of_decide_eq_true (by first | (with_reducible assumption) | assumption); obtain ⟨ad184, e184, hx184_0, hx184_1⟩ := at_T92 HR0.out (ji6) p184 q184; obtain rfl : ad182 = ad184 := (by injection e184); have hn184_0 : ad182.block ≠ gb183 := Nat.ne_of_lt (Nat.lt_of_lt_of_le (by have := World.block_lt_of_cell? _ _ hx184_0; first | rwa [add_block] at this | exact this) GW183.out); have hn184_1 : ad182.block ≠ gb183 := Nat.ne_of_lt (Nat.lt_of_lt_of_le (by have := World.block_lt_of_cell? _ _ hx184_0; first | rwa [add_block] at this | exact this) GW183.out); replace hx184_0 := (HB.out.cell (World.block_lt_of_cell? w _ hx184_0)).trans hx184_0; replace hx184_1 := (HB.out.cell (World.block_lt_of_cell? w _ hx184_1)).trans hx184_1; replace hx184_0 := (cell_far (p := ⟨gb183, 0, none⟩) (by first | (rw [add_block]; exact hn184_0) | (show (Addr.add _ _).block ≠ _; rw [add_block]; exact hn184_0) | exact hn184_0) (.string ((rd_T92 l0 x7_1).f0))).trans hx184_0; replace hx184_1 := (cell_far (p := ⟨gb183, 0, none⟩) (by first | (rw [add_block]; exact hn184_0) | (show (Addr.add _ _).block ≠ _; rw [add_block]; exact hn184_0) | exact hn184_0) (.string ((rd_T92 l0 x7_1).f0))).trans hx184_1; replace hx184_0 := (cell_far (p := ⟨gb183, 1, none⟩) (by first | (rw [add_block]; exact hn184_1) | (show (Addr.add _ _).block ≠ _; rw [add_block]; exact hn184_1) | exact hn184_1) (.string ((rd_T92 l0 x7_1).f1))).trans hx184_0; replace hx184_1 := (cell_far (p := ⟨gb183, 1, none⟩) (by first | (rw [add_block]; exact hn184_1) | (show (Addr.add _ _).block ≠ _; rw [add_block]; exact hn184_1) | exact hn184_1) (.string ((rd_T92 l0 x7_1).f1))).trans hx184_1; (try have hy184_0 := fun (n_ : Nat) => (show ((((w10.drewN n_).setCell ⟨gb183, 0, none⟩ (.string ((rd_T92 l0 x7_1).f0))).setCell ⟨gb183, 1, none⟩ (.string ((rd_T92 l0 x7_1).f1)))).cell? _ = some _ from hx184_0)); (try have hy184_1 := fun (n_ : Nat) => (show ((((w10.drewN n_).setCell ⟨gb183, 0, none⟩ (.string ((rd_T92 l0 x7_1).f0))).setCell ⟨gb183, 1, none⟩ (.string ((rd_T92 l0 x7_1).f1)))).cell? _ = some _ from hx184_1)); clear hn184_0; clear hn184_1; replace p184 := eq_true p184; replace q184 := eq_true q184)); try go_wp2_with (first | ((with_reducible refine gate_dst (N := 4) rfl ?_); refine box_event ?hg (N := 4) ?hd (cs := #[.string (⟨#[]⟩ : ByteArray), .string (⟨#[]⟩ : ByteArray)]) (t := 92) ?hr ?_; (case hd => rfl); (case hg => rfl); (case hr => first | (go_simp; done) | (go_simp; rfl)); intro gb183 hg w10 hbox hb; have n0_ := Aside0.mk (below_step (by repeat (first | (with_reducible first | exact HB.out | apply below_alloc | apply pw_below_drewN | apply below_drew1) | exact HB.out)) hb); have n1_ := Aside0.mk (hbox); have n2_ := Aside0.mk ((by rw [hg]; exact (below_size (by repeat (first | (with_reducible first | exact HB.out | apply below_alloc | apply pw_below_drewN | apply below_drew1) | exact HB.out))) : w.heap.size ≤ gb183)); have n3_ := Aside0.mk ((by rw [hg]; exact (below_size (by repeat (first | (with_reducible first | exact HB.out | apply below_alloc | apply pw_below_drewN | apply below_drew1) | exact HB.out))) : w.heap.size ≤ gb183)); clear HB; have HB := n0_; have BK183 := n1_; have GW183 := n2_; have GE183 := n3_; clear n0_ n1_ n2_ n3_; clear hb hbox hg; have hcz11_0 : w10.cell? ⟨gb183, 0, none⟩ = some (.string (⟨#[]⟩ : ByteArray)) := (blk_cell BK183.out 0).trans rfl; have hcz11_1 : w10.cell? ⟨gb183, 1, none⟩ = some (.string (⟨#[]⟩ : ByteArray)) := (blk_cell BK183.out 1).trans rfl; have hfz11_0 := blk_frozen BK183.out 0; have hfz11_1 := blk_frozen BK183.out 1; have p184 : 0 ≤ ((ji6) : Int) := of_decide_eq_true (by first | (with_reducible assumption) | assumption); have q184 : (ji6) < (l0.length : Int) := of_decide_eq_true (by first | (with_reducible assumption) | assumption); obtain ⟨ad184, e184, hx184_0, hx184_1⟩ := at_T92 HR0.out (ji6) p184 q184; obtain rfl : ad182 = ad184 := (by injection e184); have hn184_0 : ad182.block ≠ gb183 := Nat.ne_of_lt (Nat.lt_of_lt_of_le (by have := World.block_lt_of_cell? _ _ hx184_0; first | rwa [add_block] at this | exact this) GW183.out); have hn184_1 : ad182.block ≠ gb183 := Nat.ne_of_lt (Nat.lt_of_lt_of_le (by have := World.block_lt_of_cell? _ _ hx184_0; first | rwa [add_block] at this | exact this) GW183.out); replace hx184_0 := (HB.out.cell (World.block_lt_of_cell? w _ hx184_0)).trans hx184_0; replace hx184_1 := (HB.out.cell (World.block_lt_of_cell? w _ hx184_1)).trans hx184_1; replace hx184_0 := (cell_far (p := ⟨gb183, 0, none⟩) (by first | (rw [add_block]; exact hn184_0) | (show (Addr.add _ _).block ≠ _; rw [add_block]; exact hn184_0) | exact hn184_0) (.string ((rd_T92 l0 x7_1).f0))).trans hx184_0; replace hx184_1 := (cell_far (p := ⟨gb183, 0, none⟩) (by first | (rw [add_block]; exact hn184_0) | (show (Addr.add _ _).block ≠ _; rw [add_block]; exact hn184_0) | exact hn184_0) (.string ((rd_T92 l0 x7_1).f0))).trans hx184_1; replace hx184_0 := (cell_far (p := ⟨gb183, 1, none⟩) (by first | (rw [add_block]; exact hn184_1) | (show (Addr.add _ _).block ≠ _; rw [add_block]; exact hn184_1) | exact hn184_1) (.string ((rd_T92 l0 x7_1).f1))).trans hx184_0; replace hx184_1 := (cell_far (p := ⟨gb183, 1, none⟩) (by first | (rw [add_block]; exact hn184_1) | (show (Addr.add _ _).block ≠ _; rw [add_block]; exact hn184_1) | exact hn184_1) (.string ((rd_T92 l0 x7_1).f1))).trans hx184_1; (try have hy184_0 := fun (n_ : Nat) => (show ((((w10.drewN n_).setCell ⟨gb183, 0, none⟩ (.string ((rd_T92 l0 x7_1).f0))).setCell ⟨gb183, 1, none⟩ (.string ((rd_T92 l0 x7_1).f1)))).cell? _ = some _ from hx184_0)); (try have hy184_1 := fun (n_ : Nat) => (show ((((w10.drewN n_).setCell ⟨gb183, 0, none⟩ (.string ((rd_T92 l0 x7_1).f0))).setCell ⟨gb183, 1, none⟩ (.string ((rd_T92 l0 x7_1).f1)))).cell? _ = some _ from hx184_1)); clear hn184_0; clear hn184_1; replace p184 := eq_true p184; replace q184 := eq_true q184)))
                    go_roundg k1
                    case measure => have := HK1.out; omega
                    case rel => exact ⟨(wrap64 (x7_1 + 1)), (by first | rfl | (simp; done) | (simp [*]; done)), H', ⟨by have := HK1.out; omega⟩, ⟨by repeat (first | (with_reducible first | exact HB.out | apply below_alloc | apply pw_below_drewN | apply below_drew1 | refine below_set ?_ GE183.out) | exact HB.out)⟩⟩
                  · rw [if_neg c9] at H
                    have c9b0 : (Op.bytesLess (((rd_T92 l0 (ji6)).f0).toList) (((rd_T92 l0 x7_1).f0).toList)) = false := by simpa using c9
                    clear c9
                    obtain rfl := Option.some.inj H
                    have p182 : 0 ≤ (x7_1 : Int) := of_decide_eq_true (by first | (with_reducible assumption) | assumption)
                    have q182 : x7_1 < (l0.length : Int) := of_decide_eq_true (by first | (with_reducible assumption) | assumption)
                    obtain ⟨ad182, e182, hx182_0, hx182_1⟩ := at_T92 HR0.out x7_1 p182 q182
                    cases e182
                    replace hx182_0 := (HB.out.cell (World.block_lt_of_cell? w _ hx182_0)).trans hx182_0
                    replace hx182_1 := (HB.out.cell (World.block_lt_of_cell? w _ hx182_1)).trans hx182_1
                    replace p182 := eq_true p182
                    replace q182 := eq_true q182
                    go_wp2_with (first | ((with_reducible refine gate_dst (N := 4) rfl ?_); refine box_event ?hg (N := 4) ?hd (cs := #[.string (⟨#[]⟩ : ByteArray), .string (⟨#[]⟩ : ByteArray)]) (t := 92) ?hr ?_; (case hd => rfl); (case hg => rfl); (case hr => first | (go_simp; done) | (go_simp; rfl)); intro gb183 hg w12 hbox hb; have n0_ := Aside0.mk (below_step (by repeat (first | (with_reducible first | exact HB.out | apply below_alloc | apply pw_below_drewN | apply below_drew1) | exact HB.out)) hb); have n1_ := Aside0.mk (hbox); have n2_ := Aside0.mk ((by rw [hg]; exact (below_size (by repeat (first | (with_reducible first | exact HB.out | apply below_alloc | apply pw_below_drewN | apply below_drew1) | exact HB.out))) : w.heap.size ≤ gb183)); have n3_ := Aside0.mk ((by rw [hg]; exact (below_size (by repeat (first | (with_reducible first | exact HB.out | apply below_alloc | apply pw_below_drewN | apply below_drew1) | exact HB.out))) : w.heap.size ≤ gb183)); clear HB; have HB := n0_; have BK183 := n1_; have GW183 := n2_; have GE183 := n3_; clear n0_ n1_ n2_ n3_; clear hb hbox hg; have hcz13_0 : w12.cell? ⟨gb183, 0, none⟩ = some (.string (⟨#[]⟩ : ByteArray)) := (blk_cell BK183.out 0).trans rfl; have hcz13_1 : w12.cell? ⟨gb183, 1, none⟩ = some (.string (⟨#[]⟩ : ByteArray)) := (blk_cell BK183.out 1).trans rfl; have hfz13_0 := blk_frozen BK183.out 0; have hfz13_1 := blk_frozen BK183.out 1; have p184 : 0 ≤ ((ji6) : Int) := of_decide_eq_true (by first | (with_reducible assumption) | assumption); have q184 : (ji6) < (l0.length : Int) := of_decide_eq_true (by first | (with_reducible assumption) | assumption); obtain ⟨ad184, e184, hx184_0, hx184_1⟩ := at_T92 HR0.out (ji6) p184 q184; obtain rfl : ad182 = ad184 := (by injection e184); have hn184_0 : ad182.block ≠ gb183 := Nat.ne_of_lt (Nat.lt_of_lt_of_le (by have := World.block_lt_of_cell? _ _ hx184_0; first | rwa [add_block] at this | exact this) GW183.out); have hn184_1 : ad182.block ≠ gb183 := Nat.ne_of_lt (Nat.lt_of_lt_of_le (by have := World.block_lt_of_cell? _ _ hx184_0; first | rwa [add_block] at this | exact this) GW183.out); replace hx184_0 := (HB.out.cell (World.block_lt_of_cell? w _ hx184_0)).trans hx184_0; replace hx184_1 := (HB.out.cell (World.block_lt_of_cell? w _ hx184_1)).trans hx184_1; replace hx184_0 := (cell_far (p := ⟨gb183, 0, none⟩) (by first | (rw [add_block]; exact hn184_0) | (show (Addr.add _ _).block ≠ _; rw [add_block]; exact hn184_0) | exact hn184_0) (.string ((rd_T92 l0 x7_1).f0))).trans hx184_0; replace hx184_1 := (cell_far (p := ⟨gb183, 0, none⟩) (by first | (rw [add_block]; exact hn184_0) | (show (Addr.add _ _).block ≠ _; rw [add_block]; exact hn184_0) | exact hn184_0) (.string ((rd_T92 l0 x7_1).f0))).trans hx184_1; replace hx184_0 := (cell_far (p := ⟨gb183, 1, none⟩) (by first | (rw [add_block]; exact hn184_1) | (show (Addr.add _ _).block ≠ _; rw [add_block]; exact hn184_1) | exact hn184_1) (.string ((rd_T92 l0 x7_1).f1))).trans hx184_0; replace hx184_1 := (cell_far (p := ⟨gb183, 1, none⟩) (by first | (rw [add_block]; exact hn184_1) | (show (Addr.add _ _).block ≠ _; rw [add_block]; exact hn184_1) | exact hn184_1) (.string ((rd_T92 l0 x7_1).f1))).trans hx184_1; (try have hy184_0 := fun (n_ : Nat) => (show ((((w12.drewN n_).setCell ⟨gb183, 0, none⟩ (.string ((rd_T92 l0 x7_1).f0))).setCell ⟨gb183, 1, none⟩ (.string ((rd_T92 l0 x7_1).f1)))).cell? _ = some _ from hx184_0)); (try have hy184_1 := fun (n_ : Nat) => (show ((((w12.drewN n_).setCell ⟨gb183, 0, none⟩ (.string ((rd_T92 l0 x7_1).f0))).setCell ⟨gb183, 1, none⟩ (.string ((rd_T92 l0 x7_1).f1)))).cell? _ = some _ from hx184_1)); clear hn184_0; clear hn184_1; replace p184 := eq_true p184; replace q184 := eq_true q184))
                    repeat (go_quiet (first | ((with_reducible refine gate_dst (N := 4) rfl ?_); refine box_event ?hg (N := 4) ?hd (cs := #[.string (⟨#[]⟩ : ByteArray), .string (⟨#[]⟩ : ByteArray)]) (t := 92) ?hr ?_; (case hd => rfl); (case hg => rfl); (case hr => first | (go_simp; done) | (go_simp; rfl)); intro gb183 hg w12 hbox hb; have n0_ := Aside0.mk (below_step (by repeat (first | (with_reducible first | exact HB.out | apply below_alloc | apply pw_below_drewN | apply below_drew1) | exact HB.out)) hb); have n1_ := Aside0.mk (hbox); have n2_ := Aside0.mk ((by rw [hg]; exact (below_size (by repeat (first | (with_reducible first | exact HB.out | apply below_alloc | apply pw_below_drewN | apply below_drew1) | exact HB.out))) : w.heap.size ≤ gb183)); have n3_ := Aside0.mk ((by rw [hg]; exact (below_size (by repeat (first | (with_reducible first | exact HB.out | apply below_alloc | apply pw_below_drewN | apply below_drew1) | exact HB.out))) : w.heap.size ≤ gb183)); clear HB; have HB := n0_; have BK183 := n1_; have GW183 := n2_; have GE183 := n3_; clear n0_ n1_ n2_ n3_; clear hb hbox hg; have hcz13_0 : w12.cell? ⟨gb183, 0, none⟩ = some (.string (⟨#[]⟩ : ByteArray)) := (blk_cell BK183.out 0).trans rfl; have hcz13_1 : w12.cell? ⟨gb183, 1, none⟩ = some (.string (⟨#[]⟩ : ByteArray)) := (blk_cell BK183.out 1).trans rfl; have hfz13_0 := blk_frozen BK183.out 0; have hfz13_1 := blk_frozen BK183.out 1; have p184 : 0 ≤ ((ji6) : Int) := of_decide_eq_true (by first | (with_reducible assumption) | assumption); have q184 : (ji6) < (l0.length : Int) := of_decide_eq_true (by first | (with_reducible assumption) | assumption); obtain ⟨ad184, e184, hx184_0, hx184_1⟩ := at_T92 HR0.out (ji6) p184 q184; obtain rfl : ad182 = ad184 := (by injection e184); have hn184_0 : ad182.block ≠ gb183 := Nat.ne_of_lt (Nat.lt_of_lt_of_le (by have := World.block_lt_of_cell? _ _ hx184_0; first | rwa [add_block] at this | exact this) GW183.out); have hn184_1 : ad182.block ≠ gb183 := Nat.ne_of_lt (Nat.lt_of_lt_of_le (by have := World.block_lt_of_cell? _ _ hx184_0; first | rwa [add_block] at this | exact this) GW183.out); replace hx184_0 := (HB.out.cell (World.block_lt_of_cell? w _ hx184_0)).trans hx184_0; replace hx184_1 := (HB.out.cell (World.block_lt_of_cell? w _ hx184_1)).trans hx184_1; replace hx184_0 := (cell_far (p := ⟨gb183, 0, none⟩) (by first | (rw [add_block]; exact hn184_0) | (show (Addr.add _ _).block ≠ _; rw [add_block]; exact hn184_0) | exact hn184_0) (.string ((rd_T92 l0 x7_1).f0))).trans hx184_0; replace hx184_1 := (cell_far (p := ⟨gb183, 0, none⟩) (by first | (rw [add_block]; exact hn184_0) | (show (Addr.add _ _).block ≠ _; rw [add_block]; exact hn184_0) | exact hn184_0) (.string ((rd_T92 l0 x7_1).f0))).trans hx184_1; replace hx184_0 := (cell_far (p := ⟨gb183, 1, none⟩) (by first | (rw [add_block]; exact hn184_1) | (show (Addr.add _ _).block ≠ _; rw [add_block]; exact hn184_1) | exact hn184_1) (.string ((rd_T92 l0 x7_1).f1))).trans hx184_0; replace hx184_1 := (cell_far (p := ⟨gb183, 1, none⟩) (by first | (rw [add_block]; exact hn184_1) | (show (Addr.add _ _).block ≠ _; rw [add_block]; exact hn184_1) | exact hn184_1) (.string ((rd_T92 l0 x7_1).f1))).trans hx184_1; (try have hy184_0 := fun (n_ : Nat) => (show ((((w12.drewN n_).setCell ⟨gb183, 0, none⟩ (.string ((rd_T92 l0 x7_1).f0))).setCell ⟨gb183, 1, none⟩ (.string ((rd_T92 l0 x7_1).f1)))).cell? _ = some _ from hx184_0)); (try have hy184_1 := fun (n_ : Nat) => (show ((((w12.drewN n_).setCell ⟨gb183, 0, none⟩ (.string ((rd_T92 l0 x7_1).f0))).setCell ⟨gb183, 1, none⟩ (.string ((rd_T92 l0 x7_1).f1)))).cell? _ = some _ from hx184_1)); clear hn184_0; clear hn184_1; replace p184 := eq_true p184; replace q184 := eq_true q184)); try go_wp2_with (first | ((with_reducible refine gate_dst (N := 4) rfl ?_); refine box_event ?hg (N := 4) ?hd (cs := #[.string (⟨#[]⟩ : ByteArray), .string (⟨#[]⟩ : ByteArray)]) (t := 92) ?hr ?_; (case hd => rfl); (case hg => rfl); (case hr => first | (go_simp; done) | (go_simp; rfl)); intro gb183 hg w12 hbox hb; have n0_ := Aside0.mk (below_step (by repeat (first | (with_reducible first | exact HB.out | apply below_alloc | apply pw_below_drewN | apply below_drew1) | exact HB.out)) hb); have n1_ := Aside0.mk (hbox); have n2_ := Aside0.mk ((by rw [hg]; exact (below_size (by repeat (first | (with_reducible first | exact HB.out | apply below_alloc | apply pw_below_drewN | apply below_drew1) | exact HB.out))) : w.heap.size ≤ gb183)); have n3_ := Aside0.mk ((by rw [hg]; exact (below_size (by repeat (first | (with_reducible first | exact HB.out | apply below_alloc | apply pw_below_drewN | apply below_drew1) | exact HB.out))) : w.heap.size ≤ gb183)); clear HB; have HB := n0_; have BK183 := n1_; have GW183 := n2_; have GE183 := n3_; clear n0_ n1_ n2_ n3_; clear hb hbox hg; have hcz13_0 : w12.cell? ⟨gb183, 0, none⟩ = some (.string (⟨#[]⟩ : ByteArray)) := (blk_cell BK183.out 0).trans rfl; have hcz13_1 : w12.cell? ⟨gb183, 1, none⟩ = some (.string (⟨#[]⟩ : ByteArray)) := (blk_cell BK183.out 1).trans rfl; have hfz13_0 := blk_frozen BK183.out 0; have hfz13_1 := blk_frozen BK183.out 1; have p184 : 0 ≤ ((ji6) : Int) := of_decide_eq_true (by first | (with_reducible assumption) | assumption); have q184 : (ji6) < (l0.length : Int) := of_decide_eq_true (by first | (with_reducible assumption) | assumption); obtain ⟨ad184, e184, hx184_0, hx184_1⟩ := at_T92 HR0.out (ji6) p184 q184; obtain rfl : ad182 = ad184 := (by injection e184); have hn184_0 : ad182.block ≠ gb183 := Nat.ne_of_lt (Nat.lt_of_lt_of_le (by have := World.block_lt_of_cell? _ _ hx184_0; first | rwa [add_block] at this | exact this) GW183.out); have hn184_1 : ad182.block ≠ gb183 := Nat.ne_of_lt (Nat.lt_of_lt_of_le (by have := World.block_lt_of_cell? _ _ hx184_0; first | rwa [add_block] at this | exact this) GW183.out); replace hx184_0 := (HB.out.cell (World.block_lt_of_cell? w _ hx184_0)).trans hx184_0; replace hx184_1 := (HB.out.cell (World.block_lt_of_cell? w _ hx184_1)).trans hx184_1; replace hx184_0 := (cell_far (p := ⟨gb183, 0, none⟩) (by first | (rw [add_block]; exact hn184_0) | (show (Addr.add _ _).block ≠ _; rw [add_block]; exact hn184_0) | exact hn184_0) (.string ((rd_T92 l0 x7_1).f0))).trans hx184_0; replace hx184_1 := (cell_far (p := ⟨gb183, 0, none⟩) (by first | (rw [add_block]; exact hn184_0) | (show (Addr.add _ _).block ≠ _; rw [add_block]; exact hn184_0) | exact hn184_0) (.string ((rd_T92 l0 x7_1).f0))).trans hx184_1; replace hx184_0 := (cell_far (p := ⟨gb183, 1, none⟩) (by first | (rw [add_block]; exact hn184_1) | (show (Addr.add _ _).block ≠ _; rw [add_block]; exact hn184_1) | exact hn184_1) (.string ((rd_T92 l0 x7_1).f1))).trans hx184_0; replace hx184_1 := (cell_far (p := ⟨gb183, 1, none⟩) (by first | (rw [add_block]; exact hn184_1) | (show (Addr.add _ _).block ≠ _; rw [add_block]; exact hn184_1) | exact hn184_1) (.string ((rd_T92 l0 x7_1).f1))).trans hx184_1; (try have hy184_0 := fun (n_ : Nat) => (show ((((w12.drewN n_).setCell ⟨gb183, 0, none⟩ (.string ((rd_T92 l0 x7_1).f0))).setCell ⟨gb183, 1, none⟩ (.string ((rd_T92 l0 x7_1).f1)))).cell? _ = some _ from hx184_0)); (try have hy184_1 := fun (n_ : Nat) => (show ((((w12.drewN n_).setCell ⟨gb183, 0, none⟩ (.string ((rd_T92 l0 x7_1).f0))).setCell ⟨gb183, 1, none⟩ (.string ((rd_T92 l0 x7_1).f1)))).cell? _ = some _ from hx184_1)); clear hn184_0; clear hn184_1; replace p184 := eq_true p184; replace q184 := eq_true q184)))
                    go_ret
                    exact ⟨by first | rfl | (simp [errW_none, errW_some] <;> rfl) | (simp only [← hji6]; first | rfl | (simp [errW_none, errW_some] <;> rfl)) | (simp [*, errW_none, errW_some] <;> rfl), by repeat (first | (with_reducible first | exact HB.out | apply below_alloc | apply pw_below_drewN | apply below_drew1 | refine below_set ?_ GE183.out) | exact HB.out)⟩
                · rw [if_neg c8] at H
                  exact absurd H (by simp)
              · rw [if_neg c7] at H
                exact absurd H (by simp)
            · rw [if_neg c5] at H
              have c5b0 : decide (0 < x7_1) = false := decide_eq_false c5
              clear c5
              have H' := Aside0.mk H
              clear H
              have p182 : 0 ≤ (x7_1 : Int) := of_decide_eq_true (by first | (with_reducible assumption) | assumption)
              have q182 : x7_1 < (l0.length : Int) := of_decide_eq_true (by first | (with_reducible assumption) | assumption)
              obtain ⟨ad182, e182, hx182_0, hx182_1⟩ := at_T92 HR0.out x7_1 p182 q182
              cases e182
              replace hx182_0 := (HB.out.cell (World.block_lt_of_cell? w _ hx182_0)).trans hx182_0
              replace hx182_1 := (HB.out.cell (World.block_lt_of_cell? w _ hx182_1)).trans hx182_1
              replace p182 := eq_true p182
              replace q182 := eq_true q182
              go_wp2_with (first | ((with_reducible refine gate_dst (N := 4) rfl ?_); refine box_event ?hg (N := 4) ?hd (cs := #[.string (⟨#[]⟩ : ByteArray), .string (⟨#[]⟩ : ByteArray)]) (t := 92) ?hr ?_; (case hd => rfl); (case hg => rfl); (case hr => first | (go_simp; done) | (go_simp; rfl)); intro gb183 hg w14 hbox hb; have n0_ := Aside0.mk (below_step (by repeat (first | (with_reducible first | exact HB.out | apply below_alloc | apply pw_below_drewN | apply below_drew1) | exact HB.out)) hb); have n1_ := Aside0.mk (hbox); have n2_ := Aside0.mk ((by rw [hg]; exact (below_size (by repeat (first | (with_reducible first | exact HB.out | apply below_alloc | apply pw_below_drewN | apply below_drew1) | exact HB.out))) : w.heap.size ≤ gb183)); have n3_ := Aside0.mk ((by rw [hg]; exact (below_size (by repeat (first | (with_reducible first | exact HB.out | apply below_alloc | apply pw_below_drewN | apply below_drew1) | exact HB.out))) : w.heap.size ≤ gb183)); clear HB; have HB := n0_; have BK183 := n1_; have GW183 := n2_; have GE183 := n3_; clear n0_ n1_ n2_ n3_; clear hb hbox hg; have hcz15_0 : w14.cell? ⟨gb183, 0, none⟩ = some (.string (⟨#[]⟩ : ByteArray)) := (blk_cell BK183.out 0).trans rfl; have hcz15_1 : w14.cell? ⟨gb183, 1, none⟩ = some (.string (⟨#[]⟩ : ByteArray)) := (blk_cell BK183.out 1).trans rfl; have hfz15_0 := blk_frozen BK183.out 0; have hfz15_1 := blk_frozen BK183.out 1))
              repeat (go_quiet (first | ((with_reducible refine gate_dst (N := 4) rfl ?_); refine box_event ?hg (N := 4) ?hd (cs := #[.string (⟨#[]⟩ : ByteArray), .string (⟨#[]⟩ : ByteArray)]) (t := 92) ?hr ?_; (case hd => rfl); (case hg => rfl); (case hr => first | (go_simp; done) | (go_simp; rfl)); intro gb183 hg w14 hbox hb; have n0_ := Aside0.mk (below_step (by repeat (first | (with_reducible first | exact HB.out | apply below_alloc | apply pw_below_drewN | apply below_drew1) | exact HB.out)) hb); have n1_ := Aside0.mk (hbox); have n2_ := Aside0.mk ((by rw [hg]; exact (below_size (by repeat (first | (with_reducible first | exact HB.out | apply below_alloc | apply pw_below_drewN | apply below_drew1) | exact HB.out))) : w.heap.size ≤ gb183)); have n3_ := Aside0.mk ((by rw [hg]; exact (below_size (by repeat (first | (with_reducible first | exact HB.out | apply below_alloc | apply pw_below_drewN | apply below_drew1) | exact HB.out))) : w.heap.size ≤ gb183)); clear HB; have HB := n0_; have BK183 := n1_; have GW183 := n2_; have GE183 := n3_; clear n0_ n1_ n2_ n3_; clear hb hbox hg; have hcz15_0 : w14.cell? ⟨gb183, 0, none⟩ = some (.string (⟨#[]⟩ : ByteArray)) := (blk_cell BK183.out 0).trans rfl; have hcz15_1 : w14.cell? ⟨gb183, 1, none⟩ = some (.string (⟨#[]⟩ : ByteArray)) := (blk_cell BK183.out 1).trans rfl; have hfz15_0 := blk_frozen BK183.out 0; have hfz15_1 := blk_frozen BK183.out 1)); try go_wp2_with (first | ((with_reducible refine gate_dst (N := 4) rfl ?_); refine box_event ?hg (N := 4) ?hd (cs := #[.string (⟨#[]⟩ : ByteArray), .string (⟨#[]⟩ : ByteArray)]) (t := 92) ?hr ?_; (case hd => rfl); (case hg => rfl); (case hr => first | (go_simp; done) | (go_simp; rfl)); intro gb183 hg w14 hbox hb; have n0_ := Aside0.mk (below_step (by repeat (first | (with_reducible first | exact HB.out | apply below_alloc | apply pw_below_drewN | apply below_drew1) | exact HB.out)) hb); have n1_ := Aside0.mk (hbox); have n2_ := Aside0.mk ((by rw [hg]; exact (below_size (by repeat (first | (with_reducible first | exact HB.out | apply below_alloc | apply pw_below_drewN | apply below_drew1) | exact HB.out))) : w.heap.size ≤ gb183)); have n3_ := Aside0.mk ((by rw [hg]; exact (below_size (by repeat (first | (with_reducible first | exact HB.out | apply below_alloc | apply pw_below_drewN | apply below_drew1) | exact HB.out))) : w.heap.size ≤ gb183)); clear HB; have HB := n0_; have BK183 := n1_; have GW183 := n2_; have GE183 := n3_; clear n0_ n1_ n2_ n3_; clear hb hbox hg; have hcz15_0 : w14.cell? ⟨gb183, 0, none⟩ = some (.string (⟨#[]⟩ : ByteArray)) := (blk_cell BK183.out 0).trans rfl; have hcz15_1 : w14.cell? ⟨gb183, 1, none⟩ = some (.string (⟨#[]⟩ : ByteArray)) := (blk_cell BK183.out 1).trans rfl; have hfz15_0 := blk_frozen BK183.out 0; have hfz15_1 := blk_frozen BK183.out 1)))
              go_roundg k1
              case measure => have := HK1.out; omega
              case rel => exact ⟨(wrap64 (x7_1 + 1)), (by first | rfl | (simp; done) | (simp [*]; done)), H', ⟨by have := HK1.out; omega⟩, ⟨by repeat (first | (with_reducible first | exact HB.out | apply below_alloc | apply pw_below_drewN | apply below_drew1 | refine below_set ?_ GE183.out) | exact HB.out)⟩⟩
          · rw [if_neg c4] at H
            exact absurd H (by simp)
        · rw [if_neg c3] at H
          exact absurd H (by simp)
      · rw [if_neg c2] at H
        have c2b0 : decide (x7_1 < (l0.length : Int)) = false := decide_eq_false c2
        clear c2
        replace H := Option.bind_eq_some_iff.mp H
        obtain ⟨t185, A160, H⟩ := H
        replace H : (some t185) = some r := H
        have A16 := Aside0.mk A160
        clear A160
        obtain rfl := Option.some.inj H
        go_wp2_with (first | (go_at_call 64; (with_reducible refine (foghornref10_each.calls k1 _ _ l0 t185 _ ?side1 ?side2 A16.out).mono ?_); (case side1 => repeat (first | exact (Kd.C_below HR0.out HB.out) | (with_reducible refine Kd.C_alloc ?_ _) | (with_reducible refine Kd.C_drewN ?_ _) | (with_reducible refine Kd.C_drew ?_))); (case side2 => exact HC0.out); rintro e w17 ⟨rfl, hb⟩; have n0_ := Aside0.mk (below_step (by repeat (first | (with_reducible first | exact HB.out | apply below_alloc | apply pw_below_drewN | apply below_drew1) | exact HB.out)) hb); clear HB; have HB := n0_; clear n0_; (try clear hb); (try clear hb2); (try clear hk); (try clear hi)))
        repeat (go_quiet (first | (go_at_call 64; (with_reducible refine (foghornref10_each.calls k1 _ _ l0 t185 _ ?side1 ?side2 A16.out).mono ?_); (case side1 => repeat (first | exact (Kd.C_below HR0.out HB.out) | (with_reducible refine Kd.C_alloc ?_ _) | (with_reducible refine Kd.C_drewN ?_ _) | (with_reducible refine Kd.C_drew ?_))); (case side2 => exact HC0.out); rintro e w17 ⟨rfl, hb⟩; have n0_ := Aside0.mk (below_step (by repeat (first | (with_reducible first | exact HB.out | apply below_alloc | apply pw_below_drewN | apply below_drew1) | exact HB.out)) hb); clear HB; have HB := n0_; clear n0_; (try clear hb); (try clear hb2); (try clear hk); (try clear hi))); try go_wp2_with (first | (go_at_call 64; (with_reducible refine (foghornref10_each.calls k1 _ _ l0 t185 _ ?side1 ?side2 A16.out).mono ?_); (case side1 => repeat (first | exact (Kd.C_below HR0.out HB.out) | (with_reducible refine Kd.C_alloc ?_ _) | (with_reducible refine Kd.C_drewN ?_ _) | (with_reducible refine Kd.C_drew ?_))); (case side2 => exact HC0.out); rintro e w17 ⟨rfl, hb⟩; have n0_ := Aside0.mk (below_step (by repeat (first | (with_reducible first | exact HB.out | apply below_alloc | apply pw_below_drewN | apply below_drew1) | exact HB.out)) hb); clear HB; have HB := n0_; clear n0_; (try clear hb); (try clear hb2); (try clear hk); (try clear hi))))
        go_ret
        exact ⟨by first | rfl | (simp [errW_none, errW_some] <;> rfl) | (simp [*, errW_none, errW_some] <;> rfl), by repeat (first | (with_reducible first | exact HB.out | apply below_alloc | apply pw_below_drewN | apply below_drew1) | exact HB.out)⟩
end Go.Proofs.Ytkphinfijppkeaa.G
