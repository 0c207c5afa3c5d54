/- Contracts of functions of the given program, and what they come to, for any arguments. No condition beyond each theorem's own premises. -/
import Derived.Test.YtkphinfijppkeaaXDutyChainM4
import Derived.Test.YtkphinfijppkeaaXDutyChainM5
import Derived.WalkSpells
import Derived.Deep.Slices
import Derived.Test.YtkphinfijppkeaaXDutyChainM2
import Derived.Test.YtkphinfijppkeaaXDutyChainM0
import Derived.Maps.Own
namespace Go.Proofs.Ytkphinfijppkeaa.G
open Go.RowKit Go.Proofs.YtkphinfijppkeaaW.PrintWords Go.Proofs.YtkphinfijppkeaaW.PrintLast Go.Proofs.YtkphinfijppkeaaW.PrintMore
attribute [local go_sem] max2_int min2_int max_two min_two max_three min_three max_four min_four
set_option linter.unusedVariables false
set_option linter.unusedSimpArgs false
section
variable {P : Program} {ops : Array Oper} {rest : List Oper} {o : Oper} {a : Act} {Q : Exit → Act → World → Prop} {w0 W : World} {bs : List Fr.Blk} {rs : List Fr.Row}
end
theorem C_one {α : Type} {d : Kd α} {w0 w : World} {bs : List Fr.Blk} {rs : List Fr.Row} {g t : Nat} {cs : List Value} {x : α} (hF : Fr.Frame w0 w ((g, cs, t) :: bs) rs) (hK : d.K w x cs) : Kd.C d w (some ⟨g, 0, none⟩) [x].length [x] := by
  have hb := (hF.blk (g, cs, t) List.mem_cons_self).2
  refine ⟨rfl, by simp, fun _ => ⟨_, rfl, fun j p hj => ?_⟩⟩
  cases j with
  | zero =>
    obtain rfl : x = p := by simpa using hj
    refine ⟨cs, d.K_len hK, hK, fun i u hu => ?_⟩
    rw [Nat.zero_mul, Nat.zero_add]
    have := blk_cell hb i
    simp only at this
    rw [show (⟨g, 0, none⟩ : Addr).add i = ⟨g, i, none⟩ by unfold Addr.add; split <;> simp_all, this]
    simpa using hu
  | succ j => simp at hj
theorem cell_al {w : World} {a : Addr} {v : Value} (h : w.cell? a = some v) (o : Obj) : (w.alloc o).cell? a = some v := Go.cell_kept h (World.grownBy_alloc w o none) (fun r e => by cases e)
def hasB (c : Cf) (i p : Int) : Bool := decide (0 ≤ i) && (decide (i < (c.ro.length : Int)) && (decide (0 ≤ p) && decide (p < ((rd_T58 c.ro i).f0.length : Int))))
def chainE (c : Cf) (i p : Int) : Int := if cfgB c = true then (if hasB c i p = true then 0 else 3) else 1
def recvV (c : Cf) (i p : Int) : Int := if chainE c i p = 0 then rd (rd_T58 c.ro i).f0 p else 0
def afterV (c : Cf) (i p : Int) : Int := if chainE c i p = 0 then (p + 1) % ((rd_T58 c.ro i).f0.length : Int) else 0
set_option maxHeartbeats 8000000 in
set_option maxRecDepth 100000 in
theorem chainR_no (c : Cf) (A0 : Option Addr) (c0 : Nat) (A1 : Option Addr) (c1 : Nat) (i p : Int) (w : World) (hr0 : Kd.C k76 w A0 c.rs.length c.rs) (hl0 : c.rs.length ≤ c0) (hr1 : Kd.C k58 w A1 c.ro.length c.ro) (hwf : ∀ x ∈ c.ro, WfR x) (hc : chainE c i p ≠ 0) :
    Calls Try.prog 74 #[.agg #[.slice A0 c.rs.length c0, .slice A1 c.ro.length c1, .int .i64 c.rep, .int .i64 c.beat], .int .i64 i, .int .i64 p] w fun e w' => e = .returned (.tuple #[.slice none 0 0, .int .i64 (chainE c i p)]) ∧ Below w.heap.size w w' := by
  have HR0 := Aside0.mk hr0
  have HR1 := Aside0.mk hr1
  have HG := Aside0.mk (fun (W : World) (hb : Below w.heap.size w W) => cfgRight_calls c A0 c0 A1 c1 W (Kd.C_below hr0 hb) hl0 (Kd.C_below hr1 hb) hwf)
  have hll1 : c.ro.length ≤ 9223372036854775807 := hr1.2.1
  clear hr0 hl0 hr1 hwf
  have hF := Aside0.mk (Fr.Frame.start w)
  have HC : True := trivial
  unfold chainE at hc ⊢
  cases h1 : cfgB c with
  | false =>
    rw [h1] at HG
    have HV := Aside0.mk (show (if (false : Bool) = true then (if hasB c i p = true then (0 : Int) else 3) else 1) = 1 from rfl)
    clear h1 hc
    go_enter Try.func74, Try.ntmps74
    go_wp2_with (first | ((with_reducible refine gate_store rfl ?_); apply Fr.fr_store hF.out rfl rfl rfl; (case hp => rfl); (case hx => first | (go_simp; rfl) | rfl); (case hu => (simp only [Value.cells]; rfl)); (case hs => (repeat (first | exact Fr.Spot.here _ _ | apply Fr.Spot.there))); (case ht => kernel_rfl); (case h1 => simp [Value.oneCell']); (case hfit => simp); intro W hF1; simp only [Fr.patch, List.take_zero, List.nil_append, List.drop, List.append_nil, List.take, List.cons_append, List.length_cons, List.length_nil, Nat.reduceAdd] at hF1; have HC1 := hF1.cells; simp only [Fr.Cells, List.length_cons, List.length_nil, Nat.reduceAdd, and_true] at HC1; clear hF HC; have HC := HC1; have hF := Aside0.mk hF1; clear hF1 HC1) | ((first | (with_reducible refine Fr.gate_alloc rfl ?_) | (with_reducible refine Fr.gate_box rfl ?_)); apply Fr.fr_box hF.out rfl; (case hrun => first | (go_simp; done) | (go_simp; rfl)); intro g W hF1; have HC1 := hF1.cells; simp only [Fr.Cells, List.length_cons, List.length_nil, Nat.reduceAdd, and_true] at HC1; clear hF HC; have HC := HC1; have hF := Aside0.mk hF1; clear hF1 HC1))
    (with_reducible refine (HG.out _ hF.out.below).mono ?_); rintro e W ⟨rfl, hb⟩; have hF1 := hF.out.call hb; clear hb; have HC1 := hF1.cells; simp only [Fr.Cells, List.length_cons, List.length_nil, Nat.reduceAdd, and_true] at HC1; clear hF HC; have HC := HC1; have hF := Aside0.mk hF1; clear hF1 HC1
    go_wp2_with (first | ((with_reducible refine gate_store rfl ?_); apply Fr.fr_store hF.out rfl rfl rfl; (case hp => rfl); (case hx => first | (go_simp; rfl) | rfl); (case hu => (simp only [Value.cells]; rfl)); (case hs => (repeat (first | exact Fr.Spot.here _ _ | apply Fr.Spot.there))); (case ht => kernel_rfl); (case h1 => simp [Value.oneCell']); (case hfit => simp); intro W hF1; simp only [Fr.patch, List.take_zero, List.nil_append, List.drop, List.append_nil, List.take, List.cons_append, List.length_cons, List.length_nil, Nat.reduceAdd] at hF1; have HC1 := hF1.cells; simp only [Fr.Cells, List.length_cons, List.length_nil, Nat.reduceAdd, and_true] at HC1; clear hF HC; have HC := HC1; have hF := Aside0.mk hF1; clear hF1 HC1) | ((first | (with_reducible refine Fr.gate_alloc rfl ?_) | (with_reducible refine Fr.gate_box rfl ?_)); apply Fr.fr_box hF.out rfl; (case hrun => first | (go_simp; done) | (go_simp; rfl)); intro g W hF1; have HC1 := hF1.cells; simp only [Fr.Cells, List.length_cons, List.length_nil, Nat.reduceAdd, and_true] at HC1; clear hF HC; have HC := HC1; have hF := Aside0.mk hF1; clear hF1 HC1))
    go_ret2
    exact ⟨rfl, hF.out.below⟩
  | true =>
    rw [h1] at hc HG
    rw [if_pos rfl] at hc ⊢
    cases h2 : hasB c i p with
    | true => rw [h2] at hc; exact absurd rfl hc
    | false =>
      clear h1 hc
      rw [if_neg (by decide)]
      by_cases k1 : 0 ≤ i
      · by_cases k2 : i < (c.ro.length : Int)
        · by_cases k3 : 0 ≤ p
          · have k4 : ((rd_T58 c.ro i).f0.length : Int) ≤ p := by
              unfold hasB at h2
              rw [decide_eq_true k1, decide_eq_true k2, decide_eq_true k3] at h2
              simpa using h2
            obtain ⟨ad, B0, d0, B1, d1, e1, a0, a1, g0, g1, g2, g3⟩ := at_T58 HR1.out i k1 k2
            cases e1
            have hxl : (rd_T58 c.ro i).f0.length ≤ 9223372036854775807 := g1.2.1
            clear h2 g0 g1 g2 g3
            go_enter Try.func74, Try.ntmps74
            go_wp2_with (first | ((with_reducible refine gate_store rfl ?_); apply Fr.fr_store hF.out rfl rfl rfl; (case hp => rfl); (case hx => first | (go_simp; rfl) | rfl); (case hu => (simp only [Value.cells]; rfl)); (case hs => (repeat (first | exact Fr.Spot.here _ _ | apply Fr.Spot.there))); (case ht => kernel_rfl); (case h1 => simp [Value.oneCell']); (case hfit => simp); intro W hF1; simp only [Fr.patch, List.take_zero, List.nil_append, List.drop, List.append_nil, List.take, List.cons_append, List.length_cons, List.length_nil, Nat.reduceAdd] at hF1; have HC1 := hF1.cells; simp only [Fr.Cells, List.length_cons, List.length_nil, Nat.reduceAdd, and_true] at HC1; clear hF HC; have HC := HC1; have hF := Aside0.mk hF1; clear hF1 HC1) | ((first | (with_reducible refine Fr.gate_alloc rfl ?_) | (with_reducible refine Fr.gate_box rfl ?_)); apply Fr.fr_box hF.out rfl; (case hrun => first | (go_simp; done) | (go_simp; rfl)); intro g W hF1; have HC1 := hF1.cells; simp only [Fr.Cells, List.length_cons, List.length_nil, Nat.reduceAdd, and_true] at HC1; clear hF HC; have HC := HC1; have hF := Aside0.mk hF1; clear hF1 HC1))
            (with_reducible refine (HG.out _ hF.out.below).mono ?_); rintro e W ⟨rfl, hb⟩; have hF1 := hF.out.call hb; clear hb; have HC1 := hF1.cells; simp only [Fr.Cells, List.length_cons, List.length_nil, Nat.reduceAdd, and_true] at HC1; clear hF HC; have HC := HC1; have hF := Aside0.mk hF1; clear hF1 HC1
            replace a0 := (hF.out.below.cell (World.block_lt_of_cell? w _ a0)).trans a0
            go_wp2_with (first | ((with_reducible refine gate_store rfl ?_); apply Fr.fr_store hF.out rfl rfl rfl; (case hp => rfl); (case hx => first | (go_simp; rfl) | rfl); (case hu => (simp only [Value.cells]; rfl)); (case hs => (repeat (first | exact Fr.Spot.here _ _ | apply Fr.Spot.there))); (case ht => kernel_rfl); (case h1 => simp [Value.oneCell']); (case hfit => simp); intro W hF1; simp only [Fr.patch, List.take_zero, List.nil_append, List.drop, List.append_nil, List.take, List.cons_append, List.length_cons, List.length_nil, Nat.reduceAdd] at hF1; have HC1 := hF1.cells; simp only [Fr.Cells, List.length_cons, List.length_nil, Nat.reduceAdd, and_true] at HC1; clear hF HC; have HC := HC1; have hF := Aside0.mk hF1; clear hF1 HC1) | ((first | (with_reducible refine Fr.gate_alloc rfl ?_) | (with_reducible refine Fr.gate_box rfl ?_)); apply Fr.fr_box hF.out rfl; (case hrun => first | (go_simp; done) | (go_simp; rfl)); intro g W hF1; have HC1 := hF1.cells; simp only [Fr.Cells, List.length_cons, List.length_nil, Nat.reduceAdd, and_true] at HC1; clear hF HC; have HC := HC1; have hF := Aside0.mk hF1; clear hF1 HC1))
            go_ret2
            exact ⟨rfl, hF.out.below⟩
          · have k3' : p < 0 := by omega
            clear h2 k3
            go_enter Try.func74, Try.ntmps74
            go_wp2_with (first | ((with_reducible refine gate_store rfl ?_); apply Fr.fr_store hF.out rfl rfl rfl; (case hp => rfl); (case hx => first | (go_simp; rfl) | rfl); (case hu => (simp only [Value.cells]; rfl)); (case hs => (repeat (first | exact Fr.Spot.here _ _ | apply Fr.Spot.there))); (case ht => kernel_rfl); (case h1 => simp [Value.oneCell']); (case hfit => simp); intro W hF1; simp only [Fr.patch, List.take_zero, List.nil_append, List.drop, List.append_nil, List.take, List.cons_append, List.length_cons, List.length_nil, Nat.reduceAdd] at hF1; have HC1 := hF1.cells; simp only [Fr.Cells, List.length_cons, List.length_nil, Nat.reduceAdd, and_true] at HC1; clear hF HC; have HC := HC1; have hF := Aside0.mk hF1; clear hF1 HC1) | ((first | (with_reducible refine Fr.gate_alloc rfl ?_) | (with_reducible refine Fr.gate_box rfl ?_)); apply Fr.fr_box hF.out rfl; (case hrun => first | (go_simp; done) | (go_simp; rfl)); intro g W hF1; have HC1 := hF1.cells; simp only [Fr.Cells, List.length_cons, List.length_nil, Nat.reduceAdd, and_true] at HC1; clear hF HC; have HC := HC1; have hF := Aside0.mk hF1; clear hF1 HC1))
            (with_reducible refine (HG.out _ hF.out.below).mono ?_); rintro e W ⟨rfl, hb⟩; have hF1 := hF.out.call hb; clear hb; have HC1 := hF1.cells; simp only [Fr.Cells, List.length_cons, List.length_nil, Nat.reduceAdd, and_true] at HC1; clear hF HC; have HC := HC1; have hF := Aside0.mk hF1; clear hF1 HC1
            go_wp2_with (first | ((with_reducible refine gate_store rfl ?_); apply Fr.fr_store hF.out rfl rfl rfl; (case hp => rfl); (case hx => first | (go_simp; rfl) | rfl); (case hu => (simp only [Value.cells]; rfl)); (case hs => (repeat (first | exact Fr.Spot.here _ _ | apply Fr.Spot.there))); (case ht => kernel_rfl); (case h1 => simp [Value.oneCell']); (case hfit => simp); intro W hF1; simp only [Fr.patch, List.take_zero, List.nil_append, List.drop, List.append_nil, List.take, List.cons_append, List.length_cons, List.length_nil, Nat.reduceAdd] at hF1; have HC1 := hF1.cells; simp only [Fr.Cells, List.length_cons, List.length_nil, Nat.reduceAdd, and_true] at HC1; clear hF HC; have HC := HC1; have hF := Aside0.mk hF1; clear hF1 HC1) | ((first | (with_reducible refine Fr.gate_alloc rfl ?_) | (with_reducible refine Fr.gate_box rfl ?_)); apply Fr.fr_box hF.out rfl; (case hrun => first | (go_simp; done) | (go_simp; rfl)); intro g W hF1; have HC1 := hF1.cells; simp only [Fr.Cells, List.length_cons, List.length_nil, Nat.reduceAdd, and_true] at HC1; clear hF HC; have HC := HC1; have hF := Aside0.mk hF1; clear hF1 HC1))
            go_ret2
            exact ⟨rfl, hF.out.below⟩
        · have k2' : (c.ro.length : Int) ≤ i := by omega
          clear h2 k2
          go_enter Try.func74, Try.ntmps74
          go_wp2_with (first | ((with_reducible refine gate_store rfl ?_); apply Fr.fr_store hF.out rfl rfl rfl; (case hp => rfl); (case hx => first | (go_simp; rfl) | rfl); (case hu => (simp only [Value.cells]; rfl)); (case hs => (repeat (first | exact Fr.Spot.here _ _ | apply Fr.Spot.there))); (case ht => kernel_rfl); (case h1 => simp [Value.oneCell']); (case hfit => simp); intro W hF1; simp only [Fr.patch, List.take_zero, List.nil_append, List.drop, List.append_nil, List.take, List.cons_append, List.length_cons, List.length_nil, Nat.reduceAdd] at hF1; have HC1 := hF1.cells; simp only [Fr.Cells, List.length_cons, List.length_nil, Nat.reduceAdd, and_true] at HC1; clear hF HC; have HC := HC1; have hF := Aside0.mk hF1; clear hF1 HC1) | ((first | (with_reducible refine Fr.gate_alloc rfl ?_) | (with_reducible refine Fr.gate_box rfl ?_)); apply Fr.fr_box hF.out rfl; (case hrun => first | (go_simp; done) | (go_simp; rfl)); intro g W hF1; have HC1 := hF1.cells; simp only [Fr.Cells, List.length_cons, List.length_nil, Nat.reduceAdd, and_true] at HC1; clear hF HC; have HC := HC1; have hF := Aside0.mk hF1; clear hF1 HC1))
          (with_reducible refine (HG.out _ hF.out.below).mono ?_); rintro e W ⟨rfl, hb⟩; have hF1 := hF.out.call hb; clear hb; have HC1 := hF1.cells; simp only [Fr.Cells, List.length_cons, List.length_nil, Nat.reduceAdd, and_true] at HC1; clear hF HC; have HC := HC1; have hF := Aside0.mk hF1; clear hF1 HC1
          go_wp2_with (first | ((with_reducible refine gate_store rfl ?_); apply Fr.fr_store hF.out rfl rfl rfl; (case hp => rfl); (case hx => first | (go_simp; rfl) | rfl); (case hu => (simp only [Value.cells]; rfl)); (case hs => (repeat (first | exact Fr.Spot.here _ _ | apply Fr.Spot.there))); (case ht => kernel_rfl); (case h1 => simp [Value.oneCell']); (case hfit => simp); intro W hF1; simp only [Fr.patch, List.take_zero, List.nil_append, List.drop, List.append_nil, List.take, List.cons_append, List.length_cons, List.length_nil, Nat.reduceAdd] at hF1; have HC1 := hF1.cells; simp only [Fr.Cells, List.length_cons, List.length_nil, Nat.reduceAdd, and_true] at HC1; clear hF HC; have HC := HC1; have hF := Aside0.mk hF1; clear hF1 HC1) | ((first | (with_reducible refine Fr.gate_alloc rfl ?_) | (with_reducible refine Fr.gate_box rfl ?_)); apply Fr.fr_box hF.out rfl; (case hrun => first | (go_simp; done) | (go_simp; rfl)); intro g W hF1; have HC1 := hF1.cells; simp only [Fr.Cells, List.length_cons, List.length_nil, Nat.reduceAdd, and_true] at HC1; clear hF HC; have HC := HC1; have hF := Aside0.mk hF1; clear hF1 HC1))
          go_ret2
          exact ⟨rfl, hF.out.below⟩
      · have k1' : i < 0 := by omega
        clear h2 k1
        go_enter Try.func74, Try.ntmps74
        go_wp2_with (first | ((with_reducible refine gate_store rfl ?_); apply Fr.fr_store hF.out rfl rfl rfl; (case hp => rfl); (case hx => first | (go_simp; rfl) | rfl); (case hu => (simp only [Value.cells]; rfl)); (case hs => (repeat (first | exact Fr.Spot.here _ _ | apply Fr.Spot.there))); (case ht => kernel_rfl); (case h1 => simp [Value.oneCell']); (case hfit => simp); intro W hF1; simp only [Fr.patch, List.take_zero, List.nil_append, List.drop, List.append_nil, List.take, List.cons_append, List.length_cons, List.length_nil, Nat.reduceAdd] at hF1; have HC1 := hF1.cells; simp only [Fr.Cells, List.length_cons, List.length_nil, Nat.reduceAdd, and_true] at HC1; clear hF HC; have HC := HC1; have hF := Aside0.mk hF1; clear hF1 HC1) | ((first | (with_reducible refine Fr.gate_alloc rfl ?_) | (with_reducible refine Fr.gate_box rfl ?_)); apply Fr.fr_box hF.out rfl; (case hrun => first | (go_simp; done) | (go_simp; rfl)); intro g W hF1; have HC1 := hF1.cells; simp only [Fr.Cells, List.length_cons, List.length_nil, Nat.reduceAdd, and_true] at HC1; clear hF HC; have HC := HC1; have hF := Aside0.mk hF1; clear hF1 HC1))
        (with_reducible refine (HG.out _ hF.out.below).mono ?_); rintro e W ⟨rfl, hb⟩; have hF1 := hF.out.call hb; clear hb; have HC1 := hF1.cells; simp only [Fr.Cells, List.length_cons, List.length_nil, Nat.reduceAdd, and_true] at HC1; clear hF HC; have HC := HC1; have hF := Aside0.mk hF1; clear hF1 HC1
        go_wp2_with (first | ((with_reducible refine gate_store rfl ?_); apply Fr.fr_store hF.out rfl rfl rfl; (case hp => rfl); (case hx => first | (go_simp; rfl) | rfl); (case hu => (simp only [Value.cells]; rfl)); (case hs => (repeat (first | exact Fr.Spot.here _ _ | apply Fr.Spot.there))); (case ht => kernel_rfl); (case h1 => simp [Value.oneCell']); (case hfit => simp); intro W hF1; simp only [Fr.patch, List.take_zero, List.nil_append, List.drop, List.append_nil, List.take, List.cons_append, List.length_cons, List.length_nil, Nat.reduceAdd] at hF1; have HC1 := hF1.cells; simp only [Fr.Cells, List.length_cons, List.length_nil, Nat.reduceAdd, and_true] at HC1; clear hF HC; have HC := HC1; have hF := Aside0.mk hF1; clear hF1 HC1) | ((first | (with_reducible refine Fr.gate_alloc rfl ?_) | (with_reducible refine Fr.gate_box rfl ?_)); apply Fr.fr_box hF.out rfl; (case hrun => first | (go_simp; done) | (go_simp; rfl)); intro g W hF1; have HC1 := hF1.cells; simp only [Fr.Cells, List.length_cons, List.length_nil, Nat.reduceAdd, and_true] at HC1; clear hF HC; have HC := HC1; have hF := Aside0.mk hF1; clear hF1 HC1))
        go_ret2
        exact ⟨rfl, hF.out.below⟩
theorem chain_facts {c : Cf} {i p : Int} (hc : chainE c i p = 0) : cfgB c = true ∧ 0 ≤ i ∧ i < (c.ro.length : Int) ∧ 0 ≤ p ∧ p < ((rd_T58 c.ro i).f0.length : Int) := by
  unfold chainE at hc
  cases h1 : cfgB c with
  | false => rw [h1] at hc; simp at hc
  | true =>
    rw [h1, if_pos rfl] at hc
    cases h2 : hasB c i p with
    | false => rw [h2] at hc; simp at hc
    | true =>
      unfold hasB at h2
      simp only [Bool.and_eq_true, decide_eq_true_eq] at h2
      exact ⟨rfl, h2⟩
set_option maxHeartbeats 8000000 in
set_option maxRecDepth 100000 in
theorem chain_ok (c : Cf) (A0 : Option Addr) (c0 : Nat) (A1 : Option Addr) (c1 : Nat) (i p : Int) (w : World) (hr0 : Kd.C k76 w A0 c.rs.length c.rs) (hl0 : c.rs.length ≤ c0) (hr1 : Kd.C k58 w A1 c.ro.length c.ro) (hwf : ∀ x ∈ c.ro, WfR x) (hc : chainE c i p = 0) :
    Calls Try.prog 74 #[.agg #[.slice A0 c.rs.length c0, .slice A1 c.ro.length c1, .int .i64 c.rep, .int .i64 c.beat], .int .i64 i, .int .i64 p] w fun e w' => ∃ A n, e = .returned (.tuple #[.slice A (rd_T58 c.ro i).f0.length n, .int .i64 0]) ∧ Kd.C (Kd.int .i64) w A (rd_T58 c.ro i).f0.length (rd_T58 c.ro i).f0 ∧ Below w.heap.size w w' := by
  have HR0 := Aside0.mk hr0
  have HR1 := Aside0.mk hr1
  have HG := Aside0.mk (fun (W : World) (hb : Below w.heap.size w W) => cfgRight_calls c A0 c0 A1 c1 W (Kd.C_below hr0 hb) hl0 (Kd.C_below hr1 hb) hwf)
  have hll1 : c.ro.length ≤ 9223372036854775807 := hr1.2.1
  clear hr0 hl0 hr1 hwf
  have hF := Aside0.mk (Fr.Frame.start w)
  have HC : True := trivial
  obtain ⟨h1, k1, k2, k3, k4⟩ := chain_facts hc
  rw [h1] at HG
  clear h1 hc
  obtain ⟨ad, B0, d0, B1, d1, e1, a0, a1, g0, g1, g2, g3⟩ := at_T58 HR1.out i k1 k2
  cases e1
  have hxl : (rd_T58 c.ro i).f0.length ≤ 9223372036854775807 := g1.2.1
  have G1 := Aside0.mk g1
  clear g0 g1 g2 g3
  go_enter Try.func74, Try.ntmps74
  go_wp2_with (first | ((with_reducible refine gate_store rfl ?_); apply Fr.fr_store hF.out rfl rfl rfl; (case hp => rfl); (case hx => first | (go_simp; rfl) | rfl); (case hu => (simp only [Value.cells]; rfl)); (case hs => (repeat (first | exact Fr.Spot.here _ _ | apply Fr.Spot.there))); (case ht => kernel_rfl); (case h1 => simp [Value.oneCell']); (case hfit => simp); intro W hF1; simp only [Fr.patch, List.take_zero, List.nil_append, List.drop, List.append_nil, List.take, List.cons_append, List.length_cons, List.length_nil, Nat.reduceAdd] at hF1; have HC1 := hF1.cells; simp only [Fr.Cells, List.length_cons, List.length_nil, Nat.reduceAdd, and_true] at HC1; clear hF HC; have HC := HC1; have hF := Aside0.mk hF1; clear hF1 HC1) | ((first | (with_reducible refine Fr.gate_alloc rfl ?_) | (with_reducible refine Fr.gate_box rfl ?_)); apply Fr.fr_box hF.out rfl; (case hrun => first | (go_simp; done) | (go_simp; rfl)); intro g W hF1; have HC1 := hF1.cells; simp only [Fr.Cells, List.length_cons, List.length_nil, Nat.reduceAdd, and_true] at HC1; clear hF HC; have HC := HC1; have hF := Aside0.mk hF1; clear hF1 HC1))
  (with_reducible refine (HG.out _ hF.out.below).mono ?_); rintro e W ⟨rfl, hb⟩; have hF1 := hF.out.call hb; clear hb; have HC1 := hF1.cells; simp only [Fr.Cells, List.length_cons, List.length_nil, Nat.reduceAdd, and_true] at HC1; clear hF HC; have HC := HC1; have hF := Aside0.mk hF1; clear hF1 HC1
  replace a0 := (hF.out.below.cell (World.block_lt_of_cell? w _ a0)).trans a0
  go_wp2_with (first | ((with_reducible refine gate_store rfl ?_); apply Fr.fr_store hF.out rfl rfl rfl; (case hp => rfl); (case hx => first | (go_simp; rfl) | rfl); (case hu => (simp only [Value.cells]; rfl)); (case hs => (repeat (first | exact Fr.Spot.here _ _ | apply Fr.Spot.there))); (case ht => kernel_rfl); (case h1 => simp [Value.oneCell']); (case hfit => simp); intro W hF1; simp only [Fr.patch, List.take_zero, List.nil_append, List.drop, List.append_nil, List.take, List.cons_append, List.length_cons, List.length_nil, Nat.reduceAdd] at hF1; have HC1 := hF1.cells; simp only [Fr.Cells, List.length_cons, List.length_nil, Nat.reduceAdd, and_true] at HC1; clear hF HC; have HC := HC1; have hF := Aside0.mk hF1; clear hF1 HC1) | ((first | (with_reducible refine Fr.gate_alloc rfl ?_) | (with_reducible refine Fr.gate_box rfl ?_)); apply Fr.fr_box hF.out rfl; (case hrun => first | (go_simp; done) | (go_simp; rfl)); intro g W hF1; have HC1 := hF1.cells; simp only [Fr.Cells, List.length_cons, List.length_nil, Nat.reduceAdd, and_true] at HC1; clear hF HC; have HC := HC1; have hF := Aside0.mk hF1; clear hF1 HC1))
  go_ret2
  exact ⟨B0, d0, rfl, G1.out, hF.out.below⟩
set_option maxHeartbeats 8000000 in
set_option maxRecDepth 100000 in
theorem receiver_calls (c : Cf) (A0 : Option Addr) (c0 : Nat) (A1 : Option Addr) (c1 : Nat) (i p : Int) (w : World) (hr0 : Kd.C k76 w A0 c.rs.length c.rs) (hl0 : c.rs.length ≤ c0) (hr1 : Kd.C k58 w A1 c.ro.length c.ro) (hwf : ∀ x ∈ c.ro, WfR x) :
    Calls Try.prog 35 #[.agg #[.slice A0 c.rs.length c0, .slice A1 c.ro.length c1, .int .i64 c.rep, .int .i64 c.beat], .int .i64 i, .int .i64 p] w fun e w' => e = .returned (.tuple #[.int .i64 (recvV c i p), .int .i64 (chainE c i p)]) ∧ Below w.heap.size w w' := by
  by_cases h : chainE c i p = 0
  · have HV := Aside0.mk h
    have HO := Aside0.mk (fun (W : World) (hb : Below w.heap.size w W) => chain_ok c A0 c0 A1 c1 i p W (Kd.C_below hr0 hb) hl0 (Kd.C_below hr1 hb) hwf h)
    obtain ⟨h1, k1, k2, k3, k4⟩ := chain_facts h
    have hE : recvV c i p = rd (rd_T58 c.ro i).f0 p := by unfold recvV; rw [if_pos h]
    rw [h, hE]
    clear hr0 hl0 hr1 hwf h h1 hE
    obtain ⟨xs, hxs⟩ : ∃ xs, (rd_T58 c.ro i).f0 = xs := ⟨_, rfl⟩
    rw [hxs] at HO k4 ⊢
    have hF := Aside0.mk (Fr.Frame.start w)
    have HC : True := trivial
    go_enter Try.func35, Try.ntmps35
    go_wp2_with (first | ((with_reducible refine gate_store rfl ?_); apply Fr.fr_store hF.out rfl rfl rfl; (case hp => rfl); (case hx => first | (go_simp; rfl) | rfl); (case hu => (simp only [Value.cells]; rfl)); (case hs => (repeat (first | exact Fr.Spot.here _ _ | apply Fr.Spot.there))); (case ht => kernel_rfl); (case h1 => simp [Value.oneCell']); (case hfit => simp); intro W hF1; simp only [Fr.patch, List.take_zero, List.nil_append, List.drop, List.append_nil, List.take, List.cons_append, List.length_cons, List.length_nil, Nat.reduceAdd] at hF1; have HC1 := hF1.cells; simp only [Fr.Cells, List.length_cons, List.length_nil, Nat.reduceAdd, and_true] at HC1; clear hF HC; have HC := HC1; have hF := Aside0.mk hF1; clear hF1 HC1) | ((first | (with_reducible refine Fr.gate_alloc rfl ?_) | (with_reducible refine Fr.gate_box rfl ?_)); apply Fr.fr_box hF.out rfl; (case hrun => first | (go_simp; done) | (go_simp; rfl)); intro g W hF1; have HC1 := hF1.cells; simp only [Fr.Cells, List.length_cons, List.length_nil, Nat.reduceAdd, and_true] at HC1; clear hF HC; have HC := HC1; have hF := Aside0.mk hF1; clear hF1 HC1))
    (with_reducible refine (HO.out _ hF.out.below).mono ?_)
    rintro e W ⟨Ar, nr, rfl, hr, hb⟩
    have hF1 := hF.out.call hb
    have hr2 := Kd.C_below hr hb
    have hxl : xs.length ≤ 9223372036854775807 := hr.2.1
    clear hb hr
    have HC1 := hF1.cells; simp only [Fr.Cells, List.length_cons, List.length_nil, Nat.reduceAdd, and_true] at HC1; clear hF HC; have HC := HC1; have hF := Aside0.mk hF1; clear hF1 HC1
    obtain ⟨ad, e1, a0⟩ := Kd.at_int hr2 p k3 k4
    cases e1
    clear hr2
    go_wp2_with (first | ((with_reducible refine gate_store rfl ?_); apply Fr.fr_store hF.out rfl rfl rfl; (case hp => rfl); (case hx => first | (go_simp; rfl) | rfl); (case hu => (simp only [Value.cells]; rfl)); (case hs => (repeat (first | exact Fr.Spot.here _ _ | apply Fr.Spot.there))); (case ht => kernel_rfl); (case h1 => simp [Value.oneCell']); (case hfit => simp); intro W hF1; simp only [Fr.patch, List.take_zero, List.nil_append, List.drop, List.append_nil, List.take, List.cons_append, List.length_cons, List.length_nil, Nat.reduceAdd] at hF1; have HC1 := hF1.cells; simp only [Fr.Cells, List.length_cons, List.length_nil, Nat.reduceAdd, and_true] at HC1; clear hF HC; have HC := HC1; have hF := Aside0.mk hF1; clear hF1 HC1) | ((first | (with_reducible refine Fr.gate_alloc rfl ?_) | (with_reducible refine Fr.gate_box rfl ?_)); apply Fr.fr_box hF.out rfl; (case hrun => first | (go_simp; done) | (go_simp; rfl)); intro g W hF1; have HC1 := hF1.cells; simp only [Fr.Cells, List.length_cons, List.length_nil, Nat.reduceAdd, and_true] at HC1; clear hF HC; have HC := HC1; have hF := Aside0.mk hF1; clear hF1 HC1))
    go_ret2
    exact ⟨rfl, hF.out.below⟩
  · have HO := Aside0.mk (fun (W : World) (hb : Below w.heap.size w W) => chainR_no c A0 c0 A1 c1 i p W (Kd.C_below hr0 hb) hl0 (Kd.C_below hr1 hb) hwf h)
    have hE : recvV c i p = 0 := by unfold recvV; rw [if_neg h]
    rw [hE]
    have hne : (chainE c i p == 0) = false := by rw [beq_eq_false_iff_ne]; exact h
    clear hr0 hl0 hr1 hwf hE
    obtain ⟨ee, hee⟩ : ∃ ee, chainE c i p = ee := ⟨_, rfl⟩
    rw [hee] at HO h hne ⊢
    have hF := Aside0.mk (Fr.Frame.start w)
    have HC : True := trivial
    have hne2 : (ee != 0) = true := by rw [bne, hne]; rfl
    go_enter Try.func35, Try.ntmps35
    go_wp2_with (first | ((with_reducible refine gate_store rfl ?_); apply Fr.fr_store hF.out rfl rfl rfl; (case hp => rfl); (case hx => first | (go_simp; rfl) | rfl); (case hu => (simp only [Value.cells]; rfl)); (case hs => (repeat (first | exact Fr.Spot.here _ _ | apply Fr.Spot.there))); (case ht => kernel_rfl); (case h1 => simp [Value.oneCell']); (case hfit => simp); intro W hF1; simp only [Fr.patch, List.take_zero, List.nil_append, List.drop, List.append_nil, List.take, List.cons_append, List.length_cons, List.length_nil, Nat.reduceAdd] at hF1; have HC1 := hF1.cells; simp only [Fr.Cells, List.length_cons, List.length_nil, Nat.reduceAdd, and_true] at HC1; clear hF HC; have HC := HC1; have hF := Aside0.mk hF1; clear hF1 HC1) | ((first | (with_reducible refine Fr.gate_alloc rfl ?_) | (with_reducible refine Fr.gate_box rfl ?_)); apply Fr.fr_box hF.out rfl; (case hrun => first | (go_simp; done) | (go_simp; rfl)); intro g W hF1; have HC1 := hF1.cells; simp only [Fr.Cells, List.length_cons, List.length_nil, Nat.reduceAdd, and_true] at HC1; clear hF HC; have HC := HC1; have hF := Aside0.mk hF1; clear hF1 HC1))
    (with_reducible refine (HO.out _ hF.out.below).mono ?_); rintro e W ⟨rfl, hb⟩; have hF1 := hF.out.call hb; clear hb; have HC1 := hF1.cells; simp only [Fr.Cells, List.length_cons, List.length_nil, Nat.reduceAdd, and_true] at HC1; clear hF HC; have HC := HC1; have hF := Aside0.mk hF1; clear hF1 HC1
    go_wp2_with (first | ((with_reducible refine gate_store rfl ?_); apply Fr.fr_store hF.out rfl rfl rfl; (case hp => rfl); (case hx => first | (go_simp; rfl) | rfl); (case hu => (simp only [Value.cells]; rfl)); (case hs => (repeat (first | exact Fr.Spot.here _ _ | apply Fr.Spot.there))); (case ht => kernel_rfl); (case h1 => simp [Value.oneCell']); (case hfit => simp); intro W hF1; simp only [Fr.patch, List.take_zero, List.nil_append, List.drop, List.append_nil, List.take, List.cons_append, List.length_cons, List.length_nil, Nat.reduceAdd] at hF1; have HC1 := hF1.cells; simp only [Fr.Cells, List.length_cons, List.length_nil, Nat.reduceAdd, and_true] at HC1; clear hF HC; have HC := HC1; have hF := Aside0.mk hF1; clear hF1 HC1) | ((first | (with_reducible refine Fr.gate_alloc rfl ?_) | (with_reducible refine Fr.gate_box rfl ?_)); apply Fr.fr_box hF.out rfl; (case hrun => first | (go_simp; done) | (go_simp; rfl)); intro g W hF1; have HC1 := hF1.cells; simp only [Fr.Cells, List.length_cons, List.length_nil, Nat.reduceAdd, and_true] at HC1; clear hF HC; have HC := HC1; have hF := Aside0.mk hF1; clear hF1 HC1))
    go_ret2
    exact ⟨rfl, hF.out.below⟩
set_option maxHeartbeats 8000000 in
set_option maxRecDepth 100000 in
theorem after_calls (c : Cf) (A0 : Option Addr) (c0 : Nat) (A1 : Option Addr) (c1 : Nat) (i p : Int) (w : World) (hr0 : Kd.C k76 w A0 c.rs.length c.rs) (hl0 : c.rs.length ≤ c0) (hr1 : Kd.C k58 w A1 c.ro.length c.ro) (hwf : ∀ x ∈ c.ro, WfR x) :
    Calls Try.prog 36 #[.agg #[.slice A0 c.rs.length c0, .slice A1 c.ro.length c1, .int .i64 c.rep, .int .i64 c.beat], .int .i64 i, .int .i64 p] w fun e w' => e = .returned (.tuple #[.int .i64 (afterV c i p), .int .i64 (chainE c i p)]) ∧ Below w.heap.size w w' := by
  by_cases h : chainE c i p = 0
  · have HV := Aside0.mk h
    have HO := Aside0.mk (fun (W : World) (hb : Below w.heap.size w W) => chain_ok c A0 c0 A1 c1 i p W (Kd.C_below hr0 hb) hl0 (Kd.C_below hr1 hb) hwf h)
    obtain ⟨h1, k1, k2, k3, k4⟩ := chain_facts h
    have hE : afterV c i p = (p + 1) % ((rd_T58 c.ro i).f0.length : Int) := by unfold afterV; rw [if_pos h]
    rw [h, hE]
    clear hr0 hl0 hr1 hwf h h1 hE
    obtain ⟨xs, hxs⟩ : ∃ xs, (rd_T58 c.ro i).f0 = xs := ⟨_, rfl⟩
    rw [hxs] at HO k4 ⊢
    have hF := Aside0.mk (Fr.Frame.start w)
    have HC : True := trivial
    go_enter Try.func36, Try.ntmps36
    go_wp2_with (first | ((with_reducible refine gate_store rfl ?_); apply Fr.fr_store hF.out rfl rfl rfl; (case hp => rfl); (case hx => first | (go_simp; rfl) | rfl); (case hu => (simp only [Value.cells]; rfl)); (case hs => (repeat (first | exact Fr.Spot.here _ _ | apply Fr.Spot.there))); (case ht => kernel_rfl); (case h1 => simp [Value.oneCell']); (case hfit => simp); intro W hF1; simp only [Fr.patch, List.take_zero, List.nil_append, List.drop, List.append_nil, List.take, List.cons_append, List.length_cons, List.length_nil, Nat.reduceAdd] at hF1; have HC1 := hF1.cells; simp only [Fr.Cells, List.length_cons, List.length_nil, Nat.reduceAdd, and_true] at HC1; clear hF HC; have HC := HC1; have hF := Aside0.mk hF1; clear hF1 HC1) | ((first | (with_reducible refine Fr.gate_alloc rfl ?_) | (with_reducible refine Fr.gate_box rfl ?_)); apply Fr.fr_box hF.out rfl; (case hrun => first | (go_simp; done) | (go_simp; rfl)); intro g W hF1; have HC1 := hF1.cells; simp only [Fr.Cells, List.length_cons, List.length_nil, Nat.reduceAdd, and_true] at HC1; clear hF HC; have HC := HC1; have hF := Aside0.mk hF1; clear hF1 HC1))
    (with_reducible refine (HO.out _ hF.out.below).mono ?_)
    rintro e W ⟨Ar, nr, rfl, hr, hb⟩
    have hF1 := hF.out.call hb
    have hr2 := Kd.C_below hr hb
    have hxl : xs.length ≤ 9223372036854775807 := hr.2.1
    clear hb hr
    have HC1 := hF1.cells; simp only [Fr.Cells, List.length_cons, List.length_nil, Nat.reduceAdd, and_true] at HC1; clear hF HC; have HC := HC1; have hF := Aside0.mk hF1; clear hF1 HC1
    obtain ⟨ad, e1, a0⟩ := Kd.at_int hr2 p k3 k4
    cases e1
    clear hr2
    go_wp2_with (first | ((with_reducible refine gate_store rfl ?_); apply Fr.fr_store hF.out rfl rfl rfl; (case hp => rfl); (case hx => first | (go_simp; rfl) | rfl); (case hu => (simp only [Value.cells]; rfl)); (case hs => (repeat (first | exact Fr.Spot.here _ _ | apply Fr.Spot.there))); (case ht => kernel_rfl); (case h1 => simp [Value.oneCell']); (case hfit => simp); intro W hF1; simp only [Fr.patch, List.take_zero, List.nil_append, List.drop, List.append_nil, List.take, List.cons_append, List.length_cons, List.length_nil, Nat.reduceAdd] at hF1; have HC1 := hF1.cells; simp only [Fr.Cells, List.length_cons, List.length_nil, Nat.reduceAdd, and_true] at HC1; clear hF HC; have HC := HC1; have hF := Aside0.mk hF1; clear hF1 HC1) | ((first | (with_reducible refine Fr.gate_alloc rfl ?_) | (with_reducible refine Fr.gate_box rfl ?_)); apply Fr.fr_box hF.out rfl; (case hrun => first | (go_simp; done) | (go_simp; rfl)); intro g W hF1; have HC1 := hF1.cells; simp only [Fr.Cells, List.length_cons, List.length_nil, Nat.reduceAdd, and_true] at HC1; clear hF HC; have HC := HC1; have hF := Aside0.mk hF1; clear hF1 HC1))
    go_ret2
    exact ⟨rfl, hF.out.below⟩
  · have HO := Aside0.mk (fun (W : World) (hb : Below w.heap.size w W) => chainR_no c A0 c0 A1 c1 i p W (Kd.C_below hr0 hb) hl0 (Kd.C_below hr1 hb) hwf h)
    have hE : afterV c i p = 0 := by unfold afterV; rw [if_neg h]
    rw [hE]
    have hne : (chainE c i p == 0) = false := by rw [beq_eq_false_iff_ne]; exact h
    clear hr0 hl0 hr1 hwf hE
    obtain ⟨ee, hee⟩ : ∃ ee, chainE c i p = ee := ⟨_, rfl⟩
    rw [hee] at HO h hne ⊢
    have hF := Aside0.mk (Fr.Frame.start w)
    have HC : True := trivial
    have hne2 : (ee != 0) = true := by rw [bne, hne]; rfl
    go_enter Try.func36, Try.ntmps36
    go_wp2_with (first | ((with_reducible refine gate_store rfl ?_); apply Fr.fr_store hF.out rfl rfl rfl; (case hp => rfl); (case hx => first | (go_simp; rfl) | rfl); (case hu => (simp only [Value.cells]; rfl)); (case hs => (repeat (first | exact Fr.Spot.here _ _ | apply Fr.Spot.there))); (case ht => kernel_rfl); (case h1 => simp [Value.oneCell']); (case hfit => simp); intro W hF1; simp only [Fr.patch, List.take_zero, List.nil_append, List.drop, List.append_nil, List.take, List.cons_append, List.length_cons, List.length_nil, Nat.reduceAdd] at hF1; have HC1 := hF1.cells; simp only [Fr.Cells, List.length_cons, List.length_nil, Nat.reduceAdd, and_true] at HC1; clear hF HC; have HC := HC1; have hF := Aside0.mk hF1; clear hF1 HC1) | ((first | (with_reducible refine Fr.gate_alloc rfl ?_) | (with_reducible refine Fr.gate_box rfl ?_)); apply Fr.fr_box hF.out rfl; (case hrun => first | (go_simp; done) | (go_simp; rfl)); intro g W hF1; have HC1 := hF1.cells; simp only [Fr.Cells, List.length_cons, List.length_nil, Nat.reduceAdd, and_true] at HC1; clear hF HC; have HC := HC1; have hF := Aside0.mk hF1; clear hF1 HC1))
    (with_reducible refine (HO.out _ hF.out.below).mono ?_); rintro e W ⟨rfl, hb⟩; have hF1 := hF.out.call hb; clear hb; have HC1 := hF1.cells; simp only [Fr.Cells, List.length_cons, List.length_nil, Nat.reduceAdd, and_true] at HC1; clear hF HC; have HC := HC1; have hF := Aside0.mk hF1; clear hF1 HC1
    go_wp2_with (first | ((with_reducible refine gate_store rfl ?_); apply Fr.fr_store hF.out rfl rfl rfl; (case hp => rfl); (case hx => first | (go_simp; rfl) | rfl); (case hu => (simp only [Value.cells]; rfl)); (case hs => (repeat (first | exact Fr.Spot.here _ _ | apply Fr.Spot.there))); (case ht => kernel_rfl); (case h1 => simp [Value.oneCell']); (case hfit => simp); intro W hF1; simp only [Fr.patch, List.take_zero, List.nil_append, List.drop, List.append_nil, List.take, List.cons_append, List.length_cons, List.length_nil, Nat.reduceAdd] at hF1; have HC1 := hF1.cells; simp only [Fr.Cells, List.length_cons, List.length_nil, Nat.reduceAdd, and_true] at HC1; clear hF HC; have HC := HC1; have hF := Aside0.mk hF1; clear hF1 HC1) | ((first | (with_reducible refine Fr.gate_alloc rfl ?_) | (with_reducible refine Fr.gate_box rfl ?_)); apply Fr.fr_box hF.out rfl; (case hrun => first | (go_simp; done) | (go_simp; rfl)); intro g W hF1; have HC1 := hF1.cells; simp only [Fr.Cells, List.length_cons, List.length_nil, Nat.reduceAdd, and_true] at HC1; clear hF HC; have HC := HC1; have hF := Aside0.mk hF1; clear hF1 HC1))
    go_ret2
    exact ⟨rfl, hF.out.below⟩
theorem rows_of {α : Type} {d : Kd α} {w : World} {A : Option Addr} {xs : List α} (h : Kd.C d w A xs.length xs) : ∃ rows : List (List Value), rows.length = xs.length ∧ (∀ (j : Nat) (x : α) (c : List Value), xs[j]? = some x → rows[j]? = some c → d.K w x c) ∧ Kd.C (Kd.raw d.sz) w A rows.length rows := by
  obtain ⟨h1, h2, h3⟩ := h
  by_cases hp : 0 < xs.length
  · obtain ⟨ad, rfl, h4⟩ := h3 hp
    have key : ∀ n, n ≤ xs.length → ∃ rows : List (List Value), rows.length = n ∧ ∀ (j : Nat) (x : α) (c : List Value), xs[j]? = some x → rows[j]? = some c → c.length = d.sz ∧ d.K w x c ∧ ∀ i u, c[i]? = some u → w.cell? (ad.add (j * d.sz + i)) = some u := by
      intro n
      induction n with
      | zero => exact fun _ => ⟨[], rfl, fun j x c _ hc => by simp at hc⟩
      | succ n ih =>
        intro hn
        obtain ⟨rows, hl, hr⟩ := ih (by omega)
        obtain ⟨c, hc⟩ := h4 n _ (List.getElem?_eq_getElem (show n < xs.length by omega))
        refine ⟨rows ++ [c], by simp [hl], fun j x c' hx hc' => ?_⟩
        by_cases e : j < n
        · rw [List.getElem?_append_left (by omega)] at hc'
          exact hr j x c' hx hc'
        · have ej : j = n := by
            have := (List.getElem?_eq_some_iff.1 hc').1
            simp at this; omega
          subst ej
          rw [List.getElem?_append_right (by omega), hl] at hc'
          simp at hc'
          subst hc'
          rw [List.getElem?_eq_getElem (by omega)] at hx
          injection hx with hx
          subst hx
          exact hc
    obtain ⟨rows, hl, hr⟩ := key xs.length (Nat.le_refl _)
    refine ⟨rows, hl, fun j x c hx hc => (hr j x c hx hc).2.1, rfl, by omega, fun _ => ⟨ad, rfl, fun j c hc => ?_⟩⟩
    have hj : j < xs.length := by have := (List.getElem?_eq_some_iff.1 hc).1; omega
    obtain ⟨k1, k2, k3⟩ := hr j _ c (List.getElem?_eq_getElem hj) hc
    exact ⟨c, k1, ⟨rfl, k1, d.K_one k2⟩, k3⟩
  · obtain rfl : xs = [] := List.eq_nil_of_length_eq_zero (by omega)
    exact ⟨[], rfl, fun j x c hx _ => by simp at hx, rfl, by simp, fun h => absurd h (by simp)⟩
theorem of_rows {α : Type} {d : Kd α} {w : World} {A : Option Addr} {xs : List α} {rows : List (List Value)} (hl : rows.length = xs.length) (hK : ∀ (j : Nat) (x : α) (c : List Value), xs[j]? = some x → rows[j]? = some c → d.K w x c) (h : Kd.C (Kd.raw d.sz) w A rows.length rows) : Kd.C d w A xs.length xs := by
  obtain ⟨h1, h2, h3⟩ := h
  refine ⟨rfl, by omega, fun hp => ?_⟩
  obtain ⟨ad, e, h4⟩ := h3 (by omega)
  refine ⟨ad, e, fun j x hx => ?_⟩
  have hj : j < rows.length := by have := (List.getElem?_eq_some_iff.1 hx).1; omega
  obtain ⟨c, k1, k2, k3⟩ := h4 j _ (List.getElem?_eq_getElem hj)
  refine ⟨c, k1, ?_, k3⟩
  rw [show c = rows[j] from k2.1]
  exact hK j x _ hx (List.getElem?_eq_getElem hj)
theorem flat_cells {sz : Nat} (hs : 0 < sz) {w : World} {ad : Addr} : ∀ {rows : List (List Value)}, (∀ c ∈ rows, c.length = sz) → (∀ j c, rows[j]? = some c → ∀ i u, c[i]? = some u → w.cell? (ad.add (j * sz + i)) = some u) → ∀ j u, rows.flatten[j]? = some u → w.cell? (ad.add j) = some u := by
  intro rows
  induction rows generalizing ad with
  | nil => intro _ _ j u hu; simp at hu
  | cons c r ih =>
    intro hl hc j u hu
    rw [List.flatten_cons] at hu
    have hcl := hl c (by simp)
    by_cases hj : j < sz
    · rw [List.getElem?_append_left (by omega)] at hu
      have := hc 0 c rfl j u hu
      simpa using this
    · rw [List.getElem?_append_right (by omega), hcl] at hu
      have := ih (ad := ad.add sz) (fun c' h => hl c' (by simp [h])) (fun j' c' h i' u' hu' => by
        have h9 := hc (j' + 1) c' (by simpa using h) i' u' hu'
        rw [Go.Deep.add_add]
        rw [show sz + (j' * sz + i') = (j' + 1) * sz + i' by rw [Nat.add_mul]; omega]
        exact h9) (j - sz) u hu
      rw [Go.Deep.add_add] at this
      rwa [show sz + (j - sz) = j by omega] at this
theorem reps_flat {sz : Nat} (w : World) (base : Nat) (ok : Nat → Prop) : ∀ {rows : List (List Value)}, (∀ c ∈ rows, c.length = sz ∧ ∀ u ∈ c, u.oneCell' = true) → Reps ((Kd.raw sz).M w base ok) (Kd.raw sz).sz rows rows.flatten := by
  intro rows
  induction rows with
  | nil => intro _; exact Reps.none _ _
  | cons c r ih =>
    intro h
    have h1 := (Reps.none ((Kd.raw sz).M w base ok) (Kd.raw sz).sz).snoc (p := c) (c := c) ⟨rfl, h c (by simp)⟩ (h c (by simp)).1
    have := Kd.reps_append h1 (ih (fun c' hc => h c' (by simp [hc])))
    simpa using this
section
variable {P : Program} {ops : Array Oper} {rest : List Oper} {o : Oper} {a : Act} {Q : Exit → Act → World → Prop} {w0 W : World} {bs : List Fr.Blk}
theorem fr_appendF {sz : Nat} {S : Nat → Prop} {v : Value} {xs : List (List Value)} (s x : Operand) (t e : TypeId) (z : Value) (bytes : Nat) (A : Option Addr) (c : Nat) (rows : List (List Value))
    (hF : Fr.Frame w0 W bs [Fr.rowR (Kd.raw sz) e w0.heap.size v xs S]) (hgd : o.guard = none) (ho : o.op = .call { callee := .builtin .append, args := #[s, x], argTypes := #[t, t] })
    (ht : P.underlying t = some (.slice e)) (hinfo : (P.info? e).map (fun i => (i.zero, i.size, i.bytes)) = some (some z, sz, bytes)) (hz : z.cells.size = sz) (hs0 : 0 < sz) (hb0 : 0 < bytes)
    (hs : a.eval s = v) (hx : a.eval x = .slice A rows.length c) (hC : Kd.C (Kd.raw sz) W A rows.length rows) (hp : 0 < rows.length) (hl : (xs.length + rows.length) * bytes ≤ 140737488355328)
    (h : ∀ v1 w1 S1, Fr.Frame w0 w1 bs [Fr.rowR (Kd.raw sz) e w0.heap.size v1 (xs ++ rows) S1] → wpList P ops Q rest (a.put o.dst v1) w1) : wpList P ops Q (o :: rest) a W := by
  have hr := hF.row (Fr.rowR (Kd.raw sz) e w0.heap.size v xs S) List.mem_cons_self
  have hRS : (Kd.raw sz).R e W w0.heap.size S v xs := hr.1
  have hdis : ∀ k, S k → ∀ b ∈ bs, k ≠ b.1 := fun k hk b hb he => hr.2.2 b hb (by subst he; exact hk)
  obtain ⟨ad, rfl, hcc⟩ := hC.2.2 hp
  have hall : ∀ c' ∈ rows, c'.length = sz ∧ ∀ u ∈ c', u.oneCell' = true := fun c' hc' => by
    obtain ⟨j, hj, rfl⟩ := List.mem_iff_getElem.1 hc'
    obtain ⟨c2, k1, k2, _⟩ := hcc j _ (List.getElem?_eq_getElem hj)
    have : c2 = rows[j] := k2.1
    rw [← this]
    exact ⟨k1, k2.2.2⟩
  have hnews : ∀ j u, rows.flatten[j]? = some u → W.cell? (ad.add j) = some u := flat_cells hs0 (fun c' h => (hall c' h).1) (fun j c' hj i u hu => by
    obtain ⟨c2, k1, k2, k3⟩ := hcc j c' hj
    have : c2 = c' := k2.1
    subst this
    exact k3 i u hu)
  obtain ⟨v1, w1, hrun, h1, h2, hg⟩ := Fr.R_append_keep (P := P) (Kd.raw sz) w0.heap.size t o.type e z bytes ht hinfo hz hs0 hb0 (Kd.R_mono hRS hdis) (fun w ok => reps_flat w _ ok hall) (fun u hu => by
    obtain ⟨c', hc', hu'⟩ := List.mem_flatten.1 hu
    exact (hall c' hc').2 u hu') ad rows.length c rfl hnews hl hF.below.size (fun k hk b hb he => by have := hF.lt hb; omega)
  have hF0 : Fr.Frame w0 W bs [] := hF.noRows
  have hF1 : Fr.Frame w0 w1 bs [] := ⟨hF0.below.grown hg hF.below.size (fun k hk => Kd.R_base hRS k hk), fun b hb => ⟨(hF0.blk b hb).1, blk_grown (hF0.blk b hb).2 hg (fun e1 => hdis b.1 (hRS.1 b.1 e1.symm) b hb rfl)⟩, hF0.nodup, by simp⟩
  obtain ⟨S1, hS1⟩ := hF1.rowIn h1 (fun k hk => hk)
  refine wpList_plain hgd fun K hK => ?_
  unfold Oper.wp execOp
  simp only [ho, resolve, invoke, builtin, Sem.run_bind, Sem.run_pure, Result.andThen_ok, List.map_toArray, List.map_cons, List.map_nil, hs, hx, hrun]
  exact hK _ _ (h v1 w1 S1 hS1)
end
theorem R_empty {α : Type} (d : Kd α) (e : Nat) (w : World) (base g : Nat) (ok : Nat → Prop) (hb : base ≤ g) (hg : w.heap[g]? = some (.cells #[] e (0, 0))) (hok : ok g) : d.R e w base ok (.slice (some ⟨g, 0, none⟩) 0 0) [] := by
  refine ⟨fun k hk => ?_, [], ⟨by simp, .inr ⟨g, 0, #[], rfl, hb, hg, Nat.le_refl _, by simp [maxLen], by simp, by simp⟩⟩, Reps.none _ _⟩
  have : g = k := by simpa [Value.ownBlock] using hk
  rw [← this]; exact hok
def takesB (l : List S92) (x : S58) : Bool := x.f1.all fun m => allV [m] l
def takeI (ro : List S58) (l : List S92) : Int := idxP (takesB l) ro
def chooseE (c : Cf) (l : List S92) : Int := if (cfgB c && rightB l) = true then (if takeI c.ro l < 0 then 4 else 0) else 1
def chooseV (c : Cf) (l : List S92) : Int := if chooseE c l = 0 then takeI c.ro l else 0
theorem choose_bad {c : Cf} {l : List S92} (h : (cfgB c && rightB l) = false) : chooseE c l = 1 ∧ chooseV c l = 0 := by
  have h1 : chooseE c l = 1 := by unfold chooseE; rw [h]; rfl
  exact ⟨h1, by unfold chooseV; rw [h1]; rfl⟩
theorem choose_none {c : Cf} {l : List S92} (h1 : cfgB c = true) (h2 : rightB l = true) (h : takeI c.ro l = -1) : chooseE c l = 4 ∧ chooseV c l = 0 := by
  have h3 : chooseE c l = 4 := by unfold chooseE; rw [h1, h2, h]; rfl
  exact ⟨h3, by unfold chooseV; rw [h3]; rfl⟩
theorem choose_some {c : Cf} {l : List S92} (h1 : cfgB c = true) (h2 : rightB l = true) {k : Nat} (h : takeI c.ro l = k) : chooseE c l = 0 ∧ chooseV c l = k := by
  have h3 : chooseE c l = 0 := by unfold chooseE; rw [h1, h2, h]; rw [if_pos (by rfl), if_neg (by omega)]
  exact ⟨h3, by unfold chooseV; rw [if_pos h3, h]⟩
set_option maxHeartbeats 8000000 in
set_option maxRecDepth 100000 in
theorem choose_calls (c : Cf) (A0 : Option Addr) (c0 : Nat) (A1 : Option Addr) (c1 : Nat) (A2 : Option Addr) (c2 : Nat) (l : List S92) (w : World) (hr0 : Kd.C k76 w A0 c.rs.length c.rs) (hl0 : c.rs.length ≤ c0) (hr1 : Kd.C k58 w A1 c.ro.length c.ro) (hwf : ∀ x ∈ c.ro, WfR x) (hr2 : Kd.C k92 w A2 l.length l) :
    Calls Try.prog 32 #[.agg #[.slice A0 c.rs.length c0, .slice A1 c.ro.length c1, .int .i64 c.rep, .int .i64 c.beat], .slice A2 l.length c2] w fun e w' => e = .returned (.tuple #[.int .i64 (chooseV c l), .int .i64 (chooseE c l)]) ∧ Below w.heap.size w w' := by
  have HR1 := Aside0.mk hr1
  have HR2 := Aside0.mk hr2
  have HG := Aside0.mk (fun (W : World) (hb : Below w.heap.size w W) => cfgRight_calls c A0 c0 A1 c1 W (Kd.C_below hr0 hb) hl0 (Kd.C_below hr1 hb) hwf)
  have hll1 : c.ro.length ≤ 9223372036854775807 := hr1.2.1
  clear hr0 hl0 hr1 hwf hr2
  have hF := Aside0.mk (Fr.Frame.start w)
  have HC : True := trivial
  cases h1 : cfgB c with
  | false =>
    have HV := Aside0.mk (choose_bad (c := c) (l := l) (by rw [h1]; rfl))
    rw [h1] at HG
    clear h1
    go_enter Try.func32, Try.ntmps32
    go_wp2_with (first | ((with_reducible refine gate_store rfl ?_); apply Fr.fr_store hF.out rfl rfl rfl; (case hp => rfl); (case hx => first | (go_simp; rfl) | rfl); (case hu => (simp only [Value.cells]; rfl)); (case hs => (repeat (first | exact Fr.Spot.here _ _ | apply Fr.Spot.there))); (case ht => kernel_rfl); (case h1 => simp [Value.oneCell']); (case hfit => simp); intro W hF1; simp only [Fr.patch, List.take_zero, List.nil_append, List.drop, List.append_nil, List.take, List.cons_append, List.length_cons, List.length_nil, Nat.reduceAdd] at hF1; have HC1 := hF1.cells; simp only [Fr.Cells, List.length_cons, List.length_nil, Nat.reduceAdd, and_true] at HC1; clear hF HC; have HC := HC1; have hF := Aside0.mk hF1; clear hF1 HC1) | ((first | (with_reducible refine Fr.gate_alloc rfl ?_) | (with_reducible refine Fr.gate_box rfl ?_)); apply Fr.fr_box hF.out rfl; (case hrun => first | (go_simp; done) | (go_simp; rfl)); intro g W hF1; have HC1 := hF1.cells; simp only [Fr.Cells, List.length_cons, List.length_nil, Nat.reduceAdd, and_true] at HC1; clear hF HC; have HC := HC1; have hF := Aside0.mk hF1; clear hF1 HC1))
    go_step3
    go_wp2_with (first | ((with_reducible refine gate_store rfl ?_); apply Fr.fr_store hF.out rfl rfl rfl; (case hp => rfl); (case hx => first | (go_simp; rfl) | rfl); (case hu => (simp only [Value.cells]; rfl)); (case hs => (repeat (first | exact Fr.Spot.here _ _ | apply Fr.Spot.there))); (case ht => kernel_rfl); (case h1 => simp [Value.oneCell']); (case hfit => simp); intro W hF1; simp only [Fr.patch, List.take_zero, List.nil_append, List.drop, List.append_nil, List.take, List.cons_append, List.length_cons, List.length_nil, Nat.reduceAdd] at hF1; have HC1 := hF1.cells; simp only [Fr.Cells, List.length_cons, List.length_nil, Nat.reduceAdd, and_true] at HC1; clear hF HC; have HC := HC1; have hF := Aside0.mk hF1; clear hF1 HC1) | ((first | (with_reducible refine Fr.gate_alloc rfl ?_) | (with_reducible refine Fr.gate_box rfl ?_)); apply Fr.fr_box hF.out rfl; (case hrun => first | (go_simp; done) | (go_simp; rfl)); intro g W hF1; have HC1 := hF1.cells; simp only [Fr.Cells, List.length_cons, List.length_nil, Nat.reduceAdd, and_true] at HC1; clear hF HC; have HC := HC1; have hF := Aside0.mk hF1; clear hF1 HC1))
    (with_reducible refine (HG.out _ hF.out.below).mono ?_); rintro e W ⟨rfl, hb⟩; have hF1 := hF.out.call hb; clear hb; have HC1 := hF1.cells; simp only [Fr.Cells, List.length_cons, List.length_nil, Nat.reduceAdd, and_true] at HC1; clear hF HC; have HC := HC1; have hF := Aside0.mk hF1; clear hF1 HC1
    go_wp2_with (first | ((with_reducible refine gate_store rfl ?_); apply Fr.fr_store hF.out rfl rfl rfl; (case hp => rfl); (case hx => first | (go_simp; rfl) | rfl); (case hu => (simp only [Value.cells]; rfl)); (case hs => (repeat (first | exact Fr.Spot.here _ _ | apply Fr.Spot.there))); (case ht => kernel_rfl); (case h1 => simp [Value.oneCell']); (case hfit => simp); intro W hF1; simp only [Fr.patch, List.take_zero, List.nil_append, List.drop, List.append_nil, List.take, List.cons_append, List.length_cons, List.length_nil, Nat.reduceAdd] at hF1; have HC1 := hF1.cells; simp only [Fr.Cells, List.length_cons, List.length_nil, Nat.reduceAdd, and_true] at HC1; clear hF HC; have HC := HC1; have hF := Aside0.mk hF1; clear hF1 HC1) | ((first | (with_reducible refine Fr.gate_alloc rfl ?_) | (with_reducible refine Fr.gate_box rfl ?_)); apply Fr.fr_box hF.out rfl; (case hrun => first | (go_simp; done) | (go_simp; rfl)); intro g W hF1; have HC1 := hF1.cells; simp only [Fr.Cells, List.length_cons, List.length_nil, Nat.reduceAdd, and_true] at HC1; clear hF HC; have HC := HC1; have hF := Aside0.mk hF1; clear hF1 HC1))
    try rw [Exit.noGoto_ret]
    go_ret2
    exact ⟨by rw [HV.out.1, HV.out.2]; rfl, hF.out.below⟩
  | true =>
    rw [h1] at HG
    cases h2 : rightB l with
    | false =>
      have HV := Aside0.mk (choose_bad (c := c) (l := l) (by rw [h2, Bool.and_false]))
      have H2 := Aside0.mk h2
      clear h1 h2
      go_enter Try.func32, Try.ntmps32
      go_wp2_with (first | ((with_reducible refine gate_store rfl ?_); apply Fr.fr_store hF.out rfl rfl rfl; (case hp => rfl); (case hx => first | (go_simp; rfl) | rfl); (case hu => (simp only [Value.cells]; rfl)); (case hs => (repeat (first | exact Fr.Spot.here _ _ | apply Fr.Spot.there))); (case ht => kernel_rfl); (case h1 => simp [Value.oneCell']); (case hfit => simp); intro W hF1; simp only [Fr.patch, List.take_zero, List.nil_append, List.drop, List.append_nil, List.take, List.cons_append, List.length_cons, List.length_nil, Nat.reduceAdd] at hF1; have HC1 := hF1.cells; simp only [Fr.Cells, List.length_cons, List.length_nil, Nat.reduceAdd, and_true] at HC1; clear hF HC; have HC := HC1; have hF := Aside0.mk hF1; clear hF1 HC1) | ((first | (with_reducible refine Fr.gate_alloc rfl ?_) | (with_reducible refine Fr.gate_box rfl ?_)); apply Fr.fr_box hF.out rfl; (case hrun => first | (go_simp; done) | (go_simp; rfl)); intro g W hF1; have HC1 := hF1.cells; simp only [Fr.Cells, List.length_cons, List.length_nil, Nat.reduceAdd, and_true] at HC1; clear hF HC; have HC := HC1; have hF := Aside0.mk hF1; clear hF1 HC1))
      go_step3
      iterate 3 (go_wp2_with (first | ((with_reducible refine gate_store rfl ?_); apply Fr.fr_store hF.out rfl rfl rfl; (case hp => rfl); (case hx => first | (go_simp; rfl) | rfl); (case hu => (simp only [Value.cells]; rfl)); (case hs => (repeat (first | exact Fr.Spot.here _ _ | apply Fr.Spot.there))); (case ht => kernel_rfl); (case h1 => simp [Value.oneCell']); (case hfit => simp); intro W hF1; simp only [Fr.patch, List.take_zero, List.nil_append, List.drop, List.append_nil, List.take, List.cons_append, List.length_cons, List.length_nil, Nat.reduceAdd] at hF1; have HC1 := hF1.cells; simp only [Fr.Cells, List.length_cons, List.length_nil, Nat.reduceAdd, and_true] at HC1; clear hF HC; have HC := HC1; have hF := Aside0.mk hF1; clear hF1 HC1) | ((first | (with_reducible refine Fr.gate_alloc rfl ?_) | (with_reducible refine Fr.gate_box rfl ?_)); apply Fr.fr_box hF.out rfl; (case hrun => first | (go_simp; done) | (go_simp; rfl)); intro g W hF1; have HC1 := hF1.cells; simp only [Fr.Cells, List.length_cons, List.length_nil, Nat.reduceAdd, and_true] at HC1; clear hF HC; have HC := HC1; have hF := Aside0.mk hF1; clear hF1 HC1)); try ((first | ((with_reducible refine (HG.out _ hF.out.below).mono ?_); rintro e W ⟨rfl, hb⟩; have hF1 := hF.out.call hb; clear hb) | ((with_reducible refine (right_calls A2 c2 l _ (Kd.C_below HR2.out hF.out.below)).mono ?_); rintro e W ⟨rfl, hb⟩; have hF1 := hF.out.call hb; clear hb; simp only [H2.out])); have HC1 := hF1.cells; simp only [Fr.Cells, List.length_cons, List.length_nil, Nat.reduceAdd, and_true] at HC1; clear hF HC; have HC := HC1; have hF := Aside0.mk hF1; clear hF1 HC1))
      try rw [Exit.noGoto_ret]
      go_ret2
      exact ⟨by rw [HV.out.1, HV.out.2]; rfl, hF.out.below⟩
    | true =>
      have H1 := Aside0.mk h1
      have H2 := Aside0.mk h2
      clear h1 h2
      go_enter Try.func32, Try.ntmps32
      go_wp2_with (first | ((with_reducible refine gate_store rfl ?_); apply Fr.fr_store hF.out rfl rfl rfl; (case hp => rfl); (case hx => first | (go_simp; rfl) | rfl); (case hu => (simp only [Value.cells]; rfl)); (case hs => (repeat (first | exact Fr.Spot.here _ _ | apply Fr.Spot.there))); (case ht => kernel_rfl); (case h1 => simp [Value.oneCell']); (case hfit => simp); intro W hF1; simp only [Fr.patch, List.take_zero, List.nil_append, List.drop, List.append_nil, List.take, List.cons_append, List.length_cons, List.length_nil, Nat.reduceAdd] at hF1; have HC1 := hF1.cells; simp only [Fr.Cells, List.length_cons, List.length_nil, Nat.reduceAdd, and_true] at HC1; clear hF HC; have HC := HC1; have hF := Aside0.mk hF1; clear hF1 HC1) | ((with_reducible refine gate_dst (N := 2) rfl ?_); apply Fr.fr_box hF.out rfl; (case hrun => first | (go_simp; done) | (go_simp; rfl)); intro gb W hF1; have HC1 := hF1.cells; simp only [Fr.Cells, List.length_cons, List.length_nil, Nat.reduceAdd, and_true] at HC1; clear hF HC; have HC := HC1; have hF := Aside0.mk hF1; clear hF1 HC1) | ((first | (with_reducible refine Fr.gate_alloc rfl ?_) | (with_reducible refine Fr.gate_box rfl ?_)); apply Fr.fr_box hF.out rfl; (case hrun => first | (go_simp; done) | (go_simp; rfl)); intro g W hF1; have HC1 := hF1.cells; simp only [Fr.Cells, List.length_cons, List.length_nil, Nat.reduceAdd, and_true] at HC1; clear hF HC; have HC := HC1; have hF := Aside0.mk hF1; clear hF1 HC1))
      go_step3
      iterate 3 (go_wp2_with (first | ((with_reducible refine gate_store rfl ?_); apply Fr.fr_store hF.out rfl rfl rfl; (case hp => rfl); (case hx => first | (go_simp; rfl) | rfl); (case hu => (simp only [Value.cells]; rfl)); (case hs => (repeat (first | exact Fr.Spot.here _ _ | apply Fr.Spot.there))); (case ht => kernel_rfl); (case h1 => simp [Value.oneCell']); (case hfit => simp); intro W hF1; simp only [Fr.patch, List.take_zero, List.nil_append, List.drop, List.append_nil, List.take, List.cons_append, List.length_cons, List.length_nil, Nat.reduceAdd] at hF1; have HC1 := hF1.cells; simp only [Fr.Cells, List.length_cons, List.length_nil, Nat.reduceAdd, and_true] at HC1; clear hF HC; have HC := HC1; have hF := Aside0.mk hF1; clear hF1 HC1) | ((first | (with_reducible refine Fr.gate_alloc rfl ?_) | (with_reducible refine Fr.gate_box rfl ?_)); apply Fr.fr_box hF.out rfl; (case hrun => first | (go_simp; done) | (go_simp; rfl)); intro g W hF1; have HC1 := hF1.cells; simp only [Fr.Cells, List.length_cons, List.length_nil, Nat.reduceAdd, and_true] at HC1; clear hF HC; have HC := HC1; have hF := Aside0.mk hF1; clear hF1 HC1)); try ((first | ((with_reducible refine (HG.out _ hF.out.below).mono ?_); rintro e W ⟨rfl, hb⟩; have hF1 := hF.out.call hb; clear hb) | ((with_reducible refine (right_calls A2 c2 l _ (Kd.C_below HR2.out hF.out.below)).mono ?_); rintro e W ⟨rfl, hb⟩; have hF1 := hF.out.call hb; clear hb; simp only [H2.out])); have HC1 := hF1.cells; simp only [Fr.Cells, List.length_cons, List.length_nil, Nat.reduceAdd, and_true] at HC1; clear hF HC; have HC := HC1; have hF := Aside0.mk hF1; clear hF1 HC1))
      go_step3
      go_wp2_with (first | ((with_reducible refine gate_store rfl ?_); apply Fr.fr_store hF.out rfl rfl rfl; (case hp => rfl); (case hx => first | (go_simp; rfl) | rfl); (case hu => (simp only [Value.cells]; rfl)); (case hs => (repeat (first | exact Fr.Spot.here _ _ | apply Fr.Spot.there))); (case ht => kernel_rfl); (case h1 => simp [Value.oneCell']); (case hfit => simp); intro W hF1; simp only [Fr.patch, List.take_zero, List.nil_append, List.drop, List.append_nil, List.take, List.cons_append, List.length_cons, List.length_nil, Nat.reduceAdd] at hF1; have HC1 := hF1.cells; simp only [Fr.Cells, List.length_cons, List.length_nil, Nat.reduceAdd, and_true] at HC1; clear hF HC; have HC := HC1; have hF := Aside0.mk hF1; clear hF1 HC1) | ((first | (with_reducible refine Fr.gate_alloc rfl ?_) | (with_reducible refine Fr.gate_box rfl ?_)); apply Fr.fr_box hF.out rfl; (case hrun => first | (go_simp; done) | (go_simp; rfl)); intro g W hF1; have HC1 := hF1.cells; simp only [Fr.Cells, List.length_cons, List.length_nil, Nat.reduceAdd, and_true] at HC1; clear hF HC; have HC := HC1; have hF := Aside0.mk hF1; clear hF1 HC1))
      have hFb := hF
      go_loopg [23] c.ro.length (fun kq v23 w' => ∃ k : Nat, k ≤ c.ro.length ∧ c.ro.length - k ≤ kq ∧ v23 = .int .i64 k ∧ Aside0 (∀ i : Nat, i < k → takesB l (rd_T58 c.ro (i : Nat)) = false) ∧ Aside0 (Fr.Frame w w' [(gb, [.slice A0 c.rs.length c0, .slice A1 c.ro.length c1, .int .i64 c.rep, .int .i64 c.beat], 53)] []))
      case atStart => exact ⟨0, Nat.zero_le _, by omega, rfl, ⟨fun i hi => absurd hi (Nat.not_lt_zero _)⟩, ⟨hFb.out⟩⟩
      case round =>
        clear hF hFb HC
        obtain ⟨k, hk, hg, rfl, HA, hF⟩ := hrel
        have HC1 := hF.out.cells
        simp only [Fr.Cells, List.length_cons, List.length_nil, Nat.reduceAdd, and_true] at HC1
        have HC := HC1
        clear HC1
        by_cases hlt : k < c.ro.length
        · have hlti : (k : Int) < (c.ro.length : Int) := by omega
          obtain ⟨ad, B0, d0, B1, d1, e1, a0, a1, g0, g1, g2, g3⟩ := at_T58 HR1.out (k : Int) (by omega) hlti
          cases e1
          obtain ⟨x, hx⟩ : ∃ x, rd_T58 c.ro (k : Int) = x := ⟨_, rfl⟩
          rw [hx] at a0 a1 g0 g1 g2 g3
          have HX := Aside0.mk hx
          have G3 := Aside0.mk g3
          have hxl : x.f1.length ≤ 9223372036854775807 := g3.2.1
          clear hx g0 g1 g2 g3
          rw [Int.toNat_natCast] at a0 a1
          replace a0 := (hF.out.below.cell (World.block_lt_of_cell? w _ a0)).trans a0
          replace a1 := (hF.out.below.cell (World.block_lt_of_cell? w _ a1)).trans a1
          go_wp2_with (first | ((with_reducible refine gate_store rfl ?_); apply Fr.fr_store hF.out rfl rfl rfl; (case hp => rfl); (case hx => first | (go_simp; rfl) | rfl); (case hu => (simp only [Value.cells]; rfl)); (case hs => (repeat (first | exact Fr.Spot.here _ _ | apply Fr.Spot.there))); (case ht => kernel_rfl); (case h1 => simp [Value.oneCell']); (case hfit => simp); intro W hF1; simp only [Fr.patch, List.take_zero, List.nil_append, List.drop, List.append_nil, List.take, List.cons_append, List.length_cons, List.length_nil, Nat.reduceAdd] at hF1; have HC1 := hF1.cells; simp only [Fr.Cells, List.length_cons, List.length_nil, Nat.reduceAdd, and_true] at HC1; clear hF HC; have HC := HC1; have hF := Aside0.mk hF1; clear hF1 HC1) | ((with_reducible refine gate_dst (N := 7) rfl ?_); apply Fr.fr_box hF.out rfl; (case hrun => first | (go_simp; done) | (go_simp; rfl)); intro gr W hF1; have HC1 := hF1.cells; simp only [Fr.Cells, List.length_cons, List.length_nil, Nat.reduceAdd, and_true] at HC1; clear hF HC; have HC := HC1; have hF := Aside0.mk hF1; clear hF1 HC1) | ((first | (with_reducible refine Fr.gate_alloc rfl ?_) | (with_reducible refine Fr.gate_box rfl ?_)); apply Fr.fr_box hF.out rfl; (case hrun => first | (go_simp; done) | (go_simp; rfl)); intro g W hF1; have HC1 := hF1.cells; simp only [Fr.Cells, List.length_cons, List.length_nil, Nat.reduceAdd, and_true] at HC1; clear hF HC; have HC := HC1; have hF := Aside0.mk hF1; clear hF1 HC1))
          have hFc := hF
          go_loopg [31] x.f1.length (fun jq v31 w' => ∃ j : Nat, j ≤ x.f1.length ∧ x.f1.length - j ≤ jq ∧ v31 = .int .i64 j ∧ Aside0 (∀ i : Nat, i < j → allV [rd_T88 x.f1 (i : Nat)] l = true) ∧ Aside0 (Fr.Frame w w' [(gr, [.slice B0 x.f0.length d0, .slice B1 x.f1.length d1], 58), (gb, [.slice A0 c.rs.length c0, .slice (some ad) c.ro.length c1, .int .i64 c.rep, .int .i64 c.beat], 53)] []))
          case atStart => exact ⟨0, Nat.zero_le _, by omega, rfl, ⟨fun i hi => absurd hi (Nat.not_lt_zero _)⟩, ⟨hFc.out⟩⟩
          case round =>
            clear hF hFc HC
            obtain ⟨j, hj, hgj, rfl, HJ, hF⟩ := hrel
            have HC1 := hF.out.cells
            simp only [Fr.Cells, List.length_cons, List.length_nil, Nat.reduceAdd, and_true] at HC1
            have HC := HC1
            clear HC1
            by_cases hjt : j < x.f1.length
            · have hjti : (j : Int) < (x.f1.length : Int) := by omega
              obtain ⟨ad2, e2, b0, b1, b2⟩ := at_T88 G3.out (j : Int) (by omega) hjti
              cases e2
              rw [Int.toNat_natCast] at b0 b1 b2
              obtain ⟨m, hm⟩ : ∃ m, rd_T88 x.f1 (j : Int) = m := ⟨_, rfl⟩
              rw [hm] at b0 b1 b2
              have HM := Aside0.mk hm
              clear hm
              replace b0 := (hF.out.below.cell (World.block_lt_of_cell? w _ b0)).trans b0
              replace b1 := (hF.out.below.cell (World.block_lt_of_cell? w _ b1)).trans b1
              replace b2 := (hF.out.below.cell (World.block_lt_of_cell? w _ b2)).trans b2
              cases hv : allV [m] l with
              | false =>
                have HVV := Aside0.mk hv
                have HT := Aside0.mk (show takesB l x = false by
                  unfold takesB
                  rw [List.all_eq_false]
                  exact ⟨m, by rw [← HM.out, rd_get88 x.f1 j hjt]; exact List.getElem_mem _, by rw [hv]; simp⟩)
                clear hv
                go_wp2_with (first | ((with_reducible refine gate_store rfl ?_); apply Fr.fr_store hF.out rfl rfl rfl; (case hp => rfl); (case hx => first | (go_simp; rfl) | rfl); (case hu => (simp only [Value.cells]; rfl)); (case hs => (repeat (first | exact Fr.Spot.here _ _ | apply Fr.Spot.there))); (case ht => kernel_rfl); (case h1 => simp [Value.oneCell']); (case hfit => simp); intro W hF1; simp only [Fr.patch, List.take_zero, List.nil_append, List.drop, List.append_nil, List.take, List.cons_append, List.length_cons, List.length_nil, Nat.reduceAdd] at hF1; have HC1 := hF1.cells; simp only [Fr.Cells, List.length_cons, List.length_nil, Nat.reduceAdd, and_true] at HC1; clear hF HC; have HC := HC1; have hF := Aside0.mk hF1; clear hF1 HC1) | ((first | (with_reducible refine Fr.gate_alloc rfl ?_) | (with_reducible refine Fr.gate_box rfl ?_)); apply Fr.fr_box hF.out rfl; (case hrun => first | (go_simp; done) | (go_simp; rfl)); intro g W hF1; have HC1 := hF1.cells; simp only [Fr.Cells, List.length_cons, List.length_nil, Nat.reduceAdd, and_true] at HC1; clear hF HC; have HC := HC1; have hF := Aside0.mk hF1; clear hF1 HC1))
                have hF2 := hF.out.alloc [.int .i64 m.f0, .string m.f1, .string m.f2] 88
                have hh := all_calls (some ⟨W.heap.size, 0, none⟩) 1 [m] A2 c2 l _ (C_one hF2 (k88_mk _ m)) (Kd.C_below HR2.out hF2.below)
                simp only [List.length_cons, List.length_nil, Nat.reduceAdd, HVV.out] at hh
                (with_reducible refine hh.mono ?_)
                clear hh
                rintro e W ⟨rfl, hb⟩
                have hF1 := hF2.call hb
                clear hb hF2
                have HC1 := hF1.cells; simp only [Fr.Cells, List.length_cons, List.length_nil, Nat.reduceAdd, and_true] at HC1; clear hF HC; have HC := HC1; have hF := Aside0.mk hF1; clear hF1 HC1
                go_wp2_with (first | ((with_reducible refine gate_store rfl ?_); apply Fr.fr_store hF.out rfl rfl rfl; (case hp => rfl); (case hx => first | (go_simp; rfl) | rfl); (case hu => (simp only [Value.cells]; rfl)); (case hs => (repeat (first | exact Fr.Spot.here _ _ | apply Fr.Spot.there))); (case ht => kernel_rfl); (case h1 => simp [Value.oneCell']); (case hfit => simp); intro W hF1; simp only [Fr.patch, List.take_zero, List.nil_append, List.drop, List.append_nil, List.take, List.cons_append, List.length_cons, List.length_nil, Nat.reduceAdd] at hF1; have HC1 := hF1.cells; simp only [Fr.Cells, List.length_cons, List.length_nil, Nat.reduceAdd, and_true] at HC1; clear hF HC; have HC := HC1; have hF := Aside0.mk hF1; clear hF1 HC1) | ((first | (with_reducible refine Fr.gate_alloc rfl ?_) | (with_reducible refine Fr.gate_box rfl ?_)); apply Fr.fr_box hF.out rfl; (case hrun => first | (go_simp; done) | (go_simp; rfl)); intro g W hF1; have HC1 := hF1.cells; simp only [Fr.Cells, List.length_cons, List.length_nil, Nat.reduceAdd, and_true] at HC1; clear hF HC; have HC := HC1; have hF := Aside0.mk hF1; clear hF1 HC1))
                go_roundg (c.ro.length - (k + 1))
                case measure => omega
                case rel => exact ⟨k + 1, by omega, by omega, by go_num, ⟨fun i hi => by
                  by_cases e : i = k
                  · subst e; rw [HX.out]; exact HT.out
                  · exact HA.out i (by omega)⟩, ⟨hF.out.drop.drop.drop⟩⟩
              | true =>
                have HVV := Aside0.mk hv
                clear hv
                go_wp2_with (first | ((with_reducible refine gate_store rfl ?_); apply Fr.fr_store hF.out rfl rfl rfl; (case hp => rfl); (case hx => first | (go_simp; rfl) | rfl); (case hu => (simp only [Value.cells]; rfl)); (case hs => (repeat (first | exact Fr.Spot.here _ _ | apply Fr.Spot.there))); (case ht => kernel_rfl); (case h1 => simp [Value.oneCell']); (case hfit => simp); intro W hF1; simp only [Fr.patch, List.take_zero, List.nil_append, List.drop, List.append_nil, List.take, List.cons_append, List.length_cons, List.length_nil, Nat.reduceAdd] at hF1; have HC1 := hF1.cells; simp only [Fr.Cells, List.length_cons, List.length_nil, Nat.reduceAdd, and_true] at HC1; clear hF HC; have HC := HC1; have hF := Aside0.mk hF1; clear hF1 HC1) | ((first | (with_reducible refine Fr.gate_alloc rfl ?_) | (with_reducible refine Fr.gate_box rfl ?_)); apply Fr.fr_box hF.out rfl; (case hrun => first | (go_simp; done) | (go_simp; rfl)); intro g W hF1; have HC1 := hF1.cells; simp only [Fr.Cells, List.length_cons, List.length_nil, Nat.reduceAdd, and_true] at HC1; clear hF HC; have HC := HC1; have hF := Aside0.mk hF1; clear hF1 HC1))
                have hF2 := hF.out.alloc [.int .i64 m.f0, .string m.f1, .string m.f2] 88
                have hh := all_calls (some ⟨W.heap.size, 0, none⟩) 1 [m] A2 c2 l _ (C_one hF2 (k88_mk _ m)) (Kd.C_below HR2.out hF2.below)
                simp only [List.length_cons, List.length_nil, Nat.reduceAdd, HVV.out] at hh
                (with_reducible refine hh.mono ?_)
                clear hh
                rintro e W ⟨rfl, hb⟩
                have hF1 := hF2.call hb
                clear hb hF2
                have HC1 := hF1.cells; simp only [Fr.Cells, List.length_cons, List.length_nil, Nat.reduceAdd, and_true] at HC1; clear hF HC; have HC := HC1; have hF := Aside0.mk hF1; clear hF1 HC1
                go_wp2_with (first | ((with_reducible refine gate_store rfl ?_); apply Fr.fr_store hF.out rfl rfl rfl; (case hp => rfl); (case hx => first | (go_simp; rfl) | rfl); (case hu => (simp only [Value.cells]; rfl)); (case hs => (repeat (first | exact Fr.Spot.here _ _ | apply Fr.Spot.there))); (case ht => kernel_rfl); (case h1 => simp [Value.oneCell']); (case hfit => simp); intro W hF1; simp only [Fr.patch, List.take_zero, List.nil_append, List.drop, List.append_nil, List.take, List.cons_append, List.length_cons, List.length_nil, Nat.reduceAdd] at hF1; have HC1 := hF1.cells; simp only [Fr.Cells, List.length_cons, List.length_nil, Nat.reduceAdd, and_true] at HC1; clear hF HC; have HC := HC1; have hF := Aside0.mk hF1; clear hF1 HC1) | ((first | (with_reducible refine Fr.gate_alloc rfl ?_) | (with_reducible refine Fr.gate_box rfl ?_)); apply Fr.fr_box hF.out rfl; (case hrun => first | (go_simp; done) | (go_simp; rfl)); intro g W hF1; have HC1 := hF1.cells; simp only [Fr.Cells, List.length_cons, List.length_nil, Nat.reduceAdd, and_true] at HC1; clear hF HC; have HC := HC1; have hF := Aside0.mk hF1; clear hF1 HC1))
                go_roundg (x.f1.length - (j + 1))
                case measure => omega
                case rel => exact ⟨j + 1, by omega, by omega, by go_num, ⟨fun i hi => by
                  by_cases e : i = j
                  · subst e; rw [HM.out]; exact HVV.out
                  · exact HJ.out i (by omega)⟩, ⟨hF.out.drop.drop⟩⟩
            · obtain rfl : j = x.f1.length := by omega
              have HT := Aside0.mk (show takesB l (rd_T58 c.ro (k : Nat)) = true by
                rw [HX.out]
                unfold takesB
                rw [List.all_eq_true]
                intro m hm
                obtain ⟨i, hi, rfl⟩ := List.mem_iff_getElem.1 hm
                have := HJ.out i hi
                rwa [rd_get88 x.f1 i hi] at this)
              have HV := Aside0.mk (choose_some H1.out H2.out (idxR_hit58 (takesB l) c.ro k hlt HA.out HT.out).symm)
              have hjti : ¬ (x.f1.length : Int) < (x.f1.length : Int) := by omega
              go_wp2_with (first | ((with_reducible refine gate_store rfl ?_); apply Fr.fr_store hF.out rfl rfl rfl; (case hp => rfl); (case hx => first | (go_simp; rfl) | rfl); (case hu => (simp only [Value.cells]; rfl)); (case hs => (repeat (first | exact Fr.Spot.here _ _ | apply Fr.Spot.there))); (case ht => kernel_rfl); (case h1 => simp [Value.oneCell']); (case hfit => simp); intro W hF1; simp only [Fr.patch, List.take_zero, List.nil_append, List.drop, List.append_nil, List.take, List.cons_append, List.length_cons, List.length_nil, Nat.reduceAdd] at hF1; have HC1 := hF1.cells; simp only [Fr.Cells, List.length_cons, List.length_nil, Nat.reduceAdd, and_true] at HC1; clear hF HC; have HC := HC1; have hF := Aside0.mk hF1; clear hF1 HC1) | ((first | (with_reducible refine Fr.gate_alloc rfl ?_) | (with_reducible refine Fr.gate_box rfl ?_)); apply Fr.fr_box hF.out rfl; (case hrun => first | (go_simp; done) | (go_simp; rfl)); intro g W hF1; have HC1 := hF1.cells; simp only [Fr.Cells, List.length_cons, List.length_nil, Nat.reduceAdd, and_true] at HC1; clear hF HC; have HC := HC1; have hF := Aside0.mk hF1; clear hF1 HC1))
              try rw [Exit.noGoto_ret]
              go_ret2
              exact ⟨by rw [HV.out.1, HV.out.2]; rfl, hF.out.below⟩
        · obtain rfl : k = c.ro.length := by omega
          have HV := Aside0.mk (choose_none H1.out H2.out (idxR_miss58 (takesB l) c.ro HA.out).symm)
          have hlti : ¬ (c.ro.length : Int) < (c.ro.length : Int) := by omega
          go_wp2_with (first | ((with_reducible refine gate_store rfl ?_); apply Fr.fr_store hF.out rfl rfl rfl; (case hp => rfl); (case hx => first | (go_simp; rfl) | rfl); (case hu => (simp only [Value.cells]; rfl)); (case hs => (repeat (first | exact Fr.Spot.here _ _ | apply Fr.Spot.there))); (case ht => kernel_rfl); (case h1 => simp [Value.oneCell']); (case hfit => simp); intro W hF1; simp only [Fr.patch, List.take_zero, List.nil_append, List.drop, List.append_nil, List.take, List.cons_append, List.length_cons, List.length_nil, Nat.reduceAdd] at hF1; have HC1 := hF1.cells; simp only [Fr.Cells, List.length_cons, List.length_nil, Nat.reduceAdd, and_true] at HC1; clear hF HC; have HC := HC1; have hF := Aside0.mk hF1; clear hF1 HC1) | ((first | (with_reducible refine Fr.gate_alloc rfl ?_) | (with_reducible refine Fr.gate_box rfl ?_)); apply Fr.fr_box hF.out rfl; (case hrun => first | (go_simp; done) | (go_simp; rfl)); intro g W hF1; have HC1 := hF1.cells; simp only [Fr.Cells, List.length_cons, List.length_nil, Nat.reduceAdd, and_true] at HC1; clear hF HC; have HC := HC1; have hF := Aside0.mk hF1; clear hF1 HC1))
          try rw [Exit.noGoto_ret]
          go_ret2
          exact ⟨by rw [HV.out.1, HV.out.2]; rfl, hF.out.below⟩
theorem C_blk {α : Type} {d : Kd α} {w : World} {g t : Nat} {cs : List Value} {xs : List α} (hb : w.heap[g]? = some (.cells cs.toArray t (0, 0))) (hr : Reps (d.K w) d.sz xs cs) (hl : xs.length ≤ 9223372036854775807) : Kd.C d w (some ⟨g, 0, none⟩) xs.length xs := by
  refine ⟨rfl, hl, fun _ => ⟨_, rfl, fun j p hj => ⟨_, d.K_len (hr.2 j p hj), hr.2 j p hj, fun i u hu => ?_⟩⟩⟩
  have h1 := blk_cell hb (j * d.sz + i)
  rw [show (⟨g, 0, none⟩ : Addr).add (j * d.sz + i) = ⟨g, j * d.sz + i, none⟩ by unfold Addr.add; split <;> simp_all, h1]
  have hi : i < d.sz := by have := (List.getElem?_eq_some_iff.1 hu).1; simp at this; omega
  simpa [List.getElem?_take, hi] using hu
def cutC (c : Cf) : Cf := ⟨c.rs.take 6, c.ro.take 6, c.rep, c.beat⟩
theorem few_calls (g : Nat) (hg : g = 30 ∨ g = 41) (c : Cf) (A0 : Option Addr) (c0 : Nat) (A1 : Option Addr) (c1 : Nat) (w : World) (hl0 : c.rs.length ≤ c0) (hl1 : c.ro.length ≤ c1) (hm0 : c.rs.length ≤ 9223372036854775807) (hm1 : c.ro.length ≤ 9223372036854775807) :
    Calls Try.prog g #[.agg #[.slice A0 c.rs.length c0, .slice A1 c.ro.length c1, .int .i64 c.rep, .int .i64 c.beat]] w fun e w' => e = .returned (.agg #[.slice A0 (cutC c).rs.length c0, .slice A1 (cutC c).ro.length c1, .int .i64 (cutC c).rep, .int .i64 (cutC c).beat]) ∧ Below w.heap.size w w' := by
  show Calls Try.prog g #[.agg #[.slice A0 c.rs.length c0, .slice A1 c.ro.length c1, .int .i64 c.rep, .int .i64 c.beat]] w fun e w' => e = .returned (.agg #[.slice A0 (c.rs.take 6).length c0, .slice A1 (c.ro.take 6).length c1, .int .i64 c.rep, .int .i64 c.beat]) ∧ Below w.heap.size w w'
  obtain ⟨n, hn⟩ : ∃ n, (c.rs.take 6).length = n := ⟨_, rfl⟩
  have h1 : (if (6 : Int) < (c.rs.length : Int) then 6 else (c.rs.length : Int)) = (n : Int) := by rw [← hn, List.length_take]; split <;> omega
  have h2 : n ≤ c0 := by rw [← hn, List.length_take]; omega
  obtain ⟨m, hm⟩ : ∃ m, (c.ro.take 6).length = m := ⟨_, rfl⟩
  have h3 : (if (6 : Int) < (c.ro.length : Int) then 6 else (c.ro.length : Int)) = (m : Int) := by rw [← hm, List.length_take]; split <;> omega
  have h4 : m ≤ c1 := by rw [← hm, List.length_take]; omega
  rw [hn, hm]
  clear hn hm hl0 hl1
  have hF := Aside0.mk (Fr.Frame.start w)
  have HC : True := trivial
  rcases hg with rfl | rfl
  · go_enter Try.func30, Try.ntmps30
    go_wp2_with (first | ((with_reducible refine gate_store rfl ?_); apply Fr.fr_store hF.out rfl rfl rfl; (case hp => rfl); (case hx => first | (go_simp; rfl) | rfl); (case hu => (simp only [Value.cells]; rfl)); (case hs => (repeat (first | exact Fr.Spot.here _ _ | apply Fr.Spot.there))); (case ht => kernel_rfl); (case h1 => simp [Value.oneCell']); (case hfit => simp); intro W hF1; simp only [Fr.patch, List.take_zero, List.nil_append, List.drop, List.append_nil, List.take, List.cons_append, List.length_cons, List.length_nil, Nat.reduceAdd] at hF1; have HC1 := hF1.cells; simp only [Fr.Cells, List.length_cons, List.length_nil, Nat.reduceAdd, and_true] at HC1; clear hF HC; have HC := HC1; have hF := Aside0.mk hF1; clear hF1 HC1) | ((first | (with_reducible refine Fr.gate_alloc rfl ?_) | (with_reducible refine Fr.gate_box rfl ?_)); apply Fr.fr_box hF.out rfl; (case hrun => first | (go_simp; done) | (go_simp; rfl)); intro g W hF1; have HC1 := hF1.cells; simp only [Fr.Cells, List.length_cons, List.length_nil, Nat.reduceAdd, and_true] at HC1; clear hF HC; have HC := HC1; have hF := Aside0.mk hF1; clear hF1 HC1))
    refine bodyPost_ret ?_ rfl ⟨rfl, hF.out.below⟩
    simp [results, Try.results30, go_sem, HC]
  · go_enter Try.func41, Try.ntmps41
    go_wp2_with (first | ((with_reducible refine gate_store rfl ?_); apply Fr.fr_store hF.out rfl rfl rfl; (case hp => rfl); (case hx => first | (go_simp; rfl) | rfl); (case hu => (simp only [Value.cells]; rfl)); (case hs => (repeat (first | exact Fr.Spot.here _ _ | apply Fr.Spot.there))); (case ht => kernel_rfl); (case h1 => simp [Value.oneCell']); (case hfit => simp); intro W hF1; simp only [Fr.patch, List.take_zero, List.nil_append, List.drop, List.append_nil, List.take, List.cons_append, List.length_cons, List.length_nil, Nat.reduceAdd] at hF1; have HC1 := hF1.cells; simp only [Fr.Cells, List.length_cons, List.length_nil, Nat.reduceAdd, and_true] at HC1; clear hF HC; have HC := HC1; have hF := Aside0.mk hF1; clear hF1 HC1) | ((first | (with_reducible refine Fr.gate_alloc rfl ?_) | (with_reducible refine Fr.gate_box rfl ?_)); apply Fr.fr_box hF.out rfl; (case hrun => first | (go_simp; done) | (go_simp; rfl)); intro g W hF1; have HC1 := hF1.cells; simp only [Fr.Cells, List.length_cons, List.length_nil, Nat.reduceAdd, and_true] at HC1; clear hF HC; have HC := HC1; have hF := Aside0.mk hF1; clear hF1 HC1))
    refine bodyPost_ret ?_ rfl ⟨rfl, hF.out.below⟩
    simp [results, Try.results41, go_sem, HC]
theorem w64' {n : Int} (h : -9223372036854775808 ≤ n) (h' : n ≤ 9223372036854775807) : wrap64 n = n := by unfold wrap64; omega
theorem mn_is (a b : Int) : mn a b = if a < b then a else b := by unfold mn; split <;> split <;> omega
theorem tm_iff (t : Int) : tmB t = true ↔ 0 ≤ t ∧ t ≤ 1099511627776 := by unfold tmB; simp
theorem u64mod (a m : Int) (hm : 0 < m) : 0 ≤ Int.tmod (IntKind.u64.wrap a) m ∧ Int.tmod (IntKind.u64.wrap a) m < m := by
  have e : IntKind.u64.wrap a = a % 18446744073709551616 := by simp [IntKind.wrap, IntKind.signed, IntKind.bits]
  rw [e]
  have h0 := Int.emod_nonneg a (show (18446744073709551616 : Int) ≠ 0 by decide)
  rw [Int.tmod_eq_emod_of_nonneg h0]
  exact ⟨Int.emod_nonneg _ (by omega), Int.emod_lt_of_pos _ hm⟩
end Go.Proofs.Ytkphinfijppkeaa.G
namespace Go.Proofs.Ytkphinfijppkeaa.G
open Go.RowKit Go.Proofs.YtkphinfijppkeaaW.PrintWords Go.Proofs.YtkphinfijppkeaaW.PrintLast Go.Proofs.YtkphinfijppkeaaW.PrintMore
attribute [local go_sem] max2_int min2_int max_two min_two max_three min_three max_four min_four   -- for this text's walks alone
set_option linter.unusedVariables false
set_option linter.unusedSimpArgs false
theorem eqA88 (d : Nat) (w : World) (x0 y0 : Int) (x1 y1 : ByteArray) (x2 y2 : ByteArray) :
    (Op.equalIn (d + 2) 88 (.agg #[.int .i64 x0, .string x1, .string x2]) (.agg #[.int .i64 y0, .string y1, .string y2])).run Try.prog w = .ok (x0 == y0 && (x1.toList == y1.toList && (x2.toList == y2.toList))) w := by
  refine eqA_of Try.underlying88 (by kernel_rfl) ?_
  refine eqf_cons (by rfl) (by go_simp; rfl) (by go_simp; rfl) (by go_simp) ?_
  refine eqf_cons (by rfl) (by go_simp; rfl) (by go_simp; rfl) (by go_simp) ?_
  exact eqf_last (by rfl) (by go_simp; rfl) (by go_simp; rfl) (by go_simp)
end Go.Proofs.Ytkphinfijppkeaa.G
namespace Go.Proofs.Ytkphinfijppkeaa.G
open Go.RowKit Go.Proofs.YtkphinfijppkeaaW.PrintWords Go.Proofs.YtkphinfijppkeaaW.PrintLast Go.Proofs.YtkphinfijppkeaaW.PrintMore
attribute [local go_sem] max2_int min2_int max_two min_two max_three min_three max_four min_four   -- for this text's walks alone
set_option linter.unusedVariables false
set_option linter.unusedSimpArgs false
attribute [local go_sem high] eqA88
end Go.Proofs.Ytkphinfijppkeaa.G
namespace Go.Proofs.Ytkphinfijppkeaa.G
open Go.RowKit Go.Proofs.YtkphinfijppkeaaW.PrintWords Go.Proofs.YtkphinfijppkeaaW.PrintLast Go.Proofs.YtkphinfijppkeaaW.PrintMore
attribute [local go_sem] max2_int min2_int max_two min_two max_three min_three max_four min_four   -- for this text's walks alone
set_option linter.unusedVariables false
set_option linter.unusedSimpArgs false
end Go.Proofs.Ytkphinfijppkeaa.G
namespace Go.Proofs.Ytkphinfijppkeaa.G
open Go.RowKit Go.Proofs.YtkphinfijppkeaaW.PrintWords Go.Proofs.YtkphinfijppkeaaW.PrintLast Go.Proofs.YtkphinfijppkeaaW.PrintMore
attribute [local go_sem] max2_int min2_int max_two min_two max_three min_three max_four min_four
set_option linter.unusedVariables false
set_option linter.unusedSimpArgs false
end Go.Proofs.Ytkphinfijppkeaa.G
namespace Go.Proofs.Ytkphinfijppkeaa.G
open Go.RowKit Go.Proofs.YtkphinfijppkeaaW.PrintWords Go.Proofs.YtkphinfijppkeaaW.PrintLast Go.Proofs.YtkphinfijppkeaaW.PrintMore
attribute [local go_sem] max2_int min2_int max_two min_two max_three min_three max_four min_four   -- for this text's walks alone
set_option linter.unusedVariables false
set_option linter.unusedSimpArgs false
end Go.Proofs.Ytkphinfijppkeaa.G
namespace Go.Proofs.Ytkphinfijppkeaa.G
open Go.RowKit Go.Proofs.YtkphinfijppkeaaW.PrintWords Go.Proofs.YtkphinfijppkeaaW.PrintLast Go.Proofs.YtkphinfijppkeaaW.PrintMore
attribute [local go_sem] max2_int min2_int max_two min_two max_three min_three max_four min_four
set_option linter.unusedVariables false
set_option linter.unusedSimpArgs false
abbrev M63 : Nat := 9223372036854775807
def MOk (m : S88) : Prop := m.f1.size ≤ M63 ∧ m.f2.size ≤ M63
def ROk (x : S58) : Prop := x.f0.length ≤ M63 ∧ x.f1.length ≤ M63 ∧ ∀ m ∈ x.f1, MOk m
def CfOk (c : Cf) : Prop := c.rs.length ≤ M63 ∧ c.ro.length ≤ M63 ∧ (∀ r ∈ c.rs, r.f0.size ≤ M63) ∧ ∀ x ∈ c.ro, ROk x
theorem cfg_routes {c : Cf} (h : cfgB c = true) : ∀ x ∈ c.ro, routeB c.rs.length x = true := by
  unfold cfgB at h
  simp only [Bool.and_eq_true] at h
  exact List.all_eq_true.1 h.2.1
theorem take_C {α : Type} {d : Kd α} {w : World} {A : Option Addr} {l L : List α} (n : Nat) (hr : Kd.C d w A l.length l) (hL : l.take n = L) : Kd.C d w A L.length L := by
  have h := Kd.C_take (m := min n l.length) hr (by omega)
  have e : l.take (min n l.length) = L := by
    rw [← hL]
    rcases Nat.le_total l.length n with h | h
    · rw [Nat.min_eq_right h, List.take_length, List.take_of_length_le h]
    · rw [Nat.min_eq_left h]
  rwa [e] at h
def LOk (x : S92) : Prop := x.f0.size ≤ M63 ∧ x.f1.size ≤ M63
def W74 (x : S74) : Prop := ((Lit.int .i64 x.f0).wf = true) ∧ ((Lit.int .i64 x.f1).wf = true) ∧ ((Lit.int .i64 x.f2).wf = true)
def W76 (x : S76) : Prop := (x.f0.size ≤ maxLen) ∧ (W74 x.f1) ∧ ((Lit.int .i64 x.f2).wf = true) ∧ ((Lit.int .i64 x.f3).wf = true) ∧ ((Lit.int .i64 x.f4).wf = true) ∧ ((Lit.int .i64 x.f5).wf = true) ∧ ((Lit.int .i64 x.f6).wf = true)
def W88 (x : S88) : Prop := ((Lit.int .i64 x.f0).wf = true) ∧ (x.f1.size ≤ maxLen) ∧ (x.f2.size ≤ maxLen)
def W58 (x : S58) : Prop := (x.f0.length ≤ maxLen ∧ ∀ x_ ∈ x.f0, ((Lit.int .i64 x_).wf = true)) ∧ (x.f1.length ≤ maxLen ∧ ∀ x_ ∈ x.f1, (W88 x_))
def WCf (rs : List S76) (ro : List S58) (rep beat : Int) : Prop := (rs.length ≤ maxLen ∧ ∀ x_ ∈ rs, (W76 x_)) ∧ (ro.length ≤ maxLen ∧ ∀ x_ ∈ ro, (W58 x_)) ∧ ((Lit.int .i64 rep).wf = true) ∧ ((Lit.int .i64 beat).wf = true)
def WLs (l : List S92) : Prop := l.length ≤ maxLen ∧ ∀ z ∈ l, (z.f0.size ≤ maxLen) ∧ (z.f1.size ≤ maxLen)
theorem WCf.ok {rs : List S76} {ro : List S58} {rep beat : Int} (h : WCf rs ro rep beat) : CfOk ⟨rs, ro, rep, beat⟩ ∧ ∀ x ∈ ro, WfR x :=
  ⟨⟨h.1.1, h.2.1.1, fun r hr => (h.1.2 r hr).1, fun x hx => ⟨(h.2.1.2 x hx).1.1, (h.2.1.2 x hx).2.1, fun m hm => ⟨((h.2.1.2 x hx).2.2 m hm).2.1, ((h.2.1.2 x hx).2.2 m hm).2.2⟩⟩⟩, fun x hx k hk => (h.2.1.2 x hx).1.2 k hk⟩
theorem WLs.ok {l : List S92} (h : WLs l) : ∀ x ∈ l, LOk x := fun x hx => h.2 x hx
structure Dy where
  ls : List S92
  ro : Int
  pl : Int
  tr : Int
  due : Int
  st : Int
end Go.Proofs.Ytkphinfijppkeaa.G
