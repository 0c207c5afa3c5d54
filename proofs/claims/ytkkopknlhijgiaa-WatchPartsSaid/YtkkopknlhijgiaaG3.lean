/- Contracts of functions of the given program, each proved by a walk of its code: written by gprint.py, this session's program round the kit's print; texts of our own stand among the printed ones. No condition beyond each theorem's own premises. -/
import Derived.Test.YtkkopknlhijgiaaG0
namespace Go.Proofs.Ytkkopknlhijgiaa.G
open Go.RowKit Go.Proofs.YtkkopknlhijgiaaW.PrintWords Go.Proofs.YtkkopknlhijgiaaW.PrintLast Go.Proofs.YtkkopknlhijgiaaW.PrintMore
attribute [local go_sem] max2_int min2_int max_two min_two max_three min_three max_four min_four   -- for this text's walks alone
set_option linter.unusedVariables false
set_option linter.unusedSimpArgs false

/-! ### watch_only: function 57 -/
attribute [local go_sem] Oper.semAt_some
open Go.Shelf
/-- A predicate handed over: it answers by p, in every world that has grown out of w. -/
def PredS (g : Nat) (cap : Array Value) (p : S51 → Bool) (w : World) : Prop := ∀ (x : S51) (W : World), Below w.heap.size w W → Calls Try.prog g (#[.agg #[.int .i64 x.f0, .int .i64 x.f1, .string x.f2, .bool x.f3]] ++ cap) W fun e W' => e = .returned (.bool (p x)) ∧ Below W.heap.size W W'
theorem rd_take (l : List S51) (p : S51 → Bool) (k : Nat) (hk : k < l.length) : (l.take (k + 1)).filter p = if p (rd_T51 l k) then (l.take k).filter p ++ [rd_T51 l k] else (l.take k).filter p := by
  have e : rd_T51 l k = l[k] := by simp [rd_T51, List.getD_eq_getElem?_getD, hk]
  rw [List.take_succ_eq_append_getElem hk, List.filter_append, e]
  by_cases h : p l[k] = true
  · rw [if_pos h]; simp [h]
  · rw [if_neg h]; simp [h]
set_option maxHeartbeats 2000000 in
set_option maxRecDepth 100000 in
theorem only_calls (gf : Nat) (cap : Array Value) (p : S51 → Bool) (eg : ∀ args w, (callFunc gf args).run Try.prog w = .ok (.enter gf args) w) (A : Option Addr) (c : Nat) (l : List S51) (w : World) (hr : Kd.C k51 w A l.length l) (hlen : l.length * 40 ≤ 140737488351232) (hp : PredS gf cap p w) :
    Calls Try.prog 57 #[.slice A l.length c, .func (.func gf) #[] cap] w fun e w' => ∃ v, e = .returned v ∧ Kd.R k51 51 w' w.heap.size (fun _ => True) v (l.filter p) ∧ Below w.heap.size w w' := by
  have HR := Aside0.mk hr
  have HP := Aside0.mk hp
  clear hr hp
  go_enter Try.func57, Try.ntmps57
  go_wp2
  go_loopg [5, 10] l.length (fun kq v5 v10 w' => ∃ k : Nat, k ≤ l.length ∧ l.length - k ≤ kq ∧ v10 = .int .i64 k ∧ Aside0 (∃ S, Fr.Frame w w' [] [Fr.rowR k51 51 w.heap.size v5 ((l.take k).filter p) S]))
  case atStart =>
    refine ⟨0, Nat.zero_le _, by omega, rfl, ⟨?_⟩⟩
    exact (Fr.Frame.start w).rowIn (Kd.R_nil k51 51 w w.heap.size (fun _ => True)) (fun k _ b hb => by simp at hb)
  case round =>
    obtain ⟨k, hk, hg, rfl, HF⟩ := hrel
    obtain ⟨S, hF0⟩ := HF.out
    have hF := Aside0.mk hF0
    have hB := hF0.below
    clear HF hF0
    have HC : True := trivial
    by_cases hlt : k < l.length
    · have hlti : (k : Int) < (l.length : Int) := by omega
      obtain ⟨ad, e1, a0, a1, a2, a3⟩ := at_T51 HR.out (k : Int) (by omega) hlti
      cases e1
      replace a0 := (hB.cell (World.block_lt_of_cell? w _ a0)).trans a0
      replace a1 := (hB.cell (World.block_lt_of_cell? w _ a1)).trans a1
      replace a2 := (hB.cell (World.block_lt_of_cell? w _ a2)).trans a2
      replace a3 := (hB.cell (World.block_lt_of_cell? w _ a3)).trans a3
      rw [Int.toNat_natCast] at a0 a1 a2 a3
      have HBW := Aside0.mk hB
      clear hB
      have HL := Aside0.mk (show (((l.take k).filter p).length + 1) * 40 ≤ 140737488355328 by have := List.length_filter_le p (l.take k); have := List.length_take_le k l; omega)
      have HT := Aside0.mk (rd_take l p k hlt)
      cases hq : p (rd_T51 l k) with
      | true =>
        have HQ := Aside0.mk hq
        clear hq
        go_wp2_with (first | (go_at_fn gf; refine (HP.out (rd_T51 l k) _ hF.out.below).mono ?_; rintro e W1 ⟨rfl, hb⟩; have hF1 := hF.out.call hb; clear hb; simp only [HQ.out]; have HC1 := hF1.cells; simp only [Fr.Cells, List.length_cons, List.length_nil, Nat.reduceAdd, and_true] at HC1; clear hF HC; have HC := HC1; have hF := Aside0.mk hF1; clear hF1 HC1) | ((with_reducible refine gate_builtin (b := .append) (xs := #[.tmp 17, .tmp 19]) rfl ?_); refine Fr.fr_append k51 (.tmp 17) (.tmp 19) 49 51 (.agg #[(.int .i64 0), (.int .i64 0), (.string ⟨#[]⟩), (.bool false)]) 40 (rd_T51 l k) [.int .i64 (rd_T51 l k).f0, .int .i64 (rd_T51 l k).f1, .string (rd_T51 l k).f2, .bool (rd_T51 l k).f3] hF.out rfl rfl Try.underlying49 info51 rfl (by decide) (by omega) rfl (by first | (go_simp; done) | (go_simp; rfl)) (k51_mkM _ _ _ _) HL.out ?_; intro v1 W2 S1 hF1; have HC1 := hF1.cells; simp only [Fr.Cells, List.length_cons, List.length_nil, Nat.reduceAdd, and_true] at HC1; clear hF HC; have HC := HC1; have hF := Aside0.mk hF1; clear hF1 HC1) | ((with_reducible refine gate_store rfl ?_); apply Fr.fr_store hF.out rfl rfl rfl; (case hp => rfl); (case hx => first | (go_simp; rfl) | rfl); (case hu => (simp only [Value.cells]; rfl)); (case hs => (repeat (first | exact Fr.Spot.here _ _ | apply Fr.Spot.there))); (case ht => kernel_rfl); (case h1 => simp [Value.oneCell']); (case hfit => simp); intro W hF1; simp only [Fr.patch, List.take_zero, List.nil_append, List.drop, List.append_nil, List.take, List.cons_append, List.length_cons, List.length_nil, Nat.reduceAdd] at hF1; have HC1 := hF1.cells; simp only [Fr.Cells, List.length_cons, List.length_nil, Nat.reduceAdd, and_true] at HC1; clear hF HC; have HC := HC1; have hF := Aside0.mk hF1; clear hF1 HC1) | ((first | (with_reducible refine Fr.gate_alloc rfl ?_) | (with_reducible refine Fr.gate_box rfl ?_)); apply Fr.fr_box hF.out rfl; (case hrun => first | (go_simp; done) | (go_simp; rfl)); intro g W hF1; have HC1 := hF1.cells; simp only [Fr.Cells, List.length_cons, List.length_nil, Nat.reduceAdd, and_true] at HC1; clear hF HC; have HC := HC1; have hF := Aside0.mk hF1; clear hF1 HC1))
        go_roundg (l.length - (k + 1))
        case measure => omega
        case rel => exact ⟨k + 1, by omega, by omega, by go_num, ⟨by rw [HT.out, if_pos HQ.out]; exact ⟨_, hF.out.forget⟩⟩⟩
      | false =>
        have HQ := Aside0.mk hq
        clear hq
        go_wp2_with (first | (go_at_fn gf; refine (HP.out (rd_T51 l k) _ hF.out.below).mono ?_; rintro e W1 ⟨rfl, hb⟩; have hF1 := hF.out.call hb; clear hb; simp only [HQ.out]; have HC1 := hF1.cells; simp only [Fr.Cells, List.length_cons, List.length_nil, Nat.reduceAdd, and_true] at HC1; clear hF HC; have HC := HC1; have hF := Aside0.mk hF1; clear hF1 HC1) | ((with_reducible refine gate_store rfl ?_); apply Fr.fr_store hF.out rfl rfl rfl; (case hp => rfl); (case hx => first | (go_simp; rfl) | rfl); (case hu => (simp only [Value.cells]; rfl)); (case hs => (repeat (first | exact Fr.Spot.here _ _ | apply Fr.Spot.there))); (case ht => kernel_rfl); (case h1 => simp [Value.oneCell']); (case hfit => simp); intro W hF1; simp only [Fr.patch, List.take_zero, List.nil_append, List.drop, List.append_nil, List.take, List.cons_append, List.length_cons, List.length_nil, Nat.reduceAdd] at hF1; have HC1 := hF1.cells; simp only [Fr.Cells, List.length_cons, List.length_nil, Nat.reduceAdd, and_true] at HC1; clear hF HC; have HC := HC1; have hF := Aside0.mk hF1; clear hF1 HC1) | ((first | (with_reducible refine Fr.gate_alloc rfl ?_) | (with_reducible refine Fr.gate_box rfl ?_)); apply Fr.fr_box hF.out rfl; (case hrun => first | (go_simp; done) | (go_simp; rfl)); intro g W hF1; have HC1 := hF1.cells; simp only [Fr.Cells, List.length_cons, List.length_nil, Nat.reduceAdd, and_true] at HC1; clear hF HC; have HC := HC1; have hF := Aside0.mk hF1; clear hF1 HC1))
        go_roundg (l.length - (k + 1))
        case measure => omega
        case rel => exact ⟨k + 1, by omega, by omega, by go_num, ⟨by rw [HT.out, if_neg (by rw [HQ.out]; decide)]; exact ⟨_, hF.out.forget⟩⟩⟩
    · have : k = l.length := by omega
      subst this
      have HT := Aside0.mk (List.take_length (l := l))
      go_wp2
      go_ret
      exact ⟨_, rfl, by have := (hF.out.rowAt List.mem_cons_self); rw [HT.out] at this; exact Kd.R_mono this (fun _ _ => trivial), hF.out.below⟩


/-! ### watch_apart: function 59 -/
def watch_apart.f (a0 : Int) (a1 : Int) : Option (Int) := some (IntKind.u64.wrap ((IntKind.u64.wrap (a1)) - (IntKind.u64.wrap (a0))))
set_option maxHeartbeats 8000000 in
set_option maxRecDepth 100000 in
theorem watch_apart.calls (a0 : Int) (a1 : Int) (r : Int) (w : World) (h : watch_apart.f a0 a1 = some r) :
    Calls Try.prog 59 #[.int .i64 a0, .int .i64 a1] w fun e w' => e = .returned (.int .u64 r) ∧ Drawn0 w w' := by
  have H : (some (IntKind.u64.wrap ((IntKind.u64.wrap (a1)) - (IntKind.u64.wrap (a0))))) = some r := h
  clear h
  obtain rfl := Option.some.inj H
  go_enter Try.func59, Try.ntmps59
  go_wp2
  go_ret
  exact ⟨by first | rfl | (simp; done) | (simp [*]; done), by repeat (first | exact Drawn0.refl _ | apply Drawn0.step)⟩

end Go.Proofs.Ytkkopknlhijgiaa.G
