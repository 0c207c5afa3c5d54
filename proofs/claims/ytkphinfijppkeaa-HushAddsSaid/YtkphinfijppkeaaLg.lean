/- Contracts of functions of the given program: what each comes to, for any arguments. No condition beyond each theorem's own premises. -/
import Derived.Test.YtkphinfijppkeaaLf
namespace Go.Proofs.Ytkphinfijppkeaa.G
open Go.RowKit Go.Proofs.YtkphinfijppkeaaW.PrintWords Go.Proofs.YtkphinfijppkeaaW.PrintLast Go.Proofs.YtkphinfijppkeaaW.PrintMore
attribute [local go_sem] max2_int min2_int max_two min_two max_three min_three max_four min_four
set_option linter.unusedVariables false
set_option linter.unusedSimpArgs false
section
variable {P : Program} {ops : Array Oper} {rest : List Oper} {o : Oper} {a : Act} {Q : Exit → Act → World → Prop} {w0 W : World} {bs : List Fr.Blk} {rs : List Fr.Row}
/-- A slice of some elements: a new block. -/
theorem fr_slice (hF : Fr.Frame w0 W bs rs) (hgd : o.guard = none) {cs : List Value} {t : TypeId} {n : Nat}
    (hrun : (execOp a.eval o).run P W = .ok (.value (.slice (some ⟨W.heap.size, 0, none⟩) n n)) (W.alloc (.cells cs.toArray t (0, 0))))
    (h : ∀ g w1, Fr.Frame w0 w1 ((g, cs, t) :: bs) rs → wpList P ops Q rest (a.put o.dst (.slice (some ⟨g, 0, none⟩) n n)) w1) : wpList P ops Q (o :: rest) a W :=
  Kd.event_run hgd hrun (h _ _ (hF.alloc cs t))
theorem gate_bslice {t : TypeId} {n : Nat} {ps : Array (Nat × Operand)} (_ho : o.op = .buildSlice t n ps) (h : wpList P ops Q (o :: rest) a W) : wpList P ops Q (o :: rest) a W := h
end
theorem C_one {α : Type} {d : Kd α} {w0 w : World} {bs : List Fr.Blk} {rs : List Fr.Row} {g t : Nat} {cs : List Value} {x : α} (hF : Fr.Frame w0 w ((g, cs, t) :: bs) rs) (hK : d.K w x cs) : Kd.C d w (some ⟨g, 0, none⟩) [x].length [x] := by
  have hb := (hF.blk (g, cs, t) List.mem_cons_self).2
  refine ⟨rfl, by simp, fun _ => ⟨_, rfl, fun j p hj => ?_⟩⟩
  cases j with
  | zero =>
    obtain rfl : x = p := by simpa using hj
    refine ⟨cs, d.K_len hK, hK, fun i u hu => ?_⟩
    rw [Nat.zero_mul, Nat.zero_add]
    have := blk_cell hb i
    simp only at this
    rw [show (⟨g, 0, none⟩ : Addr).add i = ⟨g, i, none⟩ by unfold Addr.add; split <;> simp_all, this]
    simpa using hu
  | succ j => simp at hj
theorem cell_al {w : World} {a : Addr} {v : Value} (h : w.cell? a = some v) (o : Obj) : (w.alloc o).cell? a = some v := Go.cell_kept h (World.grownBy_alloc w o none) (fun r e => by cases e)
theorem one_pred (l : List S92) (A : Option Addr) (c : Nat) (B : Nat) (w : World) (h0 : w.cell? ⟨B, 0, none⟩ = some (.slice A l.length c)) (hr : Kd.C k92 w A l.length l) : Pred88 (fun _ => True) 93 #[.pointer (some ⟨B, 0, none⟩)] (fun m => allV [m] l) w := by
  intro x W0 _ hB
  have HR := Aside0.mk (Kd.C_below hr hB)
  have c1 := (hB.cell (World.block_lt_of_cell? w _ h0)).trans h0
  have HW := World.block_lt_of_cell? W0 _ c1
  have HCC := Aside0.mk (fun (W' : World) (hb : Below W0.heap.size W0 W') => (hb.cell (p := ⟨B, 0, none⟩) HW).trans c1)
  clear h0 hB hr c1 HW
  show Calls Try.prog 93 #[.agg #[.int .i64 x.f0, .string x.f1, .string x.f2], .pointer (some ⟨B, 0, none⟩)] W0 _
  have hF := Aside0.mk (Fr.Frame.start W0)
  have HC : True := trivial
  have cB := HCC.out _ (Below.refl _ _)
  have kcB := fun o => cell_al cB o
  go_enter Try.func93, Try.ntmps93
  go_wp2_with (first | ((with_reducible refine gate_store rfl ?_); apply Fr.fr_store hF.out rfl rfl rfl; (case hp => rfl); (case hx => first | (go_simp; rfl) | rfl); (case hu => (simp only [Value.cells]; rfl)); (case hs => (repeat (first | exact Fr.Spot.here _ _ | apply Fr.Spot.there))); (case ht => kernel_rfl); (case h1 => simp [Value.oneCell']); (case hfit => simp); intro W hF1; simp only [Fr.patch, List.take_zero, List.nil_append, List.drop, List.append_nil, List.take, List.cons_append, List.length_cons, List.length_nil, Nat.reduceAdd] at hF1; have HC1 := hF1.cells; simp only [Fr.Cells, List.length_cons, List.length_nil, Nat.reduceAdd, and_true] at HC1; clear hF HC; have HC := HC1; have hF := Aside0.mk hF1; clear hF1 HC1; clear cB kcB; have cB := HCC.out _ hF.out.below; have kcB := fun o => cell_al cB o) | ((first | (with_reducible refine Fr.gate_alloc rfl ?_) | (with_reducible refine Fr.gate_box rfl ?_)); apply Fr.fr_box hF.out rfl; (case hrun => first | (go_simp; done) | (go_simp; rfl)); intro g W hF1; have HC1 := hF1.cells; simp only [Fr.Cells, List.length_cons, List.length_nil, Nat.reduceAdd, and_true] at HC1; clear hF HC; have HC := HC1; have hF := Aside0.mk hF1; clear hF1 HC1; clear cB kcB; have cB := HCC.out _ hF.out.below; have kcB := fun o => cell_al cB o))
  have hF2 := hF.out.alloc [.int .i64 x.f0, .string x.f1, .string x.f2] 88
  have hh := all_calls (some ⟨W.heap.size, 0, none⟩) 1 [x] A c l _ (C_one hF2 (k88_mk _ x)) (Kd.C_below HR.out hF2.below)
  simp only [List.length_cons, List.length_nil, Nat.reduceAdd] at hh
  (with_reducible refine hh.mono ?_)
  clear hh
  rintro e W ⟨rfl, hb⟩
  have hF1 := hF2.call hb
  clear hb hF2
  have HC1 := hF1.cells; simp only [Fr.Cells, List.length_cons, List.length_nil, Nat.reduceAdd, and_true] at HC1; clear hF HC; have HC := HC1; have hF := Aside0.mk hF1; clear hF1 HC1; clear cB kcB; have cB := HCC.out _ hF.out.below; have kcB := fun o => cell_al cB o
  go_wp2_with (first | ((with_reducible refine gate_store rfl ?_); apply Fr.fr_store hF.out rfl rfl rfl; (case hp => rfl); (case hx => first | (go_simp; rfl) | rfl); (case hu => (simp only [Value.cells]; rfl)); (case hs => (repeat (first | exact Fr.Spot.here _ _ | apply Fr.Spot.there))); (case ht => kernel_rfl); (case h1 => simp [Value.oneCell']); (case hfit => simp); intro W hF1; simp only [Fr.patch, List.take_zero, List.nil_append, List.drop, List.append_nil, List.take, List.cons_append, List.length_cons, List.length_nil, Nat.reduceAdd] at hF1; have HC1 := hF1.cells; simp only [Fr.Cells, List.length_cons, List.length_nil, Nat.reduceAdd, and_true] at HC1; clear hF HC; have HC := HC1; have hF := Aside0.mk hF1; clear hF1 HC1; clear cB kcB; have cB := HCC.out _ hF.out.below; have kcB := fun o => cell_al cB o) | ((first | (with_reducible refine Fr.gate_alloc rfl ?_) | (with_reducible refine Fr.gate_box rfl ?_)); apply Fr.fr_box hF.out rfl; (case hrun => first | (go_simp; done) | (go_simp; rfl)); intro g W hF1; have HC1 := hF1.cells; simp only [Fr.Cells, List.length_cons, List.length_nil, Nat.reduceAdd, and_true] at HC1; clear hF HC; have HC := HC1; have hF := Aside0.mk hF1; clear hF1 HC1; clear cB kcB; have cB := HCC.out _ hF.out.below; have kcB := fun o => cell_al cB o))
  go_ret
  exact ⟨rfl, hF.out.below⟩
def hitB (l : List S92) (now : Int) (h : S25) : Bool := decide (h.f0 ≤ now) && (decide (now < h.f1) && h.f2.all fun m => allV [m] l)
def mxI (a b : Int) : Int := if a < b then b else a
def tillG (l : List S92) (now out : Int) (hs : List S25) : Int := hs.foldl (fun o h => if hitB l now h = true then mxI o h.f1 else o) out
theorem tillG_snoc (l : List S92) (now out : Int) (hs : List S25) (k : Nat) (hk : k < hs.length) : tillG l now out (hs.take (k + 1)) = if hitB l now (rd_T25 hs (k : Nat)) = true then mxI (tillG l now out (hs.take k)) (rd_T25 hs (k : Nat)).f1 else tillG l now out (hs.take k) := by
  rw [rd_get25 hs k hk, List.take_succ_eq_append_getElem hk]
  unfold tillG
  rw [List.foldl_append]
  rfl
theorem E93 : ∀ args w, (callFunc 93 args).run Try.prog w = .ok (.enter 93 args) w := enters_of Try.func93 (by kernel_rfl) rfl
set_option maxHeartbeats 4000000 in
set_option maxRecDepth 100000 in
theorem till_calls (A0 : Option Addr) (c0 : Nat) (hs : List S25) (A1 : Option Addr) (c1 : Nat) (l : List S92) (now : Int) (w : World) (hr0 : Kd.C k25 w A0 hs.length hs) (hr1 : Kd.C k92 w A1 l.length l) :
    Calls Try.prog 60 #[.slice A0 hs.length c0, .slice A1 l.length c1, .int .i64 now] w fun e w' => e = .returned (.int .i64 (tillG l now now hs)) ∧ Below w.heap.size w w' := by
  have HR0 := Aside0.mk hr0
  have HR1 := Aside0.mk hr1
  have hmf : ∀ (fn : Fn) (first cap : Array Value) (w : World), (Instr.makeFunc fn first cap).run Try.prog w = .ok (.func fn first cap) w := fun _ _ _ _ => rfl
  have hll : hs.length ≤ 9223372036854775807 := hr0.2.1
  clear hr0 hr1
  have hF := Aside0.mk (Fr.Frame.start w)
  have HC : True := trivial
  go_enter Try.func60, Try.ntmps60
  go_wp2_with (first | ((with_reducible refine gate_store rfl ?_); apply Fr.fr_store hF.out rfl rfl rfl; (case hp => rfl); (case hx => first | (go_simp; rfl) | rfl); (case hu => (simp only [Value.cells]; rfl)); (case hs => (repeat (first | exact Fr.Spot.here _ _ | apply Fr.Spot.there))); (case ht => kernel_rfl); (case h1 => simp [Value.oneCell']); (case hfit => simp); intro W hF1; simp only [Fr.patch, List.take_zero, List.nil_append, List.drop, List.append_nil, List.take, List.cons_append, List.length_cons, List.length_nil, Nat.reduceAdd] at hF1; have HC1 := hF1.cells; simp only [Fr.Cells, List.length_cons, List.length_nil, Nat.reduceAdd, and_true] at HC1; clear hF HC; have HC := HC1; have hF := Aside0.mk hF1; clear hF1 HC1) | ((with_reducible refine gate_dst (N := 4) rfl ?_); apply Fr.fr_box hF.out rfl; (case hrun => first | (go_simp; done) | (go_simp; rfl)); intro gl W hF1; have HC1 := hF1.cells; simp only [Fr.Cells, List.length_cons, List.length_nil, Nat.reduceAdd, and_true] at HC1; clear hF HC; have HC := HC1; have hF := Aside0.mk hF1; clear hF1 HC1) | ((first | (with_reducible refine Fr.gate_alloc rfl ?_) | (with_reducible refine Fr.gate_box rfl ?_)); apply Fr.fr_box hF.out rfl; (case hrun => first | (go_simp; done) | (go_simp; rfl)); intro g W hF1; have HC1 := hF1.cells; simp only [Fr.Cells, List.length_cons, List.length_nil, Nat.reduceAdd, and_true] at HC1; clear hF HC; have HC := HC1; have hF := Aside0.mk hF1; clear hF1 HC1))
  have hFb := hF
  go_loopg [7, 14] hs.length (fun kq v7 v14 w' => ∃ k : Nat, k ≤ hs.length ∧ hs.length - k ≤ kq ∧ v14 = .int .i64 k ∧ v7 = .int .i64 (tillG l now now (hs.take k)) ∧ Aside0 (Fr.Frame w w' [(gl, [.slice A1 l.length c1], 26)] []))
  case atStart => exact ⟨0, Nat.zero_le _, by omega, rfl, rfl, ⟨hFb.out⟩⟩
  case round =>
    clear hF hFb HC
    obtain ⟨k, hk, hg, rfl, rfl, hF⟩ := hrel
    have HC1 := hF.out.cells
    simp only [Fr.Cells, List.length_cons, List.length_nil, Nat.reduceAdd, and_true] at HC1
    have HC := HC1
    clear HC1
    obtain ⟨out, hout⟩ : ∃ o, tillG l now now (hs.take k) = o := ⟨_, rfl⟩
    rw [hout]
    have HO := Aside0.mk hout
    clear hout
    by_cases hlt : k < hs.length
    · have hlti : (k : Int) < (hs.length : Int) := by omega
      obtain ⟨ad, A2, c2, e1, a0, a1, a2, g0, g1⟩ := at_T25 HR0.out (k : Int) (by omega) hlti
      cases e1
      obtain ⟨x, hx⟩ : ∃ x, rd_T25 hs (k : Int) = x := ⟨_, rfl⟩
      rw [hx] at a0 a1 a2 g0 g1
      have HX := Aside0.mk hx
      clear hx
      replace a0 := (hF.out.below.cell (World.block_lt_of_cell? w _ a0)).trans a0
      replace a1 := (hF.out.below.cell (World.block_lt_of_cell? w _ a1)).trans a1
      replace a2 := (hF.out.below.cell (World.block_lt_of_cell? w _ a2)).trans a2
      rw [Int.toNat_natCast] at a0 a1 a2
      have G1 := Aside0.mk g1
      have hxl : x.f2.length ≤ 9223372036854775807 := g1.2.1
      clear g0 g1
      have HS := Aside0.mk (tillG_snoc l now now hs k hlt)
      have HP := Aside0.mk (fun (W : World) (hb : Below w.heap.size w W) h0 => all_88 (fun _ => True) 93 #[.pointer (some ⟨gl, 0, none⟩)] _ E93 A2 c2 x.f2 W (Kd.C_below G1.out hb) (fun _ _ => trivial) (one_pred l A1 c1 gl W h0 (Kd.C_below HR1.out hb)))
      by_cases h1 : x.f0 ≤ now
      · by_cases h2 : now < x.f1
        · cases h3 : x.f2.all fun m => allV [m] l with
          | true =>
            have H3 := Aside0.mk h3
            have HT := Aside0.mk (show hitB l now x = true by unfold hitB; rw [decide_eq_true h1, decide_eq_true h2, h3]; rfl)
            clear h3
            by_cases hm : out < x.f1
            · have HM := Aside0.mk (show mxI out x.f1 = x.f1 by unfold mxI; rw [if_pos hm])
              go_wp2_with (first | (go_at_call 94; (with_reducible refine (HP.out _ hF.out.below (by have := HC.2.1 0 (by decide); simpa using this)).mono ?_); rintro e W ⟨rfl, hb⟩; simp only [H3.out]; have hF1 := hF.out.call hb; clear hb; have HC1 := hF1.cells; simp only [Fr.Cells, List.length_cons, List.length_nil, Nat.reduceAdd, and_true] at HC1; clear hF HC; have HC := HC1; have hF := Aside0.mk hF1; clear hF1 HC1) | ((with_reducible refine gate_store rfl ?_); apply Fr.fr_store hF.out rfl rfl rfl; (case hp => rfl); (case hx => first | (go_simp; rfl) | rfl); (case hu => (simp only [Value.cells]; rfl)); (case hs => (repeat (first | exact Fr.Spot.here _ _ | apply Fr.Spot.there))); (case ht => kernel_rfl); (case h1 => simp [Value.oneCell']); (case hfit => simp); intro W hF1; simp only [Fr.patch, List.take_zero, List.nil_append, List.drop, List.append_nil, List.take, List.cons_append, List.length_cons, List.length_nil, Nat.reduceAdd] at hF1; have HC1 := hF1.cells; simp only [Fr.Cells, List.length_cons, List.length_nil, Nat.reduceAdd, and_true] at HC1; clear hF HC; have HC := HC1; have hF := Aside0.mk hF1; clear hF1 HC1) | ((first | (with_reducible refine Fr.gate_alloc rfl ?_) | (with_reducible refine Fr.gate_box rfl ?_)); apply Fr.fr_box hF.out rfl; (case hrun => first | (go_simp; done) | (go_simp; rfl)); intro g W hF1; have HC1 := hF1.cells; simp only [Fr.Cells, List.length_cons, List.length_nil, Nat.reduceAdd, and_true] at HC1; clear hF HC; have HC := HC1; have hF := Aside0.mk hF1; clear hF1 HC1))
              go_roundg (hs.length - (k + 1))
              case measure => omega
              case rel => exact ⟨k + 1, by omega, by omega, by go_num, by rw [HS.out, HX.out, if_pos HT.out, HO.out, HM.out], ⟨hF.out.drop⟩⟩
            · have HM := Aside0.mk (show mxI out x.f1 = out by unfold mxI; rw [if_neg hm])
              go_wp2_with (first | (go_at_call 94; (with_reducible refine (HP.out _ hF.out.below (by have := HC.2.1 0 (by decide); simpa using this)).mono ?_); rintro e W ⟨rfl, hb⟩; simp only [H3.out]; have hF1 := hF.out.call hb; clear hb; have HC1 := hF1.cells; simp only [Fr.Cells, List.length_cons, List.length_nil, Nat.reduceAdd, and_true] at HC1; clear hF HC; have HC := HC1; have hF := Aside0.mk hF1; clear hF1 HC1) | ((with_reducible refine gate_store rfl ?_); apply Fr.fr_store hF.out rfl rfl rfl; (case hp => rfl); (case hx => first | (go_simp; rfl) | rfl); (case hu => (simp only [Value.cells]; rfl)); (case hs => (repeat (first | exact Fr.Spot.here _ _ | apply Fr.Spot.there))); (case ht => kernel_rfl); (case h1 => simp [Value.oneCell']); (case hfit => simp); intro W hF1; simp only [Fr.patch, List.take_zero, List.nil_append, List.drop, List.append_nil, List.take, List.cons_append, List.length_cons, List.length_nil, Nat.reduceAdd] at hF1; have HC1 := hF1.cells; simp only [Fr.Cells, List.length_cons, List.length_nil, Nat.reduceAdd, and_true] at HC1; clear hF HC; have HC := HC1; have hF := Aside0.mk hF1; clear hF1 HC1) | ((first | (with_reducible refine Fr.gate_alloc rfl ?_) | (with_reducible refine Fr.gate_box rfl ?_)); apply Fr.fr_box hF.out rfl; (case hrun => first | (go_simp; done) | (go_simp; rfl)); intro g W hF1; have HC1 := hF1.cells; simp only [Fr.Cells, List.length_cons, List.length_nil, Nat.reduceAdd, and_true] at HC1; clear hF HC; have HC := HC1; have hF := Aside0.mk hF1; clear hF1 HC1))
              go_roundg (hs.length - (k + 1))
              case measure => omega
              case rel => exact ⟨k + 1, by omega, by omega, by go_num, by rw [HS.out, HX.out, if_pos HT.out, HO.out, HM.out], ⟨hF.out.drop⟩⟩
          | false =>
            have H3 := Aside0.mk h3
            have HT := Aside0.mk (show ¬ hitB l now x = true by unfold hitB; rw [h3]; simp)
            clear h3
            go_wp2_with (first | (go_at_call 94; (with_reducible refine (HP.out _ hF.out.below (by have := HC.2.1 0 (by decide); simpa using this)).mono ?_); rintro e W ⟨rfl, hb⟩; simp only [H3.out]; have hF1 := hF.out.call hb; clear hb; have HC1 := hF1.cells; simp only [Fr.Cells, List.length_cons, List.length_nil, Nat.reduceAdd, and_true] at HC1; clear hF HC; have HC := HC1; have hF := Aside0.mk hF1; clear hF1 HC1) | ((with_reducible refine gate_store rfl ?_); apply Fr.fr_store hF.out rfl rfl rfl; (case hp => rfl); (case hx => first | (go_simp; rfl) | rfl); (case hu => (simp only [Value.cells]; rfl)); (case hs => (repeat (first | exact Fr.Spot.here _ _ | apply Fr.Spot.there))); (case ht => kernel_rfl); (case h1 => simp [Value.oneCell']); (case hfit => simp); intro W hF1; simp only [Fr.patch, List.take_zero, List.nil_append, List.drop, List.append_nil, List.take, List.cons_append, List.length_cons, List.length_nil, Nat.reduceAdd] at hF1; have HC1 := hF1.cells; simp only [Fr.Cells, List.length_cons, List.length_nil, Nat.reduceAdd, and_true] at HC1; clear hF HC; have HC := HC1; have hF := Aside0.mk hF1; clear hF1 HC1) | ((first | (with_reducible refine Fr.gate_alloc rfl ?_) | (with_reducible refine Fr.gate_box rfl ?_)); apply Fr.fr_box hF.out rfl; (case hrun => first | (go_simp; done) | (go_simp; rfl)); intro g W hF1; have HC1 := hF1.cells; simp only [Fr.Cells, List.length_cons, List.length_nil, Nat.reduceAdd, and_true] at HC1; clear hF HC; have HC := HC1; have hF := Aside0.mk hF1; clear hF1 HC1))
            go_roundg (hs.length - (k + 1))
            case measure => omega
            case rel => exact ⟨k + 1, by omega, by omega, by go_num, by rw [HS.out, HX.out, if_neg HT.out, HO.out], ⟨hF.out.drop⟩⟩
        · have HT := Aside0.mk (show ¬ hitB l now x = true by unfold hitB; rw [decide_eq_false h2]; simp)
          have h2' : x.f1 ≤ now := by omega
          clear h2
          go_wp2_with (first | ((with_reducible refine gate_store rfl ?_); apply Fr.fr_store hF.out rfl rfl rfl; (case hp => rfl); (case hx => first | (go_simp; rfl) | rfl); (case hu => (simp only [Value.cells]; rfl)); (case hs => (repeat (first | exact Fr.Spot.here _ _ | apply Fr.Spot.there))); (case ht => kernel_rfl); (case h1 => simp [Value.oneCell']); (case hfit => simp); intro W hF1; simp only [Fr.patch, List.take_zero, List.nil_append, List.drop, List.append_nil, List.take, List.cons_append, List.length_cons, List.length_nil, Nat.reduceAdd] at hF1; have HC1 := hF1.cells; simp only [Fr.Cells, List.length_cons, List.length_nil, Nat.reduceAdd, and_true] at HC1; clear hF HC; have HC := HC1; have hF := Aside0.mk hF1; clear hF1 HC1) | ((first | (with_reducible refine Fr.gate_alloc rfl ?_) | (with_reducible refine Fr.gate_box rfl ?_)); apply Fr.fr_box hF.out rfl; (case hrun => first | (go_simp; done) | (go_simp; rfl)); intro g W hF1; have HC1 := hF1.cells; simp only [Fr.Cells, List.length_cons, List.length_nil, Nat.reduceAdd, and_true] at HC1; clear hF HC; have HC := HC1; have hF := Aside0.mk hF1; clear hF1 HC1))
          go_roundg (hs.length - (k + 1))
          case measure => omega
          case rel => exact ⟨k + 1, by omega, by omega, by go_num, by rw [HS.out, HX.out, if_neg HT.out, HO.out], ⟨hF.out.drop⟩⟩
      · have HT := Aside0.mk (show ¬ hitB l now x = true by unfold hitB; rw [decide_eq_false h1]; simp)
        have h1' : now < x.f0 := by omega
        clear h1
        go_wp2_with (first | ((with_reducible refine gate_store rfl ?_); apply Fr.fr_store hF.out rfl rfl rfl; (case hp => rfl); (case hx => first | (go_simp; rfl) | rfl); (case hu => (simp only [Value.cells]; rfl)); (case hs => (repeat (first | exact Fr.Spot.here _ _ | apply Fr.Spot.there))); (case ht => kernel_rfl); (case h1 => simp [Value.oneCell']); (case hfit => simp); intro W hF1; simp only [Fr.patch, List.take_zero, List.nil_append, List.drop, List.append_nil, List.take, List.cons_append, List.length_cons, List.length_nil, Nat.reduceAdd] at hF1; have HC1 := hF1.cells; simp only [Fr.Cells, List.length_cons, List.length_nil, Nat.reduceAdd, and_true] at HC1; clear hF HC; have HC := HC1; have hF := Aside0.mk hF1; clear hF1 HC1) | ((first | (with_reducible refine Fr.gate_alloc rfl ?_) | (with_reducible refine Fr.gate_box rfl ?_)); apply Fr.fr_box hF.out rfl; (case hrun => first | (go_simp; done) | (go_simp; rfl)); intro g W hF1; have HC1 := hF1.cells; simp only [Fr.Cells, List.length_cons, List.length_nil, Nat.reduceAdd, and_true] at HC1; clear hF HC; have HC := HC1; have hF := Aside0.mk hF1; clear hF1 HC1))
        go_roundg (hs.length - (k + 1))
        case measure => omega
        case rel => exact ⟨k + 1, by omega, by omega, by go_num, by rw [HS.out, HX.out, if_neg HT.out, HO.out], ⟨hF.out.drop⟩⟩
    · have hks : k = hs.length := by omega
      have HE := Aside0.mk (show tillG l now now hs = out by rw [← HO.out, hks, List.take_length])
      have hlti : ¬ (k : Int) < (hs.length : Int) := by omega
      clear hks
      go_wp2
      go_ret
      exact ⟨by rw [HE.out]; rfl, hF.out.below⟩
end Go.Proofs.Ytkphinfijppkeaa.G
