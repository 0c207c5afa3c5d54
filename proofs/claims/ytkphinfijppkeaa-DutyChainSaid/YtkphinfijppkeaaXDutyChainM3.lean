/- Contracts of functions of the given program, and what they come to, for any arguments. No condition beyond each theorem's own premises. -/
import Derived.Deep.RegionHeld3
import Derived.Laws.EntriesVeiled
import Derived.Test.YtkphinfijppkeaaXDutyChainM2
namespace Go.Proofs.Ytkphinfijppkeaa.G
open Go.RowKit Go.Proofs.YtkphinfijppkeaaW.PrintWords Go.Proofs.YtkphinfijppkeaaW.PrintLast Go.Proofs.YtkphinfijppkeaaW.PrintMore
attribute [local go_sem] max2_int min2_int max_two min_two max_three min_three max_four min_four
set_option linter.unusedVariables false
set_option linter.unusedSimpArgs false
theorem kinds_calls (w : World) : Calls Try.prog 111 #[] w fun e w' => e = .returned (.agg #[.func (.func 138) #[] #[], .bool false, .func (.func 139) #[] #[], .bool true, .func (.func 140) #[] #[], .bool false, .func (.func 141) #[] #[], .bool false]) ∧ Below w.heap.size w w' := by
  have hF := Aside0.mk (Fr.Frame.start w)
  have HC : True := trivial
  go_enter Try.func111, Try.ntmps111
  go_wp2_with (first | ((with_reducible refine gate_store rfl ?_); apply Fr.fr_store hF.out rfl rfl rfl; (case hp => rfl); (case hx => first | (go_simp; rfl) | rfl); (case hu => (simp only [Value.cells]; rfl)); (case hs => (repeat (first | exact Fr.Spot.here _ _ | apply Fr.Spot.there))); (case ht => kernel_rfl); (case h1 => simp [Value.oneCell']); (case hfit => simp); intro W hF1; simp only [Fr.patch, List.take_zero, List.nil_append, List.drop, List.append_nil, List.take, List.cons_append, List.length_cons, List.length_nil, Nat.reduceAdd] at hF1; have HC1 := hF1.cells; simp only [Fr.Cells, List.length_cons, List.length_nil, Nat.reduceAdd, and_true] at HC1; clear hF HC; have HC := HC1; have hF := Aside0.mk hF1; clear hF1 HC1) | ((first | (with_reducible refine Fr.gate_alloc rfl ?_) | (with_reducible refine Fr.gate_box rfl ?_)); apply Fr.fr_box hF.out rfl; (case hrun => first | (go_simp; done) | (go_simp; rfl)); intro g W hF1; have HC1 := hF1.cells; simp only [Fr.Cells, List.length_cons, List.length_nil, Nat.reduceAdd, and_true] at HC1; clear hF HC; have HC := HC1; have hF := Aside0.mk hF1; clear hF1 HC1))
  refine bodyPost_ret ?_ rfl ⟨rfl, hF.out.below⟩
  simp [results, Try.f111, go_sem, HC]
def prefB (s p : ByteArray) : Bool := decide (p.size ≤ s.size) && ((s.extract 0 p.size).toList == p.toList)
theorem prefix147 (s p : ByteArray) (w : World) : Calls Try.prog 147 #[.string s, .string p] w fun e w' => e = .returned (.bool (prefB s p)) ∧ w = w' := by
  by_cases h : p.size ≤ s.size
  · have h1 : (p.size : Int) ≤ (s.size : Int) := by omega
    have HV := Aside0.mk (show prefB s p = ((s.extract 0 p.size).toList == p.toList) by unfold prefB; rw [decide_eq_true h]; rfl)
    go_enter Try.func147, Try.ntmps147
    go_wp2
    go_ret
    exact ⟨by rw [HV.out]; rfl, rfl⟩
  · have h1 : (s.size : Int) < (p.size : Int) := by omega
    have HV := Aside0.mk (show prefB s p = false by unfold prefB; rw [decide_eq_false h]; rfl)
    go_enter Try.func147, Try.ntmps147
    go_wp2
    go_ret
    exact ⟨by rw [HV.out]; rfl, rfl⟩
def askB (K : Nat) (v a : ByteArray) : Bool := if K = 0 then (v.toList == a.toList) else if K = 1 then (v.toList != a.toList) else if K = 2 then prefB v a else true
theorem ask0 (v a : ByteArray) (w : World) : Calls Try.prog 138 #[.string v, .string a] w fun e w' => e = .returned (.bool (askB 0 v a)) ∧ Below w.heap.size w w' := by
  go_enter Try.func138, Try.ntmps138
  go_wp2
  go_ret
  exact ⟨rfl, Below.refl _ _⟩
theorem ask1 (v a : ByteArray) (w : World) : Calls Try.prog 139 #[.string v, .string a] w fun e w' => e = .returned (.bool (askB 1 v a)) ∧ Below w.heap.size w w' := by
  go_enter Try.func139, Try.ntmps139
  go_wp2
  go_ret
  exact ⟨rfl, Below.refl _ _⟩
theorem ask2 (v a : ByteArray) (w : World) : Calls Try.prog 140 #[.string v, .string a] w fun e w' => e = .returned (.bool (askB 2 v a)) ∧ Below w.heap.size w w' := by
  go_enter Try.func140, Try.ntmps140
  go_wp2_with (go_at_call 147; (with_reducible refine (prefix147 v a _).mono ?_); rintro e w' ⟨rfl, rfl⟩)
  go_ret
  exact ⟨rfl, Below.refl _ _⟩
theorem ask3 (v a : ByteArray) (w : World) : Calls Try.prog 141 #[.string v, .string a] w fun e w' => e = .returned (.bool (askB 3 v a)) ∧ Below w.heap.size w w' := by
  go_enter Try.func141, Try.ntmps141
  go_wp2
  go_ret
  exact ⟨rfl, Below.refl _ _⟩
def namP (m : S88) (x : S92) : Bool := x.f0.toList == m.f1.toList
theorem nam_pred (m : S88) (B : Nat) (w : World) (h0 : w.cell? ⟨B, 0, none⟩ = some (.int .i64 m.f0)) (h1 : w.cell? ⟨B, 1, none⟩ = some (.string m.f1)) (h2 : w.cell? ⟨B, 2, none⟩ = some (.string m.f2)) : Pred92 (fun _ => True) 113 #[.pointer (some ⟨B, 0, none⟩)] (namP m) w := by
  intro x W _ hB
  have c1 := Aside0.mk ((hB.cell (World.block_lt_of_cell? w _ h1)).trans h1)
  clear h0 h1 h2 hB
  show Calls Try.prog 113 #[.agg #[.string x.f0, .string x.f1], .pointer (some ⟨B, 0, none⟩)] W _
  have k1 : ∀ o : Obj, (W.alloc o).cell? ⟨B, 1, none⟩ = some (.string m.f1) := fun o => Go.cell_kept c1.out (World.grownBy_alloc W o none) (fun r e => by cases e)
  go_enter Try.func113, Try.ntmps113
  go_wp2
  go_ret
  exact ⟨rfl, (Below.refl _ W).alloc (Nat.le_refl _) _⟩
theorem below_keeps {W W1 : World} {a : Addr} {v : Value} (hb : Below W.heap.size W W1) (h : W.cell? a = some v) : W1.cell? a = some v := (hb.cell (World.block_lt_of_cell? W _ h)).trans h
theorem bcell {W W1 : World} (hb : Below W.heap.size W W1) : (∀ b o, b < W.heap.size → W1.cell? ⟨b, o, none⟩ = W.cell? ⟨b, o, none⟩) ∧ (∀ b o, b < W.heap.size → W1.frozen? ⟨b, o, none⟩ = W.frozen? ⟨b, o, none⟩) :=
  ⟨fun b o h => hb.cell (p := ⟨b, o, none⟩) h, fun b o h => hb.frozen (p := ⟨b, o, none⟩) h⟩
def matchB (m : S88) (l : List S92) : Bool := match l.find? (namP m) with | none => decide (m.f0 = 1) | some x => askB m.f0.toNat x.f1 m.f2
theorem idx_cases (p : S92 → Bool) (l : List S92) : (idxP p l = -1 ∧ l.find? p = none) ∨ ∃ i, i < l.length ∧ idxP p l = (i : Int) ∧ l.find? p = some (rd_T92 l (i : Nat)) := by
  unfold idxP
  cases h : l.findIdx? p with
  | none =>
    left
    refine ⟨rfl, ?_⟩
    rw [List.findIdx?_eq_none_iff] at h
    rw [List.find?_eq_none]
    intro x hx; simp [h x hx]
  | some i =>
    right
    obtain ⟨hi, hp, hn⟩ := List.findIdx?_eq_some_iff_getElem.1 h
    refine ⟨i, hi, rfl, ?_⟩
    rw [rd_get92 l i hi, List.find?_eq_some_iff_getElem]
    exact ⟨hp, i, hi, rfl, fun j hj => by have := hn j hj; simpa using this⟩
set_option maxHeartbeats 4000000 in
set_option maxRecDepth 100000 in
theorem match0 (m : S88) (hk : m.f0 = 0) (A : Option Addr) (c : Nat) (l : List S92) (w : World) (hr : Kd.C k92 w A l.length l) : Calls Try.prog 73 #[.agg #[.int .i64 m.f0, .string m.f1, .string m.f2], .slice A l.length c] w fun e w' => e = .returned (.bool (matchB m l)) ∧ Below w.heap.size w w' := by
  rw [hk]
  have hmf : ∀ (fn : Fn) (first cap : Array Value) (w : World), (Instr.makeFunc fn first cap).run Try.prog w = .ok (.func fn first cap) w := fun _ _ _ _ => rfl
  have HR := Aside0.mk hr
  have HK := Aside0.mk hk
  have hll : l.length ≤ 9223372036854775807 := hr.2.1
  clear hr hk
  have hF := Aside0.mk (Fr.Frame.start w)
  have HC : True := trivial
  go_enter Try.func73, Try.ntmps73
  go_wp2_with (first | ((with_reducible refine gate_store rfl ?_); apply Fr.fr_store hF.out rfl rfl rfl; (case hp => rfl); (case hx => first | (go_simp; rfl) | rfl); (case hu => (simp only [Value.cells]; rfl)); (case hs => (repeat (first | exact Fr.Spot.here _ _ | apply Fr.Spot.there))); (case ht => kernel_rfl); (case h1 => simp [Value.oneCell']); (case hfit => simp); intro W hF1; simp only [Fr.patch, List.take_zero, List.nil_append, List.drop, List.append_nil, List.take, List.cons_append, List.length_cons, List.length_nil, Nat.reduceAdd] at hF1; have HC1 := hF1.cells; simp only [Fr.Cells, List.length_cons, List.length_nil, Nat.reduceAdd, and_true] at HC1; clear hF HC; have HC := HC1; have hF := Aside0.mk hF1; clear hF1 HC1) | ((with_reducible refine gate_dst (N := 2) rfl ?_); apply Fr.fr_box hF.out rfl; (case hrun => first | (go_simp; done) | (go_simp; rfl)); intro gm W hF1; have HC1 := hF1.cells; simp only [Fr.Cells, List.length_cons, List.length_nil, Nat.reduceAdd, and_true] at HC1; clear hF HC; have HC := HC1; have hF := Aside0.mk hF1; clear hF1 HC1) | ((first | (with_reducible refine Fr.gate_alloc rfl ?_) | (with_reducible refine Fr.gate_box rfl ?_)); apply Fr.fr_box hF.out rfl; (case hrun => first | (go_simp; done) | (go_simp; rfl)); intro g W hF1; have HC1 := hF1.cells; simp only [Fr.Cells, List.length_cons, List.length_nil, Nat.reduceAdd, and_true] at HC1; clear hF HC; have HC := HC1; have hF := Aside0.mk hF1; clear hF1 HC1))
  have hgl : gm < W.heap.size := hF.out.lt List.mem_cons_self
  have hgn : ¬ W.heap.size = gm := by omega
  have hgn2 : ¬ gm = W.heap.size := by omega
  obtain ⟨hc0, hf0⟩ := HC
  have q0 := hc0 0 (by decide)
  simp only [List.getElem?_cons_zero, List.getElem?_cons_succ] at q0
  clear hc0 hf0
  have hi0 : ∀ w, (Instr.index 134 (.agg #[.func (.func 138) #[] #[], .bool false, .func (.func 139) #[] #[], .bool true, .func (.func 140) #[] #[], .bool false, .func (.func 141) #[] #[], .bool false]) (.int .i64 0)).run Try.prog w = .ok (.agg #[.func (.func 138) #[] #[], .bool false]) w := fun _ => by kernel_rfl
  go_region_held3 (fun w' => w'.cell? ⟨gm, 0, none⟩ = some (.int .i64 0)) (first | go_keep | assumption) ((go_at_call 111; refine (kinds_calls _).mono ?_; rintro e W1 ⟨rfl, hb⟩; obtain ⟨hc, hf⟩ := bcell hb; have h7 := below_keeps hb (by assumption : World.cell? _ ⟨gm, 0, none⟩ = some (.int .i64 0))))
  all_goals
    first
    | (have hF2 : Fr.Frame w (W1.alloc (Obj.cells #[Value.func (Fn.func 138) #[] #[], Value.bool false] 133)) [(W1.heap.size, [.func (.func 138) #[] #[], .bool false], 133), (gm, [.int .i64 0, .string m.f1, .string m.f2], 88)] [] := (hF.out.drew.call hb).alloc [.func (.func 138) #[] #[], .bool false] 133
       clear hF h7 hc hf hb q0 hgn hgn2 hgl
       generalize (W1.alloc (Obj.cells #[Value.func (Fn.func 138) #[] #[], Value.bool false] 133)) = WW at hF2 ⊢
       generalize W1.heap.size = gk at hF2 ⊢)
    | (have hF2 : Fr.Frame w ((W1.setCell ⟨W.heap.size, 0, none⟩ (Value.func (Fn.func 138) #[] #[])).setCell ⟨W.heap.size, 1, none⟩ (Value.bool false)) [(W.heap.size, [.func (.func 138) #[] #[], .bool false], 133), (gm, [.int .i64 0, .string m.f1, .string m.f2], 88)] [] := ((hF.out.alloc [.nilFunc, .bool false] 133).drew.call hb).put (Fr.Spot.here _ _) 0 [.func (.func 138) #[] #[], .bool false] (by simp)
       clear hF h7 hc hf hb q0 hgn hgn2 hgl
       generalize ((W1.setCell ⟨W.heap.size, 0, none⟩ (Value.func (Fn.func 138) #[] #[])).setCell ⟨W.heap.size, 1, none⟩ (Value.bool false)) = WW at hF2 ⊢
       generalize W.heap.size = gk at hF2 ⊢)
    have HC1 := hF2.cells
    simp only [Fr.Cells, List.length_cons, List.length_nil, Nat.reduceAdd, and_true] at HC1
    have HC := HC1
    have hF := Aside0.mk hF2
    clear HC1 hF2
    have p0 := HC.2.1 0 (by decide)
    have p1 := HC.2.1 1 (by decide)
    have p2 := HC.2.1 2 (by decide)
    simp only [List.getElem?_cons_zero, List.getElem?_cons_succ] at p0 p1 p2
    have HI := Aside0.mk (fun W (hB : Below w.heap.size w W) h0 h1 h2 => indexFunc_92 (fun _ => True) 113 #[.pointer (some ⟨gm, 0, none⟩)] (namP m) (enters_of Try.func113 (by kernel_rfl) rfl) A c l W (Kd.C_below HR.out hB) (fun _ _ => trivial) (nam_pred m gm W h0 h1 h2))
    have HI2 := Aside0.mk (HI.out _ hF.out.below (by rw [HK.out]; exact p0) p1 p2)
    clear p0 p1 p2 HI
    rcases idx_cases (namP m) l with ⟨hidx, hfind⟩ | ⟨i, hil, hidx, hfind⟩
    · have HV := Aside0.mk (show matchB m l = decide (m.f0 = 1) by unfold matchB; rw [hfind])
      rw [hidx] at HI2
      clear hidx hfind
      go_wp2_with (first | (go_at_call 112; (with_reducible refine HI2.out.mono ?_); rintro e W ⟨rfl, hb⟩; have hF1 := hF.out.call hb; clear hb; have HC1 := hF1.cells; simp only [Fr.Cells, List.length_cons, List.length_nil, Nat.reduceAdd, and_true] at HC1; clear hF HC; have HC := HC1; have hF := Aside0.mk hF1; clear hF1 HC1) | ((with_reducible refine gate_store rfl ?_); apply Fr.fr_store hF.out rfl rfl rfl; (case hp => rfl); (case hx => first | (go_simp; rfl) | rfl); (case hu => (simp only [Value.cells]; rfl)); (case hs => (repeat (first | exact Fr.Spot.here _ _ | apply Fr.Spot.there))); (case ht => kernel_rfl); (case h1 => simp [Value.oneCell']); (case hfit => simp); intro W hF1; simp only [Fr.patch, List.take_zero, List.nil_append, List.drop, List.append_nil, List.take, List.cons_append, List.length_cons, List.length_nil, Nat.reduceAdd] at hF1; have HC1 := hF1.cells; simp only [Fr.Cells, List.length_cons, List.length_nil, Nat.reduceAdd, and_true] at HC1; clear hF HC; have HC := HC1; have hF := Aside0.mk hF1; clear hF1 HC1) | ((first | (with_reducible refine Fr.gate_alloc rfl ?_) | (with_reducible refine Fr.gate_box rfl ?_)); apply Fr.fr_box hF.out rfl; (case hrun => first | (go_simp; done) | (go_simp; rfl)); intro g W hF1; have HC1 := hF1.cells; simp only [Fr.Cells, List.length_cons, List.length_nil, Nat.reduceAdd, and_true] at HC1; clear hF HC; have HC := HC1; have hF := Aside0.mk hF1; clear hF1 HC1))
      go_ret
      exact ⟨by rw [HV.out, HK.out]; rfl, hF.out.below⟩
    · have HV := Aside0.mk (show matchB m l = askB 0 (rd_T92 l (i : Nat)).f1 m.f2 by unfold matchB; rw [hfind, HK.out]; rfl)
      rw [hidx] at HI2
      clear hidx hfind
      have hili : (i : Int) < (l.length : Int) := by omega
      obtain ⟨ad, e1, a0, a1⟩ := at_T92 HR.out (i : Int) (by omega) hili
      cases e1
      rw [Int.toNat_natCast] at a0 a1
      have A1 := Aside0.mk a1
      clear a0 a1
      go_wp2_with (first | (go_at_call 112; (with_reducible refine HI2.out.mono ?_); rintro e W ⟨rfl, hb⟩; have hF1 := hF.out.call hb; clear hb; have HC1 := hF1.cells; simp only [Fr.Cells, List.length_cons, List.length_nil, Nat.reduceAdd, and_true] at HC1; clear hF HC; have HC := HC1; have hF := Aside0.mk hF1; clear hF1 HC1) | ((with_reducible refine gate_store rfl ?_); apply Fr.fr_store hF.out rfl rfl rfl; (case hp => rfl); (case hx => first | (go_simp; rfl) | rfl); (case hu => (simp only [Value.cells]; rfl)); (case hs => (repeat (first | exact Fr.Spot.here _ _ | apply Fr.Spot.there))); (case ht => kernel_rfl); (case h1 => simp [Value.oneCell']); (case hfit => simp); intro W hF1; simp only [Fr.patch, List.take_zero, List.nil_append, List.drop, List.append_nil, List.take, List.cons_append, List.length_cons, List.length_nil, Nat.reduceAdd] at hF1; have HC1 := hF1.cells; simp only [Fr.Cells, List.length_cons, List.length_nil, Nat.reduceAdd, and_true] at HC1; clear hF HC; have HC := HC1; have hF := Aside0.mk hF1; clear hF1 HC1) | ((first | (with_reducible refine Fr.gate_alloc rfl ?_) | (with_reducible refine Fr.gate_box rfl ?_)); apply Fr.fr_box hF.out rfl; (case hrun => first | (go_simp; done) | (go_simp; rfl)); intro g W hF1; have HC1 := hF1.cells; simp only [Fr.Cells, List.length_cons, List.length_nil, Nat.reduceAdd, and_true] at HC1; clear hF HC; have HC := HC1; have hF := Aside0.mk hF1; clear hF1 HC1))
      refine Fr.fr_region (by kernel_rfl) (by kernel_rfl) hF.out ?_
      (apply Fr.fr_q_val; (case hw => first | rfl | (go_simp; done)); (case hv => intro W hF1; have HC1 := hF1.cells; simp only [Fr.Cells, List.length_cons, List.length_nil, Nat.reduceAdd, and_true] at HC1; clear hF1; first | (go_simp; done) | (go_simp; rfl)); simp only [Act.put, List.setIfInBounds_toArray, List.set_cons_zero, List.set_cons_succ])
      (apply Fr.fr_q_val; (case hw => first | rfl | (go_simp; done)); (case hv => intro W hF1; have HC1 := hF1.cells; simp only [Fr.Cells, List.length_cons, List.length_nil, Nat.reduceAdd, and_true] at HC1; clear hF1; first | (go_simp; done) | (go_simp; rfl)); simp only [Act.put, List.setIfInBounds_toArray, List.set_cons_zero, List.set_cons_succ])
      (apply Fr.fr_q_val; (case hw => first | rfl | (go_simp; done)); (case hv => intro W hF1; have HC1 := hF1.cells; simp only [Fr.Cells, List.length_cons, List.length_nil, Nat.reduceAdd, and_true] at HC1; clear hF1; first | (go_simp; done) | (go_simp; rfl)); simp only [Act.put, List.setIfInBounds_toArray, List.set_cons_zero, List.set_cons_succ])
      (apply Fr.fr_q_val; (case hw => first | rfl | (go_simp; done)); (case hv => intro W hF1; have HC1 := hF1.cells; simp only [Fr.Cells, List.length_cons, List.length_nil, Nat.reduceAdd, and_true] at HC1; clear hF1; first | (go_simp; done) | (go_simp; rfl)); simp only [Act.put, List.setIfInBounds_toArray, List.set_cons_zero, List.set_cons_succ])
      (apply Fr.fr_q_val; (case hw => first | rfl | (go_simp; done)); (case hv => intro W hF1; have HC1 := hF1.cells; simp only [Fr.Cells, List.length_cons, List.length_nil, Nat.reduceAdd, and_true] at HC1; clear hF1; first | (go_simp; done) | (go_simp; rfl)); simp only [Act.put, List.setIfInBounds_toArray, List.set_cons_zero, List.set_cons_succ])
      (apply Fr.fr_q_val; (case hw => first | rfl | (go_simp; done)); (case hv => intro W hF1; have HC1 := hF1.cells; simp only [Fr.Cells, List.length_cons, List.length_nil, Nat.reduceAdd, and_true] at HC1; clear hF1; first | (go_simp; done) | (go_simp; rfl)); simp only [Act.put, List.setIfInBounds_toArray, List.set_cons_zero, List.set_cons_succ])
      (apply Fr.fr_q_val; (case hw => first | rfl | (go_simp; done)); (case hv => intro W hF1; have q0 := (hF1.below.cell (World.block_lt_of_cell? _ _ A1.out)).trans A1.out; clear hF1; first | (go_simp; done) | (go_simp; rfl)); simp only [Act.put, List.setIfInBounds_toArray, List.set_cons_zero, List.set_cons_succ])
      (apply Fr.fr_q_val; (case hw => first | rfl | (go_simp; done)); (case hv => intro W hF1; have HC1 := hF1.cells; simp only [Fr.Cells, List.length_cons, List.length_nil, Nat.reduceAdd, and_true] at HC1; clear hF1; first | (go_simp; done) | (go_simp; rfl)); simp only [Act.put, List.setIfInBounds_toArray, List.set_cons_zero, List.set_cons_succ])
      (apply Fr.fr_q_val; (case hw => first | rfl | (go_simp; done)); (case hv => intro W hF1; have HC1 := hF1.cells; simp only [Fr.Cells, List.length_cons, List.length_nil, Nat.reduceAdd, and_true] at HC1; clear hF1; first | (go_simp; done) | (go_simp; rfl)); simp only [Act.put, List.setIfInBounds_toArray, List.set_cons_zero, List.set_cons_succ])
      (apply Fr.fr_q_call; (case hw => first | rfl | (go_simp; done)); (case hv => intro W hF1; clear hF1; first | (go_simp; done) | (go_simp; rfl) | (go_simp; exact ⟨rfl, rfl⟩)); (case hc => intro W hF1; refine (ask0 _ _ _).mono ?_; rintro e W' ⟨rfl, hb⟩; exact ⟨rfl, hb⟩); simp only [Act.put, List.setIfInBounds_toArray, List.set_cons_zero, List.set_cons_succ])
      (apply Fr.fr_q_val; (case hw => first | rfl | (go_simp; done)); (case hv => intro W hF1; have HC1 := hF1.cells; simp only [Fr.Cells, List.length_cons, List.length_nil, Nat.reduceAdd, and_true] at HC1; clear hF1; first | (go_simp; done) | (go_simp; rfl)); simp only [Act.put, List.setIfInBounds_toArray, List.set_cons_zero, List.set_cons_succ])
      refine wpQuiet_nil ?_; intro W hF1; have HC1 := hF1.cells; simp only [Fr.Cells, List.length_cons, List.length_nil, Nat.reduceAdd, and_true] at HC1; clear hF HC; have HC := HC1; have hF := Aside0.mk hF1; clear hF1 HC1
      go_wp2
      go_ret
      exact ⟨by rw [HV.out]; rfl, hF.out.below⟩
set_option maxHeartbeats 4000000 in
set_option maxRecDepth 100000 in
theorem match1 (m : S88) (hk : m.f0 = 1) (A : Option Addr) (c : Nat) (l : List S92) (w : World) (hr : Kd.C k92 w A l.length l) : Calls Try.prog 73 #[.agg #[.int .i64 m.f0, .string m.f1, .string m.f2], .slice A l.length c] w fun e w' => e = .returned (.bool (matchB m l)) ∧ Below w.heap.size w w' := by
  rw [hk]
  have hmf : ∀ (fn : Fn) (first cap : Array Value) (w : World), (Instr.makeFunc fn first cap).run Try.prog w = .ok (.func fn first cap) w := fun _ _ _ _ => rfl
  have HR := Aside0.mk hr
  have HK := Aside0.mk hk
  have hll : l.length ≤ 9223372036854775807 := hr.2.1
  clear hr hk
  have hF := Aside0.mk (Fr.Frame.start w)
  have HC : True := trivial
  go_enter Try.func73, Try.ntmps73
  go_wp2_with (first | ((with_reducible refine gate_store rfl ?_); apply Fr.fr_store hF.out rfl rfl rfl; (case hp => rfl); (case hx => first | (go_simp; rfl) | rfl); (case hu => (simp only [Value.cells]; rfl)); (case hs => (repeat (first | exact Fr.Spot.here _ _ | apply Fr.Spot.there))); (case ht => kernel_rfl); (case h1 => simp [Value.oneCell']); (case hfit => simp); intro W hF1; simp only [Fr.patch, List.take_zero, List.nil_append, List.drop, List.append_nil, List.take, List.cons_append, List.length_cons, List.length_nil, Nat.reduceAdd] at hF1; have HC1 := hF1.cells; simp only [Fr.Cells, List.length_cons, List.length_nil, Nat.reduceAdd, and_true] at HC1; clear hF HC; have HC := HC1; have hF := Aside0.mk hF1; clear hF1 HC1) | ((with_reducible refine gate_dst (N := 2) rfl ?_); apply Fr.fr_box hF.out rfl; (case hrun => first | (go_simp; done) | (go_simp; rfl)); intro gm W hF1; have HC1 := hF1.cells; simp only [Fr.Cells, List.length_cons, List.length_nil, Nat.reduceAdd, and_true] at HC1; clear hF HC; have HC := HC1; have hF := Aside0.mk hF1; clear hF1 HC1) | ((first | (with_reducible refine Fr.gate_alloc rfl ?_) | (with_reducible refine Fr.gate_box rfl ?_)); apply Fr.fr_box hF.out rfl; (case hrun => first | (go_simp; done) | (go_simp; rfl)); intro g W hF1; have HC1 := hF1.cells; simp only [Fr.Cells, List.length_cons, List.length_nil, Nat.reduceAdd, and_true] at HC1; clear hF HC; have HC := HC1; have hF := Aside0.mk hF1; clear hF1 HC1))
  have hgl : gm < W.heap.size := hF.out.lt List.mem_cons_self
  have hgn : ¬ W.heap.size = gm := by omega
  have hgn2 : ¬ gm = W.heap.size := by omega
  obtain ⟨hc0, hf0⟩ := HC
  have q0 := hc0 0 (by decide)
  simp only [List.getElem?_cons_zero, List.getElem?_cons_succ] at q0
  clear hc0 hf0
  have hi0 : ∀ w, (Instr.index 134 (.agg #[.func (.func 138) #[] #[], .bool false, .func (.func 139) #[] #[], .bool true, .func (.func 140) #[] #[], .bool false, .func (.func 141) #[] #[], .bool false]) (.int .i64 1)).run Try.prog w = .ok (.agg #[.func (.func 139) #[] #[], .bool true]) w := fun _ => by kernel_rfl
  go_region_held3 (fun w' => w'.cell? ⟨gm, 0, none⟩ = some (.int .i64 1)) (first | go_keep | assumption) ((go_at_call 111; refine (kinds_calls _).mono ?_; rintro e W1 ⟨rfl, hb⟩; obtain ⟨hc, hf⟩ := bcell hb; have h7 := below_keeps hb (by assumption : World.cell? _ ⟨gm, 0, none⟩ = some (.int .i64 1))))
  all_goals
    first
    | (have hF2 : Fr.Frame w (W1.alloc (Obj.cells #[Value.func (Fn.func 139) #[] #[], Value.bool true] 133)) [(W1.heap.size, [.func (.func 139) #[] #[], .bool true], 133), (gm, [.int .i64 1, .string m.f1, .string m.f2], 88)] [] := (hF.out.drew.call hb).alloc [.func (.func 139) #[] #[], .bool true] 133
       clear hF h7 hc hf hb q0 hgn hgn2 hgl
       generalize (W1.alloc (Obj.cells #[Value.func (Fn.func 139) #[] #[], Value.bool true] 133)) = WW at hF2 ⊢
       generalize W1.heap.size = gk at hF2 ⊢)
    | (have hF2 : Fr.Frame w ((W1.setCell ⟨W.heap.size, 0, none⟩ (Value.func (Fn.func 139) #[] #[])).setCell ⟨W.heap.size, 1, none⟩ (Value.bool true)) [(W.heap.size, [.func (.func 139) #[] #[], .bool true], 133), (gm, [.int .i64 1, .string m.f1, .string m.f2], 88)] [] := ((hF.out.alloc [.nilFunc, .bool false] 133).drew.call hb).put (Fr.Spot.here _ _) 0 [.func (.func 139) #[] #[], .bool true] (by simp)
       clear hF h7 hc hf hb q0 hgn hgn2 hgl
       generalize ((W1.setCell ⟨W.heap.size, 0, none⟩ (Value.func (Fn.func 139) #[] #[])).setCell ⟨W.heap.size, 1, none⟩ (Value.bool true)) = WW at hF2 ⊢
       generalize W.heap.size = gk at hF2 ⊢)
    have HC1 := hF2.cells
    simp only [Fr.Cells, List.length_cons, List.length_nil, Nat.reduceAdd, and_true] at HC1
    have HC := HC1
    have hF := Aside0.mk hF2
    clear HC1 hF2
    have p0 := HC.2.1 0 (by decide)
    have p1 := HC.2.1 1 (by decide)
    have p2 := HC.2.1 2 (by decide)
    simp only [List.getElem?_cons_zero, List.getElem?_cons_succ] at p0 p1 p2
    have HI := Aside0.mk (fun W (hB : Below w.heap.size w W) h0 h1 h2 => indexFunc_92 (fun _ => True) 113 #[.pointer (some ⟨gm, 0, none⟩)] (namP m) (enters_of Try.func113 (by kernel_rfl) rfl) A c l W (Kd.C_below HR.out hB) (fun _ _ => trivial) (nam_pred m gm W h0 h1 h2))
    have HI2 := Aside0.mk (HI.out _ hF.out.below (by rw [HK.out]; exact p0) p1 p2)
    clear p0 p1 p2 HI
    rcases idx_cases (namP m) l with ⟨hidx, hfind⟩ | ⟨i, hil, hidx, hfind⟩
    · have HV := Aside0.mk (show matchB m l = decide (m.f0 = 1) by unfold matchB; rw [hfind])
      rw [hidx] at HI2
      clear hidx hfind
      go_wp2_with (first | (go_at_call 112; (with_reducible refine HI2.out.mono ?_); rintro e W ⟨rfl, hb⟩; have hF1 := hF.out.call hb; clear hb; have HC1 := hF1.cells; simp only [Fr.Cells, List.length_cons, List.length_nil, Nat.reduceAdd, and_true] at HC1; clear hF HC; have HC := HC1; have hF := Aside0.mk hF1; clear hF1 HC1) | ((with_reducible refine gate_store rfl ?_); apply Fr.fr_store hF.out rfl rfl rfl; (case hp => rfl); (case hx => first | (go_simp; rfl) | rfl); (case hu => (simp only [Value.cells]; rfl)); (case hs => (repeat (first | exact Fr.Spot.here _ _ | apply Fr.Spot.there))); (case ht => kernel_rfl); (case h1 => simp [Value.oneCell']); (case hfit => simp); intro W hF1; simp only [Fr.patch, List.take_zero, List.nil_append, List.drop, List.append_nil, List.take, List.cons_append, List.length_cons, List.length_nil, Nat.reduceAdd] at hF1; have HC1 := hF1.cells; simp only [Fr.Cells, List.length_cons, List.length_nil, Nat.reduceAdd, and_true] at HC1; clear hF HC; have HC := HC1; have hF := Aside0.mk hF1; clear hF1 HC1) | ((first | (with_reducible refine Fr.gate_alloc rfl ?_) | (with_reducible refine Fr.gate_box rfl ?_)); apply Fr.fr_box hF.out rfl; (case hrun => first | (go_simp; done) | (go_simp; rfl)); intro g W hF1; have HC1 := hF1.cells; simp only [Fr.Cells, List.length_cons, List.length_nil, Nat.reduceAdd, and_true] at HC1; clear hF HC; have HC := HC1; have hF := Aside0.mk hF1; clear hF1 HC1))
      go_ret
      exact ⟨by rw [HV.out, HK.out]; rfl, hF.out.below⟩
    · have HV := Aside0.mk (show matchB m l = askB 1 (rd_T92 l (i : Nat)).f1 m.f2 by unfold matchB; rw [hfind, HK.out]; rfl)
      rw [hidx] at HI2
      clear hidx hfind
      have hili : (i : Int) < (l.length : Int) := by omega
      obtain ⟨ad, e1, a0, a1⟩ := at_T92 HR.out (i : Int) (by omega) hili
      cases e1
      rw [Int.toNat_natCast] at a0 a1
      have A1 := Aside0.mk a1
      clear a0 a1
      go_wp2_with (first | (go_at_call 112; (with_reducible refine HI2.out.mono ?_); rintro e W ⟨rfl, hb⟩; have hF1 := hF.out.call hb; clear hb; have HC1 := hF1.cells; simp only [Fr.Cells, List.length_cons, List.length_nil, Nat.reduceAdd, and_true] at HC1; clear hF HC; have HC := HC1; have hF := Aside0.mk hF1; clear hF1 HC1) | ((with_reducible refine gate_store rfl ?_); apply Fr.fr_store hF.out rfl rfl rfl; (case hp => rfl); (case hx => first | (go_simp; rfl) | rfl); (case hu => (simp only [Value.cells]; rfl)); (case hs => (repeat (first | exact Fr.Spot.here _ _ | apply Fr.Spot.there))); (case ht => kernel_rfl); (case h1 => simp [Value.oneCell']); (case hfit => simp); intro W hF1; simp only [Fr.patch, List.take_zero, List.nil_append, List.drop, List.append_nil, List.take, List.cons_append, List.length_cons, List.length_nil, Nat.reduceAdd] at hF1; have HC1 := hF1.cells; simp only [Fr.Cells, List.length_cons, List.length_nil, Nat.reduceAdd, and_true] at HC1; clear hF HC; have HC := HC1; have hF := Aside0.mk hF1; clear hF1 HC1) | ((first | (with_reducible refine Fr.gate_alloc rfl ?_) | (with_reducible refine Fr.gate_box rfl ?_)); apply Fr.fr_box hF.out rfl; (case hrun => first | (go_simp; done) | (go_simp; rfl)); intro g W hF1; have HC1 := hF1.cells; simp only [Fr.Cells, List.length_cons, List.length_nil, Nat.reduceAdd, and_true] at HC1; clear hF HC; have HC := HC1; have hF := Aside0.mk hF1; clear hF1 HC1))
      refine Fr.fr_region (by kernel_rfl) (by kernel_rfl) hF.out ?_
      (apply Fr.fr_q_val; (case hw => first | rfl | (go_simp; done)); (case hv => intro W hF1; have HC1 := hF1.cells; simp only [Fr.Cells, List.length_cons, List.length_nil, Nat.reduceAdd, and_true] at HC1; clear hF1; first | (go_simp; done) | (go_simp; rfl)); simp only [Act.put, List.setIfInBounds_toArray, List.set_cons_zero, List.set_cons_succ])
      (apply Fr.fr_q_val; (case hw => first | rfl | (go_simp; done)); (case hv => intro W hF1; have HC1 := hF1.cells; simp only [Fr.Cells, List.length_cons, List.length_nil, Nat.reduceAdd, and_true] at HC1; clear hF1; first | (go_simp; done) | (go_simp; rfl)); simp only [Act.put, List.setIfInBounds_toArray, List.set_cons_zero, List.set_cons_succ])
      (apply Fr.fr_q_val; (case hw => first | rfl | (go_simp; done)); (case hv => intro W hF1; have HC1 := hF1.cells; simp only [Fr.Cells, List.length_cons, List.length_nil, Nat.reduceAdd, and_true] at HC1; clear hF1; first | (go_simp; done) | (go_simp; rfl)); simp only [Act.put, List.setIfInBounds_toArray, List.set_cons_zero, List.set_cons_succ])
      (apply Fr.fr_q_val; (case hw => first | rfl | (go_simp; done)); (case hv => intro W hF1; have HC1 := hF1.cells; simp only [Fr.Cells, List.length_cons, List.length_nil, Nat.reduceAdd, and_true] at HC1; clear hF1; first | (go_simp; done) | (go_simp; rfl)); simp only [Act.put, List.setIfInBounds_toArray, List.set_cons_zero, List.set_cons_succ])
      (apply Fr.fr_q_val; (case hw => first | rfl | (go_simp; done)); (case hv => intro W hF1; have HC1 := hF1.cells; simp only [Fr.Cells, List.length_cons, List.length_nil, Nat.reduceAdd, and_true] at HC1; clear hF1; first | (go_simp; done) | (go_simp; rfl)); simp only [Act.put, List.setIfInBounds_toArray, List.set_cons_zero, List.set_cons_succ])
      (apply Fr.fr_q_val; (case hw => first | rfl | (go_simp; done)); (case hv => intro W hF1; have HC1 := hF1.cells; simp only [Fr.Cells, List.length_cons, List.length_nil, Nat.reduceAdd, and_true] at HC1; clear hF1; first | (go_simp; done) | (go_simp; rfl)); simp only [Act.put, List.setIfInBounds_toArray, List.set_cons_zero, List.set_cons_succ])
      (apply Fr.fr_q_val; (case hw => first | rfl | (go_simp; done)); (case hv => intro W hF1; have q0 := (hF1.below.cell (World.block_lt_of_cell? _ _ A1.out)).trans A1.out; clear hF1; first | (go_simp; done) | (go_simp; rfl)); simp only [Act.put, List.setIfInBounds_toArray, List.set_cons_zero, List.set_cons_succ])
      (apply Fr.fr_q_val; (case hw => first | rfl | (go_simp; done)); (case hv => intro W hF1; have HC1 := hF1.cells; simp only [Fr.Cells, List.length_cons, List.length_nil, Nat.reduceAdd, and_true] at HC1; clear hF1; first | (go_simp; done) | (go_simp; rfl)); simp only [Act.put, List.setIfInBounds_toArray, List.set_cons_zero, List.set_cons_succ])
      (apply Fr.fr_q_val; (case hw => first | rfl | (go_simp; done)); (case hv => intro W hF1; have HC1 := hF1.cells; simp only [Fr.Cells, List.length_cons, List.length_nil, Nat.reduceAdd, and_true] at HC1; clear hF1; first | (go_simp; done) | (go_simp; rfl)); simp only [Act.put, List.setIfInBounds_toArray, List.set_cons_zero, List.set_cons_succ])
      (apply Fr.fr_q_call; (case hw => first | rfl | (go_simp; done)); (case hv => intro W hF1; clear hF1; first | (go_simp; done) | (go_simp; rfl) | (go_simp; exact ⟨rfl, rfl⟩)); (case hc => intro W hF1; refine (ask1 _ _ _).mono ?_; rintro e W' ⟨rfl, hb⟩; exact ⟨rfl, hb⟩); simp only [Act.put, List.setIfInBounds_toArray, List.set_cons_zero, List.set_cons_succ])
      (apply Fr.fr_q_val; (case hw => first | rfl | (go_simp; done)); (case hv => intro W hF1; have HC1 := hF1.cells; simp only [Fr.Cells, List.length_cons, List.length_nil, Nat.reduceAdd, and_true] at HC1; clear hF1; first | (go_simp; done) | (go_simp; rfl)); simp only [Act.put, List.setIfInBounds_toArray, List.set_cons_zero, List.set_cons_succ])
      refine wpQuiet_nil ?_; intro W hF1; have HC1 := hF1.cells; simp only [Fr.Cells, List.length_cons, List.length_nil, Nat.reduceAdd, and_true] at HC1; clear hF HC; have HC := HC1; have hF := Aside0.mk hF1; clear hF1 HC1
      go_wp2
      go_ret
      exact ⟨by rw [HV.out]; rfl, hF.out.below⟩
set_option maxHeartbeats 4000000 in
set_option maxRecDepth 100000 in
theorem match2 (m : S88) (hk : m.f0 = 2) (A : Option Addr) (c : Nat) (l : List S92) (w : World) (hr : Kd.C k92 w A l.length l) : Calls Try.prog 73 #[.agg #[.int .i64 m.f0, .string m.f1, .string m.f2], .slice A l.length c] w fun e w' => e = .returned (.bool (matchB m l)) ∧ Below w.heap.size w w' := by
  rw [hk]
  have hmf : ∀ (fn : Fn) (first cap : Array Value) (w : World), (Instr.makeFunc fn first cap).run Try.prog w = .ok (.func fn first cap) w := fun _ _ _ _ => rfl
  have HR := Aside0.mk hr
  have HK := Aside0.mk hk
  have hll : l.length ≤ 9223372036854775807 := hr.2.1
  clear hr hk
  have hF := Aside0.mk (Fr.Frame.start w)
  have HC : True := trivial
  go_enter Try.func73, Try.ntmps73
  go_wp2_with (first | ((with_reducible refine gate_store rfl ?_); apply Fr.fr_store hF.out rfl rfl rfl; (case hp => rfl); (case hx => first | (go_simp; rfl) | rfl); (case hu => (simp only [Value.cells]; rfl)); (case hs => (repeat (first | exact Fr.Spot.here _ _ | apply Fr.Spot.there))); (case ht => kernel_rfl); (case h1 => simp [Value.oneCell']); (case hfit => simp); intro W hF1; simp only [Fr.patch, List.take_zero, List.nil_append, List.drop, List.append_nil, List.take, List.cons_append, List.length_cons, List.length_nil, Nat.reduceAdd] at hF1; have HC1 := hF1.cells; simp only [Fr.Cells, List.length_cons, List.length_nil, Nat.reduceAdd, and_true] at HC1; clear hF HC; have HC := HC1; have hF := Aside0.mk hF1; clear hF1 HC1) | ((with_reducible refine gate_dst (N := 2) rfl ?_); apply Fr.fr_box hF.out rfl; (case hrun => first | (go_simp; done) | (go_simp; rfl)); intro gm W hF1; have HC1 := hF1.cells; simp only [Fr.Cells, List.length_cons, List.length_nil, Nat.reduceAdd, and_true] at HC1; clear hF HC; have HC := HC1; have hF := Aside0.mk hF1; clear hF1 HC1) | ((first | (with_reducible refine Fr.gate_alloc rfl ?_) | (with_reducible refine Fr.gate_box rfl ?_)); apply Fr.fr_box hF.out rfl; (case hrun => first | (go_simp; done) | (go_simp; rfl)); intro g W hF1; have HC1 := hF1.cells; simp only [Fr.Cells, List.length_cons, List.length_nil, Nat.reduceAdd, and_true] at HC1; clear hF HC; have HC := HC1; have hF := Aside0.mk hF1; clear hF1 HC1))
  have hgl : gm < W.heap.size := hF.out.lt List.mem_cons_self
  have hgn : ¬ W.heap.size = gm := by omega
  have hgn2 : ¬ gm = W.heap.size := by omega
  obtain ⟨hc0, hf0⟩ := HC
  have q0 := hc0 0 (by decide)
  simp only [List.getElem?_cons_zero, List.getElem?_cons_succ] at q0
  clear hc0 hf0
  have hi0 : ∀ w, (Instr.index 134 (.agg #[.func (.func 138) #[] #[], .bool false, .func (.func 139) #[] #[], .bool true, .func (.func 140) #[] #[], .bool false, .func (.func 141) #[] #[], .bool false]) (.int .i64 2)).run Try.prog w = .ok (.agg #[.func (.func 140) #[] #[], .bool false]) w := fun _ => by kernel_rfl
  go_region_held3 (fun w' => w'.cell? ⟨gm, 0, none⟩ = some (.int .i64 2)) (first | go_keep | assumption) ((go_at_call 111; refine (kinds_calls _).mono ?_; rintro e W1 ⟨rfl, hb⟩; obtain ⟨hc, hf⟩ := bcell hb; have h7 := below_keeps hb (by assumption : World.cell? _ ⟨gm, 0, none⟩ = some (.int .i64 2))))
  all_goals
    first
    | (have hF2 : Fr.Frame w (W1.alloc (Obj.cells #[Value.func (Fn.func 140) #[] #[], Value.bool false] 133)) [(W1.heap.size, [.func (.func 140) #[] #[], .bool false], 133), (gm, [.int .i64 2, .string m.f1, .string m.f2], 88)] [] := (hF.out.drew.call hb).alloc [.func (.func 140) #[] #[], .bool false] 133
       clear hF h7 hc hf hb q0 hgn hgn2 hgl
       generalize (W1.alloc (Obj.cells #[Value.func (Fn.func 140) #[] #[], Value.bool false] 133)) = WW at hF2 ⊢
       generalize W1.heap.size = gk at hF2 ⊢)
    | (have hF2 : Fr.Frame w ((W1.setCell ⟨W.heap.size, 0, none⟩ (Value.func (Fn.func 140) #[] #[])).setCell ⟨W.heap.size, 1, none⟩ (Value.bool false)) [(W.heap.size, [.func (.func 140) #[] #[], .bool false], 133), (gm, [.int .i64 2, .string m.f1, .string m.f2], 88)] [] := ((hF.out.alloc [.nilFunc, .bool false] 133).drew.call hb).put (Fr.Spot.here _ _) 0 [.func (.func 140) #[] #[], .bool false] (by simp)
       clear hF h7 hc hf hb q0 hgn hgn2 hgl
       generalize ((W1.setCell ⟨W.heap.size, 0, none⟩ (Value.func (Fn.func 140) #[] #[])).setCell ⟨W.heap.size, 1, none⟩ (Value.bool false)) = WW at hF2 ⊢
       generalize W.heap.size = gk at hF2 ⊢)
    have HC1 := hF2.cells
    simp only [Fr.Cells, List.length_cons, List.length_nil, Nat.reduceAdd, and_true] at HC1
    have HC := HC1
    have hF := Aside0.mk hF2
    clear HC1 hF2
    have p0 := HC.2.1 0 (by decide)
    have p1 := HC.2.1 1 (by decide)
    have p2 := HC.2.1 2 (by decide)
    simp only [List.getElem?_cons_zero, List.getElem?_cons_succ] at p0 p1 p2
    have HI := Aside0.mk (fun W (hB : Below w.heap.size w W) h0 h1 h2 => indexFunc_92 (fun _ => True) 113 #[.pointer (some ⟨gm, 0, none⟩)] (namP m) (enters_of Try.func113 (by kernel_rfl) rfl) A c l W (Kd.C_below HR.out hB) (fun _ _ => trivial) (nam_pred m gm W h0 h1 h2))
    have HI2 := Aside0.mk (HI.out _ hF.out.below (by rw [HK.out]; exact p0) p1 p2)
    clear p0 p1 p2 HI
    rcases idx_cases (namP m) l with ⟨hidx, hfind⟩ | ⟨i, hil, hidx, hfind⟩
    · have HV := Aside0.mk (show matchB m l = decide (m.f0 = 1) by unfold matchB; rw [hfind])
      rw [hidx] at HI2
      clear hidx hfind
      go_wp2_with (first | (go_at_call 112; (with_reducible refine HI2.out.mono ?_); rintro e W ⟨rfl, hb⟩; have hF1 := hF.out.call hb; clear hb; have HC1 := hF1.cells; simp only [Fr.Cells, List.length_cons, List.length_nil, Nat.reduceAdd, and_true] at HC1; clear hF HC; have HC := HC1; have hF := Aside0.mk hF1; clear hF1 HC1) | ((with_reducible refine gate_store rfl ?_); apply Fr.fr_store hF.out rfl rfl rfl; (case hp => rfl); (case hx => first | (go_simp; rfl) | rfl); (case hu => (simp only [Value.cells]; rfl)); (case hs => (repeat (first | exact Fr.Spot.here _ _ | apply Fr.Spot.there))); (case ht => kernel_rfl); (case h1 => simp [Value.oneCell']); (case hfit => simp); intro W hF1; simp only [Fr.patch, List.take_zero, List.nil_append, List.drop, List.append_nil, List.take, List.cons_append, List.length_cons, List.length_nil, Nat.reduceAdd] at hF1; have HC1 := hF1.cells; simp only [Fr.Cells, List.length_cons, List.length_nil, Nat.reduceAdd, and_true] at HC1; clear hF HC; have HC := HC1; have hF := Aside0.mk hF1; clear hF1 HC1) | ((first | (with_reducible refine Fr.gate_alloc rfl ?_) | (with_reducible refine Fr.gate_box rfl ?_)); apply Fr.fr_box hF.out rfl; (case hrun => first | (go_simp; done) | (go_simp; rfl)); intro g W hF1; have HC1 := hF1.cells; simp only [Fr.Cells, List.length_cons, List.length_nil, Nat.reduceAdd, and_true] at HC1; clear hF HC; have HC := HC1; have hF := Aside0.mk hF1; clear hF1 HC1))
      go_ret
      exact ⟨by rw [HV.out, HK.out]; rfl, hF.out.below⟩
    · have HV := Aside0.mk (show matchB m l = askB 2 (rd_T92 l (i : Nat)).f1 m.f2 by unfold matchB; rw [hfind, HK.out]; rfl)
      rw [hidx] at HI2
      clear hidx hfind
      have hili : (i : Int) < (l.length : Int) := by omega
      obtain ⟨ad, e1, a0, a1⟩ := at_T92 HR.out (i : Int) (by omega) hili
      cases e1
      rw [Int.toNat_natCast] at a0 a1
      have A1 := Aside0.mk a1
      clear a0 a1
      go_wp2_with (first | (go_at_call 112; (with_reducible refine HI2.out.mono ?_); rintro e W ⟨rfl, hb⟩; have hF1 := hF.out.call hb; clear hb; have HC1 := hF1.cells; simp only [Fr.Cells, List.length_cons, List.length_nil, Nat.reduceAdd, and_true] at HC1; clear hF HC; have HC := HC1; have hF := Aside0.mk hF1; clear hF1 HC1) | ((with_reducible refine gate_store rfl ?_); apply Fr.fr_store hF.out rfl rfl rfl; (case hp => rfl); (case hx => first | (go_simp; rfl) | rfl); (case hu => (simp only [Value.cells]; rfl)); (case hs => (repeat (first | exact Fr.Spot.here _ _ | apply Fr.Spot.there))); (case ht => kernel_rfl); (case h1 => simp [Value.oneCell']); (case hfit => simp); intro W hF1; simp only [Fr.patch, List.take_zero, List.nil_append, List.drop, List.append_nil, List.take, List.cons_append, List.length_cons, List.length_nil, Nat.reduceAdd] at hF1; have HC1 := hF1.cells; simp only [Fr.Cells, List.length_cons, List.length_nil, Nat.reduceAdd, and_true] at HC1; clear hF HC; have HC := HC1; have hF := Aside0.mk hF1; clear hF1 HC1) | ((first | (with_reducible refine Fr.gate_alloc rfl ?_) | (with_reducible refine Fr.gate_box rfl ?_)); apply Fr.fr_box hF.out rfl; (case hrun => first | (go_simp; done) | (go_simp; rfl)); intro g W hF1; have HC1 := hF1.cells; simp only [Fr.Cells, List.length_cons, List.length_nil, Nat.reduceAdd, and_true] at HC1; clear hF HC; have HC := HC1; have hF := Aside0.mk hF1; clear hF1 HC1))
      refine Fr.fr_region (by kernel_rfl) (by kernel_rfl) hF.out ?_
      (apply Fr.fr_q_val; (case hw => first | rfl | (go_simp; done)); (case hv => intro W hF1; have HC1 := hF1.cells; simp only [Fr.Cells, List.length_cons, List.length_nil, Nat.reduceAdd, and_true] at HC1; clear hF1; first | (go_simp; done) | (go_simp; rfl)); simp only [Act.put, List.setIfInBounds_toArray, List.set_cons_zero, List.set_cons_succ])
      (apply Fr.fr_q_val; (case hw => first | rfl | (go_simp; done)); (case hv => intro W hF1; have HC1 := hF1.cells; simp only [Fr.Cells, List.length_cons, List.length_nil, Nat.reduceAdd, and_true] at HC1; clear hF1; first | (go_simp; done) | (go_simp; rfl)); simp only [Act.put, List.setIfInBounds_toArray, List.set_cons_zero, List.set_cons_succ])
      (apply Fr.fr_q_val; (case hw => first | rfl | (go_simp; done)); (case hv => intro W hF1; have HC1 := hF1.cells; simp only [Fr.Cells, List.length_cons, List.length_nil, Nat.reduceAdd, and_true] at HC1; clear hF1; first | (go_simp; done) | (go_simp; rfl)); simp only [Act.put, List.setIfInBounds_toArray, List.set_cons_zero, List.set_cons_succ])
      (apply Fr.fr_q_val; (case hw => first | rfl | (go_simp; done)); (case hv => intro W hF1; have HC1 := hF1.cells; simp only [Fr.Cells, List.length_cons, List.length_nil, Nat.reduceAdd, and_true] at HC1; clear hF1; first | (go_simp; done) | (go_simp; rfl)); simp only [Act.put, List.setIfInBounds_toArray, List.set_cons_zero, List.set_cons_succ])
      (apply Fr.fr_q_val; (case hw => first | rfl | (go_simp; done)); (case hv => intro W hF1; have HC1 := hF1.cells; simp only [Fr.Cells, List.length_cons, List.length_nil, Nat.reduceAdd, and_true] at HC1; clear hF1; first | (go_simp; done) | (go_simp; rfl)); simp only [Act.put, List.setIfInBounds_toArray, List.set_cons_zero, List.set_cons_succ])
      (apply Fr.fr_q_val; (case hw => first | rfl | (go_simp; done)); (case hv => intro W hF1; have HC1 := hF1.cells; simp only [Fr.Cells, List.length_cons, List.length_nil, Nat.reduceAdd, and_true] at HC1; clear hF1; first | (go_simp; done) | (go_simp; rfl)); simp only [Act.put, List.setIfInBounds_toArray, List.set_cons_zero, List.set_cons_succ])
      (apply Fr.fr_q_val; (case hw => first | rfl | (go_simp; done)); (case hv => intro W hF1; have q0 := (hF1.below.cell (World.block_lt_of_cell? _ _ A1.out)).trans A1.out; clear hF1; first | (go_simp; done) | (go_simp; rfl)); simp only [Act.put, List.setIfInBounds_toArray, List.set_cons_zero, List.set_cons_succ])
      (apply Fr.fr_q_val; (case hw => first | rfl | (go_simp; done)); (case hv => intro W hF1; have HC1 := hF1.cells; simp only [Fr.Cells, List.length_cons, List.length_nil, Nat.reduceAdd, and_true] at HC1; clear hF1; first | (go_simp; done) | (go_simp; rfl)); simp only [Act.put, List.setIfInBounds_toArray, List.set_cons_zero, List.set_cons_succ])
      (apply Fr.fr_q_val; (case hw => first | rfl | (go_simp; done)); (case hv => intro W hF1; have HC1 := hF1.cells; simp only [Fr.Cells, List.length_cons, List.length_nil, Nat.reduceAdd, and_true] at HC1; clear hF1; first | (go_simp; done) | (go_simp; rfl)); simp only [Act.put, List.setIfInBounds_toArray, List.set_cons_zero, List.set_cons_succ])
      (apply Fr.fr_q_call; (case hw => first | rfl | (go_simp; done)); (case hv => intro W hF1; clear hF1; first | (go_simp; done) | (go_simp; rfl) | (go_simp; exact ⟨rfl, rfl⟩)); (case hc => intro W hF1; refine (ask2 _ _ _).mono ?_; rintro e W' ⟨rfl, hb⟩; exact ⟨rfl, hb⟩); simp only [Act.put, List.setIfInBounds_toArray, List.set_cons_zero, List.set_cons_succ])
      (apply Fr.fr_q_val; (case hw => first | rfl | (go_simp; done)); (case hv => intro W hF1; have HC1 := hF1.cells; simp only [Fr.Cells, List.length_cons, List.length_nil, Nat.reduceAdd, and_true] at HC1; clear hF1; first | (go_simp; done) | (go_simp; rfl)); simp only [Act.put, List.setIfInBounds_toArray, List.set_cons_zero, List.set_cons_succ])
      refine wpQuiet_nil ?_; intro W hF1; have HC1 := hF1.cells; simp only [Fr.Cells, List.length_cons, List.length_nil, Nat.reduceAdd, and_true] at HC1; clear hF HC; have HC := HC1; have hF := Aside0.mk hF1; clear hF1 HC1
      go_wp2
      go_ret
      exact ⟨by rw [HV.out]; rfl, hF.out.below⟩
set_option maxHeartbeats 4000000 in
set_option maxRecDepth 100000 in
theorem match3 (m : S88) (hk : m.f0 = 3) (A : Option Addr) (c : Nat) (l : List S92) (w : World) (hr : Kd.C k92 w A l.length l) : Calls Try.prog 73 #[.agg #[.int .i64 m.f0, .string m.f1, .string m.f2], .slice A l.length c] w fun e w' => e = .returned (.bool (matchB m l)) ∧ Below w.heap.size w w' := by
  rw [hk]
  have hmf : ∀ (fn : Fn) (first cap : Array Value) (w : World), (Instr.makeFunc fn first cap).run Try.prog w = .ok (.func fn first cap) w := fun _ _ _ _ => rfl
  have HR := Aside0.mk hr
  have HK := Aside0.mk hk
  have hll : l.length ≤ 9223372036854775807 := hr.2.1
  clear hr hk
  have hF := Aside0.mk (Fr.Frame.start w)
  have HC : True := trivial
  go_enter Try.func73, Try.ntmps73
  go_wp2_with (first | ((with_reducible refine gate_store rfl ?_); apply Fr.fr_store hF.out rfl rfl rfl; (case hp => rfl); (case hx => first | (go_simp; rfl) | rfl); (case hu => (simp only [Value.cells]; rfl)); (case hs => (repeat (first | exact Fr.Spot.here _ _ | apply Fr.Spot.there))); (case ht => kernel_rfl); (case h1 => simp [Value.oneCell']); (case hfit => simp); intro W hF1; simp only [Fr.patch, List.take_zero, List.nil_append, List.drop, List.append_nil, List.take, List.cons_append, List.length_cons, List.length_nil, Nat.reduceAdd] at hF1; have HC1 := hF1.cells; simp only [Fr.Cells, List.length_cons, List.length_nil, Nat.reduceAdd, and_true] at HC1; clear hF HC; have HC := HC1; have hF := Aside0.mk hF1; clear hF1 HC1) | ((with_reducible refine gate_dst (N := 2) rfl ?_); apply Fr.fr_box hF.out rfl; (case hrun => first | (go_simp; done) | (go_simp; rfl)); intro gm W hF1; have HC1 := hF1.cells; simp only [Fr.Cells, List.length_cons, List.length_nil, Nat.reduceAdd, and_true] at HC1; clear hF HC; have HC := HC1; have hF := Aside0.mk hF1; clear hF1 HC1) | ((first | (with_reducible refine Fr.gate_alloc rfl ?_) | (with_reducible refine Fr.gate_box rfl ?_)); apply Fr.fr_box hF.out rfl; (case hrun => first | (go_simp; done) | (go_simp; rfl)); intro g W hF1; have HC1 := hF1.cells; simp only [Fr.Cells, List.length_cons, List.length_nil, Nat.reduceAdd, and_true] at HC1; clear hF HC; have HC := HC1; have hF := Aside0.mk hF1; clear hF1 HC1))
  have hgl : gm < W.heap.size := hF.out.lt List.mem_cons_self
  have hgn : ¬ W.heap.size = gm := by omega
  have hgn2 : ¬ gm = W.heap.size := by omega
  obtain ⟨hc0, hf0⟩ := HC
  have q0 := hc0 0 (by decide)
  simp only [List.getElem?_cons_zero, List.getElem?_cons_succ] at q0
  clear hc0 hf0
  have hi0 : ∀ w, (Instr.index 134 (.agg #[.func (.func 138) #[] #[], .bool false, .func (.func 139) #[] #[], .bool true, .func (.func 140) #[] #[], .bool false, .func (.func 141) #[] #[], .bool false]) (.int .i64 3)).run Try.prog w = .ok (.agg #[.func (.func 141) #[] #[], .bool false]) w := fun _ => by kernel_rfl
  go_region_held3 (fun w' => w'.cell? ⟨gm, 0, none⟩ = some (.int .i64 3)) (first | go_keep | assumption) ((go_at_call 111; refine (kinds_calls _).mono ?_; rintro e W1 ⟨rfl, hb⟩; obtain ⟨hc, hf⟩ := bcell hb; have h7 := below_keeps hb (by assumption : World.cell? _ ⟨gm, 0, none⟩ = some (.int .i64 3))))
  all_goals
    first
    | (have hF2 : Fr.Frame w (W1.alloc (Obj.cells #[Value.func (Fn.func 141) #[] #[], Value.bool false] 133)) [(W1.heap.size, [.func (.func 141) #[] #[], .bool false], 133), (gm, [.int .i64 3, .string m.f1, .string m.f2], 88)] [] := (hF.out.drew.call hb).alloc [.func (.func 141) #[] #[], .bool false] 133
       clear hF h7 hc hf hb q0 hgn hgn2 hgl
       generalize (W1.alloc (Obj.cells #[Value.func (Fn.func 141) #[] #[], Value.bool false] 133)) = WW at hF2 ⊢
       generalize W1.heap.size = gk at hF2 ⊢)
    | (have hF2 : Fr.Frame w ((W1.setCell ⟨W.heap.size, 0, none⟩ (Value.func (Fn.func 141) #[] #[])).setCell ⟨W.heap.size, 1, none⟩ (Value.bool false)) [(W.heap.size, [.func (.func 141) #[] #[], .bool false], 133), (gm, [.int .i64 3, .string m.f1, .string m.f2], 88)] [] := ((hF.out.alloc [.nilFunc, .bool false] 133).drew.call hb).put (Fr.Spot.here _ _) 0 [.func (.func 141) #[] #[], .bool false] (by simp)
       clear hF h7 hc hf hb q0 hgn hgn2 hgl
       generalize ((W1.setCell ⟨W.heap.size, 0, none⟩ (Value.func (Fn.func 141) #[] #[])).setCell ⟨W.heap.size, 1, none⟩ (Value.bool false)) = WW at hF2 ⊢
       generalize W.heap.size = gk at hF2 ⊢)
    have HC1 := hF2.cells
    simp only [Fr.Cells, List.length_cons, List.length_nil, Nat.reduceAdd, and_true] at HC1
    have HC := HC1
    have hF := Aside0.mk hF2
    clear HC1 hF2
    have p0 := HC.2.1 0 (by decide)
    have p1 := HC.2.1 1 (by decide)
    have p2 := HC.2.1 2 (by decide)
    simp only [List.getElem?_cons_zero, List.getElem?_cons_succ] at p0 p1 p2
    have HI := Aside0.mk (fun W (hB : Below w.heap.size w W) h0 h1 h2 => indexFunc_92 (fun _ => True) 113 #[.pointer (some ⟨gm, 0, none⟩)] (namP m) (enters_of Try.func113 (by kernel_rfl) rfl) A c l W (Kd.C_below HR.out hB) (fun _ _ => trivial) (nam_pred m gm W h0 h1 h2))
    have HI2 := Aside0.mk (HI.out _ hF.out.below (by rw [HK.out]; exact p0) p1 p2)
    clear p0 p1 p2 HI
    rcases idx_cases (namP m) l with ⟨hidx, hfind⟩ | ⟨i, hil, hidx, hfind⟩
    · have HV := Aside0.mk (show matchB m l = decide (m.f0 = 1) by unfold matchB; rw [hfind])
      rw [hidx] at HI2
      clear hidx hfind
      go_wp2_with (first | (go_at_call 112; (with_reducible refine HI2.out.mono ?_); rintro e W ⟨rfl, hb⟩; have hF1 := hF.out.call hb; clear hb; have HC1 := hF1.cells; simp only [Fr.Cells, List.length_cons, List.length_nil, Nat.reduceAdd, and_true] at HC1; clear hF HC; have HC := HC1; have hF := Aside0.mk hF1; clear hF1 HC1) | ((with_reducible refine gate_store rfl ?_); apply Fr.fr_store hF.out rfl rfl rfl; (case hp => rfl); (case hx => first | (go_simp; rfl) | rfl); (case hu => (simp only [Value.cells]; rfl)); (case hs => (repeat (first | exact Fr.Spot.here _ _ | apply Fr.Spot.there))); (case ht => kernel_rfl); (case h1 => simp [Value.oneCell']); (case hfit => simp); intro W hF1; simp only [Fr.patch, List.take_zero, List.nil_append, List.drop, List.append_nil, List.take, List.cons_append, List.length_cons, List.length_nil, Nat.reduceAdd] at hF1; have HC1 := hF1.cells; simp only [Fr.Cells, List.length_cons, List.length_nil, Nat.reduceAdd, and_true] at HC1; clear hF HC; have HC := HC1; have hF := Aside0.mk hF1; clear hF1 HC1) | ((first | (with_reducible refine Fr.gate_alloc rfl ?_) | (with_reducible refine Fr.gate_box rfl ?_)); apply Fr.fr_box hF.out rfl; (case hrun => first | (go_simp; done) | (go_simp; rfl)); intro g W hF1; have HC1 := hF1.cells; simp only [Fr.Cells, List.length_cons, List.length_nil, Nat.reduceAdd, and_true] at HC1; clear hF HC; have HC := HC1; have hF := Aside0.mk hF1; clear hF1 HC1))
      go_ret
      exact ⟨by rw [HV.out, HK.out]; rfl, hF.out.below⟩
    · have HV := Aside0.mk (show matchB m l = askB 3 (rd_T92 l (i : Nat)).f1 m.f2 by unfold matchB; rw [hfind, HK.out]; rfl)
      rw [hidx] at HI2
      clear hidx hfind
      have hili : (i : Int) < (l.length : Int) := by omega
      obtain ⟨ad, e1, a0, a1⟩ := at_T92 HR.out (i : Int) (by omega) hili
      cases e1
      rw [Int.toNat_natCast] at a0 a1
      have A1 := Aside0.mk a1
      clear a0 a1
      go_wp2_with (first | (go_at_call 112; (with_reducible refine HI2.out.mono ?_); rintro e W ⟨rfl, hb⟩; have hF1 := hF.out.call hb; clear hb; have HC1 := hF1.cells; simp only [Fr.Cells, List.length_cons, List.length_nil, Nat.reduceAdd, and_true] at HC1; clear hF HC; have HC := HC1; have hF := Aside0.mk hF1; clear hF1 HC1) | ((with_reducible refine gate_store rfl ?_); apply Fr.fr_store hF.out rfl rfl rfl; (case hp => rfl); (case hx => first | (go_simp; rfl) | rfl); (case hu => (simp only [Value.cells]; rfl)); (case hs => (repeat (first | exact Fr.Spot.here _ _ | apply Fr.Spot.there))); (case ht => kernel_rfl); (case h1 => simp [Value.oneCell']); (case hfit => simp); intro W hF1; simp only [Fr.patch, List.take_zero, List.nil_append, List.drop, List.append_nil, List.take, List.cons_append, List.length_cons, List.length_nil, Nat.reduceAdd] at hF1; have HC1 := hF1.cells; simp only [Fr.Cells, List.length_cons, List.length_nil, Nat.reduceAdd, and_true] at HC1; clear hF HC; have HC := HC1; have hF := Aside0.mk hF1; clear hF1 HC1) | ((first | (with_reducible refine Fr.gate_alloc rfl ?_) | (with_reducible refine Fr.gate_box rfl ?_)); apply Fr.fr_box hF.out rfl; (case hrun => first | (go_simp; done) | (go_simp; rfl)); intro g W hF1; have HC1 := hF1.cells; simp only [Fr.Cells, List.length_cons, List.length_nil, Nat.reduceAdd, and_true] at HC1; clear hF HC; have HC := HC1; have hF := Aside0.mk hF1; clear hF1 HC1))
      refine Fr.fr_region (by kernel_rfl) (by kernel_rfl) hF.out ?_
      (apply Fr.fr_q_val; (case hw => first | rfl | (go_simp; done)); (case hv => intro W hF1; have HC1 := hF1.cells; simp only [Fr.Cells, List.length_cons, List.length_nil, Nat.reduceAdd, and_true] at HC1; clear hF1; first | (go_simp; done) | (go_simp; rfl)); simp only [Act.put, List.setIfInBounds_toArray, List.set_cons_zero, List.set_cons_succ])
      (apply Fr.fr_q_val; (case hw => first | rfl | (go_simp; done)); (case hv => intro W hF1; have HC1 := hF1.cells; simp only [Fr.Cells, List.length_cons, List.length_nil, Nat.reduceAdd, and_true] at HC1; clear hF1; first | (go_simp; done) | (go_simp; rfl)); simp only [Act.put, List.setIfInBounds_toArray, List.set_cons_zero, List.set_cons_succ])
      (apply Fr.fr_q_val; (case hw => first | rfl | (go_simp; done)); (case hv => intro W hF1; have HC1 := hF1.cells; simp only [Fr.Cells, List.length_cons, List.length_nil, Nat.reduceAdd, and_true] at HC1; clear hF1; first | (go_simp; done) | (go_simp; rfl)); simp only [Act.put, List.setIfInBounds_toArray, List.set_cons_zero, List.set_cons_succ])
      (apply Fr.fr_q_val; (case hw => first | rfl | (go_simp; done)); (case hv => intro W hF1; have HC1 := hF1.cells; simp only [Fr.Cells, List.length_cons, List.length_nil, Nat.reduceAdd, and_true] at HC1; clear hF1; first | (go_simp; done) | (go_simp; rfl)); simp only [Act.put, List.setIfInBounds_toArray, List.set_cons_zero, List.set_cons_succ])
      (apply Fr.fr_q_val; (case hw => first | rfl | (go_simp; done)); (case hv => intro W hF1; have HC1 := hF1.cells; simp only [Fr.Cells, List.length_cons, List.length_nil, Nat.reduceAdd, and_true] at HC1; clear hF1; first | (go_simp; done) | (go_simp; rfl)); simp only [Act.put, List.setIfInBounds_toArray, List.set_cons_zero, List.set_cons_succ])
      (apply Fr.fr_q_val; (case hw => first | rfl | (go_simp; done)); (case hv => intro W hF1; have HC1 := hF1.cells; simp only [Fr.Cells, List.length_cons, List.length_nil, Nat.reduceAdd, and_true] at HC1; clear hF1; first | (go_simp; done) | (go_simp; rfl)); simp only [Act.put, List.setIfInBounds_toArray, List.set_cons_zero, List.set_cons_succ])
      (apply Fr.fr_q_val; (case hw => first | rfl | (go_simp; done)); (case hv => intro W hF1; have q0 := (hF1.below.cell (World.block_lt_of_cell? _ _ A1.out)).trans A1.out; clear hF1; first | (go_simp; done) | (go_simp; rfl)); simp only [Act.put, List.setIfInBounds_toArray, List.set_cons_zero, List.set_cons_succ])
      (apply Fr.fr_q_val; (case hw => first | rfl | (go_simp; done)); (case hv => intro W hF1; have HC1 := hF1.cells; simp only [Fr.Cells, List.length_cons, List.length_nil, Nat.reduceAdd, and_true] at HC1; clear hF1; first | (go_simp; done) | (go_simp; rfl)); simp only [Act.put, List.setIfInBounds_toArray, List.set_cons_zero, List.set_cons_succ])
      (apply Fr.fr_q_val; (case hw => first | rfl | (go_simp; done)); (case hv => intro W hF1; have HC1 := hF1.cells; simp only [Fr.Cells, List.length_cons, List.length_nil, Nat.reduceAdd, and_true] at HC1; clear hF1; first | (go_simp; done) | (go_simp; rfl)); simp only [Act.put, List.setIfInBounds_toArray, List.set_cons_zero, List.set_cons_succ])
      (apply Fr.fr_q_call; (case hw => first | rfl | (go_simp; done)); (case hv => intro W hF1; clear hF1; first | (go_simp; done) | (go_simp; rfl) | (go_simp; exact ⟨rfl, rfl⟩)); (case hc => intro W hF1; refine (ask3 _ _ _).mono ?_; rintro e W' ⟨rfl, hb⟩; exact ⟨rfl, hb⟩); simp only [Act.put, List.setIfInBounds_toArray, List.set_cons_zero, List.set_cons_succ])
      (apply Fr.fr_q_val; (case hw => first | rfl | (go_simp; done)); (case hv => intro W hF1; have HC1 := hF1.cells; simp only [Fr.Cells, List.length_cons, List.length_nil, Nat.reduceAdd, and_true] at HC1; clear hF1; first | (go_simp; done) | (go_simp; rfl)); simp only [Act.put, List.setIfInBounds_toArray, List.set_cons_zero, List.set_cons_succ])
      refine wpQuiet_nil ?_; intro W hF1; have HC1 := hF1.cells; simp only [Fr.Cells, List.length_cons, List.length_nil, Nat.reduceAdd, and_true] at HC1; clear hF HC; have HC := HC1; have hF := Aside0.mk hF1; clear hF1 HC1
      go_wp2
      go_ret
      exact ⟨by rw [HV.out]; rfl, hF.out.below⟩
end Go.Proofs.Ytkphinfijppkeaa.G
