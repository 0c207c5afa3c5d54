/- Contracts of functions of the given program, and what they come to, for any arguments. No condition beyond each theorem's own premises. -/
import Derived.Test.YtlkaebnigmfphaaWMore
import Derived.WalkKit
import Derived.Deep.Quiet
import Derived.Test.YtlkaebnigmfphaaProg
import Derived.Below
import Derived.Deep.Draws
import Derived.Deep.AppendLies
import Derived.Maps.AppendAt
import Derived.OwnWalk
import Derived.Laws.BytesArg
import Derived.Laws.MakeOwn
import Derived.Laws.OwnMore
import Derived.Deep.OwnRows
import Derived.Tactics
import Derived.Lib.ConvBytes
import Derived.Laws.Slices
import Derived.KernelRfl
import Derived.RowKit3
import Derived.Deep.LoopGhost
import Derived.Deep.QuietTactic
import Derived.BigQuiet
import Derived.WideLaws
import Derived.Deep.DeepCutAuto
import Derived.Deep.CutBlock
import Derived.Deep.RegionHeld3
import Derived.Laws.Rows
import Derived.Lib.AppendStr
import Derived.ArgAppend
import Derived.Laws.IdiomCopy
import Derived.OrdersHeld
import Derived.Laws.BitsLemmas
import Derived.RowKit
import Derived.Shelf.Abstract
import Derived.Test.YtlkaebnigmfphaaWWords
import Derived.Test.YtlkaebnigmfphaaWLast
import Derived.Test.YtlkaebnigmfphaaWQPut
import Derived.Test.YtlkaebnigmfphaaWApart
import Derived.Test.YtlkaebnigmfphaaWArr
import Derived.Test.YtlkaebnigmfphaaWZeros
import Derived.Test.YtlkaebnigmfphaaWFoot
import Derived.Test.YtlkaebnigmfphaaWKept
import Derived.Test.YtlkaebnigmfphaaWShare
import Derived.Test.YtlkaebnigmfphaaWN
import Derived.Test.YtlkaebnigmfphaaWEqStruct
import Derived.Test.YtlkaebnigmfphaaWRepsOne
import Derived.Test.YtlkaebnigmfphaaWNEv
import Derived.ProofKit
import Derived.OpenShut
import Derived.ShutString
import Derived.ChangeOld
import Derived.SizedLaws
import Derived.Deep.Slices
namespace Go.Proofs.Ytlkaebnigmfphaa.Fr
open Go.RowKit Go.Proofs.YtlkaebnigmfphaaW.PrintWords
set_option linter.unusedVariables false
abbrev Blk := Nat × List Value × TypeId
structure Row where
  foot : Nat → Prop
  holds : World → Prop
  dep : ∀ w w' : World, w.heap.size ≤ w'.heap.size → (∀ b, foot b → w'.heap[b]? = w.heap[b]?) → holds w → holds w'
structure Frame (w0 w : World) (bs : List Blk) (rs : List Row) : Prop where
  below : Below w0.heap.size w0 w
  blk : ∀ b ∈ bs, w0.heap.size ≤ b.1 ∧ w.heap[b.1]? = some (.cells b.2.1.toArray b.2.2 (0, 0))
  nodup : (bs.map (·.1)).Nodup
  row : ∀ r ∈ rs, r.holds w ∧ (∀ k, r.foot k → k < w.heap.size) ∧ ∀ b ∈ bs, ¬ r.foot b.1
inductive Spot (g : Nat) (t : TypeId) : List Blk → List Value → (List Value → List Blk) → Prop
  | here (cs : List Value) (bs : List Blk) : Spot g t ((g, cs, t) :: bs) cs (fun c => (g, c, t) :: bs)
  | there (b : Blk) {bs : List Blk} {cs : List Value} {f : List Value → List Blk} (h : Spot g t bs cs f) : Spot g t (b :: bs) cs (fun c => b :: f c)
theorem Spot.mem {g : Nat} {t : TypeId} {bs : List Blk} {cs : List Value} {f : List Value → List Blk} (h : Spot g t bs cs f) : (g, cs, t) ∈ bs := by
  induction h with
  | here cs bs => simp
  | there b _ ih => exact List.mem_cons_of_mem _ ih
theorem Spot.map {g : Nat} {t : TypeId} {bs : List Blk} {cs : List Value} {f : List Value → List Blk} (h : Spot g t bs cs f) (c : List Value) : (f c).map (·.1) = bs.map (·.1) := by
  induction h with
  | here cs bs => rfl
  | there b _ ih => simp [ih]
theorem Spot.other {g : Nat} {t : TypeId} {bs : List Blk} {cs : List Value} {f : List Value → List Blk} (h : Spot g t bs cs f) (hn : (bs.map (·.1)).Nodup) (c : List Value) :
    ∀ b ∈ f c, b = (g, c, t) ∨ (b ∈ bs ∧ b.1 ≠ g) := by
  induction h with
  | here cs bs =>
    intro b hb
    rcases List.mem_cons.1 hb with rfl | hb
    · exact .inl rfl
    · refine .inr ⟨List.mem_cons_of_mem _ hb, fun e => ?_⟩
      simp only [List.map_cons, List.nodup_cons] at hn
      exact hn.1 (by rw [← e]; exact List.mem_map_of_mem hb)
  | there b0 h0 ih =>
    intro b hb
    simp only [List.map_cons, List.nodup_cons] at hn
    rcases List.mem_cons.1 hb with rfl | hb
    · refine .inr ⟨List.mem_cons_self, fun e => hn.1 ?_⟩
      rw [e]; exact List.mem_map_of_mem (f := (·.1)) h0.mem
    · rcases ih hn.2 b hb with h | ⟨h1, h2⟩
      · exact .inl h
      · exact .inr ⟨List.mem_cons_of_mem _ h1, h2⟩
def patch (cs : List Value) (o : Nat) (vs : List Value) : List Value := cs.take o ++ vs ++ cs.drop (o + vs.length)
section
variable {w0 w w' : World} {bs : List Blk} {rs : List Row}
theorem Frame.start (w : World) : Frame w w [] [] := ⟨Below.refl _ _, by simp, by simp, by simp⟩
theorem Frame.lt (h : Frame w0 w bs rs) {b : Blk} (hb : b ∈ bs) : b.1 < w.heap.size := blk_lt (h.blk b hb).2
theorem Frame.call (h : Frame w0 w bs rs) (hb : Below w.heap.size w w') : Frame w0 w' bs rs :=
  ⟨below_then h.below h.below.size hb, fun b hm => ⟨(h.blk b hm).1, (hb.block _ (h.lt hm)).trans (h.blk b hm).2⟩, h.nodup,
    fun r hr => ⟨r.dep w w' hb.size (fun k hk => hb.block k ((h.row r hr).2.1 k hk)) (h.row r hr).1, fun k hk => Nat.lt_of_lt_of_le ((h.row r hr).2.1 k hk) hb.size, (h.row r hr).2.2⟩⟩
theorem Frame.drewN (h : Frame w0 w bs rs) (n : Nat) : Frame w0 (w.drewN n) bs rs := h.call (pw_below_drewN (Below.refl _ _) n)
theorem Frame.drew (h : Frame w0 w bs rs) : Frame w0 w.drew bs rs := h.call (below_drew (Below.refl _ _))
theorem Frame.alloc (h : Frame w0 w bs rs) (cs : List Value) (t : TypeId) : Frame w0 (w.alloc (.cells cs.toArray t (0, 0))) ((w.heap.size, cs, t) :: bs) rs := by
  have h1 := h.call (below_alloc (Below.refl w.heap.size w) (.cells cs.toArray t (0, 0)))
  refine ⟨h1.below, fun b hb => ?_, ?_, fun r hr => ⟨(h1.row r hr).1, (h1.row r hr).2.1, fun b hb => ?_⟩⟩
  · rcases List.mem_cons.1 hb with rfl | hb
    · exact ⟨h.below.size, blk_new _ _⟩
    · exact h1.blk b hb
  · simp only [List.map_cons, List.nodup_cons]
    refine ⟨fun hm => ?_, h.nodup⟩
    obtain ⟨b, hb, e⟩ := List.mem_map.1 hm
    have := h.lt hb
    omega
  · rcases List.mem_cons.1 hb with rfl | hb
    · intro hk
      have := (h.row r hr).2.1 _ hk
      simp at this
    · exact (h.row r hr).2.2 b hb
theorem Frame.put (h : Frame w0 w bs rs) {g : Nat} {t : TypeId} {cs : List Value} {f : List Value → List Blk} (hs : Spot g t bs cs f) (o : Nat) (vs : List Value) (ho : o + vs.length ≤ cs.length) :
    Frame w0 (w.setCells g o vs) (f (patch cs o vs)) rs := by
  obtain ⟨s1, s2, s3, s4⟩ := setCells_same g vs o w
  have hg := h.blk _ hs.mem
  obtain ⟨cur', h3, h4, h5⟩ := setCells_row vs o w cs.toArray hg.2 (by simpa using ho)
  have e : cur' = (patch cs o vs).toArray := by
    apply Array.ext'
    rw [h5]; simp [patch]
  have far : ∀ k, k ≠ g → (w.setCells g o vs).heap[k]? = w.heap[k]? := fun k hk => setCells_far vs o k hk
  refine ⟨⟨s1.trans h.below.os, s2.trans h.below.tape, s3.trans h.below.output, by rw [s4]; exact h.below.size, fun k hk => ?_⟩, fun b hb => ?_, by rw [hs.map]; exact h.nodup, fun r hr => ⟨?_, fun k hk => by rw [s4]; exact (h.row r hr).2.1 k hk, fun b hb => ?_⟩⟩
  · rw [far k (by have : w0.heap.size ≤ g := hg.1; omega)]; exact h.below.block k hk
  · rcases hs.other h.nodup _ b hb with rfl | ⟨hb, hne⟩
    · exact ⟨hg.1, by rw [← e]; exact h3⟩
    · exact ⟨(h.blk b hb).1, (far _ hne).trans (h.blk b hb).2⟩
  · refine r.dep w _ (by rw [s4]; exact Nat.le_refl _) (fun k hk => far k (fun ek => ?_)) (h.row r hr).1
    subst ek
    exact (h.row r hr).2.2 _ hs.mem hk
  · rcases hs.other h.nodup _ b hb with rfl | ⟨hb, hne⟩
    · exact fun hk => (h.row r hr).2.2 (g, cs, t) hs.mem hk
    · exact (h.row r hr).2.2 b hb
def Cells (w : World) : List Blk → Prop
  | [] => True
  | b :: bs => ((∀ i, i < b.2.1.length → w.cell? ⟨b.1, i, none⟩ = b.2.1[i]?) ∧ ∀ i, w.frozen? ⟨b.1, i, none⟩ = false) ∧ Cells w bs
theorem cells_of : ∀ (bs : List Blk), (∀ b ∈ bs, w.heap[b.1]? = some (.cells b.2.1.toArray b.2.2 (0, 0))) → Cells w bs
  | [], _ => trivial
  | b :: bs, h => ⟨⟨fun i hi => by rw [blk_cell (h b List.mem_cons_self) i]; simp, fun i => blk_frozen (h b List.mem_cons_self) i⟩, cells_of bs (fun b' hb => h b' (List.mem_cons_of_mem _ hb))⟩
theorem Frame.cells (h : Frame w0 w bs rs) : Cells w bs := cells_of bs (fun b hb => (h.blk b hb).2)
theorem Frame.rowAt (h : Frame w0 w bs rs) {r : Row} (hr : r ∈ rs) : r.holds w := (h.row r hr).1
theorem Frame.add (h : Frame w0 w bs rs) (r : Row) (hr : r.holds w) (hl : ∀ k, r.foot k → k < w.heap.size) (hd : ∀ b ∈ bs, ¬ r.foot b.1) : Frame w0 w bs (r :: rs) :=
  ⟨h.below, h.blk, h.nodup, fun r' hm => (List.mem_cons.1 hm).elim (fun e => by subst e; exact ⟨hr, hl, hd⟩) (fun hm => h.row r' hm)⟩
end
section
variable {P : Program} {ops : Array Oper} {rest : List Oper} {o : Oper} {a : Act} {Q : Exit → Act → World → Prop} {w0 W : World} {bs : List Blk} {rs : List Row}
theorem fr_box (hF : Frame w0 W bs rs) (hgd : o.guard = none) {cs : List Value} {t : TypeId}
    (hrun : (execOp a.eval o).run P W = .ok (.value (.pointer (some ⟨W.heap.size, 0, none⟩))) (W.alloc (.cells cs.toArray t (0, 0))))
    (h : ∀ g w1, Frame w0 w1 ((g, cs, t) :: bs) rs → wpList P ops Q rest (a.put o.dst (.pointer (some ⟨g, 0, none⟩))) w1) : wpList P ops Q (o :: rest) a W :=
  Kd.event_run hgd hrun (h _ _ (hF.alloc cs t))
theorem gate_alloc {t : TypeId} (_ho : o.op = .alloc t) (h : wpList P ops Q (o :: rest) a W) : wpList P ops Q (o :: rest) a W := h
theorem gate_box {t : TypeId} {x : Operand} (_ho : o.op = .box t x) (h : wpList P ops Q (o :: rest) a W) : wpList P ops Q (o :: rest) a W := h
theorem fr_store (hF : Frame w0 W bs rs) {t : TypeId} {p : Tmp} {x : Operand} (ho : o.op = .store t (.tmp p) x) (hN : o.dst = none) (hgd : o.guard = none) {g off : Nat} {tg : TypeId} {u : Value} {seg cs : List Value} {f : List Value → List Blk}
    (hp : a.eval (.tmp p) = .pointer (some ⟨g, off, none⟩)) (hx : a.eval x = u) (hu : u.cells.toList = seg) (ht : (P.info? t).map (·.size) = some seg.length) (h1 : ∀ q ∈ seg, q.oneCell' = true)
    (hs : Spot g tg bs cs f) (hfit : off + seg.length ≤ cs.length)
    (h : ∀ w1, Frame w0 w1 (f (patch cs off seg)) rs → wpList P ops Q rest a w1) : wpList P ops Q (o :: rest) a W := by
  have hg := hF.blk _ hs.mem
  have hrun : (execOp a.eval o).run P W = .ok .skip (W.setCells g off seg) := by
    have := run_store_run (P := P) t u seg hg.2 hu ht (by simpa using hfit) h1
    simp only [execOp, ho, hp, hx]
    simp [this]
  exact store_event hgd ho hN hrun (fun w' e => by subst e; exact h _ (hF.put hs off seg hfit))
end
theorem Frame.forget {w0 w : World} {bs : List Blk} {rs : List Row} (h : Frame w0 w bs rs) : Frame w0 w [] rs := ⟨h.below, by simp, by simp, fun r hr => ⟨(h.row r hr).1, (h.row r hr).2.1, by simp⟩⟩
theorem Frame.noRows {w0 w : World} {bs : List Blk} {rs : List Row} (h : Frame w0 w bs rs) : Frame w0 w bs [] := ⟨h.below, h.blk, h.nodup, by simp⟩
def rowR {α : Type} (d : Kd α) (e base : Nat) (v : Value) (xs : List α) (S : Nat → Prop) : Row := ⟨S, fun w => d.R e w base S v xs, fun _ _ _ hb h => Kd.R_move h hb⟩
theorem Frame.rowIn {α : Type} {d : Kd α} {e base : Nat} {v : Value} {xs : List α} {ok : Nat → Prop} {w0 w : World} {bs : List Blk} {rs : List Row} (h : Frame w0 w bs rs) (hR : d.R e w base ok v xs) (hok : ∀ k, ok k → ∀ b ∈ bs, k ≠ b.1) :
    ∃ S, Frame w0 w bs (rowR d e base v xs S :: rs) :=
  ⟨_, h.add (rowR d e base v xs _) (Kd.R_bound hR) (fun k hk => hk.2.2.1) (fun b hb hk => hok b.1 hk.1 b hb rfl)⟩
theorem Frame.drop {w0 w : World} {b : Blk} {bs : List Blk} {rs : List Row} (h : Frame w0 w (b :: bs) rs) : Frame w0 w bs rs :=
  ⟨h.below, fun b' hb => h.blk b' (List.mem_cons_of_mem _ hb), (List.nodup_cons.1 h.nodup).2, fun r hr => ⟨(h.row r hr).1, (h.row r hr).2.1, fun b' hb => (h.row r hr).2.2 b' (List.mem_cons_of_mem _ hb)⟩⟩
section
variable {P : Program} {ops : Array Oper} {rest : List Oper} {o : Oper} {a : Act} {Q : Exit → Act → World → Prop} {w0 W : World} {bs : List Blk}
theorem fr_append {α : Type} (d : Kd α) {S : Nat → Prop} {v : Value} {xs : List α} (s x : Operand) (t e : TypeId) (z : Value) (bytes : Nat) (p : α) (cs : List Value)
    (hF : Frame w0 W bs [rowR d e w0.heap.size v xs S]) (hgd : o.guard = none) (ho : o.op = .call { callee := .builtin .append, args := #[s, x], argTypes := #[t, t] })
    (ht : P.underlying t = some (.slice e)) (hinfo : (P.info? e).map (fun i => (i.zero, i.size, i.bytes)) = some (some z, d.sz, bytes)) (hz : z.cells.size = d.sz) (hs0 : 0 < d.sz) (hb0 : 0 < bytes)
    (hs : a.eval s = v) (hx : a.eval x = .slice (some ⟨W.heap.size, 0, none⟩) 1 1) (hp : d.M W w0.heap.size (fun _ => False) p cs) (hl : (xs.length + 1) * bytes ≤ 140737488355328)
    (h : ∀ v1 w1 S1, Frame w0 w1 bs [rowR d e w0.heap.size v1 (xs ++ [p]) S1] → wpList P ops Q rest (a.put o.dst v1) w1) : wpList P ops Q (o :: rest) a (W.alloc (.cells cs.toArray e)) := by
  have hr := hF.row (rowR d e w0.heap.size v xs S) List.mem_cons_self
  have hRS : d.R e W w0.heap.size S v xs := hr.1
  have hdis : ∀ k, S k → ∀ b ∈ bs, k ≠ b.1 := fun k hk b hb he => hr.2.2 b hb (by subst he; exact hk)
  refine Kd.R_append d (w0 := w0) w0.heap.size hgd s x t e z bytes ho ht hinfo hz hs0 hb0 v xs p cs (fun k => ∀ b ∈ bs, k ≠ b.1) (fun _ => False) hs hx hp (fun _ hk => hk.elim) (fun k hk b hb he => ?_) (Kd.R_mono hRS hdis) hF.below hF.below.size hl ?_
  · have := hF.lt hb; omega
  intro v1 w1 ho1 hb1 hg1 hat
  have hF1 : Frame w0 w1 bs [] := ⟨hb1, fun b hb => ⟨(hF.blk b hb).1, blk_grown (hF.blk b hb).2 hg1 (fun e1 => hdis b.1 (hRS.1 b.1 e1.symm) b hb rfl)⟩, hF.nodup, by simp⟩
  obtain ⟨S1, hS1⟩ := hF1.rowIn ho1 (fun k hk => hk)
  exact h v1 w1 S1 hS1
end
section
variable {P : Program} {ops : Array Oper} {rest : List Oper} {o : Oper} {a : Act} {w0 W : World} {bs : List Blk} {rs : List Row} {Qn : Act → Prop}
theorem fr_region {id : Nat} {Q : Exit → Act → World → Prop} {l : List Oper} (hm : P.follows .mixedOrders = true) (hB : Region.lexB .any l.toArray = true) (hF : Frame w0 W bs rs)
    (h : wpQuiet P l.toArray (fun w' => Frame w0 w' bs rs) (fun a' => ∀ w', Frame w0 w' bs rs → Q .normal a' w') l a) : (Code.region id l.toArray true).wp P Q a W :=
  wp_region_quiet (C := fun w' => Frame w0 w' bs rs) hm hB (hF.drewN 1) (by simpa using h)
theorem fr_q_skip (hw : Region.wanted o (yielded ops a.tmps) = false) (h : wpQuiet P ops (fun w' => Frame w0 w' bs rs) Qn rest (a.put o.dst undef)) : wpQuiet P ops (fun w' => Frame w0 w' bs rs) Qn (o :: rest) a := by
  unfold wpQuiet
  rw [hw]
  exact h
theorem fr_q_val {v : Value} (hw : Region.wanted o (yielded ops a.tmps) = true) (hv : ∀ W, Frame w0 W bs rs → (execOp a.eval o).run P W = .ok (.value v) W) (h : wpQuiet P ops (fun w' => Frame w0 w' bs rs) Qn rest (a.put o.dst v)) : wpQuiet P ops (fun w' => Frame w0 w' bs rs) Qn (o :: rest) a := by
  unfold wpQuiet
  rw [hw, if_pos rfl]
  refine ⟨v, fun W hW => ?_, h⟩
  unfold Oper.quietAt
  rw [hv W hW]
  exact ⟨rfl, rfl⟩
theorem fr_q_call {f : FuncId} {args : Array Value} {v : Value} (hw : Region.wanted o (yielded ops a.tmps) = true) (hv : ∀ W, Frame w0 W bs rs → (execOp a.eval o).run P W = .ok (.enter f args) W)
    (hc : ∀ W, Frame w0 W bs rs → Calls P f args W fun e W' => e = .returned v ∧ Below W.heap.size W W') (h : wpQuiet P ops (fun w' => Frame w0 w' bs rs) Qn rest (a.put o.dst v)) : wpQuiet P ops (fun w' => Frame w0 w' bs rs) Qn (o :: rest) a := by
  unfold wpQuiet
  rw [hw, if_pos rfl]
  refine ⟨v, fun W hW => ?_, h⟩
  unfold Oper.quietAt
  rw [hv W hW]
  exact ⟨rfl, (hc W hW).mono fun e W' ⟨he, hb⟩ => ⟨he, hW.call hb⟩⟩
theorem gate_qcallee {f : FuncId} {aops : Array Operand} {ts : Array TypeId} (_ho : o.op = .call { callee := .value (.func f), args := aops, argTypes := ts }) (h : wpQuiet P ops (fun w' => Frame w0 w' bs rs) Qn (o :: rest) a) : wpQuiet P ops (fun w' => Frame w0 w' bs rs) Qn (o :: rest) a := h
end
theorem nf {t : Bool} (h : (!t) = false) : t = true := by simpa using h
theorem nt {t : Bool} (h : (!t) = true) : ¬ t = true := by simpa using h
theorem ff {t : Bool} (h : t = false) : ¬ t = true := by simp [h]
theorem nef {α : Type} [BEq α] [LawfulBEq α] {a b : α} (h : (a != b) = false) : a = b := by simpa using h
theorem net {α : Type} [BEq α] [LawfulBEq α] {a b : α} (h : (a != b) = true) : ¬ a = b := by simpa using h
theorem eqt {α : Type} [BEq α] [LawfulBEq α] {a b : α} (h : (a == b) = true) : a = b := by simpa using h
theorem eqf {α : Type} [BEq α] [LawfulBEq α] {a b : α} (h : (a == b) = false) : ¬ a = b := by simpa using h
theorem pos2 {p : Prop} [Decidable p] (h : (!decide p) = false) : p := by simpa using h
theorem neg2 {p : Prop} [Decidable p] (h : (!decide p) = true) : ¬ p := by simpa using h
theorem dneg {p : Prop} [Decidable p] (h : ¬ p) : ¬ decide p = true := by simpa using h
end Go.Proofs.Ytlkaebnigmfphaa.Fr
namespace Go.Proofs.Ytlkaebnigmfphaa.G
open Go.RowKit Go.Proofs.YtlkaebnigmfphaaW.PrintWords Go.Proofs.YtlkaebnigmfphaaW.PrintLast Go.Proofs.YtlkaebnigmfphaaW.PrintMore
attribute [local go_sem] max2_int min2_int max_two min_two max_three min_three max_four min_four   -- for this text's walks alone
set_option linter.unusedVariables false
set_option linter.unusedSimpArgs false
def errW : Option Int → Value
  | none => .nilIface
  | some c => .iface 0 (.int .i64 c)
theorem errW_none : errW none = .nilIface := rfl
theorem errW_some (c : Int) : errW (some c) = .iface 0 (.int .i64 c) := rfl
theorem info32 : (Try.prog.info? 32).map (fun i => (i.zero, i.size, i.bytes)) = some (some (.agg #[(.int .i64 0), (.int .i64 0)]), 2, 16) := by kernel_rfl
structure S32 where
  f0 : Int
  f1 : Int
def z32 : S32 := ⟨(0 : Int), (0 : Int)⟩
def k32 : Kd S32 := Kd.iso (Kd.pair (Kd.int .i64) (Kd.int .i64)) (fun x : S32 => (x.f0, x.f1))
theorem k32_open {w : World} {x : S32} {cs : List Value} (h : k32.K w x cs) : cs = [.int .i64 x.f0, .int .i64 x.f1] := by
  obtain ⟨_, _, rfl, rfl, rfl⟩ := h
  exact rfl
theorem k32_openM {w : World} {base : Nat} {ok : Nat → Prop} {x : S32} {cs : List Value} (h : k32.M w base ok x cs) : cs = [.int .i64 x.f0, .int .i64 x.f1] := by
  obtain ⟨_, _, rfl, rfl, rfl⟩ := h
  exact rfl
theorem k32_mk (w : World) (x : S32)  : k32.K w x [.int .i64 x.f0, .int .i64 x.f1] := ⟨[.int .i64 x.f0], [.int .i64 x.f1], rfl, rfl, rfl⟩
theorem k32_mkM (w : World) (base : Nat) (ok : Nat → Prop) (x : S32)  : k32.M w base ok x [.int .i64 x.f0, .int .i64 x.f1] := ⟨[.int .i64 x.f0], [.int .i64 x.f1], rfl, rfl, rfl⟩
def rd_T32 (xs : List S32) (i : Int) : S32 := xs.getD i.toNat z32
theorem at_T32 {w : World} {A : Option Addr} {n : Nat} {xs : List S32} (h : Kd.C k32 w A n xs) (i : Int) (h0 : 0 ≤ i) (h1 : i < n) : ∃ ad , A = some ad ∧ w.cell? (ad.add (i.toNat * 2)) = some (.int .i64 (rd_T32 xs i).f0) ∧ w.cell? ⟨(ad.add (i.toNat * 2)).block, (ad.add (i.toNat * 2)).off + 1, none⟩ = some (.int .i64 (rd_T32 xs i).f1) := by
  obtain ⟨ad, c, e, _, hK, hc0⟩ := Kd.C_get h z32 i h0 h1
  have hc : ∀ j u, c[j]? = some u → w.cell? (ad.add (i.toNat * 2 + j)) = some u := hc0
  obtain rfl := k32_open hK
  exact ⟨ad, e, hc 0 _ rfl, by rw [← add_field _ _ 1 (by omega)]; exact hc 1 _ rfl⟩
def idxP {α : Type} (p : α → Bool) (l : List α) : Int := match l.findIdx? p with | some i => (i : Int) | none => -1
theorem idxP_any {α : Type} (p : α → Bool) (l : List α) : l.any p = decide (idxP p l ≥ 0) := by
  unfold idxP
  cases h : l.findIdx? p with
  | none =>
    rw [List.findIdx?_eq_none_iff] at h
    simp only [ge_iff_le, Int.reduceLE, decide_false]
    rw [List.any_eq_false]
    intro x hx; simp [h x hx]
  | some i =>
    obtain ⟨hi, hpi, _⟩ := List.findIdx?_eq_some_iff_getElem.1 h
    have : l.any p = true := List.any_eq_true.2 ⟨l[i], List.getElem_mem _, hpi⟩
    rw [this]; simp
theorem ret_int64 {a b : Int} (h : a = b) : Ending.returned (.int .i64 a) = .returned (.int .i64 b) := by rw [h]
@[go_sem] theorem isSome_setCell (w : World) (a b : Addr) (v : Value) : ((w.setCell a v).cell? b).isSome = (w.cell? b).isSome := by
  unfold World.cell? World.setCell
  simp only [Array.getElem?_modify]
  by_cases hb : a.block = b.block
  · rw [if_pos hb]
    cases h : w.heap[b.block]? with
    | none => rfl
    | some o =>
      cases o with
      | cells c e f =>
        simp only [Option.map_some]
        by_cases hs : b.spot.isSome = true
        · simp [hs]
        · by_cases ha : a.spot.isSome = true
          · simp [ha]
          · simp only [ha, hs]
            simp only [Bool.false_eq_true, if_false, Array.getElem?_setIfInBounds]
            split
            · split <;> simp_all
            · rfl
      | _ => rfl
  · rw [if_neg hb]
end Go.Proofs.Ytlkaebnigmfphaa.G
namespace Go.Proofs.Ytlkaebnigmfphaa.Op
open Go.ChangeShapes Go.WideShapes Go.ChangeAt Go.RowKit Go.Deep Go.Proofs.YtlkaebnigmfphaaW.PrintWords
set_option linter.unusedVariables false
def Opens {α : Type} (P : Program) (w : World) (t : TypeId) (d : Kd α) (wf : α → Prop) : Prop :=
  ∀ (H : Type) (enc : TypeId × Value → H) (base : Nat) (spare : Nat → Bool) (held : Bool) (fuel : Nat) (cs : List Value) (x : DataW H × List MemPlace), DataW.trod enc P w base spare held fuel t cs = some x → ∃ y, d.K w y cs ∧ wf y
section
variable {P : Program} {w : World} {t e : TypeId} {α β : Type}
theorem opens_int {k : IntKind} (ht : P.underlying t = some (.int k)) : Opens P w t (Kd.int k) (fun n => (Lit.int k n).wf = true) := by
  intro H enc base spare held fuel cs x h
  obtain ⟨n, rfl, _, hw⟩ := DataW.trod_int ht h
  exact ⟨n, rfl, hw⟩
theorem choose_row {p : Nat → α → Prop} : ∀ (n : Nat), (∀ i, i < n → ∃ y, p i y) → ∃ ys : List α, ys.length = n ∧ ∀ i y, ys[i]? = some y → p i y
  | 0, _ => ⟨[], rfl, fun i y h => by simp at h⟩
  | n + 1, h => by
    obtain ⟨ys, hl, hy⟩ := choose_row n (fun i hi => h i (by omega))
    obtain ⟨y, hn⟩ := h n (by omega)
    refine ⟨ys ++ [y], by simp [hl], fun i z hz => ?_⟩
    by_cases hi : i < n
    · rw [List.getElem?_append_left (by omega)] at hz
      exact hy i z hz
    · have hin : i = n := by
        have := (List.getElem?_eq_some_iff.1 hz).1
        simp at this; omega
      subst hin
      rw [List.getElem?_append_right (by omega), hl] at hz
      simp at hz
      subst hz
      exact hn
theorem opens_slice {d : Kd α} {wf : α → Prop} (ht : P.underlying t = some (.slice e)) (hd : Opens P w e d wf) (hc : P.cellsOf e = d.sz) : Opens P w t (Kd.slice e d) (fun l => l.length ≤ maxLen ∧ ∀ x ∈ l, wf x) := by
  intro H enc base spare held fuel cs x h
  rcases open_slice ht h with ⟨rfl, _⟩ | ⟨a, len, cap, m, n, D, Pl, rfl, hb, hl, hm, hmm, hx, hi⟩
  · exact ⟨[], ⟨none, 0, rfl, Nat.le_refl _, rfl, by simp, fun h => absurd h (by simp)⟩, by simp [maxLen], by simp⟩
  · have hlm : len ≤ m := by rw [hmm]; split <;> omega
    obtain ⟨ys, hyl, hy⟩ := choose_row (p := fun i y => ∃ c, w.cells? base (a.add (i * P.cellsOf e)) (P.cellsOf e) = some c ∧ d.K w y c ∧ wf y) len (fun i hil => by
      obtain ⟨c, h1, h2⟩ := hi i (by omega)
      obtain ⟨y, h3, h4⟩ := hd _ _ _ _ _ _ _ _ h2
      exact ⟨y, c, h1, h3, h4⟩)
    have hmax : len ≤ maxLen := Nat.le_trans hl hm
    refine ⟨ys, ⟨some a, cap, by rw [hyl], by omega, rfl, by rw [hyl]; unfold maxLen at hmax; omega, fun _ => ⟨a, rfl, fun j p hj => ?_⟩⟩, by omega, fun z hz => ?_⟩
    · obtain ⟨c, h1, h2, _⟩ := hy j p hj
      obtain ⟨_, h4, h5⟩ := World.cells?_some h1
      refine ⟨c, d.K_len h2, h2, fun i u hu => ?_⟩
      have hic : i < P.cellsOf e := by rw [← h4]; exact (List.getElem?_eq_some_iff.1 hu).1
      have h6 := h5 i hic
      rw [Go.Deep.add_add, hc] at h6
      rw [h6, hu]
    · obtain ⟨i, hil, rfl⟩ := List.mem_iff_getElem.1 hz
      obtain ⟨c, _, _, h3⟩ := hy i _ (List.getElem?_eq_getElem hil)
      exact h3
def OpensAt (P : Program) (w : World) (o : Nat) (fs : List (Nat × TypeId)) (d : Kd α) (wf : α → Prop) : Prop :=
  ∀ (H : Type) (enc : TypeId × Value → H) (base : Nat) (spare : Nat → Bool) (held : Bool) (n : Nat) (cs : List Value), (∀ f ∈ fs, ∃ x, DataW.trod enc P w base spare held n f.2 ((cs.drop f.1).take (P.cellsOf f.2)) = some x) → cs.length = o + d.sz → ∃ y, d.K w y (cs.drop o) ∧ wf y
theorem opens_last {o : Nat} {d : Kd α} {wf : α → Prop} (hd : Opens P w t d wf) (hc : P.cellsOf t = d.sz) : OpensAt P w o [(o, t)] d wf := by
  intro H enc base spare held n cs hf hl
  obtain ⟨x, hx⟩ := hf (o, t) (by simp)
  obtain ⟨y, h1, h2⟩ := hd _ _ _ _ _ _ _ _ hx
  refine ⟨y, ?_, h2⟩
  simp only at h1
  rwa [List.take_of_length_le (by rw [List.length_drop, hc]; omega)] at h1
theorem opens_cons {o o1 : Nat} {fs : List (Nat × TypeId)} {a : Kd α} {b : Kd β} {wfa : α → Prop} {wfb : β → Prop} (ha : Opens P w t a wfa) (hc : P.cellsOf t = a.sz) (ho : o1 = o + a.sz) (hb : OpensAt P w o1 fs b wfb) :
    OpensAt P w o ((o, t) :: fs) (Kd.pair a b) (fun p => wfa p.1 ∧ wfb p.2) := by
  intro H enc base spare held n cs hf hl
  have hl' : cs.length = o + (a.sz + b.sz) := hl
  obtain ⟨x, hx⟩ := hf (o, t) (by simp)
  obtain ⟨y, h1, h2⟩ := ha _ _ _ _ _ _ _ _ hx
  obtain ⟨z, h3, h4⟩ := hb _ _ _ _ _ n cs (fun f hm => hf f (List.mem_cons_of_mem _ hm)) (by omega)
  simp only [hc] at h1
  subst ho
  exact ⟨(y, z), ⟨_, _, by rw [← List.drop_drop, List.take_append_drop], h1, h3⟩, h2, h4⟩
theorem opens_struct {fs : Array Field} {d : Kd α} {wf : α → Prop} {f : β → α} (g : α → β) (hg : ∀ y, f (g y) = y) (ht : P.underlying t = some (.struct fs)) (hc : P.cellsOf t = d.sz) {l : List (Nat × TypeId)} (hl : l = fs.toList.map fun x => (x.offset, x.type)) (hF : OpensAt P w 0 l d wf) :
    Opens P w t (Kd.iso d f) (fun x => wf (f x)) := by
  intro H enc base spare held fuel cs x h
  obtain ⟨xs, n, _, _, hlen, hxl, hf⟩ := DataW.trod_struct ht h
  obtain ⟨y, h1, h2⟩ := hF H enc base spare held n cs (fun p hp => by
    subst hl
    obtain ⟨fd, hm, rfl⟩ := List.mem_map.1 hp
    obtain ⟨i, hi, rfl⟩ := List.mem_iff_getElem.1 hm
    have hi' : i < fs.size := by simpa using hi
    refine ⟨_, (hf i _ (by simp [hi'])).trans (List.getElem?_eq_getElem (by omega))⟩) (by omega)
  refine ⟨g y, ?_, by show wf (f (g y)); rw [hg]; exact h2⟩
  show d.K w (f (g y)) cs
  rw [hg]
  simpa using h1
end
end Go.Proofs.Ytlkaebnigmfphaa.Op
namespace Go.Proofs.Ytlkaebnigmfphaa.Op
open Go.ChangeShapes Go.WideShapes Go.ChangeAt Go.RowKit Go.Deep Go.Proofs.YtlkaebnigmfphaaW.PrintWords Go.Proofs.Ytlkaebnigmfphaa.G
set_option linter.unusedVariables false
def wf32 (x : S32) : Prop := ((Lit.int .i64 x.f0).wf = true) ∧ ((Lit.int .i64 x.f1).wf = true)
theorem op32 (w : World) : Opens Try.prog w 32 k32 wf32 :=
  opens_struct (fun (y0, y1) => (⟨y0, y1⟩ : S32)) (fun _ => rfl) Try.underlying32 (by kernel_rfl) (l := [(0, 3), (1, 3)]) (by rfl) (opens_cons (opens_int Try.underlying3) (by kernel_rfl) (by kernel_rfl) (opens_last (opens_int Try.underlying3) (by kernel_rfl)))
end Go.Proofs.Ytlkaebnigmfphaa.Op
namespace Go.Proofs.Ytlkaebnigmfphaa.G
open Go.RowKit Go.Proofs.YtlkaebnigmfphaaW.PrintWords Go.Proofs.YtlkaebnigmfphaaW.PrintLast Go.Proofs.YtlkaebnigmfphaaW.PrintMore
attribute [local go_sem] max2_int min2_int max_two min_two max_three min_three max_four min_four   -- for this text's walks alone
set_option linter.unusedVariables false
set_option linter.unusedSimpArgs false
theorem eqA32 (d : Nat) (w : World) (x0 y0 : Int) (x1 y1 : Int) :
    (Op.equalIn (d + 2) 32 (.agg #[.int .i64 x0, .int .i64 x1]) (.agg #[.int .i64 y0, .int .i64 y1])).run Try.prog w = .ok (x0 == y0 && (x1 == y1)) w := by
  refine eqA_of Try.underlying32 (by kernel_rfl) ?_
  refine eqf_cons (by rfl) (by go_simp; rfl) (by go_simp; rfl) (by go_simp) ?_
  exact eqf_last (by rfl) (by go_simp; rfl) (by go_simp; rfl) (by go_simp)
end Go.Proofs.Ytlkaebnigmfphaa.G
namespace Go.Proofs.Ytlkaebnigmfphaa.G
open Go.RowKit Go.Proofs.YtlkaebnigmfphaaW.PrintWords Go.Proofs.YtlkaebnigmfphaaW.PrintLast Go.Proofs.YtlkaebnigmfphaaW.PrintMore
attribute [local go_sem] max2_int min2_int max_two min_two max_three min_three max_four min_four   -- for this text's walks alone
set_option linter.unusedVariables false
set_option linter.unusedSimpArgs false
attribute [local go_sem high] eqA32
def foghornlaw09_few.f (l0 : List (S32)) : Option ((List (S32))) := if 0 ≤ (mn (l0.length : Int) 70) then (if (mn (l0.length : Int) 70) ≤ (l0.length : Int) then (some (l0.take ((mn (l0.length : Int) 70) : Int).toNat)) else (none)) else (none)
set_option maxHeartbeats 8000000 in
set_option maxRecDepth 100000 in
theorem foghornlaw09_few.calls (P0_ : Nat → Prop) (u9000_ : Value) (l0 : List (S32)) (r : List (S32)) (w0 w : World) (hB : Below w0.heap.size w0 w) (ho0 : Kd.R k32 32 w w0.heap.size P0_ u9000_ l0) (h : foghornlaw09_few.f l0 = some r) :
    Calls Try.prog 6 #[u9000_] w fun e w' => ∃ v0_ : Value, e = .returned (v0_) ∧ Kd.R k32 32 w' w0.heap.size (fun k_ => (P0_ k_ ∨ w.heap.size ≤ k_)) v0_ r ∧ Below w0.heap.size w0 w' ∧ Kept w w' (fun k_ => P0_ k_) := by
  have HO0 := Aside0.mk (show Kd.R k32 32 w w0.heap.size (fun k_ => (P0_ k_ ∨ w.heap.size ≤ k_)) u9000_ l0 from Kd.R_mono ho0 (fun k_ hk => (.inl hk)))
  have HK := Aside0.mk (Kept.refl w (fun k_ => P0_ k_))
  have HW0 := Aside0.mk hB.size
  have HB := Aside0.mk hB
  clear hB
  have H : (if 0 ≤ (mn (l0.length : Int) 70) then (if (mn (l0.length : Int) 70) ≤ (l0.length : Int) then (some (l0.take ((mn (l0.length : Int) 70) : Int).toNat)) else (none)) else (none)) = some r := h
  clear h
  obtain ⟨ji2, hji2⟩ : ∃ j_ : Int, (mn (l0.length : Int) 70) = j_ := ⟨_, rfl⟩
  replace H : (if 0 ≤ (ji2) then (if (ji2) ≤ (l0.length : Int) then (some (l0.take ((ji2) : Int).toNat)) else (none)) else (none)) = some r := by first | (rw [hji2] at H; exact H) | (simp only [hji2] at H ⊢; exact H)
  (try (have hji2h : ji2 ≤ 70 := by (rw [← hji2]; unfold mn; (repeat' split) <;> omega)))
  (try (have hji2g : ji2 ≤ 64 := by omega))
  (try (have hji2l : 0 ≤ ji2 := by (rw [← hji2]; unfold mn; (repeat' split) <;> omega)))
  (try (have hji2m : 0 ≤ ji2 := by omega))
  have hji2_ : (if 70 < (l0.length : Int) then 70 else (l0.length : Int)) = ji2 := hji2
  by_cases c3 : 0 ≤ (ji2)
  · rw [if_pos c3] at H
    have c3b0 := eq_true c3
    have c3b1 : decide (0 ≤ (ji2)) = true := decide_eq_true c3
    clear c3
    by_cases c4 : (ji2) ≤ (l0.length : Int)
    · rw [if_pos c4] at H
      have c4b0 := eq_true c4
      have c4b1 : decide ((ji2) ≤ (l0.length : Int)) = true := decide_eq_true c4
      clear c4
      obtain ⟨y101, hy101⟩ : ∃ y_ : List (S32), y_ = (l0.take ((ji2) : Int).toNat) := ⟨_, rfl⟩
      replace H : (some y101) = some r := by first | (rw [hy101]; with_reducible exact H) | (have H2_ := (Option.bind_some _ _).symm.trans H; rw [hy101]; with_reducible exact H2_) | (have H2_ := (Option.bind_some _ _).symm.trans H; with_reducible exact H2_) | with_reducible exact H | (rw [hy101]; exact H) | exact H
      have Ny101 := Aside0.mk hy101
      clear hy101
      obtain rfl := Option.some.inj H
      obtain ⟨Ao5, co5, eo5⟩ := Kd.R_slice HO0.out
      subst eo5
      have q6 : ((ji2) : Int) ≤ ((l0.length : Int) : Int) := of_decide_eq_true (by first | (with_reducible assumption) | assumption)
      obtain ⟨i06, hi06, _, hsz6, _⟩ := info_parts info32
      have hcut6 := cut_to (P := Try.prog) 22 32 .i64 Try.underlying22 hi06 Ao5 l0.length co5 (ji2) (of_decide_eq_true (by first | (with_reducible assumption) | assumption)) q6 (Kd.R_reads' HO0.out).2.1
      have hr6 := Kd.R_take (m := ((ji2) : Int).toNat) HO0.out (by omega)
      have hy6 : y101.length = ((ji2) : Int).toNat := (by rw [Ny101.out, List.length_take]; omega)
      rw [← Ny101.out] at hr6
      rw [← hy6] at hr6 hcut6
      clear hy6 hi06 hsz6 HO0
      have HO103 := Aside0.mk hr6
      clear hr6
      replace q6 := eq_true q6
      go_enter Try.func6, Try.ntmps6
      go_wp2
      go_ret
      exact ⟨_, by first | rfl | (simp [errW_none, errW_some] <;> rfl) | (simp only [← hji2]; first | rfl | (simp [errW_none, errW_some] <;> rfl)) | (simp [*, errW_none, errW_some] <;> rfl), by (with_reducible repeat (first | apply Kd.R_alloc | apply Kd.R_drewN | apply Kd.R_drew)); exact HO103.out, by repeat (first | (with_reducible first | exact HB.out | apply below_alloc | apply pw_below_drewN | apply below_drew1) | exact HB.out), by repeat (first | (with_reducible first | exact HK.out | apply Kept.alloc | apply Kept.drewN | apply Kept.drew) | exact HK.out)⟩
    · rw [if_neg c4] at H
      exact absurd H (by simp)
  · rw [if_neg c3] at H
    exact absurd H (by simp)
def tick_Right.f (a0 : Int) : Option (Bool) := if a0 ≥ 0 then (some (decide (a0 ≤ 1099511627776))) else (some false)
set_option maxHeartbeats 8000000 in
set_option maxRecDepth 100000 in
theorem tick_Right.calls (a0 : Int) (r : Bool) (w : World) (h : tick_Right.f a0 = some r) :
    Calls Try.prog 19 #[.int .i64 a0] w fun e w' => e = .returned (.bool r) ∧ Drawn0 w w' := by
  have H : (if a0 ≥ 0 then (some (decide (a0 ≤ 1099511627776))) else (some false)) = some r := h
  clear h
  by_cases c2 : a0 ≥ 0
  · rw [if_pos c2] at H
    have c2b0 : decide (0 ≤ a0) = true := decide_eq_true c2
    clear c2
    obtain rfl := Option.some.inj H
    go_enter Try.func19, Try.ntmps19
    go_wp2
    go_ret
    exact ⟨by first | rfl | (simp; done) | (simp [*]; done), by repeat (first | exact Drawn0.refl _ | apply Drawn0.step)⟩
  · rw [if_neg c2] at H
    have c2b0 : decide (0 ≤ a0) = false := decide_eq_false c2
    clear c2
    obtain rfl := Option.some.inj H
    go_enter Try.func19, Try.ntmps19
    go_wp2
    go_ret
    exact ⟨by first | rfl | (simp; done) | (simp [*]; done), by repeat (first | exact Drawn0.refl _ | apply Drawn0.step)⟩
def foghornref09_Same.l0 : Nat → List (S32) → List (S32) → Int → Int → Option (Bool)
  | 0, _, _, _, _ => none
  | k + 1, x0, x1, x12, x13 => if x13 < x12 then (if 0 ≤ x13 then (if x13 < (x0.length : Int) then (if x13 < (x1.length : Int) then (if (!(((rd_T32 x0 x13).f0) == ((rd_T32 x1 x13).f0)) || (!(((rd_T32 x0 x13).f1) == ((rd_T32 x1 x13).f1)))) = true then (some false) else (foghornref09_Same.l0 k x0 x1 x12 (wrap64 (x13 + 1)))) else (none)) else (none)) else (none)) else (some true)
def foghornref09_Same.f (k : Nat) (l0 : List (S32)) (l1 : List (S32)) : Option (Bool) := if (l0.length : Int) = (l1.length : Int) then (foghornref09_Same.l0 k l0 l1 (l0.length : Int) 0) else (some false)
set_option maxHeartbeats 8000000 in
set_option maxRecDepth 100000 in
theorem foghornref09_Same.calls (k : Nat) (A0 : Option Addr) (c0 : Nat) (l0 : List (S32)) (A1 : Option Addr) (c1 : Nat) (l1 : List (S32)) (r : Bool) (w : World) (hr0 : Kd.C k32 w A0 l0.length l0) (hc0 : l0.length ≤ c0) (hr1 : Kd.C k32 w A1 l1.length l1) (hc1 : l1.length ≤ c1) (h : foghornref09_Same.f k l0 l1 = some r) :
    Calls Try.prog 9 #[.slice A0 l0.length c0, .slice A1 l1.length c1] w fun e w' => e = .returned (.bool r) ∧ Drawn0 w w' := by
  have hu32 := Try.underlying32
  have HR0 := Aside0.mk hr0
  have HC0 := Aside0.mk hc0
  clear hr0 hc0
  have HR1 := Aside0.mk hr1
  have HC1 := Aside0.mk hc1
  clear hr1 hc1
  have H : (if (l0.length : Int) = (l1.length : Int) then (foghornref09_Same.l0 k l0 l1 (l0.length : Int) 0) else (some false)) = some r := h
  clear h
  by_cases c3 : (l0.length : Int) = (l1.length : Int)
  · rw [if_pos c3] at H
    have c3b0 : ((l0.length : Int) == (l1.length : Int)) = true := beq_iff_eq.mpr c3
    have c3b1 : ((l0.length : Int) != (l1.length : Int)) = false := bne_eq_false_iff_eq.mpr c3
    have c3b2 : (l0.length == l1.length) = true := by first | simpa using c3 | (simp at c3 ⊢; omega)
    clear c3
    have H' := Aside0.mk H
    clear H
    go_enter Try.func9, Try.ntmps9
    go_wp2
    repeat (go_quiet (fail); try go_wp2)
    go_loopg [13] k (fun kq v13 w' => ∃ (x13_1 : Int), v13 = .int .i64 x13_1 ∧ Aside0 (foghornref09_Same.l0 kq l0 l1 (l0.length : Int) x13_1 = some r) ∧ Aside0 (kq ≤ k) ∧ Drawn0 w w')
    case atStart => exact ⟨(0), (by first | rfl | (simp; done) | (simp [*]; done)), H', ⟨Nat.le_refl _⟩, by repeat (first | exact Drawn0.refl _ | apply Drawn0.step)⟩
    case round =>
      clear H'
      try clear c1
      try clear p2
      try clear c3
      try clear c3b0
      try clear c3b1
      try clear c3b2
      obtain ⟨x13_1, rfl, HA, HK1, ⟨m1, rfl⟩⟩ := hrel
      cases gk with
      | zero => exact absurd HA.out (by simp [foghornref09_Same.l0])
      | succ k1 =>
        have H := HA.out
        clear HA
        simp only [foghornref09_Same.l0] at H
        by_cases c4 : x13_1 < (l0.length : Int)
        · rw [if_pos c4] at H
          have c4b0 : decide (x13_1 < (l0.length : Int)) = true := decide_eq_true c4
          clear c4
          by_cases c5 : 0 ≤ x13_1
          · rw [if_pos c5] at H
            have c5b0 : decide (0 ≤ x13_1) = true := decide_eq_true c5
            clear c5
            by_cases c6 : x13_1 < (l0.length : Int)
            · rw [if_pos c6] at H
              have c6b0 : decide (x13_1 < (l0.length : Int)) = true := decide_eq_true c6
              clear c6
              by_cases c7 : x13_1 < (l1.length : Int)
              · rw [if_pos c7] at H
                have c7b0 : decide (x13_1 < (l1.length : Int)) = true := decide_eq_true c7
                clear c7
                by_cases c8 : (!(((rd_T32 l0 x13_1).f0) == ((rd_T32 l1 x13_1).f0)) || (!(((rd_T32 l0 x13_1).f1) == ((rd_T32 l1 x13_1).f1)))) = true
                · rw [if_pos c8] at H
                  have c8b0 : (!(((rd_T32 l0 x13_1).f0) == ((rd_T32 l1 x13_1).f0)) || (!(((rd_T32 l0 x13_1).f1) == ((rd_T32 l1 x13_1).f1)))) = true := c8
                  clear c8
                  obtain rfl := Option.some.inj H
                  have p107 : 0 ≤ (x13_1 : Int) := of_decide_eq_true (by first | (with_reducible assumption) | assumption)
                  have q107 : x13_1 < (l0.length : Int) := of_decide_eq_true (by first | (with_reducible assumption) | assumption)
                  obtain ⟨ad107, e107, hx107_0, hx107_1⟩ := at_T32 HR0.out x13_1 p107 q107
                  cases e107
                  replace p107 := eq_true p107
                  replace q107 := eq_true q107
                  have p108 : 0 ≤ (x13_1 : Int) := of_decide_eq_true (by first | (with_reducible assumption) | assumption)
                  have q108 : x13_1 < (l1.length : Int) := of_decide_eq_true (by first | (with_reducible assumption) | assumption)
                  obtain ⟨ad108, e108, hx108_0, hx108_1⟩ := at_T32 HR1.out x13_1 p108 q108
                  cases e108
                  replace p108 := eq_true p108
                  replace q108 := eq_true q108
                  go_wp2
                  repeat (go_quiet (fail); try go_wp2)
                  go_ret
                  exact ⟨by first | rfl | (simp; done) | (simp [*]; done), by repeat (first | exact Drawn0.refl _ | apply Drawn0.step)⟩
                · rw [if_neg c8] at H
                  have c8b0 : (!(((rd_T32 l0 x13_1).f0) == ((rd_T32 l1 x13_1).f0)) || (!(((rd_T32 l0 x13_1).f1) == ((rd_T32 l1 x13_1).f1)))) = false := by simpa using c8
                  clear c8
                  have H' := Aside0.mk H
                  clear H
                  have p107 : 0 ≤ (x13_1 : Int) := of_decide_eq_true (by first | (with_reducible assumption) | assumption)
                  have q107 : x13_1 < (l0.length : Int) := of_decide_eq_true (by first | (with_reducible assumption) | assumption)
                  obtain ⟨ad107, e107, hx107_0, hx107_1⟩ := at_T32 HR0.out x13_1 p107 q107
                  cases e107
                  replace p107 := eq_true p107
                  replace q107 := eq_true q107
                  have p108 : 0 ≤ (x13_1 : Int) := of_decide_eq_true (by first | (with_reducible assumption) | assumption)
                  have q108 : x13_1 < (l1.length : Int) := of_decide_eq_true (by first | (with_reducible assumption) | assumption)
                  obtain ⟨ad108, e108, hx108_0, hx108_1⟩ := at_T32 HR1.out x13_1 p108 q108
                  cases e108
                  replace p108 := eq_true p108
                  replace q108 := eq_true q108
                  go_wp2
                  repeat (go_quiet (fail); try go_wp2)
                  go_roundg k1
                  case measure => have := HK1.out; omega
                  case rel => exact ⟨(wrap64 (x13_1 + 1)), (by first | rfl | (simp; done) | (simp [*]; done)), H', ⟨by have := HK1.out; omega⟩, by repeat (first | exact Drawn0.refl _ | apply Drawn0.step)⟩
              · rw [if_neg c7] at H
                exact absurd H (by simp)
            · rw [if_neg c6] at H
              exact absurd H (by simp)
          · rw [if_neg c5] at H
            exact absurd H (by simp)
        · rw [if_neg c4] at H
          have c4b0 : decide (x13_1 < (l0.length : Int)) = false := decide_eq_false c4
          clear c4
          obtain rfl := Option.some.inj H
          go_wp2
          repeat (go_quiet (fail); try go_wp2)
          go_ret
          exact ⟨by first | rfl | (simp; done) | (simp [*]; done), by repeat (first | exact Drawn0.refl _ | apply Drawn0.step)⟩
  · rw [if_neg c3] at H
    have c3b0 : ((l0.length : Int) == (l1.length : Int)) = false := beq_eq_false_iff_ne.mpr c3
    have c3b1 : ((l0.length : Int) != (l1.length : Int)) = true := bne_iff_ne.mpr c3
    have c3b2 : (l0.length == l1.length) = false := by first | simpa using c3 | (simp at c3 ⊢; omega)
    obtain rfl := Option.some.inj H
    go_enter Try.func9, Try.ntmps9
    go_wp2
    repeat (go_quiet (fail); try go_wp2)
    go_ret
    exact ⟨by first | rfl | (simp; done) | (simp [*]; done), by repeat (first | exact Drawn0.refl _ | apply Drawn0.step)⟩
def foghornref09_Ahead.f (a0_0 : Int) (a0_1 : Int) (a1_0 : Int) (a1_1 : Int) : Option (Bool) := if a0_0 < a1_0 then (some true) else (if a0_0 = a1_0 then (some (decide (a0_1 < a1_1))) else (some false))
set_option maxHeartbeats 8000000 in
set_option maxRecDepth 100000 in
theorem foghornref09_Ahead.calls (a0_0 : Int) (a0_1 : Int) (a1_0 : Int) (a1_1 : Int) (r : Bool) (w : World) (h : foghornref09_Ahead.f a0_0 a0_1 a1_0 a1_1 = some r) :
    Calls Try.prog 18 #[.agg #[.int .i64 a0_0, .int .i64 a0_1], .agg #[.int .i64 a1_0, .int .i64 a1_1]] w fun e w' => e = .returned (.bool r) ∧ Below w.heap.size w w' := by
  unfold foghornref09_Ahead.f at h
  have H := Aside0.mk h
  clear h
  have hF := Aside0.mk (Fr.Frame.start w)
  have HC : True := trivial
  go_enter Try.func18, Try.ntmps18
  go_wp2_with (first | ((with_reducible refine gate_store rfl ?_); apply Fr.fr_store hF.out rfl rfl rfl; (case hp => rfl); (case hx => first | (go_simp; rfl) | rfl); (case hu => (simp only [Value.cells]; rfl)); (case hs => (repeat (first | exact Fr.Spot.here _ _ | apply Fr.Spot.there))); (case ht => kernel_rfl); (case h1 => simp [Value.oneCell']); (case hfit => simp); intro W hF1; simp only [Fr.patch, List.take_zero, List.nil_append, List.drop, List.append_nil, List.take, List.cons_append, List.length_cons, List.length_nil, Nat.reduceAdd] at hF1; have HC1 := hF1.cells; simp only [Fr.Cells, List.length_cons, List.length_nil, Nat.reduceAdd, and_true] at HC1; clear hF HC; have HC := HC1; have hF := Aside0.mk hF1; clear hF1 HC1) | ((first | (with_reducible refine Fr.gate_alloc rfl ?_) | (with_reducible refine Fr.gate_box rfl ?_)); apply Fr.fr_box hF.out rfl; (case hrun => first | (go_simp; done) | (go_simp; rfl)); intro g W hF1; have HC1 := hF1.cells; simp only [Fr.Cells, List.length_cons, List.length_nil, Nat.reduceAdd, and_true] at HC1; clear hF HC; have HC := HC1; have hF := Aside0.mk hF1; clear hF1 HC1))
  all_goals (have h9 := H.out; (repeat (first | rw [if_pos (by first | rfl | assumption | exact Fr.nf (by assumption) | exact Fr.nef (by assumption) | exact Fr.eqt (by assumption) | exact of_decide_eq_true (by assumption) | exact Fr.pos2 (by assumption) | omega | exact decide_eq_true (by omega))] at h9 | rw [if_neg (by first | assumption | exact Fr.nt (by assumption) | exact Fr.ff (by assumption) | exact Fr.net (by assumption) | exact Fr.eqf (by assumption) | exact of_decide_eq_false (by assumption) | exact Fr.neg2 (by assumption) | omega | exact Fr.dneg (by omega) | decide)] at h9)); obtain rfl := Option.some.inj h9; refine bodyPost_ret ?_ rfl ⟨rfl, hF.out.below⟩; simp [results, Try.results18, go_sem, HC] <;> first | omega | (simp_all; done))
end Go.Proofs.Ytlkaebnigmfphaa.G
namespace Go.Proofs.Ytlkaebnigmfphaa.G
open Go.RowKit Go.Proofs.YtlkaebnigmfphaaW.PrintWords Go.Proofs.YtlkaebnigmfphaaW.PrintLast Go.Proofs.YtlkaebnigmfphaaW.PrintMore
attribute [local go_sem] max2_int min2_int max_two min_two max_three min_three max_four min_four   -- for this text's walks alone
set_option linter.unusedVariables false
set_option linter.unusedSimpArgs false
end Go.Proofs.Ytlkaebnigmfphaa.G
namespace Go.Proofs.Ytlkaebnigmfphaa.Fr
open Go.RowKit Go.Proofs.YtlkaebnigmfphaaW.PrintWords
set_option linter.unusedVariables false
section
variable {P : Program}
theorem append_how (w : World) (base : Nat) (t ty e : TypeId) (i : TypeInfo) (z : Value) (ht : P.underlying t = some (.slice e)) (hi : P.info? e = some i) (hz : i.zero = some z)
    (v : Value) (n : Nat) (xs : List Value) (hown : w.ownsRow base e i.size v n xs)
    (a : Addr) (m c : Nat) (news : List Value) (hl : news.length = m * i.size) (hnews : ∀ j u, news[j]? = some u → w.cell? (a.add j) = some u) (h1 : ∀ u ∈ news, u.oneCell' = true)
    (h63 : n + m ≤ maxLen) (hbytes : (n + m) * i.bytes ≤ 140737488355328) (v1 : Value) (w1 : World) (hrun : (Builtin.append_ #[t, t] ty #[v, .slice (some a) m c]).run P w = .ok v1 w1) :
    (v = .slice none 0 0 ∧ n = 0) ∨ (∃ A cap, v = .slice A n cap ∧ v1 = .slice A (n + m) cap) ∨ ∀ k, k < w.heap.size → w1.heap[k]? = w.heap[k]? := by
  have hsmall : n + m ≤ 9223372036854775807 := by simp only [maxLen] at h63; omega
  rcases hown.2 with ⟨rfl, rfl⟩ | ⟨g, cap, cur, rfl, hbg, hg, hnc, hcm, hcs, htake⟩
  · exact .inl ⟨rfl, rfl⟩
  · refine .inr ?_
    by_cases hroom : n + m ≤ cap
    · have hfit : n * i.size + news.length ≤ cur.size := by rw [hl, hcs, ← Nat.add_mul]; exact Nat.mul_le_mul_right _ hroom
      have hr := run_append_room (P := P) w t ty e i ht hi g n cap cur hg a m c news hl hnews h1 hroom hfit
      rw [hr] at hrun
      injection hrun with e1 e2
      exact .inl ⟨_, cap, rfl, e1.symm⟩
    · have holds : ∀ j u, xs[j]? = some u → w.cell? ((⟨g, 0, none⟩ : Addr).add j) = some u := hown.cells (g := g) rfl
      have hr := run_append_grow (P := P) w t ty e i z ht hi hz ⟨g, 0, none⟩ n cap xs hown.1 holds a m c news hl hnews (by omega) (by omega) (growslice_fits (by omega) hbytes)
      rw [hr] at hrun
      injection hrun with e1 e2
      refine .inr fun k hk => ?_
      rw [← e2]
      exact heap_alloc_old w.drew _ hk
theorem R_append_keep {α : Type} (d : Kd α) {W : World} (base : Nat) (t ty e : TypeId) (z : Value) (bytes : Nat)
    (ht : P.underlying t = some (.slice e)) (hinfo : (P.info? e).map (fun i => (i.zero, i.size, i.bytes)) = some (some z, d.sz, bytes)) (hz : z.cells.size = d.sz) (hs0 : 0 < d.sz) (hb0 : 0 < bytes)
    {v : Value} {xs ps : List α} {cs : List Value} {ok : Nat → Prop} (HO : d.R e W base ok v xs) (hps : ∀ (w : World) (ok : Nat → Prop), Reps (d.M w base ok) d.sz ps cs) (hone : ∀ u ∈ cs, u.oneCell' = true) (ad : Addr) (m c : Nat) (hm : ps.length = m)
    (hnews : ∀ j u, cs[j]? = some u → W.cell? (ad.add j) = some u) (hl : (xs.length + m) * bytes ≤ 140737488355328) (hbase : base ≤ W.heap.size) (hfresh : ∀ k, W.heap.size ≤ k → ok k) :
    ∃ v1 w1, (Builtin.append_ #[t, t] ty #[v, .slice (some ad) m c]).run P W = .ok v1 w1 ∧ d.R e w1 base ok v1 (xs ++ ps) ∧ d.R e w1 base ok v xs ∧ W.grownBy w1 v.ownBlock := by
  obtain ⟨i0, hi, hzz⟩ := Option.map_eq_some_iff.1 hinfo
  simp only [Prod.mk.injEq] at hzz
  obtain ⟨hz0, hz1, hz2⟩ := hzz
  have HO0 := HO
  obtain ⟨hok, inner, hown, hr⟩ := HO
  have hlen : xs.length + m ≤ 140737488355328 := Nat.le_trans (Nat.le_mul_of_pos_right _ hb0) hl
  obtain ⟨v1, w1, hrun, h2, hg, _, hat⟩ := run_append_own_at (P := P) W base t ty e i0 z d.sz bytes ht hi hz0 hz1 hz2 hz hs0 v xs.length inner hown ad m c cs (by rw [← hm]; exact (hps W ok).1) hnews hone (by simp only [maxLen]; omega) hl hbase
  have hne : ∀ k, some k ≠ v.ownBlock → k < W.heap.size → some k ≠ v1.ownBlock := by
    intro k hk hlt
    rcases hat with hat | hat
    · rw [hat]; exact hk
    · rw [hat]
      intro he
      injection he with he
      omega
  have step : ∀ {q : α} {c : List Value} {o : Nat → Prop}, d.M W base o q c → (∀ k, o k → ok k ∧ some k ≠ v.ownBlock) → d.M w1 base (fun k => ok k ∧ some k ≠ v1.ownBlock) q c := by
    intro q c o hq ho
    have h1 := d.M_move (w1 := w1) (fun k hk => hg.block k hk.2.2.1 (ho k hk.1).2) (d.M_bound hq)
    exact d.M_mono (fun k hk => ⟨(ho k hk.1).1, hne k (ho k hk.1).2 hk.2.2.1⟩) h1
  have HR : d.R e w1 base ok v1 (xs ++ ps) := by
    refine ⟨fun k hk => ?_, inner ++ cs, by rw [List.length_append, hm]; exact h2, Kd.reps_append (hr.imp_ (fun _ _ hq => step hq (fun _ hk => hk))) (hps w1 _)⟩
    rcases hat with hat | hat
    · exact hok k (hat ▸ hk)
    · rw [hat] at hk
      injection hk with hk
      exact hfresh k (by omega)
  refine ⟨v1, w1, hrun, HR, ?_, hg⟩
  rcases append_how W base t ty e i0 z ht hi hz0 v xs.length inner (by rw [hz1]; exact hown) ad m c cs (by rw [hz1, ← hm]; exact (hps W ok).1) hnews hone (by simp only [maxLen]; omega) (by rw [hz2]; exact hl) v1 w1 hrun with ⟨rfl, h0⟩ | ⟨A, cap, rfl, rfl⟩ | hsame
  · rw [List.eq_nil_of_length_eq_zero h0]
    exact Kd.R_nil d e w1 base ok
  · have := Kd.R_take HR (m := xs.length) (by simp)
    rwa [List.take_left] at this
  · exact Kd.R_step HO0 (fun k _ hk => hsame k hk)
end
section
variable {P : Program} {ops : Array Oper} {rest : List Oper} {o : Oper} {a : Act} {Q : Exit → Act → World → Prop} {w0 W : World} {bs : List Blk}
theorem Frame.head {r : Row} {rs : List Row} {w : World} (h : Frame w0 w bs (r :: rs)) : Frame w0 w bs [r] := ⟨h.below, h.blk, h.nodup, fun r' hr => h.row r' (by rw [List.mem_singleton] at hr; subst hr; exact List.mem_cons_self)⟩
end
end Go.Proofs.Ytlkaebnigmfphaa.Fr
namespace Go.Proofs.Ytlkaebnigmfphaa.G
open Go.RowKit Go.Proofs.YtlkaebnigmfphaaW.PrintWords Go.Proofs.YtlkaebnigmfphaaW.PrintLast Go.Proofs.YtlkaebnigmfphaaW.PrintMore
attribute [local go_sem] max2_int min2_int max_two min_two max_three min_three max_four min_four
set_option linter.unusedVariables false
set_option linter.unusedSimpArgs false
theorem recv_of (s : String) (h : Nat) (v : Value) (w : World) (hc : w.cell? ⟨h, 0, none⟩ = some v) : (receiverAt 45 (.val (.pointer (some ⟨h, 0, none⟩))) false (some s)).run Try.prog w = .ok v w := by
  have e1 : (Place.get 45 (.val (.pointer (some ⟨h, 0, none⟩)))).run Try.prog w = .ok (.pointer (some ⟨h, 0, none⟩)) w := rfl
  have e2 : (Builtin.ssaWrapNilChk_ #[45] 45 #[.pointer (some ⟨h, 0, none⟩), strVal "", strVal s]).run Try.prog w = .ok (.pointer (some ⟨h, 0, none⟩)) w := rfl
  unfold receiverAt
  go_simp
theorem recv_at (h : Nat) (s : Option String) (w : World) : (receiverAt 45 (.val (.pointer (some ⟨h, 0, none⟩))) true s).run Try.prog w = .ok (.pointer (some ⟨h, 0, none⟩)) w := by
  have e1 : (Place.get 45 (.val (.pointer (some ⟨h, 0, none⟩)))).run Try.prog w = .ok (.pointer (some ⟨h, 0, none⟩)) w := rfl
  unfold receiverAt
  go_simp
theorem fnd_Len : Array.find? (fun x => x.name == "Len") Try.t45.methods = some ⟨"Len", 57, #[], some (46, false)⟩ := by kernel_rfl
theorem met_Len (h : Nat) (v : Value) (w : World) (hc : w.cell? ⟨h, 0, none⟩ = some v) : (method 181 45 (.pointer (some ⟨h, 0, none⟩)) "Len").run Try.prog w = .ok (46, v) w := by
  show Sem.run Try.prog (method (180+1) _ _ _) w = _
  unfold method
  have hf := fnd_Len
  have hr := fun s => recv_of s h v w hc
  go_simp
  unfold follow
  go_simp
theorem fnd_Less : Array.find? (fun x => x.name == "Less") Try.t45.methods = some ⟨"Less", 64, #[], some (47, false)⟩ := by kernel_rfl
theorem met_Less (h : Nat) (v : Value) (w : World) (hc : w.cell? ⟨h, 0, none⟩ = some v) : (method 181 45 (.pointer (some ⟨h, 0, none⟩)) "Less").run Try.prog w = .ok (47, v) w := by
  show Sem.run Try.prog (method (180+1) _ _ _) w = _
  unfold method
  have hf := fnd_Less
  have hr := fun s => recv_of s h v w hc
  go_simp
  unfold follow
  go_simp
theorem fnd_Swap : Array.find? (fun x => x.name == "Swap") Try.t45.methods = some ⟨"Swap", 58, #[], some (50, false)⟩ := by kernel_rfl
theorem met_Swap (h : Nat) (v : Value) (w : World) (hc : w.cell? ⟨h, 0, none⟩ = some v) : (method 181 45 (.pointer (some ⟨h, 0, none⟩)) "Swap").run Try.prog w = .ok (50, v) w := by
  show Sem.run Try.prog (method (180+1) _ _ _) w = _
  unfold method
  have hf := fnd_Swap
  have hr := fun s => recv_of s h v w hc
  go_simp
  unfold follow
  go_simp
theorem fnd_Pop : Array.find? (fun x => x.name == "Pop") Try.t45.methods = some ⟨"Pop", 60, #[], some (48, true)⟩ := by kernel_rfl
theorem met_Pop (h : Nat) (v : Value) (w : World) : (method 181 45 (.pointer (some ⟨h, 0, none⟩)) "Pop").run Try.prog w = .ok (48, .pointer (some ⟨h, 0, none⟩)) w := by
  show Sem.run Try.prog (method (180+1) _ _ _) w = _
  unfold method
  have hf := fnd_Pop
  have hr := fun s => recv_at h s w
  go_simp
  unfold follow
  go_simp
theorem fnd_Push : Array.find? (fun x => x.name == "Push") Try.t45.methods = some ⟨"Push", 61, #[], some (49, true)⟩ := by kernel_rfl
theorem met_Push (h : Nat) (v : Value) (w : World) : (method 181 45 (.pointer (some ⟨h, 0, none⟩)) "Push").run Try.prog w = .ok (49, .pointer (some ⟨h, 0, none⟩)) w := by
  show Sem.run Try.prog (method (180+1) _ _ _) w = _
  unfold method
  have hf := fnd_Push
  have hr := fun s => recv_at h s w
  go_simp
  unfold follow
  go_simp
def flat : List S32 → List Value
  | [] => []
  | x :: xs => .int .i64 x.f0 :: .int .i64 x.f1 :: flat xs
theorem flat_len : ∀ zs : List S32, (flat zs).length = 2 * zs.length
  | [] => rfl
  | _ :: xs => by rw [flat]; simp only [List.length_cons, flat_len xs]; omega
theorem flat_app : ∀ xs ys : List S32, flat (xs ++ ys) = flat xs ++ flat ys
  | [], _ => rfl
  | x :: xs, ys => by rw [List.cons_append, flat, flat, flat_app xs ys]; rfl
theorem flat_get : ∀ (zs : List S32) (i : Nat), i < zs.length → (flat zs)[i * 2]? = some (.int .i64 (zs.getD i z32).f0) ∧ (flat zs)[i * 2 + 1]? = some (.int .i64 (zs.getD i z32).f1)
  | x :: xs, 0, _ => ⟨rfl, rfl⟩
  | x :: xs, i + 1, h => by
    have ih := flat_get xs i (by simpa using h)
    rw [show (i + 1) * 2 = i * 2 + 2 by omega, show i * 2 + 2 + 1 = (i * 2 + 1) + 2 by omega]
    exact ih
theorem flat_patch : ∀ (zs : List S32) (i : Nat) (x : S32), i < zs.length → Fr.patch (flat zs) (i * 2) [.int .i64 x.f0, .int .i64 x.f1] = flat (zs.set i x)
  | z :: zs, 0, x, _ => rfl
  | z :: zs, i + 1, x, h => by
    have ih := flat_patch zs i x (by simpa using h)
    unfold Fr.patch at ih ⊢
    rw [show (i + 1) * 2 = i * 2 + 2 by omega, flat, List.set_cons_succ, flat, ← ih]
    simp [show i * 2 + 2 + 2 = (i * 2 + 2) + 2 by omega]
def lessB (x y : S32) : Bool := decide (x.f0 < y.f0) || (decide (x.f0 = y.f0) && decide (x.f1 < y.f1))
def swp (zs : List S32) (i k : Nat) : List S32 := (zs.set i (zs.getD k z32)).set k (zs.getD i z32)
theorem swp_len (zs : List S32) (i k : Nat) : (swp zs i k).length = zs.length := by simp [swp]
theorem K_flat (w : World) : ∀ zs : List S32, Reps (k32.K w) k32.sz zs (flat zs)
  | [] => Reps.none _ _
  | x :: xs => Reps.c2 (k32_mk w x) (K_flat w xs)
theorem C_blk {α : Type} {d : Kd α} {w : World} {g t : Nat} {cs : List Value} {xs : List α} (hb : w.heap[g]? = some (.cells cs.toArray t (0, 0))) (hr : Reps (d.K w) d.sz xs cs) (hl : xs.length ≤ 9223372036854775807) : Kd.C d w (some ⟨g, 0, none⟩) xs.length xs := by
  refine ⟨rfl, hl, fun _ => ⟨_, rfl, fun j p hj => ⟨_, d.K_len (hr.2 j p hj), hr.2 j p hj, fun i u hu => ?_⟩⟩⟩
  have h1 := blk_cell hb (j * d.sz + i)
  rw [show (⟨g, 0, none⟩ : Addr).add (j * d.sz + i) = ⟨g, j * d.sz + i, none⟩ by unfold Addr.add; split <;> simp_all, h1]
  have hi : i < d.sz := by have := (List.getElem?_eq_some_iff.1 hu).1; simp at this; omega
  simpa [List.getElem?_take, hi] using hu
theorem flat_C {w0 W : World} {bs : List Fr.Blk} {rs : List Fr.Row} {g : Nat} {xs : List S32} {tl : List Value} {t : TypeId} {f : List Value → List Fr.Blk} (hF : Fr.Frame w0 W bs rs) (hs : Fr.Spot g t bs (flat (xs) ++ tl) f) (hm : xs.length ≤ 9223372036854775807) : Kd.C k32 W (some ⟨g, 0, none⟩) xs.length xs := by
  have hr := K_flat W xs
  have hb := (hF.blk _ hs.mem).2
  refine ⟨rfl, hm, fun _ => ⟨_, rfl, fun j p hj => ⟨_, k32.K_len (hr.2 j p hj), hr.2 j p hj, fun i u hu => ?_⟩⟩⟩
  have h1 := blk_cell hb (j * k32.sz + i)
  rw [show (⟨g, 0, none⟩ : Addr).add (j * k32.sz + i) = ⟨g, j * k32.sz + i, none⟩ by unfold Addr.add; split <;> simp_all, h1]
  have hi : i < k32.sz := by have := (List.getElem?_eq_some_iff.1 hu).1; simp at this; omega
  have hu2 : (flat xs)[j * k32.sz + i]? = some u := by simpa [List.getElem?_take, hi] using hu
  have hlt := (List.getElem?_eq_some_iff.1 hu2).1
  simpa [List.getElem?_append_left hlt] using hu2
theorem flat_cell {w0 W : World} {bs : List Fr.Blk} {rs : List Fr.Row} {g : Nat} {zs : List S32} {tl : List Value} {t : TypeId} {f : List Value → List Fr.Blk} (hF : Fr.Frame w0 W bs rs) (hs : Fr.Spot g t bs (flat zs ++ tl) f) (i : Nat) (hi : i < zs.length) : W.cell? ⟨g, i * 2, none⟩ = some (.int .i64 (zs.getD i z32).f0) ∧ W.cell? ⟨g, i * 2 + 1, none⟩ = some (.int .i64 (zs.getD i z32).f1) := by
  have hb := (hF.blk _ hs.mem).2
  have h := flat_get zs i hi
  have hl := flat_len zs
  exact ⟨(blk_cell hb _).trans (by simpa [List.getElem?_append_left (show i * 2 < (flat zs).length by omega)] using h.1), (blk_cell hb _).trans (by simpa [List.getElem?_append_left (show i * 2 + 1 < (flat zs).length by omega)] using h.2)⟩
theorem flat_patch2 (zs : List S32) (tl : List Value) (i : Nat) (x : S32) (h : i < zs.length) : Fr.patch (flat zs ++ tl) (i * 2) [.int .i64 x.f0, .int .i64 x.f1] = flat (zs.set i x) ++ tl := by
  have hl := flat_len zs
  rw [← flat_patch zs i x h]
  unfold Fr.patch
  rw [List.take_append_of_le_length (by omega), List.drop_append_of_le_length (by simp; omega)]
  simp
theorem len46_calls (A : Option Addr) (n c : Nat) (w : World) : Calls Try.prog 46 #[.slice A n c] w fun e w' => e = .returned (.int .i64 n) ∧ w = w' := by
  go_enter Try.func46, Try.ntmps46
  go_wp2
  go_ret
  exact ⟨rfl, rfl⟩
theorem rd_getD (xs : List S32) (i : Nat) : rd_T32 xs (i : Int) = xs.getD i z32 := by simp [rd_T32]
set_option maxHeartbeats 2000000 in
set_option maxRecDepth 100000 in
theorem less47_calls (A : Option Addr) (c : Nat) (xs : List S32) (i k : Nat) (w : World) (hr : Kd.C k32 w A xs.length xs) (hi : i < xs.length) (hk : k < xs.length) : Calls Try.prog 47 #[.slice A xs.length c, .int .i64 i, .int .i64 k] w fun e w' => e = .returned (.bool (lessB (xs.getD i z32) (xs.getD k z32))) ∧ Below w.heap.size w w' := by
  have hii : (i : Int) < (xs.length : Int) := by omega
  have hki : (k : Int) < (xs.length : Int) := by omega
  obtain ⟨ad, e1, a0, a1⟩ := at_T32 hr (i : Int) (by omega) hii
  cases e1
  obtain ⟨ad2, e2, b0, b1⟩ := at_T32 hr (k : Int) (by omega) hki
  cases e2
  rw [Int.toNat_natCast, rd_getD] at a0 a1 b0 b1
  clear hr hi hk
  generalize xs.getD i z32 = x at *
  generalize xs.getD k z32 = y at *
  unfold lessB
  obtain ⟨x0, x1⟩ := x
  obtain ⟨y0, y1⟩ := y
  dsimp only at *
  have A0 := Aside0.mk a0
  have A1 := Aside0.mk a1
  have B0 := Aside0.mk b0
  have B1 := Aside0.mk b1
  have hF := Aside0.mk (Fr.Frame.start w)
  have HC : True := trivial
  have A0 := Aside0.mk a0
  have A1 := Aside0.mk a1
  have B0 := Aside0.mk b0
  have B1 := Aside0.mk b1
  have hF := Aside0.mk (Fr.Frame.start w)
  have HC : True := trivial
  by_cases h1 : x0 < y0
  · rw [decide_eq_true h1]
    have HT := Aside0.mk (decide_eq_true h1)
    clear h1
    go_enter Try.func47, Try.ntmps47
    go_wp2_with (first | ((with_reducible refine gate_store rfl ?_); apply Fr.fr_store hF.out rfl rfl rfl; (case hp => rfl); (case hx => first | (go_simp; rfl) | rfl); (case hu => (simp only [Value.cells]; rfl)); (case hs => (repeat (first | exact Fr.Spot.here _ _ | apply Fr.Spot.there))); (case ht => kernel_rfl); (case h1 => simp [Value.oneCell']); (case hfit => simp); intro W hF1; simp only [Fr.patch, List.take_zero, List.nil_append, List.drop, List.append_nil, List.take, List.cons_append, List.length_cons, List.length_nil, Nat.reduceAdd] at hF1; have HC1 := hF1.cells; simp only [Fr.Cells, List.length_cons, List.length_nil, Nat.reduceAdd, and_true] at HC1; clear hF HC; have HC := HC1; have hF := Aside0.mk hF1; clear hF1 HC1) | ((first | (with_reducible refine Fr.gate_alloc rfl ?_) | (with_reducible refine Fr.gate_box rfl ?_)); apply Fr.fr_box hF.out rfl; (case hrun => first | (go_simp; done) | (go_simp; rfl)); intro g W hF1; have HC1 := hF1.cells; simp only [Fr.Cells, List.length_cons, List.length_nil, Nat.reduceAdd, and_true] at HC1; clear hF HC; have HC := HC1; have hF := Aside0.mk hF1; clear hF1 HC1))
    refine Fr.fr_region (by kernel_rfl) (by kernel_rfl) hF.out ?_
    iterate 10 ((apply Fr.fr_q_val; (case hw => kernel_rfl); (case hv => intro W hF1; have q0 := (hF1.below.cell (World.block_lt_of_cell? _ _ A0.out)).trans A0.out; have q1 := (hF1.below.cell (World.block_lt_of_cell? _ _ A1.out)).trans A1.out; have q2 := (hF1.below.cell (World.block_lt_of_cell? _ _ B0.out)).trans B0.out; have q3 := (hF1.below.cell (World.block_lt_of_cell? _ _ B1.out)).trans B1.out; clear hF1; first | (go_simp; done) | (go_simp; rfl)); simp only [Act.put, List.setIfInBounds_toArray, List.set_cons_zero, List.set_cons_succ]))
    iterate 1 ((apply Fr.fr_q_val (v := .bool true); (case hw => first | rfl | (go_simp; done)); (case hv => intro W hF1; have HC1 := hF1.cells; simp only [Fr.Cells, List.length_cons, List.length_nil, Nat.reduceAdd, and_true] at HC1; clear hF1; have hd9 := HT.out; first | (go_simp; done) | (go_simp; rw [if_neg (of_decide_eq_false hd9)]) | (go_simp; rw [if_pos (of_decide_eq_true hd9)])); simp only [Act.put, List.setIfInBounds_toArray, List.set_cons_zero, List.set_cons_succ]))
    iterate 1 ((apply Fr.fr_q_val; (case hw => kernel_rfl); (case hv => intro W hF1; have q0 := (hF1.below.cell (World.block_lt_of_cell? _ _ A0.out)).trans A0.out; have q1 := (hF1.below.cell (World.block_lt_of_cell? _ _ A1.out)).trans A1.out; have q2 := (hF1.below.cell (World.block_lt_of_cell? _ _ B0.out)).trans B0.out; have q3 := (hF1.below.cell (World.block_lt_of_cell? _ _ B1.out)).trans B1.out; clear hF1; first | (go_simp; done) | (go_simp; rfl)); simp only [Act.put, List.setIfInBounds_toArray, List.set_cons_zero, List.set_cons_succ]))
    iterate 12 (((with_reducible refine Fr.fr_q_skip ?hw ?_); (case hw => kernel_rfl); simp only [Act.put, List.setIfInBounds_toArray, List.set_cons_zero, List.set_cons_succ]))
    iterate 11 (((with_reducible refine Fr.fr_q_skip ?hw ?_); (case hw => kernel_rfl); simp only [Act.put, List.setIfInBounds_toArray, List.set_cons_zero, List.set_cons_succ]))
    iterate 1 (((with_reducible refine Fr.fr_q_skip ?hw ?_); (case hw => kernel_rfl); simp only [Act.put, List.setIfInBounds_toArray, List.set_cons_zero, List.set_cons_succ]))
    iterate 2 ((apply Fr.fr_q_val; (case hw => kernel_rfl); (case hv => intro W hF1; have q0 := (hF1.below.cell (World.block_lt_of_cell? _ _ A0.out)).trans A0.out; have q1 := (hF1.below.cell (World.block_lt_of_cell? _ _ A1.out)).trans A1.out; have q2 := (hF1.below.cell (World.block_lt_of_cell? _ _ B0.out)).trans B0.out; have q3 := (hF1.below.cell (World.block_lt_of_cell? _ _ B1.out)).trans B1.out; clear hF1; first | (go_simp; done) | (go_simp; rfl)); simp only [Act.put, List.setIfInBounds_toArray, List.set_cons_zero, List.set_cons_succ]))
    refine wpQuiet_nil ?_; intro W hF1; have HC1 := hF1.cells; simp only [Fr.Cells, List.length_cons, List.length_nil, Nat.reduceAdd, and_true] at HC1; clear hF HC; have HC := HC1; have hF := Aside0.mk hF1; clear hF1 HC1
    go_wp2_with (first | ((with_reducible refine gate_store rfl ?_); apply Fr.fr_store hF.out rfl rfl rfl; (case hp => rfl); (case hx => first | (go_simp; rfl) | rfl); (case hu => (simp only [Value.cells]; rfl)); (case hs => (repeat (first | exact Fr.Spot.here _ _ | apply Fr.Spot.there))); (case ht => kernel_rfl); (case h1 => simp [Value.oneCell']); (case hfit => simp); intro W hF1; simp only [Fr.patch, List.take_zero, List.nil_append, List.drop, List.append_nil, List.take, List.cons_append, List.length_cons, List.length_nil, Nat.reduceAdd] at hF1; have HC1 := hF1.cells; simp only [Fr.Cells, List.length_cons, List.length_nil, Nat.reduceAdd, and_true] at HC1; clear hF HC; have HC := HC1; have hF := Aside0.mk hF1; clear hF1 HC1) | ((first | (with_reducible refine Fr.gate_alloc rfl ?_) | (with_reducible refine Fr.gate_box rfl ?_)); apply Fr.fr_box hF.out rfl; (case hrun => first | (go_simp; done) | (go_simp; rfl)); intro g W hF1; have HC1 := hF1.cells; simp only [Fr.Cells, List.length_cons, List.length_nil, Nat.reduceAdd, and_true] at HC1; clear hF HC; have HC := HC1; have hF := Aside0.mk hF1; clear hF1 HC1))
    go_ret
    exact ⟨by first | rfl | simp, hF.out.below⟩
  · by_cases h2 : x0 = y0
    · have HT := Aside0.mk (decide_eq_false h1)
      have HE := Aside0.mk (decide_eq_true h2)
      rw [decide_eq_false h1, decide_eq_true h2]
      clear h1
      subst h2
      by_cases h3 : x1 < y1
      · rw [decide_eq_true h3]
        have HU := Aside0.mk (decide_eq_true h3)
        clear h3
        go_enter Try.func47, Try.ntmps47
        go_wp2_with (first | ((with_reducible refine gate_store rfl ?_); apply Fr.fr_store hF.out rfl rfl rfl; (case hp => rfl); (case hx => first | (go_simp; rfl) | rfl); (case hu => (simp only [Value.cells]; rfl)); (case hs => (repeat (first | exact Fr.Spot.here _ _ | apply Fr.Spot.there))); (case ht => kernel_rfl); (case h1 => simp [Value.oneCell']); (case hfit => simp); intro W hF1; simp only [Fr.patch, List.take_zero, List.nil_append, List.drop, List.append_nil, List.take, List.cons_append, List.length_cons, List.length_nil, Nat.reduceAdd] at hF1; have HC1 := hF1.cells; simp only [Fr.Cells, List.length_cons, List.length_nil, Nat.reduceAdd, and_true] at HC1; clear hF HC; have HC := HC1; have hF := Aside0.mk hF1; clear hF1 HC1) | ((first | (with_reducible refine Fr.gate_alloc rfl ?_) | (with_reducible refine Fr.gate_box rfl ?_)); apply Fr.fr_box hF.out rfl; (case hrun => first | (go_simp; done) | (go_simp; rfl)); intro g W hF1; have HC1 := hF1.cells; simp only [Fr.Cells, List.length_cons, List.length_nil, Nat.reduceAdd, and_true] at HC1; clear hF HC; have HC := HC1; have hF := Aside0.mk hF1; clear hF1 HC1))
        refine Fr.fr_region (by kernel_rfl) (by kernel_rfl) hF.out ?_
        iterate 10 ((apply Fr.fr_q_val; (case hw => kernel_rfl); (case hv => intro W hF1; have q0 := (hF1.below.cell (World.block_lt_of_cell? _ _ A0.out)).trans A0.out; have q1 := (hF1.below.cell (World.block_lt_of_cell? _ _ A1.out)).trans A1.out; have q2 := (hF1.below.cell (World.block_lt_of_cell? _ _ B0.out)).trans B0.out; have q3 := (hF1.below.cell (World.block_lt_of_cell? _ _ B1.out)).trans B1.out; clear hF1; first | (go_simp; done) | (go_simp; rfl)); simp only [Act.put, List.setIfInBounds_toArray, List.set_cons_zero, List.set_cons_succ]))
        iterate 1 ((apply Fr.fr_q_val (v := .bool false); (case hw => first | rfl | (go_simp; done)); (case hv => intro W hF1; have HC1 := hF1.cells; simp only [Fr.Cells, List.length_cons, List.length_nil, Nat.reduceAdd, and_true] at HC1; clear hF1; have hd9 := HT.out; first | (go_simp; done) | (go_simp; rw [if_neg (of_decide_eq_false hd9)]) | (go_simp; rw [if_pos (of_decide_eq_true hd9)])); simp only [Act.put, List.setIfInBounds_toArray, List.set_cons_zero, List.set_cons_succ]))
        iterate 1 ((apply Fr.fr_q_val; (case hw => kernel_rfl); (case hv => intro W hF1; have q0 := (hF1.below.cell (World.block_lt_of_cell? _ _ A0.out)).trans A0.out; have q1 := (hF1.below.cell (World.block_lt_of_cell? _ _ A1.out)).trans A1.out; have q2 := (hF1.below.cell (World.block_lt_of_cell? _ _ B0.out)).trans B0.out; have q3 := (hF1.below.cell (World.block_lt_of_cell? _ _ B1.out)).trans B1.out; clear hF1; first | (go_simp; done) | (go_simp; rfl)); simp only [Act.put, List.setIfInBounds_toArray, List.set_cons_zero, List.set_cons_succ]))
        iterate 10 ((apply Fr.fr_q_val; (case hw => kernel_rfl); (case hv => intro W hF1; have q0 := (hF1.below.cell (World.block_lt_of_cell? _ _ A0.out)).trans A0.out; have q1 := (hF1.below.cell (World.block_lt_of_cell? _ _ A1.out)).trans A1.out; have q2 := (hF1.below.cell (World.block_lt_of_cell? _ _ B0.out)).trans B0.out; have q3 := (hF1.below.cell (World.block_lt_of_cell? _ _ B1.out)).trans B1.out; clear hF1; first | (go_simp; done) | (go_simp; rfl)); simp only [Act.put, List.setIfInBounds_toArray, List.set_cons_zero, List.set_cons_succ]))
        iterate 1 ((apply Fr.fr_q_val; (case hw => kernel_rfl); (case hv => intro W hF1; have q0 := (hF1.below.cell (World.block_lt_of_cell? _ _ A0.out)).trans A0.out; have q1 := (hF1.below.cell (World.block_lt_of_cell? _ _ A1.out)).trans A1.out; have q2 := (hF1.below.cell (World.block_lt_of_cell? _ _ B0.out)).trans B0.out; have q3 := (hF1.below.cell (World.block_lt_of_cell? _ _ B1.out)).trans B1.out; clear hF1; first | (go_simp; done) | (go_simp; rfl)); simp only [Act.put, List.setIfInBounds_toArray, List.set_cons_zero, List.set_cons_succ]))
        iterate 1 ((apply Fr.fr_q_val; (case hw => kernel_rfl); (case hv => intro W hF1; have q0 := (hF1.below.cell (World.block_lt_of_cell? _ _ A0.out)).trans A0.out; have q1 := (hF1.below.cell (World.block_lt_of_cell? _ _ A1.out)).trans A1.out; have q2 := (hF1.below.cell (World.block_lt_of_cell? _ _ B0.out)).trans B0.out; have q3 := (hF1.below.cell (World.block_lt_of_cell? _ _ B1.out)).trans B1.out; clear hF1; first | (go_simp; done) | (go_simp; rfl)); simp only [Act.put, List.setIfInBounds_toArray, List.set_cons_zero, List.set_cons_succ]))
        iterate 10 ((apply Fr.fr_q_val; (case hw => kernel_rfl); (case hv => intro W hF1; have q0 := (hF1.below.cell (World.block_lt_of_cell? _ _ A0.out)).trans A0.out; have q1 := (hF1.below.cell (World.block_lt_of_cell? _ _ A1.out)).trans A1.out; have q2 := (hF1.below.cell (World.block_lt_of_cell? _ _ B0.out)).trans B0.out; have q3 := (hF1.below.cell (World.block_lt_of_cell? _ _ B1.out)).trans B1.out; clear hF1; first | (go_simp; done) | (go_simp; rfl)); simp only [Act.put, List.setIfInBounds_toArray, List.set_cons_zero, List.set_cons_succ]))
        iterate 1 ((apply Fr.fr_q_val (v := .bool true); (case hw => first | rfl | (go_simp; done)); (case hv => intro W hF1; have HC1 := hF1.cells; simp only [Fr.Cells, List.length_cons, List.length_nil, Nat.reduceAdd, and_true] at HC1; clear hF1; have hd9 := HU.out; first | (go_simp; done) | (go_simp; rw [if_neg (of_decide_eq_false hd9)]) | (go_simp; rw [if_pos (of_decide_eq_true hd9)])); simp only [Act.put, List.setIfInBounds_toArray, List.set_cons_zero, List.set_cons_succ]))
        iterate 1 ((apply Fr.fr_q_val; (case hw => kernel_rfl); (case hv => intro W hF1; have q0 := (hF1.below.cell (World.block_lt_of_cell? _ _ A0.out)).trans A0.out; have q1 := (hF1.below.cell (World.block_lt_of_cell? _ _ A1.out)).trans A1.out; have q2 := (hF1.below.cell (World.block_lt_of_cell? _ _ B0.out)).trans B0.out; have q3 := (hF1.below.cell (World.block_lt_of_cell? _ _ B1.out)).trans B1.out; clear hF1; first | (go_simp; done) | (go_simp; rfl)); simp only [Act.put, List.setIfInBounds_toArray, List.set_cons_zero, List.set_cons_succ]))
        iterate 2 ((apply Fr.fr_q_val; (case hw => kernel_rfl); (case hv => intro W hF1; have q0 := (hF1.below.cell (World.block_lt_of_cell? _ _ A0.out)).trans A0.out; have q1 := (hF1.below.cell (World.block_lt_of_cell? _ _ A1.out)).trans A1.out; have q2 := (hF1.below.cell (World.block_lt_of_cell? _ _ B0.out)).trans B0.out; have q3 := (hF1.below.cell (World.block_lt_of_cell? _ _ B1.out)).trans B1.out; clear hF1; first | (go_simp; done) | (go_simp; rfl)); simp only [Act.put, List.setIfInBounds_toArray, List.set_cons_zero, List.set_cons_succ]))
        refine wpQuiet_nil ?_; intro W hF1; have HC1 := hF1.cells; simp only [Fr.Cells, List.length_cons, List.length_nil, Nat.reduceAdd, and_true] at HC1; clear hF HC; have HC := HC1; have hF := Aside0.mk hF1; clear hF1 HC1
        go_wp2_with (first | ((with_reducible refine gate_store rfl ?_); apply Fr.fr_store hF.out rfl rfl rfl; (case hp => rfl); (case hx => first | (go_simp; rfl) | rfl); (case hu => (simp only [Value.cells]; rfl)); (case hs => (repeat (first | exact Fr.Spot.here _ _ | apply Fr.Spot.there))); (case ht => kernel_rfl); (case h1 => simp [Value.oneCell']); (case hfit => simp); intro W hF1; simp only [Fr.patch, List.take_zero, List.nil_append, List.drop, List.append_nil, List.take, List.cons_append, List.length_cons, List.length_nil, Nat.reduceAdd] at hF1; have HC1 := hF1.cells; simp only [Fr.Cells, List.length_cons, List.length_nil, Nat.reduceAdd, and_true] at HC1; clear hF HC; have HC := HC1; have hF := Aside0.mk hF1; clear hF1 HC1) | ((first | (with_reducible refine Fr.gate_alloc rfl ?_) | (with_reducible refine Fr.gate_box rfl ?_)); apply Fr.fr_box hF.out rfl; (case hrun => first | (go_simp; done) | (go_simp; rfl)); intro g W hF1; have HC1 := hF1.cells; simp only [Fr.Cells, List.length_cons, List.length_nil, Nat.reduceAdd, and_true] at HC1; clear hF HC; have HC := HC1; have hF := Aside0.mk hF1; clear hF1 HC1))
        go_ret
        exact ⟨by first | rfl | simp, hF.out.below⟩
      · rw [decide_eq_false h3]
        have HU := Aside0.mk (decide_eq_false h3)
        clear h3
        go_enter Try.func47, Try.ntmps47
        go_wp2_with (first | ((with_reducible refine gate_store rfl ?_); apply Fr.fr_store hF.out rfl rfl rfl; (case hp => rfl); (case hx => first | (go_simp; rfl) | rfl); (case hu => (simp only [Value.cells]; rfl)); (case hs => (repeat (first | exact Fr.Spot.here _ _ | apply Fr.Spot.there))); (case ht => kernel_rfl); (case h1 => simp [Value.oneCell']); (case hfit => simp); intro W hF1; simp only [Fr.patch, List.take_zero, List.nil_append, List.drop, List.append_nil, List.take, List.cons_append, List.length_cons, List.length_nil, Nat.reduceAdd] at hF1; have HC1 := hF1.cells; simp only [Fr.Cells, List.length_cons, List.length_nil, Nat.reduceAdd, and_true] at HC1; clear hF HC; have HC := HC1; have hF := Aside0.mk hF1; clear hF1 HC1) | ((first | (with_reducible refine Fr.gate_alloc rfl ?_) | (with_reducible refine Fr.gate_box rfl ?_)); apply Fr.fr_box hF.out rfl; (case hrun => first | (go_simp; done) | (go_simp; rfl)); intro g W hF1; have HC1 := hF1.cells; simp only [Fr.Cells, List.length_cons, List.length_nil, Nat.reduceAdd, and_true] at HC1; clear hF HC; have HC := HC1; have hF := Aside0.mk hF1; clear hF1 HC1))
        refine Fr.fr_region (by kernel_rfl) (by kernel_rfl) hF.out ?_
        iterate 10 ((apply Fr.fr_q_val; (case hw => kernel_rfl); (case hv => intro W hF1; have q0 := (hF1.below.cell (World.block_lt_of_cell? _ _ A0.out)).trans A0.out; have q1 := (hF1.below.cell (World.block_lt_of_cell? _ _ A1.out)).trans A1.out; have q2 := (hF1.below.cell (World.block_lt_of_cell? _ _ B0.out)).trans B0.out; have q3 := (hF1.below.cell (World.block_lt_of_cell? _ _ B1.out)).trans B1.out; clear hF1; first | (go_simp; done) | (go_simp; rfl)); simp only [Act.put, List.setIfInBounds_toArray, List.set_cons_zero, List.set_cons_succ]))
        iterate 1 ((apply Fr.fr_q_val (v := .bool false); (case hw => first | rfl | (go_simp; done)); (case hv => intro W hF1; have HC1 := hF1.cells; simp only [Fr.Cells, List.length_cons, List.length_nil, Nat.reduceAdd, and_true] at HC1; clear hF1; have hd9 := HT.out; first | (go_simp; done) | (go_simp; rw [if_neg (of_decide_eq_false hd9)]) | (go_simp; rw [if_pos (of_decide_eq_true hd9)])); simp only [Act.put, List.setIfInBounds_toArray, List.set_cons_zero, List.set_cons_succ]))
        iterate 1 ((apply Fr.fr_q_val; (case hw => kernel_rfl); (case hv => intro W hF1; have q0 := (hF1.below.cell (World.block_lt_of_cell? _ _ A0.out)).trans A0.out; have q1 := (hF1.below.cell (World.block_lt_of_cell? _ _ A1.out)).trans A1.out; have q2 := (hF1.below.cell (World.block_lt_of_cell? _ _ B0.out)).trans B0.out; have q3 := (hF1.below.cell (World.block_lt_of_cell? _ _ B1.out)).trans B1.out; clear hF1; first | (go_simp; done) | (go_simp; rfl)); simp only [Act.put, List.setIfInBounds_toArray, List.set_cons_zero, List.set_cons_succ]))
        iterate 10 ((apply Fr.fr_q_val; (case hw => kernel_rfl); (case hv => intro W hF1; have q0 := (hF1.below.cell (World.block_lt_of_cell? _ _ A0.out)).trans A0.out; have q1 := (hF1.below.cell (World.block_lt_of_cell? _ _ A1.out)).trans A1.out; have q2 := (hF1.below.cell (World.block_lt_of_cell? _ _ B0.out)).trans B0.out; have q3 := (hF1.below.cell (World.block_lt_of_cell? _ _ B1.out)).trans B1.out; clear hF1; first | (go_simp; done) | (go_simp; rfl)); simp only [Act.put, List.setIfInBounds_toArray, List.set_cons_zero, List.set_cons_succ]))
        iterate 1 ((apply Fr.fr_q_val; (case hw => kernel_rfl); (case hv => intro W hF1; have q0 := (hF1.below.cell (World.block_lt_of_cell? _ _ A0.out)).trans A0.out; have q1 := (hF1.below.cell (World.block_lt_of_cell? _ _ A1.out)).trans A1.out; have q2 := (hF1.below.cell (World.block_lt_of_cell? _ _ B0.out)).trans B0.out; have q3 := (hF1.below.cell (World.block_lt_of_cell? _ _ B1.out)).trans B1.out; clear hF1; first | (go_simp; done) | (go_simp; rfl)); simp only [Act.put, List.setIfInBounds_toArray, List.set_cons_zero, List.set_cons_succ]))
        iterate 1 ((apply Fr.fr_q_val; (case hw => kernel_rfl); (case hv => intro W hF1; have q0 := (hF1.below.cell (World.block_lt_of_cell? _ _ A0.out)).trans A0.out; have q1 := (hF1.below.cell (World.block_lt_of_cell? _ _ A1.out)).trans A1.out; have q2 := (hF1.below.cell (World.block_lt_of_cell? _ _ B0.out)).trans B0.out; have q3 := (hF1.below.cell (World.block_lt_of_cell? _ _ B1.out)).trans B1.out; clear hF1; first | (go_simp; done) | (go_simp; rfl)); simp only [Act.put, List.setIfInBounds_toArray, List.set_cons_zero, List.set_cons_succ]))
        iterate 10 ((apply Fr.fr_q_val; (case hw => kernel_rfl); (case hv => intro W hF1; have q0 := (hF1.below.cell (World.block_lt_of_cell? _ _ A0.out)).trans A0.out; have q1 := (hF1.below.cell (World.block_lt_of_cell? _ _ A1.out)).trans A1.out; have q2 := (hF1.below.cell (World.block_lt_of_cell? _ _ B0.out)).trans B0.out; have q3 := (hF1.below.cell (World.block_lt_of_cell? _ _ B1.out)).trans B1.out; clear hF1; first | (go_simp; done) | (go_simp; rfl)); simp only [Act.put, List.setIfInBounds_toArray, List.set_cons_zero, List.set_cons_succ]))
        iterate 1 ((apply Fr.fr_q_val (v := .bool false); (case hw => first | rfl | (go_simp; done)); (case hv => intro W hF1; have HC1 := hF1.cells; simp only [Fr.Cells, List.length_cons, List.length_nil, Nat.reduceAdd, and_true] at HC1; clear hF1; have hd9 := HU.out; first | (go_simp; done) | (go_simp; rw [if_neg (of_decide_eq_false hd9)]) | (go_simp; rw [if_pos (of_decide_eq_true hd9)])); simp only [Act.put, List.setIfInBounds_toArray, List.set_cons_zero, List.set_cons_succ]))
        iterate 1 ((apply Fr.fr_q_val; (case hw => kernel_rfl); (case hv => intro W hF1; have q0 := (hF1.below.cell (World.block_lt_of_cell? _ _ A0.out)).trans A0.out; have q1 := (hF1.below.cell (World.block_lt_of_cell? _ _ A1.out)).trans A1.out; have q2 := (hF1.below.cell (World.block_lt_of_cell? _ _ B0.out)).trans B0.out; have q3 := (hF1.below.cell (World.block_lt_of_cell? _ _ B1.out)).trans B1.out; clear hF1; first | (go_simp; done) | (go_simp; rfl)); simp only [Act.put, List.setIfInBounds_toArray, List.set_cons_zero, List.set_cons_succ]))
        iterate 2 ((apply Fr.fr_q_val; (case hw => kernel_rfl); (case hv => intro W hF1; have q0 := (hF1.below.cell (World.block_lt_of_cell? _ _ A0.out)).trans A0.out; have q1 := (hF1.below.cell (World.block_lt_of_cell? _ _ A1.out)).trans A1.out; have q2 := (hF1.below.cell (World.block_lt_of_cell? _ _ B0.out)).trans B0.out; have q3 := (hF1.below.cell (World.block_lt_of_cell? _ _ B1.out)).trans B1.out; clear hF1; first | (go_simp; done) | (go_simp; rfl)); simp only [Act.put, List.setIfInBounds_toArray, List.set_cons_zero, List.set_cons_succ]))
        refine wpQuiet_nil ?_; intro W hF1; have HC1 := hF1.cells; simp only [Fr.Cells, List.length_cons, List.length_nil, Nat.reduceAdd, and_true] at HC1; clear hF HC; have HC := HC1; have hF := Aside0.mk hF1; clear hF1 HC1
        go_wp2_with (first | ((with_reducible refine gate_store rfl ?_); apply Fr.fr_store hF.out rfl rfl rfl; (case hp => rfl); (case hx => first | (go_simp; rfl) | rfl); (case hu => (simp only [Value.cells]; rfl)); (case hs => (repeat (first | exact Fr.Spot.here _ _ | apply Fr.Spot.there))); (case ht => kernel_rfl); (case h1 => simp [Value.oneCell']); (case hfit => simp); intro W hF1; simp only [Fr.patch, List.take_zero, List.nil_append, List.drop, List.append_nil, List.take, List.cons_append, List.length_cons, List.length_nil, Nat.reduceAdd] at hF1; have HC1 := hF1.cells; simp only [Fr.Cells, List.length_cons, List.length_nil, Nat.reduceAdd, and_true] at HC1; clear hF HC; have HC := HC1; have hF := Aside0.mk hF1; clear hF1 HC1) | ((first | (with_reducible refine Fr.gate_alloc rfl ?_) | (with_reducible refine Fr.gate_box rfl ?_)); apply Fr.fr_box hF.out rfl; (case hrun => first | (go_simp; done) | (go_simp; rfl)); intro g W hF1; have HC1 := hF1.cells; simp only [Fr.Cells, List.length_cons, List.length_nil, Nat.reduceAdd, and_true] at HC1; clear hF HC; have HC := HC1; have hF := Aside0.mk hF1; clear hF1 HC1))
        go_ret
        exact ⟨by first | rfl | simp, hF.out.below⟩
    · have h2b : (x0 == y0) = false := beq_false_of_ne h2
      have HT := Aside0.mk (decide_eq_false h1)
      rw [decide_eq_false h1, decide_eq_false h2]
      clear h1 h2
      go_enter Try.func47, Try.ntmps47
      go_wp2_with (first | ((with_reducible refine gate_store rfl ?_); apply Fr.fr_store hF.out rfl rfl rfl; (case hp => rfl); (case hx => first | (go_simp; rfl) | rfl); (case hu => (simp only [Value.cells]; rfl)); (case hs => (repeat (first | exact Fr.Spot.here _ _ | apply Fr.Spot.there))); (case ht => kernel_rfl); (case h1 => simp [Value.oneCell']); (case hfit => simp); intro W hF1; simp only [Fr.patch, List.take_zero, List.nil_append, List.drop, List.append_nil, List.take, List.cons_append, List.length_cons, List.length_nil, Nat.reduceAdd] at hF1; have HC1 := hF1.cells; simp only [Fr.Cells, List.length_cons, List.length_nil, Nat.reduceAdd, and_true] at HC1; clear hF HC; have HC := HC1; have hF := Aside0.mk hF1; clear hF1 HC1) | ((first | (with_reducible refine Fr.gate_alloc rfl ?_) | (with_reducible refine Fr.gate_box rfl ?_)); apply Fr.fr_box hF.out rfl; (case hrun => first | (go_simp; done) | (go_simp; rfl)); intro g W hF1; have HC1 := hF1.cells; simp only [Fr.Cells, List.length_cons, List.length_nil, Nat.reduceAdd, and_true] at HC1; clear hF HC; have HC := HC1; have hF := Aside0.mk hF1; clear hF1 HC1))
      refine Fr.fr_region (by kernel_rfl) (by kernel_rfl) hF.out ?_
      iterate 10 ((apply Fr.fr_q_val; (case hw => kernel_rfl); (case hv => intro W hF1; have q0 := (hF1.below.cell (World.block_lt_of_cell? _ _ A0.out)).trans A0.out; have q1 := (hF1.below.cell (World.block_lt_of_cell? _ _ A1.out)).trans A1.out; have q2 := (hF1.below.cell (World.block_lt_of_cell? _ _ B0.out)).trans B0.out; have q3 := (hF1.below.cell (World.block_lt_of_cell? _ _ B1.out)).trans B1.out; clear hF1; first | (go_simp; done) | (go_simp; rfl)); simp only [Act.put, List.setIfInBounds_toArray, List.set_cons_zero, List.set_cons_succ]))
      iterate 1 ((apply Fr.fr_q_val (v := .bool false); (case hw => first | rfl | (go_simp; done)); (case hv => intro W hF1; have HC1 := hF1.cells; simp only [Fr.Cells, List.length_cons, List.length_nil, Nat.reduceAdd, and_true] at HC1; clear hF1; have hd9 := HT.out; first | (go_simp; done) | (go_simp; rw [if_neg (of_decide_eq_false hd9)]) | (go_simp; rw [if_pos (of_decide_eq_true hd9)])); simp only [Act.put, List.setIfInBounds_toArray, List.set_cons_zero, List.set_cons_succ]))
      iterate 1 ((apply Fr.fr_q_val; (case hw => kernel_rfl); (case hv => intro W hF1; have q0 := (hF1.below.cell (World.block_lt_of_cell? _ _ A0.out)).trans A0.out; have q1 := (hF1.below.cell (World.block_lt_of_cell? _ _ A1.out)).trans A1.out; have q2 := (hF1.below.cell (World.block_lt_of_cell? _ _ B0.out)).trans B0.out; have q3 := (hF1.below.cell (World.block_lt_of_cell? _ _ B1.out)).trans B1.out; clear hF1; first | (go_simp; done) | (go_simp; rfl)); simp only [Act.put, List.setIfInBounds_toArray, List.set_cons_zero, List.set_cons_succ]))
      iterate 10 ((apply Fr.fr_q_val; (case hw => kernel_rfl); (case hv => intro W hF1; have q0 := (hF1.below.cell (World.block_lt_of_cell? _ _ A0.out)).trans A0.out; have q1 := (hF1.below.cell (World.block_lt_of_cell? _ _ A1.out)).trans A1.out; have q2 := (hF1.below.cell (World.block_lt_of_cell? _ _ B0.out)).trans B0.out; have q3 := (hF1.below.cell (World.block_lt_of_cell? _ _ B1.out)).trans B1.out; clear hF1; first | (go_simp; done) | (go_simp; rfl)); simp only [Act.put, List.setIfInBounds_toArray, List.set_cons_zero, List.set_cons_succ]))
      iterate 1 ((apply Fr.fr_q_val; (case hw => kernel_rfl); (case hv => intro W hF1; have q0 := (hF1.below.cell (World.block_lt_of_cell? _ _ A0.out)).trans A0.out; have q1 := (hF1.below.cell (World.block_lt_of_cell? _ _ A1.out)).trans A1.out; have q2 := (hF1.below.cell (World.block_lt_of_cell? _ _ B0.out)).trans B0.out; have q3 := (hF1.below.cell (World.block_lt_of_cell? _ _ B1.out)).trans B1.out; clear hF1; first | (go_simp; done) | (go_simp; rfl)); simp only [Act.put, List.setIfInBounds_toArray, List.set_cons_zero, List.set_cons_succ]))
      iterate 1 ((apply Fr.fr_q_val; (case hw => kernel_rfl); (case hv => intro W hF1; have q0 := (hF1.below.cell (World.block_lt_of_cell? _ _ A0.out)).trans A0.out; have q1 := (hF1.below.cell (World.block_lt_of_cell? _ _ A1.out)).trans A1.out; have q2 := (hF1.below.cell (World.block_lt_of_cell? _ _ B0.out)).trans B0.out; have q3 := (hF1.below.cell (World.block_lt_of_cell? _ _ B1.out)).trans B1.out; clear hF1; first | (go_simp; done) | (go_simp; rfl)); simp only [Act.put, List.setIfInBounds_toArray, List.set_cons_zero, List.set_cons_succ]))
      iterate 11 (((with_reducible refine Fr.fr_q_skip ?hw ?_); (case hw => kernel_rfl); simp only [Act.put, List.setIfInBounds_toArray, List.set_cons_zero, List.set_cons_succ]))
      iterate 1 ((apply Fr.fr_q_val; (case hw => kernel_rfl); (case hv => intro W hF1; have q0 := (hF1.below.cell (World.block_lt_of_cell? _ _ A0.out)).trans A0.out; have q1 := (hF1.below.cell (World.block_lt_of_cell? _ _ A1.out)).trans A1.out; have q2 := (hF1.below.cell (World.block_lt_of_cell? _ _ B0.out)).trans B0.out; have q3 := (hF1.below.cell (World.block_lt_of_cell? _ _ B1.out)).trans B1.out; clear hF1; first | (go_simp; done) | (go_simp; rfl)); simp only [Act.put, List.setIfInBounds_toArray, List.set_cons_zero, List.set_cons_succ]))
      iterate 2 ((apply Fr.fr_q_val; (case hw => kernel_rfl); (case hv => intro W hF1; have q0 := (hF1.below.cell (World.block_lt_of_cell? _ _ A0.out)).trans A0.out; have q1 := (hF1.below.cell (World.block_lt_of_cell? _ _ A1.out)).trans A1.out; have q2 := (hF1.below.cell (World.block_lt_of_cell? _ _ B0.out)).trans B0.out; have q3 := (hF1.below.cell (World.block_lt_of_cell? _ _ B1.out)).trans B1.out; clear hF1; first | (go_simp; done) | (go_simp; rfl)); simp only [Act.put, List.setIfInBounds_toArray, List.set_cons_zero, List.set_cons_succ]))
      refine wpQuiet_nil ?_; intro W hF1; have HC1 := hF1.cells; simp only [Fr.Cells, List.length_cons, List.length_nil, Nat.reduceAdd, and_true] at HC1; clear hF HC; have HC := HC1; have hF := Aside0.mk hF1; clear hF1 HC1
      go_wp2_with (first | ((with_reducible refine gate_store rfl ?_); apply Fr.fr_store hF.out rfl rfl rfl; (case hp => rfl); (case hx => first | (go_simp; rfl) | rfl); (case hu => (simp only [Value.cells]; rfl)); (case hs => (repeat (first | exact Fr.Spot.here _ _ | apply Fr.Spot.there))); (case ht => kernel_rfl); (case h1 => simp [Value.oneCell']); (case hfit => simp); intro W hF1; simp only [Fr.patch, List.take_zero, List.nil_append, List.drop, List.append_nil, List.take, List.cons_append, List.length_cons, List.length_nil, Nat.reduceAdd] at hF1; have HC1 := hF1.cells; simp only [Fr.Cells, List.length_cons, List.length_nil, Nat.reduceAdd, and_true] at HC1; clear hF HC; have HC := HC1; have hF := Aside0.mk hF1; clear hF1 HC1) | ((first | (with_reducible refine Fr.gate_alloc rfl ?_) | (with_reducible refine Fr.gate_box rfl ?_)); apply Fr.fr_box hF.out rfl; (case hrun => first | (go_simp; done) | (go_simp; rfl)); intro g W hF1; have HC1 := hF1.cells; simp only [Fr.Cells, List.length_cons, List.length_nil, Nat.reduceAdd, and_true] at HC1; clear hF HC; have HC := HC1; have hF := Aside0.mk hF1; clear hF1 HC1))
      go_ret
      exact ⟨by first | rfl | simp, hF.out.below⟩
theorem again {g : Nat} {t : TypeId} {bs : List Fr.Blk} {cs : List Value} {f : List Value → List Fr.Blk} (h : Fr.Spot g t bs cs f) (c : List Value) : Fr.Spot g t (f c) c f := by
  induction h with
  | here cs bs => exact .here c bs
  | there b _ ih => exact .there b ih
theorem swp_same {w0 W : World} {bs : List Fr.Blk} {rs : List Fr.Row} {g : Nat} {xs : List S32} {tl : List Value} {f : List Value → List Fr.Blk} {i k : Nat} (hF : Fr.Frame w0 W bs rs) (hs : Fr.Spot g 32 bs (flat (xs) ++ tl) f) (hi : i < xs.length) (hk : k < xs.length) :
    Fr.Frame w0 ((((W.setCell ⟨g, i * 2, none⟩ (.int .i64 (xs.getD k z32).f0)).setCell ⟨g, i * 2 + 1, none⟩ (.int .i64 (xs.getD k z32).f1)).setCell ⟨g, k * 2, none⟩ (.int .i64 (xs.getD i z32).f0)).setCell ⟨g, k * 2 + 1, none⟩ (.int .i64 (xs.getD i z32).f1)) (f (flat (swp xs i k) ++ tl)) rs := by
  have h1 := hF.put hs (i * 2) [.int .i64 (xs.getD k z32).f0, .int .i64 (xs.getD k z32).f1] (by rw [List.length_append, flat_len]; simp; omega)
  rw [flat_patch2 _ _ _ _ hi] at h1
  have h2 := h1.put (again hs _) (k * 2) [.int .i64 (xs.getD i z32).f0, .int .i64 (xs.getD i z32).f1] (by rw [List.length_append, flat_len]; simp; omega)
  rw [flat_patch2 _ _ _ _ (by simpa using hk)] at h2
  exact h2
set_option maxHeartbeats 2000000 in
set_option maxRecDepth 100000 in
theorem swap50_calls (c : Nat) (xs : List S32) (tl : List Value) (g i k : Nat) (w0 W : World) (bs : List Fr.Blk) (rs : List Fr.Row) (f : List Value → List Fr.Blk) (hF : Fr.Frame w0 W bs rs) (hs : Fr.Spot g 32 bs (flat (xs) ++ tl) f) (hi : i < xs.length) (hk : k < xs.length) : Calls Try.prog 50 #[.slice (some ⟨g, 0, none⟩) xs.length c, .int .i64 i, .int .i64 k] W fun e W' => e = .returned (.tuple #[]) ∧ Fr.Frame w0 W' (f (flat (swp xs i k) ++ tl)) rs := by
  have hii : (i : Int) < (xs.length : Int) := by omega
  have hki : (k : Int) < (xs.length : Int) := by omega
  have ha := flat_cell hF hs i hi
  have hb := flat_cell hF hs k hk
  have HQ := Aside0.mk (swp_same hF hs hi hk).drew
  obtain ⟨a0, a1⟩ := ha
  obtain ⟨b0, b1⟩ := hb
  generalize xs.getD i z32 = x at *
  generalize xs.getD k z32 = y at *
  obtain ⟨x0, x1⟩ := x
  obtain ⟨y0, y1⟩ := y
  dsimp only at *
  have fz := fun n => blk_frozen (hF.blk _ hs.mem).2 n
  dsimp only at fz
  obtain ⟨q0, hq0⟩ : ∃ q, ((W.setCell ⟨g, i * 2, none⟩ (.int .i64 y0)).setCell ⟨g, i * 2 + 1, none⟩ (.int .i64 y1)).cell? ⟨g, k * 2, none⟩ = some q := Option.isSome_iff_exists.1 (by rw [isSome_setCell, isSome_setCell, b0]; rfl)
  obtain ⟨q1, hq1⟩ : ∃ q, (((W.setCell ⟨g, i * 2, none⟩ (.int .i64 y0)).setCell ⟨g, i * 2 + 1, none⟩ (.int .i64 y1)).setCell ⟨g, k * 2, none⟩ (.int .i64 x0)).cell? ⟨g, k * 2 + 1, none⟩ = some q := Option.isSome_iff_exists.1 (by rw [isSome_setCell, isSome_setCell, isSome_setCell, b1]; rfl)
  clear hF hs hi hk
  go_enter Try.func50, Try.ntmps50
  go_wp2_with fail
  go_region_with (fail)
  all_goals (go_end0; exact ⟨rfl, HQ.out⟩)
theorem w64b {n : Int} (h : -9223372036854775808 ≤ n) (h' : n ≤ 9223372036854775807) : wrap64 n = n := by unfold wrap64; omega
def kid (xs : List S32) (i n : Nat) : Nat := if 2 * i + 2 < n ∧ lessB (xs.getD (2 * i + 2) z32) (xs.getD (2 * i + 1) z32) = true then 2 * i + 2 else 2 * i + 1
def downL : Nat → List S32 → Nat → Nat → List S32
  | 0, xs, _, _ => xs
  | k + 1, xs, i, n => if 2 * i + 1 < n then (if lessB (xs.getD (kid xs i n) z32) (xs.getD i z32) = true then downL k (swp xs i (kid xs i n)) (kid xs i n) n else xs) else xs
structure Lies (f : List Value → List Fr.Blk) (g h n c : Nat) : Prop where
  spot : ∀ cs, Fr.Spot g 32 (f cs) cs f
  ptr : ∀ cs, (h, [.slice (some ⟨g, 0, none⟩) n c], 48) ∈ f cs
theorem E46 : ∀ args w, (callFunc 46 args).run Try.prog w = .ok (.enter 46 args) w := enters_of Try.func46 (by kernel_rfl) rfl
theorem E47 : ∀ args w, (callFunc 47 args).run Try.prog w = .ok (.enter 47 args) w := enters_of Try.func47 (by kernel_rfl) rfl
theorem E50 : ∀ args w, (callFunc 50 args).run Try.prog w = .ok (.enter 50 args) w := enters_of Try.func50 (by kernel_rfl) rfl
theorem ptr_cell {f : List Value → List Fr.Blk} {g h n c : Nat} (hl : Lies f g h n c) {w0 W : World} {cs : List Value} {rs : List Fr.Row} (hF : Fr.Frame w0 W (f cs) rs) : W.cell? ⟨h, 0, none⟩ = some (.slice (some ⟨g, 0, none⟩) n c) := (blk_cell (hF.blk _ (hl.ptr cs)).2 0).trans rfl
theorem kid_in {xs : List S32} {i n : Nat} (h : 2 * i + 1 < n) : i < kid xs i n ∧ kid xs i n < n := by unfold kid; split <;> omega
theorem less47_int (c : Nat) (xs : List S32) (tl : List Value) (g nx i k : Nat) (a b : Int) (w0 W : World) (bs : List Fr.Blk) (rs : List Fr.Row) (f : List Value → List Fr.Blk) (hF : Fr.Frame w0 W bs rs) (hs : Fr.Spot g 32 bs (flat (xs) ++ tl) f) (hx : xs.length = nx) (hm : nx ≤ 1000) (ha : a = (i : Int)) (hb : b = (k : Int)) (hi : i < nx) (hk : k < nx) : Calls Try.prog 47 #[.slice (some ⟨g, 0, none⟩) nx c, .int .i64 a, .int .i64 b] W fun e w' => e = .returned (.bool (lessB (xs.getD i z32) (xs.getD k z32))) ∧ Fr.Frame w0 w' bs rs := by
  subst hx ha hb
  exact (less47_calls _ c xs i k W (flat_C hF hs (by omega)) hi hk).mono (fun e w' h => ⟨h.1, hF.call h.2⟩)
theorem swap50_int (c : Nat) (xs : List S32) (tl : List Value) (g nx i k : Nat) (a b : Int) (w0 W : World) (bs : List Fr.Blk) (rs : List Fr.Row) (f : List Value → List Fr.Blk) (hF : Fr.Frame w0 W bs rs) (hs : Fr.Spot g 32 bs (flat (xs) ++ tl) f) (hx : xs.length = nx) (ha : a = (i : Int)) (hb : b = (k : Int)) (hi : i < nx) (hk : k < nx) : Calls Try.prog 50 #[.slice (some ⟨g, 0, none⟩) nx c, .int .i64 a, .int .i64 b] W fun e W' => e = .returned (.tuple #[]) ∧ Fr.Frame w0 W' (f (flat (swp xs i k) ++ tl)) rs := by
  subst hx ha hb
  exact swap50_calls c xs tl g i k w0 W bs rs f hF hs hi hk
set_option maxHeartbeats 4000000 in
set_option maxRecDepth 100000 in
theorem down27_calls (c : Nat) (xs : List S32) (tl : List Value) (g h i n : Nat) (w0 W : World) (rs : List Fr.Row) (f : List Value → List Fr.Blk) (hl : Lies f g h xs.length c) (hF : Fr.Frame w0 W (f (flat (xs) ++ tl)) rs) (hn : n ≤ xs.length) (hi : i ≤ 1000) (hx : xs.length ≤ 1000) :
    Calls Try.prog 27 #[.iface 45 (.pointer (some ⟨h, 0, none⟩)), .int .i64 i, .int .i64 n] W fun e W' => (∃ v, e = .returned v) ∧ Fr.Frame w0 W' (f (flat (downL (n + 1) xs i n) ++ tl)) rs := by
  obtain ⟨R, hR⟩ : ∃ R, downL (n + 1) xs i n = R := ⟨_, rfl⟩
  obtain ⟨nx, hnx⟩ : ∃ nx, xs.length = nx := ⟨_, rfl⟩
  rw [hR]
  rw [hnx] at hl hn hx
  have HL := Aside0.mk hl
  have HF := Aside0.mk hF
  have HR := Aside0.mk hR
  have HX := Aside0.mk hx
  have hnb : n ≤ 1000 := by omega
  have HNX := Aside0.mk hnx
  have HN := Aside0.mk hn
  have mLess := fun (w : World) (hc : w.cell? ⟨h, 0, none⟩ = some (.slice (some ⟨g, 0, none⟩) nx c)) => met_Less h _ w hc
  have mSwap := fun (w : World) (hc : w.cell? ⟨h, 0, none⟩ = some (.slice (some ⟨g, 0, none⟩) nx c)) => met_Swap h _ w hc
  have eLess := E47
  have eSwap := E50
  clear hl hF hR hx hnx hn
  go_enter Try.func27, Try.ntmps27
  go_wp2_with fail
  go_loopg [7] n (fun kq v7 w' => ∃ (j k : Nat) (zs : List S32), v7 = .int .i64 j ∧ j ≤ 1000 ∧ n - j ≤ kq ∧ Aside0 (n - j < k) ∧ Aside0 (zs.length = nx) ∧ Aside0 (downL k zs j n = R) ∧ Aside0 (Fr.Frame w0 w' (f (flat (zs) ++ tl)) rs))
  case atStart => exact ⟨i, n + 1, xs, rfl, hi, by omega, ⟨by omega⟩, HNX, HR, HF⟩
  case round =>
    clear HF HR HNX
    obtain ⟨j, k, zs, rfl, hj, hg, HK, HZ, HR, HF⟩ := hrel
    obtain ⟨k, rfl⟩ : ∃ k', k = k' + 1 := ⟨k - 1, by have := HK.out; omega⟩
    have hc := ptr_cell HL.out HF.out
    have hr := HR.out
    rw [downL] at hr
    have hF := HF
    clear HF HR
    by_cases hlt : 2 * j + 1 < n
    · rw [if_pos hlt] at hr
      have hlti : 2 * (j : Int) + 1 < (n : Int) := by omega
      by_cases h2 : 2 * j + 2 < n
      · have h2i : 2 * (j : Int) + 1 + 1 < (n : Int) := by omega
        cases hL1 : lessB (zs.getD (2 * j + 2) z32) (zs.getD (2 * j + 1) z32) with
        | true =>
          have hk : kid zs j n = 2 * j + 2 := by unfold kid; rw [if_pos ⟨h2, hL1⟩]
          rw [hk] at hr
          have HRR := Aside0.mk hr
          clear hr hk
          go_wp2_with fail
          (with_reducible refine (less47_int c zs tl g nx (2 * j + 2) (2 * j + 1) _ _ w0 _ _ rs f hF.out (HL.out.spot _) HZ.out HX.out (by omega) (by omega) (by have := HN.out; omega) (by have := HN.out; omega)).mono ?_)
          rintro e W1 ⟨rfl, hF1⟩
          clear hF hc; have hF := Aside0.mk hF1; have hc := ptr_cell HL.out hF.out; clear hF1
          rw [hL1]
          go_wp2_with fail
          cases hL2 : lessB (zs.getD (2 * j + 2) z32) (zs.getD j z32) with
          | false =>
            (with_reducible refine (less47_int c zs tl g nx (2 * j + 2) (j) _ _ w0 _ _ rs f hF.out (HL.out.spot _) HZ.out HX.out (by omega) (by omega) (by have := HN.out; omega) (by have := HN.out; omega)).mono ?_)
            rintro e W1 ⟨rfl, hF1⟩
            clear hF hc; have hF := Aside0.mk hF1; have hc := ptr_cell HL.out hF.out; clear hF1
            rw [hL2]
            go_wp2_with fail
            go_ret
            have hr9 := HRR.out
            rw [hL2, if_neg (by decide)] at hr9
            exact ⟨⟨_, rfl⟩, by rw [← hr9]; exact hF.out⟩
          | true =>
            (with_reducible refine (less47_int c zs tl g nx (2 * j + 2) (j) _ _ w0 _ _ rs f hF.out (HL.out.spot _) HZ.out HX.out (by omega) (by omega) (by have := HN.out; omega) (by have := HN.out; omega)).mono ?_)
            rintro e W1 ⟨rfl, hF1⟩
            clear hF hc; have hF := Aside0.mk hF1; have hc := ptr_cell HL.out hF.out; clear hF1
            rw [hL2]
            go_wp2_with fail
            (with_reducible refine (swap50_int c zs tl g nx j (2 * j + 2) _ _ w0 _ _ rs f hF.out (HL.out.spot _) HZ.out (by omega) (by omega) (by have := HN.out; omega) (by have := HN.out; omega)).mono ?_)
            rintro e W3 ⟨rfl, hF3⟩
            have hr9 := HRR.out
            rw [hL2, if_pos rfl] at hr9
            go_wp2_with fail
            go_roundg (n - (2 * j + 2))
            case measure => omega
            case rel => exact ⟨2 * j + 2, k, swp zs j (2 * j + 2), by first | rfl | (congr 1; omega), by omega, by omega, ⟨by have := HK.out; omega⟩, ⟨by rw [swp_len]; exact HZ.out⟩, ⟨hr9⟩, ⟨hF3⟩⟩
        | false =>
          have hk : kid zs j n = 2 * j + 1 := by unfold kid; rw [if_neg (fun h => by rw [hL1] at h; exact absurd h.2 (by decide))]
          rw [hk] at hr
          have HRR := Aside0.mk hr
          clear hr hk
          go_wp2_with fail
          (with_reducible refine (less47_int c zs tl g nx (2 * j + 2) (2 * j + 1) _ _ w0 _ _ rs f hF.out (HL.out.spot _) HZ.out HX.out (by omega) (by omega) (by have := HN.out; omega) (by have := HN.out; omega)).mono ?_)
          rintro e W1 ⟨rfl, hF1⟩
          clear hF hc; have hF := Aside0.mk hF1; have hc := ptr_cell HL.out hF.out; clear hF1
          rw [hL1]
          go_wp2_with fail
          cases hL2 : lessB (zs.getD (2 * j + 1) z32) (zs.getD j z32) with
          | false =>
            (with_reducible refine (less47_int c zs tl g nx (2 * j + 1) (j) _ _ w0 _ _ rs f hF.out (HL.out.spot _) HZ.out HX.out (by omega) (by omega) (by have := HN.out; omega) (by have := HN.out; omega)).mono ?_)
            rintro e W1 ⟨rfl, hF1⟩
            clear hF hc; have hF := Aside0.mk hF1; have hc := ptr_cell HL.out hF.out; clear hF1
            rw [hL2]
            go_wp2_with fail
            go_ret
            have hr9 := HRR.out
            rw [hL2, if_neg (by decide)] at hr9
            exact ⟨⟨_, rfl⟩, by rw [← hr9]; exact hF.out⟩
          | true =>
            (with_reducible refine (less47_int c zs tl g nx (2 * j + 1) (j) _ _ w0 _ _ rs f hF.out (HL.out.spot _) HZ.out HX.out (by omega) (by omega) (by have := HN.out; omega) (by have := HN.out; omega)).mono ?_)
            rintro e W1 ⟨rfl, hF1⟩
            clear hF hc; have hF := Aside0.mk hF1; have hc := ptr_cell HL.out hF.out; clear hF1
            rw [hL2]
            go_wp2_with fail
            (with_reducible refine (swap50_int c zs tl g nx j (2 * j + 1) _ _ w0 _ _ rs f hF.out (HL.out.spot _) HZ.out (by omega) (by omega) (by have := HN.out; omega) (by have := HN.out; omega)).mono ?_)
            rintro e W3 ⟨rfl, hF3⟩
            have hr9 := HRR.out
            rw [hL2, if_pos rfl] at hr9
            go_wp2_with fail
            go_roundg (n - (2 * j + 1))
            case measure => omega
            case rel => exact ⟨2 * j + 1, k, swp zs j (2 * j + 1), by first | rfl | (congr 1; omega), by omega, by omega, ⟨by have := HK.out; omega⟩, ⟨by rw [swp_len]; exact HZ.out⟩, ⟨hr9⟩, ⟨hF3⟩⟩
      · have h2i : ¬ 2 * (j : Int) + 1 + 1 < (n : Int) := by omega
        have hk : kid zs j n = 2 * j + 1 := by unfold kid; rw [if_neg (fun h => h2 h.1)]
        rw [hk] at hr
        have HRR := Aside0.mk hr
        clear hr hk
        go_wp2_with fail
        cases hL2 : lessB (zs.getD (2 * j + 1) z32) (zs.getD j z32) with
        | false =>
          (with_reducible refine (less47_int c zs tl g nx (2 * j + 1) (j) _ _ w0 _ _ rs f hF.out (HL.out.spot _) HZ.out HX.out (by omega) (by omega) (by have := HN.out; omega) (by have := HN.out; omega)).mono ?_)
          rintro e W1 ⟨rfl, hF1⟩
          clear hF hc; have hF := Aside0.mk hF1; have hc := ptr_cell HL.out hF.out; clear hF1
          rw [hL2]
          go_wp2_with fail
          go_ret
          have hr9 := HRR.out
          rw [hL2, if_neg (by decide)] at hr9
          exact ⟨⟨_, rfl⟩, by rw [← hr9]; exact hF.out⟩
        | true =>
          (with_reducible refine (less47_int c zs tl g nx (2 * j + 1) (j) _ _ w0 _ _ rs f hF.out (HL.out.spot _) HZ.out HX.out (by omega) (by omega) (by have := HN.out; omega) (by have := HN.out; omega)).mono ?_)
          rintro e W1 ⟨rfl, hF1⟩
          clear hF hc; have hF := Aside0.mk hF1; have hc := ptr_cell HL.out hF.out; clear hF1
          rw [hL2]
          go_wp2_with fail
          (with_reducible refine (swap50_int c zs tl g nx j (2 * j + 1) _ _ w0 _ _ rs f hF.out (HL.out.spot _) HZ.out (by omega) (by omega) (by have := HN.out; omega) (by have := HN.out; omega)).mono ?_)
          rintro e W3 ⟨rfl, hF3⟩
          have hr9 := HRR.out
          rw [hL2, if_pos rfl] at hr9
          go_wp2_with fail
          go_roundg (n - (2 * j + 1))
          case measure => omega
          case rel => exact ⟨2 * j + 1, k, swp zs j (2 * j + 1), by first | rfl | (congr 1; omega), by omega, by omega, ⟨by have := HK.out; omega⟩, ⟨by rw [swp_len]; exact HZ.out⟩, ⟨hr9⟩, ⟨hF3⟩⟩
    · rw [if_neg hlt] at hr
      have HRR := Aside0.mk hr
      have hgei : ¬ 2 * (j : Int) + 1 < (n : Int) := by omega
      clear hr
      go_wp2_with fail
      go_ret
      exact ⟨⟨_, rfl⟩, by rw [← HRR.out]; exact hF.out⟩
def upL : Nat → List S32 → Nat → List S32
  | 0, xs, _ => xs
  | k + 1, xs, j => if j = 0 then xs else (if lessB (xs.getD j z32) (xs.getD ((j - 1) / 2) z32) = true then upL k (swp xs ((j - 1) / 2) j) ((j - 1) / 2) else xs)
def initL : Nat → List S32 → Nat → List S32
  | 0, xs, _ => xs
  | k + 1, xs, n => initL k (downL (n + 1) xs k n) n
theorem downL_len : ∀ (k : Nat) (xs : List S32) (i n : Nat), (downL k xs i n).length = xs.length
  | 0, _, _, _ => rfl
  | k + 1, xs, i, n => by
    rw [downL]
    split
    · split
      · rw [downL_len k, swp_len]
      · rfl
    · rfl
theorem upL_len : ∀ (k : Nat) (xs : List S32) (j : Nat), (upL k xs j).length = xs.length
  | 0, _, _ => rfl
  | k + 1, xs, j => by
    rw [upL]
    split
    · rfl
    · split
      · rw [upL_len k, swp_len]
      · rfl
theorem initL_len : ∀ (k : Nat) (xs : List S32) (n : Nat), (initL k xs n).length = xs.length
  | 0, _, _ => rfl
  | k + 1, xs, n => by rw [initL, initL_len k, downL_len]
set_option maxHeartbeats 4000000 in
set_option maxRecDepth 100000 in
theorem init26_calls (c : Nat) (xs : List S32) (tl : List Value) (g h : Nat) (w0 W : World) (rs : List Fr.Row) (f : List Value → List Fr.Blk) (hl : Lies f g h xs.length c) (hF : Fr.Frame w0 W (f (flat (xs) ++ tl)) rs) (hx : xs.length ≤ 1000) :
    Calls Try.prog 26 #[.iface 45 (.pointer (some ⟨h, 0, none⟩))] W fun e W' => e = .returned (.tuple #[]) ∧ Fr.Frame w0 W' (f (flat (initL (xs.length / 2) xs xs.length) ++ tl)) rs := by
  obtain ⟨R, hR⟩ : ∃ R, initL (xs.length / 2) xs xs.length = R := ⟨_, rfl⟩
  rw [hR]
  obtain ⟨nx, hnx⟩ : ∃ nx, xs.length = nx := ⟨_, rfl⟩
  rw [hnx] at hl hx hR
  have HL := Aside0.mk hl
  have HR := Aside0.mk hR
  have HX := Aside0.mk hx
  have hxb : nx ≤ 1000 := by omega
  have HNX := Aside0.mk hnx
  have mLen := fun (w : World) (hc : w.cell? ⟨h, 0, none⟩ = some (.slice (some ⟨g, 0, none⟩) nx c)) => met_Len h _ w hc
  have eLen := E46
  have hc := ptr_cell hl hF
  have hF := Aside0.mk hF
  clear hl hR hx hnx
  go_enter Try.func26, Try.ntmps26
  go_wp2_with fail
  (with_reducible refine (len46_calls (some ⟨g, 0, none⟩) nx c _).mono ?_)
  rintro e W1 ⟨rfl, rfl⟩
  have hq : Int.tdiv (nx : Int) 2 = ((nx / 2 : Nat) : Int) := by rw [Int.tdiv_eq_ediv_of_nonneg (by omega)]; omega
  have hq2 : (nx : Int) / 2 = ((nx / 2 : Nat) : Int) := by omega
  obtain ⟨m, hm⟩ : ∃ m, nx / 2 = m := ⟨_, rfl⟩
  rw [hm] at hq hq2 HR
  have hmb : m ≤ 1000 := by omega
  have HM := Aside0.mk hm
  clear hm
  go_wp2_with fail
  go_loopg [3] m (fun kq v3 w' => ∃ (k : Nat) (zs : List S32), v3 = .int .i64 ((k : Int) - 1) ∧ k ≤ kq ∧ k ≤ 1000 ∧ Aside0 (zs.length = nx) ∧ Aside0 (initL k zs nx = R) ∧ Aside0 (Fr.Frame w0 w' (f (flat (zs) ++ tl)) rs))
  case atStart => exact ⟨m, xs, by first | rfl | (congr 1; omega), Nat.le_refl _, hmb, HNX, HR, hF⟩
  case round =>
    clear hF HR HNX hc
    obtain ⟨k, zs, rfl, hg, hkb, HZ, HR, hF⟩ := hrel
    have hc := ptr_cell HL.out hF.out
    cases k with
    | zero =>
      have hr := HR.out
      rw [initL] at hr
      have HRR := Aside0.mk hr
      clear hr HR
      go_wp2_with fail
      go_end0
      exact ⟨rfl, by rw [← HRR.out]; exact hF.out⟩
    | succ k =>
      have hr := HR.out
      rw [initL] at hr
      have HRR := Aside0.mk hr
      clear hr HR
      have hk1 : ((k + 1 : Nat) : Int) - 1 = (k : Int) := by omega
      rw [hk1]
      have hk0 : (0 : Int) ≤ (k : Int) := by omega
      go_wp2_with fail
      (with_reducible refine (down27_calls c zs tl g h k nx w0 _ rs f (by rw [HZ.out]; exact HL.out) hF.out (by rw [HZ.out]; exact Nat.le_refl _) (by omega) (by rw [HZ.out]; exact HX.out)).mono ?_)
      rintro e W3 ⟨⟨v, rfl⟩, hF3⟩
      go_wp2_with fail
      go_roundg k
      case measure => omega
      case rel => exact ⟨k, downL (nx + 1) zs k nx, by first | rfl | (congr 1; omega), Nat.le_refl _, by omega, ⟨by rw [downL_len]; exact HZ.out⟩, HRR, ⟨hF3⟩⟩
set_option maxHeartbeats 4000000 in
set_option maxRecDepth 100000 in
theorem up28_calls (c : Nat) (xs : List S32) (tl : List Value) (g h i : Nat) (w0 W : World) (rs : List Fr.Row) (f : List Value → List Fr.Blk) (hl : Lies f g h xs.length c) (hF : Fr.Frame w0 W (f (flat (xs) ++ tl)) rs) (hi : i < xs.length) (hx : xs.length ≤ 1000) :
    Calls Try.prog 28 #[.iface 45 (.pointer (some ⟨h, 0, none⟩)), .int .i64 i] W fun e W' => e = .returned (.tuple #[]) ∧ Fr.Frame w0 W' (f (flat (upL (i + 1) xs i) ++ tl)) rs := by
  obtain ⟨R, hR⟩ : ∃ R, upL (i + 1) xs i = R := ⟨_, rfl⟩
  rw [hR]
  obtain ⟨nx, hnx⟩ : ∃ nx, xs.length = nx := ⟨_, rfl⟩
  rw [hnx] at hl hx hi
  have HL := Aside0.mk hl
  have HR := Aside0.mk hR
  have HX := Aside0.mk hx
  have hib : i ≤ 1000 := by omega
  have HI := Aside0.mk hi
  have HNX := Aside0.mk hnx
  have mLess := fun (w : World) (hc : w.cell? ⟨h, 0, none⟩ = some (.slice (some ⟨g, 0, none⟩) nx c)) => met_Less h _ w hc
  have mSwap := fun (w : World) (hc : w.cell? ⟨h, 0, none⟩ = some (.slice (some ⟨g, 0, none⟩) nx c)) => met_Swap h _ w hc
  have eLess := E47
  have eSwap := E50
  have hF := Aside0.mk hF
  clear hl hR hx hnx hi
  go_enter Try.func28, Try.ntmps28
  go_wp2_with fail
  go_loopg [1] i (fun kq v1 w' => ∃ (j k : Nat) (zs : List S32), v1 = .int .i64 j ∧ j ≤ kq ∧ Aside0 (j < nx) ∧ j ≤ 1000 ∧ Aside0 (j < k) ∧ Aside0 (zs.length = nx) ∧ Aside0 (upL k zs j = R) ∧ Aside0 (Fr.Frame w0 w' (f (flat (zs) ++ tl)) rs))
  case atStart => exact ⟨i, i + 1, xs, rfl, Nat.le_refl _, HI, hib, ⟨by omega⟩, HNX, HR, hF⟩
  case round =>
    clear hF HR HNX HI
    obtain ⟨j, k, zs, rfl, hg, HJ, hjb, HK, HZ, HR, hF⟩ := hrel
    have hc := ptr_cell HL.out hF.out
    obtain ⟨k, rfl⟩ : ∃ k', k = k' + 1 := ⟨k - 1, by have := HK.out; omega⟩
    have hr := HR.out
    rw [upL] at hr
    clear HR
    by_cases h0 : j = 0
    · rw [if_pos h0] at hr
      have HRR := Aside0.mk hr
      subst h0
      clear hr
      go_wp2_with fail
      go_end0
      exact ⟨rfl, by rw [← HRR.out]; exact hF.out⟩
    · rw [if_neg h0] at hr
      have hd : Int.tdiv ((j : Int) - 1) 2 = (((j - 1) / 2 : Nat) : Int) := by rw [Int.tdiv_eq_ediv_of_nonneg (by omega)]; omega
      have hd2 : ((j : Int) - 1) / 2 = (((j - 1) / 2 : Nat) : Int) := by omega
      have hp : (j - 1) / 2 < j := by omega
      obtain ⟨p, hpe⟩ : ∃ p, (j - 1) / 2 = p := ⟨_, rfl⟩
      rw [hpe] at hr hd hd2 hp
      have HRR := Aside0.mk hr
      have hpj : ¬ (p : Int) = (j : Int) := by omega
      have hpj2 : ¬ p = j := by omega
      have hj1 : (1 : Int) ≤ (j : Int) := by omega
      clear hr hpe
      go_wp2_with fail
      cases hL2 : lessB (zs.getD j z32) (zs.getD p z32) with
      | false =>
        (with_reducible refine (less47_int c zs tl g nx j p _ _ w0 _ _ rs f hF.out (HL.out.spot _) HZ.out HX.out (by omega) (by omega) HJ.out (by have := HJ.out; omega)).mono ?_)
        rintro e W1 ⟨rfl, hF1⟩
        clear hF hc; have hF := Aside0.mk hF1; have hc := ptr_cell HL.out hF.out; clear hF1
        rw [hL2]
        go_wp2_with fail
        go_end0
        have hr9 := HRR.out
        rw [hL2, if_neg (by decide)] at hr9
        exact ⟨rfl, by rw [← hr9]; exact hF.out⟩
      | true =>
        (with_reducible refine (less47_int c zs tl g nx j p _ _ w0 _ _ rs f hF.out (HL.out.spot _) HZ.out HX.out (by omega) (by omega) HJ.out (by have := HJ.out; omega)).mono ?_)
        rintro e W1 ⟨rfl, hF1⟩
        clear hF hc; have hF := Aside0.mk hF1; have hc := ptr_cell HL.out hF.out; clear hF1
        rw [hL2]
        go_wp2_with fail
        (with_reducible refine (swap50_int c zs tl g nx p j _ _ w0 _ _ rs f hF.out (HL.out.spot _) HZ.out (by omega) (by omega) (by have := HJ.out; omega) HJ.out).mono ?_)
        rintro e W3 ⟨rfl, hF3⟩
        have hr9 := HRR.out
        rw [hL2, if_pos rfl] at hr9
        go_wp2_with fail
        go_roundg p
        case measure => omega
        case rel => exact ⟨p, k, swp zs p j, rfl, by omega, ⟨by have := HJ.out; omega⟩, by omega, ⟨by have := HK.out; omega⟩, ⟨by rw [swp_len]; exact HZ.out⟩, ⟨hr9⟩, ⟨hF3⟩⟩
structure Lies2 (F : List Value → List Value → List Fr.Blk) (g h : Nat) : Prop where
  row : ∀ p cs, Fr.Spot g 32 (F p cs) cs (F p)
  ptr : ∀ p cs, Fr.Spot h 48 (F p cs) p (fun p' => F p' cs)
theorem Lies2.lies {F : List Value → List Value → List Fr.Blk} {g h n c : Nat} (H : Lies2 F g h) : Lies (F [.slice (some ⟨g, 0, none⟩) n c]) g h n c := ⟨fun cs => H.row _ cs, fun cs => (H.ptr _ cs).mem⟩
theorem ptr_cell2 {F : List Value → List Value → List Fr.Blk} {g h : Nat} (H : Lies2 F g h) {w0 W : World} {b : Fr.Blk} {v : Value} {cs : List Value} {rs : List Fr.Row} (hF : Fr.Frame w0 W (b :: F [v] cs) rs) : W.cell? ⟨h, 0, none⟩ = some v := (blk_cell (hF.blk _ (List.mem_cons_of_mem _ (H.ptr _ _).mem)).2 0).trans rfl
theorem row_cell2 {F : List Value → List Value → List Fr.Blk} {g h : Nat} (H : Lies2 F g h) {w0 W : World} {b : Fr.Blk} {p : List Value} {zs : List S32} {tl : List Value} {rs : List Fr.Row} (hF : Fr.Frame w0 W (b :: F p (flat zs ++ tl)) rs) (i : Nat) (hi : i < zs.length) : W.cell? ⟨g, i * 2, none⟩ = some (.int .i64 (zs.getD i z32).f0) ∧ W.cell? ⟨g, i * 2 + 1, none⟩ = some (.int .i64 (zs.getD i z32).f1) := flat_cell hF (.there _ (H.row _ _)) i hi
theorem E48 : ∀ args w, (callFunc 48 args).run Try.prog w = .ok (.enter 48 args) w := enters_of Try.func48 (by kernel_rfl) rfl
set_option maxHeartbeats 4000000 in
set_option maxRecDepth 100000 in
theorem pop48_calls (c n : Nat) (zs : List S32) (tl : List Value) (g h : Nat) (w0 W : World) (rs : List Fr.Row) (F : List Value → List Value → List Fr.Blk) (H : Lies2 F g h) (hF : Fr.Frame w0 W (F [.slice (some ⟨g, 0, none⟩) (n + 1) c] (flat zs ++ tl)) rs) (hn : n < zs.length) (hnc : n + 1 ≤ c) (hx : zs.length ≤ 1000) :
    Calls Try.prog 48 #[.pointer (some ⟨h, 0, none⟩)] W fun e W' => e = .returned (.iface 32 (.agg #[.int .i64 (zs.getD n z32).f0, .int .i64 (zs.getD n z32).f1])) ∧ Fr.Frame w0 W' (F [.slice (some ⟨g, 0, none⟩) n c] (flat zs ++ tl)) rs := by
  have HH := Aside0.mk H
  have HNX := Aside0.mk hn
  have hnb : n ≤ 1000 := by omega
  have hc := ptr_cell (c := c) H.lies hF
  obtain ⟨a0, a1⟩ := flat_cell hF (H.row _ _) n hn
  have HC : True := trivial
  have hF := Aside0.mk hF
  have hw : wrap64 (((n + 1 : Nat) : Int) - 1) = (n : Int) := by rw [w64b (by omega) (by omega)]; omega
  have hw2 : wrap64 ((n : Int) + 1 - 1) = (n : Int) := by rw [w64b (by omega) (by omega)]; omega
  have hnci : (n : Int) ≤ (c : Int) := by omega
  generalize hxe : zs.getD n z32 = x at a0 a1 ⊢
  have HXE := Aside0.mk hxe
  clear H hn hx hxe
  go_enter Try.func48, Try.ntmps48
  go_wp2_with (first | ((with_reducible refine gate_dst (N := 4) rfl ?_); apply Fr.fr_box hF.out rfl; (case hrun => first | (go_simp; done) | (go_simp; rfl)); intro g4 W hF1; clear hF hc a0 a1 HC; have hF := Aside0.mk hF1; clear hF1; have hc := ptr_cell2 HH.out hF.out; have a0 := (row_cell2 HH.out hF.out n HNX.out).1; have a1 := (row_cell2 HH.out hF.out n HNX.out).2; rw [HXE.out] at a0 a1; have HC1 := hF.out.cells; simp only [Fr.Cells, List.length_cons, List.length_nil, Nat.reduceAdd] at HC1; have HC := HC1; clear HC1) | ((with_reducible refine gate_store rfl ?_); apply Fr.fr_store hF.out rfl rfl rfl; (case hp => rfl); (case hx => first | (go_simp; rfl) | rfl); (case hu => (simp only [Value.cells]; rfl)); (case hs => first | exact Fr.Spot.here _ _ | exact Fr.Spot.there _ (HH.out.ptr _ _)); (case ht => kernel_rfl); (case h1 => simp [Value.oneCell']); (case hfit => simp); intro W hF1; simp only [Fr.patch, List.take_zero, List.nil_append, List.drop, List.append_nil, List.take, List.cons_append, List.length_cons, List.length_nil, Nat.reduceAdd] at hF1; clear hF hc a0 a1 HC; have hF := Aside0.mk hF1; clear hF1; have hc := ptr_cell2 HH.out hF.out; have a0 := (row_cell2 HH.out hF.out n HNX.out).1; have a1 := (row_cell2 HH.out hF.out n HNX.out).2; rw [HXE.out] at a0 a1; have HC1 := hF.out.cells; simp only [Fr.Cells, List.length_cons, List.length_nil, Nat.reduceAdd] at HC1; have HC := HC1; clear HC1))
  go_ret
  exact ⟨rfl, hF.out.drop⟩
theorem down27_int (c : Nat) (xs : List S32) (tl : List Value) (g h i n : Nat) (a : Int) (w0 W : World) (rs : List Fr.Row) (f : List Value → List Fr.Blk) (hl : Lies f g h xs.length c) (hF : Fr.Frame w0 W (f (flat (xs) ++ tl)) rs) (hn : n ≤ xs.length) (hi : i ≤ 1000) (hx : xs.length ≤ 1000) (ha : a = (i : Int)) :
    Calls Try.prog 27 #[.iface 45 (.pointer (some ⟨h, 0, none⟩)), .int .i64 a, .int .i64 n] W fun e W' => (∃ v, e = .returned v) ∧ Fr.Frame w0 W' (f (flat (downL (n + 1) xs i n) ++ tl)) rs := by
  subst ha
  exact down27_calls c xs tl g h i n w0 W rs f hl hF hn hi hx
def popL (xs : List S32) : List S32 := downL (xs.length - 1 + 1) (swp xs 0 (xs.length - 1)) 0 (xs.length - 1)
theorem popL_len (xs : List S32) : (popL xs).length = xs.length := by unfold popL; rw [downL_len, swp_len]
set_option maxHeartbeats 4000000 in
set_option maxRecDepth 100000 in
theorem pop21_calls (c n : Nat) (xs : List S32) (tl : List Value) (g h : Nat) (w0 W : World) (rs : List Fr.Row) (F : List Value → List Value → List Fr.Blk) (H : Lies2 F g h) (hF : Fr.Frame w0 W (F [.slice (some ⟨g, 0, none⟩) (n + 1) c] (flat (xs) ++ tl)) rs) (hn : xs.length = n + 1) (hnc : n + 1 ≤ c) (hx : xs.length ≤ 1000) :
    Calls Try.prog 21 #[.iface 45 (.pointer (some ⟨h, 0, none⟩))] W fun e W' => e = .returned (.iface 32 (.agg #[.int .i64 ((popL xs).getD n z32).f0, .int .i64 ((popL xs).getD n z32).f1])) ∧ Fr.Frame w0 W' (F [.slice (some ⟨g, 0, none⟩) n c] (flat (popL xs) ++ tl)) rs := by
  have hp : popL xs = downL (n + 1) (swp xs 0 n) 0 n := by unfold popL; rw [hn]; rfl
  have hpl := popL_len xs
  have HH := Aside0.mk H
  have HX := Aside0.mk hx
  have HN := Aside0.mk hn
  have hnb : n ≤ 1000 := by omega
  have mLen := fun (w : World) (v : Value) (hc : w.cell? ⟨h, 0, none⟩ = some v) => met_Len h _ w hc
  have mSwap := fun (w : World) (v : Value) (hc : w.cell? ⟨h, 0, none⟩ = some v) => met_Swap h _ w hc
  have mPop := fun (w : World) => met_Pop h undef w
  have eLen := E46
  have eSwap := E50
  have ePop := E48
  have hc := ptr_cell (c := c) H.lies hF
  have hF := Aside0.mk hF
  have hw : wrap64 (((n + 1 : Nat) : Int) - 1) = (n : Int) := by rw [w64b (by omega) (by omega)]; omega
  have hw2 : wrap64 ((n : Int) + 1 - 1) = (n : Int) := by rw [w64b (by omega) (by omega)]; omega
  have HP := Aside0.mk hp
  have HPL := Aside0.mk hpl
  have HNC := Aside0.mk hnc
  clear H hx hn hp hpl hnc
  go_enter Try.func21, Try.ntmps21
  go_wp2_with fail
  (with_reducible refine (len46_calls (some ⟨g, 0, none⟩) (n + 1) c _).mono ?_)
  rintro e W1 ⟨rfl, rfl⟩
  go_wp2_with fail
  (with_reducible refine (swap50_int c xs tl g (n + 1) 0 n _ _ w0 _ _ rs _ hF.out (HH.out.row _ _) HN.out (by omega) (by omega) (by omega) (by omega)).mono ?_)
  rintro e W2 ⟨rfl, hF2⟩
  clear hF hc
  have hF := Aside0.mk hF2
  have hc := ptr_cell (c := c) HH.out.lies hF2
  clear hF2
  go_wp2_with fail
  (with_reducible refine (down27_int c (swp xs 0 n) tl g h 0 n 0 w0 _ rs _ (by rw [swp_len, HN.out]; exact HH.out.lies) hF.out (by rw [swp_len, HN.out]; omega) (by omega) (by rw [swp_len]; exact HX.out) rfl).mono ?_)
  rintro e W3 ⟨⟨v3, rfl⟩, hF3⟩
  rw [← HP.out] at hF3
  clear hF hc
  have hF := Aside0.mk hF3
  clear hF3
  go_wp2_with fail
  (with_reducible refine (pop48_calls c n (popL xs) tl g h w0 _ rs F HH.out hF.out (by rw [HPL.out, HN.out]; omega) HNC.out (by rw [HPL.out]; exact HX.out)).mono ?_)
  rintro e W4 ⟨rfl, hF4⟩
  go_wp2_with fail
  go_ret
  exact ⟨rfl, hF4⟩
end Go.Proofs.Ytlkaebnigmfphaa.G
