/- A walk's own memory, kept as one fact: which blocks a call has made for itself since it began, and what they hold; and whatever else is known of memory that none of these is. No program in sight. -/
import Derived.Test.YtkphinfijppkeaaWMore
import Derived.WalkKit
import Derived.Deep.Quiet
namespace Go.Proofs.Ytkphinfijppkeaa.Fr
open Go.RowKit Go.Proofs.YtkphinfijppkeaaW.PrintWords
set_option linter.unusedVariables false
/-- A block: its number, its cells, its type. -/
abbrev Blk := Nat × List Value × TypeId
/-- Something known of memory, and on which blocks it hangs. -/
structure Row where
  foot : Nat → Prop
  holds : World → Prop
  dep : ∀ w w' : World, w.heap.size ≤ w'.heap.size → (∀ b, foot b → w'.heap[b]? = w.heap[b]?) → holds w → holds w'
structure Frame (w0 w : World) (bs : List Blk) (rs : List Row) : Prop where
  below : Below w0.heap.size w0 w
  blk : ∀ b ∈ bs, w0.heap.size ≤ b.1 ∧ w.heap[b.1]? = some (.cells b.2.1.toArray b.2.2 (0, 0))
  nodup : (bs.map (·.1)).Nodup
  row : ∀ r ∈ rs, r.holds w ∧ (∀ k, r.foot k → k < w.heap.size) ∧ ∀ b ∈ bs, ¬ r.foot b.1
/-- Where a block stands among some, and what some are when it holds something else. -/
inductive Spot (g : Nat) (t : TypeId) : List Blk → List Value → (List Value → List Blk) → Prop
  | here (cs : List Value) (bs : List Blk) : Spot g t ((g, cs, t) :: bs) cs (fun c => (g, c, t) :: bs)
  | there (b : Blk) {bs : List Blk} {cs : List Value} {f : List Value → List Blk} (h : Spot g t bs cs f) : Spot g t (b :: bs) cs (fun c => b :: f c)
theorem Spot.mem {g : Nat} {t : TypeId} {bs : List Blk} {cs : List Value} {f : List Value → List Blk} (h : Spot g t bs cs f) : (g, cs, t) ∈ bs := by
  induction h with
  | here cs bs => simp
  | there b _ ih => exact List.mem_cons_of_mem _ ih
theorem Spot.map {g : Nat} {t : TypeId} {bs : List Blk} {cs : List Value} {f : List Value → List Blk} (h : Spot g t bs cs f) (c : List Value) : (f c).map (·.1) = bs.map (·.1) := by
  induction h with
  | here cs bs => rfl
  | there b _ ih => simp [ih]
theorem Spot.other {g : Nat} {t : TypeId} {bs : List Blk} {cs : List Value} {f : List Value → List Blk} (h : Spot g t bs cs f) (hn : (bs.map (·.1)).Nodup) (c : List Value) :
    ∀ b ∈ f c, b = (g, c, t) ∨ (b ∈ bs ∧ b.1 ≠ g) := by
  induction h with
  | here cs bs =>
    intro b hb
    rcases List.mem_cons.1 hb with rfl | hb
    · exact .inl rfl
    · refine .inr ⟨List.mem_cons_of_mem _ hb, fun e => ?_⟩
      simp only [List.map_cons, List.nodup_cons] at hn
      exact hn.1 (by rw [← e]; exact List.mem_map_of_mem hb)
  | there b0 h0 ih =>
    intro b hb
    simp only [List.map_cons, List.nodup_cons] at hn
    rcases List.mem_cons.1 hb with rfl | hb
    · refine .inr ⟨List.mem_cons_self, fun e => hn.1 ?_⟩
      rw [e]; exact List.mem_map_of_mem (f := (·.1)) h0.mem
    · rcases ih hn.2 b hb with h | ⟨h1, h2⟩
      · exact .inl h
      · exact .inr ⟨List.mem_cons_of_mem _ h1, h2⟩
/-- Some cells written over others. -/
def patch (cs : List Value) (o : Nat) (vs : List Value) : List Value := cs.take o ++ vs ++ cs.drop (o + vs.length)
section
variable {w0 w w' : World} {bs : List Blk} {rs : List Row}
theorem Frame.start (w : World) : Frame w w [] [] := ⟨Below.refl _ _, by simp, by simp, by simp⟩
theorem Frame.lt (h : Frame w0 w bs rs) {b : Blk} (hb : b ∈ bs) : b.1 < w.heap.size := blk_lt (h.blk b hb).2
/-- All old blocks lie as they lay. -/
theorem Frame.call (h : Frame w0 w bs rs) (hb : Below w.heap.size w w') : Frame w0 w' bs rs :=
  ⟨below_then h.below h.below.size hb, fun b hm => ⟨(h.blk b hm).1, (hb.block _ (h.lt hm)).trans (h.blk b hm).2⟩, h.nodup,
    fun r hr => ⟨r.dep w w' hb.size (fun k hk => hb.block k ((h.row r hr).2.1 k hk)) (h.row r hr).1, fun k hk => Nat.lt_of_lt_of_le ((h.row r hr).2.1 k hk) hb.size, (h.row r hr).2.2⟩⟩
theorem Frame.drewN (h : Frame w0 w bs rs) (n : Nat) : Frame w0 (w.drewN n) bs rs := h.call (pw_below_drewN (Below.refl _ _) n)
theorem Frame.drew (h : Frame w0 w bs rs) : Frame w0 w.drew bs rs := h.call (below_drew (Below.refl _ _))
/-- A new block. -/
theorem Frame.alloc (h : Frame w0 w bs rs) (cs : List Value) (t : TypeId) : Frame w0 (w.alloc (.cells cs.toArray t (0, 0))) ((w.heap.size, cs, t) :: bs) rs := by
  have h1 := h.call (below_alloc (Below.refl w.heap.size w) (.cells cs.toArray t (0, 0)))
  refine ⟨h1.below, fun b hb => ?_, ?_, fun r hr => ⟨(h1.row r hr).1, (h1.row r hr).2.1, fun b hb => ?_⟩⟩
  · rcases List.mem_cons.1 hb with rfl | hb
    · exact ⟨h.below.size, blk_new _ _⟩
    · exact h1.blk b hb
  · simp only [List.map_cons, List.nodup_cons]
    refine ⟨fun hm => ?_, h.nodup⟩
    obtain ⟨b, hb, e⟩ := List.mem_map.1 hm
    have := h.lt hb
    omega
  · rcases List.mem_cons.1 hb with rfl | hb
    · intro hk
      have := (h.row r hr).2.1 _ hk
      simp at this
    · exact (h.row r hr).2.2 b hb
/-- A store into one of one's own. -/
theorem Frame.put (h : Frame w0 w bs rs) {g : Nat} {t : TypeId} {cs : List Value} {f : List Value → List Blk} (hs : Spot g t bs cs f) (o : Nat) (vs : List Value) (ho : o + vs.length ≤ cs.length) :
    Frame w0 (w.setCells g o vs) (f (patch cs o vs)) rs := by
  obtain ⟨s1, s2, s3, s4⟩ := setCells_same g vs o w
  have hg := h.blk _ hs.mem
  obtain ⟨cur', h3, h4, h5⟩ := setCells_row vs o w cs.toArray hg.2 (by simpa using ho)
  have e : cur' = (patch cs o vs).toArray := by
    apply Array.ext'
    rw [h5]; simp [patch]
  have far : ∀ k, k ≠ g → (w.setCells g o vs).heap[k]? = w.heap[k]? := fun k hk => setCells_far vs o k hk
  refine ⟨⟨s1.trans h.below.os, s2.trans h.below.tape, s3.trans h.below.output, by rw [s4]; exact h.below.size, fun k hk => ?_⟩, fun b hb => ?_, by rw [hs.map]; exact h.nodup, fun r hr => ⟨?_, fun k hk => by rw [s4]; exact (h.row r hr).2.1 k hk, fun b hb => ?_⟩⟩
  · rw [far k (by have : w0.heap.size ≤ g := hg.1; omega)]; exact h.below.block k hk
  · rcases hs.other h.nodup _ b hb with rfl | ⟨hb, hne⟩
    · exact ⟨hg.1, by rw [← e]; exact h3⟩
    · exact ⟨(h.blk b hb).1, (far _ hne).trans (h.blk b hb).2⟩
  · refine r.dep w _ (by rw [s4]; exact Nat.le_refl _) (fun k hk => far k (fun ek => ?_)) (h.row r hr).1
    subst ek
    exact (h.row r hr).2.2 _ hs.mem hk
  · rcases hs.other h.nodup _ b hb with rfl | ⟨hb, hne⟩
    · exact fun hk => (h.row r hr).2.2 (g, cs, t) hs.mem hk
    · exact (h.row r hr).2.2 b hb
/-- What is known of one's own cells, as the walk uses it. -/
def Cells (w : World) : List Blk → Prop
  | [] => True
  | b :: bs => ((∀ i, i < b.2.1.length → w.cell? ⟨b.1, i, none⟩ = b.2.1[i]?) ∧ ∀ i, w.frozen? ⟨b.1, i, none⟩ = false) ∧ Cells w bs
theorem cells_of : ∀ (bs : List Blk), (∀ b ∈ bs, w.heap[b.1]? = some (.cells b.2.1.toArray b.2.2 (0, 0))) → Cells w bs
  | [], _ => trivial
  | b :: bs, h => ⟨⟨fun i hi => by rw [blk_cell (h b List.mem_cons_self) i]; simp, fun i => blk_frozen (h b List.mem_cons_self) i⟩, cells_of bs (fun b' hb => h b' (List.mem_cons_of_mem _ hb))⟩
theorem Frame.cells (h : Frame w0 w bs rs) : Cells w bs := cells_of bs (fun b hb => (h.blk b hb).2)
theorem Frame.rowAt (h : Frame w0 w bs rs) {r : Row} (hr : r ∈ rs) : r.holds w := (h.row r hr).1
/-- Something new is known. -/
theorem Frame.add (h : Frame w0 w bs rs) (r : Row) (hr : r.holds w) (hl : ∀ k, r.foot k → k < w.heap.size) (hd : ∀ b ∈ bs, ¬ r.foot b.1) : Frame w0 w bs (r :: rs) :=
  ⟨h.below, h.blk, h.nodup, fun r' hm => (List.mem_cons.1 hm).elim (fun e => by subst e; exact ⟨hr, hl, hd⟩) (fun hm => h.row r' hm)⟩
end
section
variable {P : Program} {ops : Array Oper} {rest : List Oper} {o : Oper} {a : Act} {Q : Exit → Act → World → Prop} {w0 W : World} {bs : List Blk} {rs : List Row}
/-- A box, or a variable: a new block. -/
theorem fr_box (hF : Frame w0 W bs rs) (hgd : o.guard = none) {cs : List Value} {t : TypeId}
    (hrun : (execOp a.eval o).run P W = .ok (.value (.pointer (some ⟨W.heap.size, 0, none⟩))) (W.alloc (.cells cs.toArray t (0, 0))))
    (h : ∀ g w1, Frame w0 w1 ((g, cs, t) :: bs) rs → wpList P ops Q rest (a.put o.dst (.pointer (some ⟨g, 0, none⟩))) w1) : wpList P ops Q (o :: rest) a W :=
  Kd.event_run hgd hrun (h _ _ (hF.alloc cs t))
theorem gate_alloc {t : TypeId} (_ho : o.op = .alloc t) (h : wpList P ops Q (o :: rest) a W) : wpList P ops Q (o :: rest) a W := h
theorem gate_box {t : TypeId} {x : Operand} (_ho : o.op = .box t x) (h : wpList P ops Q (o :: rest) a W) : wpList P ops Q (o :: rest) a W := h
/-- A store. -/
theorem fr_store (hF : Frame w0 W bs rs) {t : TypeId} {p : Tmp} {x : Operand} (ho : o.op = .store t (.tmp p) x) (hN : o.dst = none) (hgd : o.guard = none) {g off : Nat} {tg : TypeId} {u : Value} {seg cs : List Value} {f : List Value → List Blk}
    (hp : a.eval (.tmp p) = .pointer (some ⟨g, off, none⟩)) (hx : a.eval x = u) (hu : u.cells.toList = seg) (ht : (P.info? t).map (·.size) = some seg.length) (h1 : ∀ q ∈ seg, q.oneCell' = true)
    (hs : Spot g tg bs cs f) (hfit : off + seg.length ≤ cs.length)
    (h : ∀ w1, Frame w0 w1 (f (patch cs off seg)) rs → wpList P ops Q rest a w1) : wpList P ops Q (o :: rest) a W := by
  have hg := hF.blk _ hs.mem
  have hrun : (execOp a.eval o).run P W = .ok .skip (W.setCells g off seg) := by
    have := run_store_run (P := P) t u seg hg.2 hu ht (by simpa using hfit) h1
    simp only [execOp, ho, hp, hx]
    simp [this]
  exact store_event hgd ho hN hrun (fun w' e => by subst e; exact h _ (hF.put hs off seg hfit))
end
/-- Some of one's own forgotten. -/
theorem Frame.forget {w0 w : World} {bs : List Blk} {rs : List Row} (h : Frame w0 w bs rs) : Frame w0 w [] rs := ⟨h.below, by simp, by simp, fun r hr => ⟨(h.row r hr).1, (h.row r hr).2.1, by simp⟩⟩
theorem Frame.noRows {w0 w : World} {bs : List Blk} {rs : List Row} (h : Frame w0 w bs rs) : Frame w0 w bs [] := ⟨h.below, h.blk, h.nodup, by simp⟩
/-- A slice of one's own, as something known. -/
def rowR {α : Type} (d : Kd α) (e base : Nat) (v : Value) (xs : List α) (S : Nat → Prop) : Row := ⟨S, fun w => d.R e w base S v xs, fun _ _ _ hb h => Kd.R_move h hb⟩
theorem Frame.rowIn {α : Type} {d : Kd α} {e base : Nat} {v : Value} {xs : List α} {ok : Nat → Prop} {w0 w : World} {bs : List Blk} {rs : List Row} (h : Frame w0 w bs rs) (hR : d.R e w base ok v xs) (hok : ∀ k, ok k → ∀ b ∈ bs, k ≠ b.1) :
    ∃ S, Frame w0 w bs (rowR d e base v xs S :: rs) :=
  ⟨_, h.add (rowR d e base v xs _) (Kd.R_bound hR) (fun k hk => hk.2.2.1) (fun b hb hk => hok b.1 hk.1 b hb rfl)⟩
/-- The last one forgotten. -/
theorem Frame.drop {w0 w : World} {b : Blk} {bs : List Blk} {rs : List Row} (h : Frame w0 w (b :: bs) rs) : Frame w0 w bs rs :=
  ⟨h.below, fun b' hb => h.blk b' (List.mem_cons_of_mem _ hb), (List.nodup_cons.1 h.nodup).2, fun r hr => ⟨(h.row r hr).1, (h.row r hr).2.1, fun b' hb => (h.row r hr).2.2 b' (List.mem_cons_of_mem _ hb)⟩⟩
/-- A call that hands back a slice of its own. -/
theorem Frame.callR {α : Type} {d : Kd α} {e : Nat} {v : Value} {xs : List α} {ok : Nat → Prop} {w0 w w' : World} {bs : List Blk} {rs : List Row} (h : Frame w0 w bs rs) (hb : Below w.heap.size w w') (hR : d.R e w' w.heap.size ok v xs) :
    ∃ S, Frame w0 w' bs (rowR d e w.heap.size v xs S :: rs) :=
  (h.call hb).rowIn (Kd.R_bound hR) (fun k hk b hm he => by have := h.lt hm; have := hk.2.1; omega)
section
variable {P : Program} {ops : Array Oper} {rest : List Oper} {o : Oper} {a : Act} {Q : Exit → Act → World → Prop} {w0 W : World} {bs : List Blk}
/-- 'out = append(out, x)' on a slice of one's own, of elements that lead to no memory. -/
theorem fr_append {α : Type} (d : Kd α) {S : Nat → Prop} {v : Value} {xs : List α} (s x : Operand) (t e : TypeId) (z : Value) (bytes : Nat) (p : α) (cs : List Value)
    (hF : Frame w0 W bs [rowR d e w0.heap.size v xs S]) (hgd : o.guard = none) (ho : o.op = .call { callee := .builtin .append, args := #[s, x], argTypes := #[t, t] })
    (ht : P.underlying t = some (.slice e)) (hinfo : (P.info? e).map (fun i => (i.zero, i.size, i.bytes)) = some (some z, d.sz, bytes)) (hz : z.cells.size = d.sz) (hs0 : 0 < d.sz) (hb0 : 0 < bytes)
    (hs : a.eval s = v) (hx : a.eval x = .slice (some ⟨W.heap.size, 0, none⟩) 1 1) (hp : d.M W w0.heap.size (fun _ => False) p cs) (hl : (xs.length + 1) * bytes ≤ 140737488355328)
    (h : ∀ v1 w1 S1, Frame w0 w1 bs [rowR d e w0.heap.size v1 (xs ++ [p]) S1] → wpList P ops Q rest (a.put o.dst v1) w1) : wpList P ops Q (o :: rest) a (W.alloc (.cells cs.toArray e)) := by
  have hr := hF.row (rowR d e w0.heap.size v xs S) List.mem_cons_self
  have hRS : d.R e W w0.heap.size S v xs := hr.1
  have hdis : ∀ k, S k → ∀ b ∈ bs, k ≠ b.1 := fun k hk b hb he => hr.2.2 b hb (by subst he; exact hk)
  refine Kd.R_append d (w0 := w0) w0.heap.size hgd s x t e z bytes ho ht hinfo hz hs0 hb0 v xs p cs (fun k => ∀ b ∈ bs, k ≠ b.1) (fun _ => False) hs hx hp (fun _ hk => hk.elim) (fun k hk b hb he => ?_) (Kd.R_mono hRS hdis) hF.below hF.below.size hl ?_
  · have := hF.lt hb; omega
  intro v1 w1 ho1 hb1 hg1 hat
  have hF1 : Frame w0 w1 bs [] := ⟨hb1, fun b hb => ⟨(hF.blk b hb).1, blk_grown (hF.blk b hb).2 hg1 (fun e1 => hdis b.1 (hRS.1 b.1 e1.symm) b hb rfl)⟩, hF.nodup, by simp⟩
  obtain ⟨S1, hS1⟩ := hF1.rowIn ho1 (fun k hk => hk)
  exact h v1 w1 S1 hS1
end
/-! A region that draws its order, whose operations read, and call what makes memory of its own at most. -/
section
variable {P : Program} {ops : Array Oper} {rest : List Oper} {o : Oper} {a : Act} {w0 W : World} {bs : List Blk} {rs : List Row} {Qn : Act → Prop}
theorem fr_region {id : Nat} {Q : Exit → Act → World → Prop} {l : List Oper} (hm : P.follows .mixedOrders = true) (hB : Region.lexB .any l.toArray = true) (hF : Frame w0 W bs rs)
    (h : wpQuiet P l.toArray (fun w' => Frame w0 w' bs rs) (fun a' => ∀ w', Frame w0 w' bs rs → Q .normal a' w') l a) : (Code.region id l.toArray true).wp P Q a W :=
  wp_region_quiet (C := fun w' => Frame w0 w' bs rs) hm hB (hF.drewN 1) (by simpa using h)
theorem fr_q_skip (hw : Region.wanted o (yielded ops a.tmps) = false) (h : wpQuiet P ops (fun w' => Frame w0 w' bs rs) Qn rest (a.put o.dst undef)) : wpQuiet P ops (fun w' => Frame w0 w' bs rs) Qn (o :: rest) a := by
  unfold wpQuiet
  rw [hw]
  exact h
theorem fr_q_val {v : Value} (hw : Region.wanted o (yielded ops a.tmps) = true) (hv : ∀ W, Frame w0 W bs rs → (execOp a.eval o).run P W = .ok (.value v) W) (h : wpQuiet P ops (fun w' => Frame w0 w' bs rs) Qn rest (a.put o.dst v)) : wpQuiet P ops (fun w' => Frame w0 w' bs rs) Qn (o :: rest) a := by
  unfold wpQuiet
  rw [hw, if_pos rfl]
  refine ⟨v, fun W hW => ?_, h⟩
  unfold Oper.quietAt
  rw [hv W hW]
  exact ⟨rfl, rfl⟩
theorem fr_q_call {f : FuncId} {args : Array Value} {v : Value} (hw : Region.wanted o (yielded ops a.tmps) = true) (hv : ∀ W, Frame w0 W bs rs → (execOp a.eval o).run P W = .ok (.enter f args) W)
    (hc : ∀ W, Frame w0 W bs rs → Calls P f args W fun e W' => e = .returned v ∧ Below W.heap.size W W') (h : wpQuiet P ops (fun w' => Frame w0 w' bs rs) Qn rest (a.put o.dst v)) : wpQuiet P ops (fun w' => Frame w0 w' bs rs) Qn (o :: rest) a := by
  unfold wpQuiet
  rw [hw, if_pos rfl]
  refine ⟨v, fun W hW => ?_, h⟩
  unfold Oper.quietAt
  rw [hv W hW]
  exact ⟨rfl, (hc W hW).mono fun e W' ⟨he, hb⟩ => ⟨he, hW.call hb⟩⟩
theorem fr_q_split (h1 : Region.wanted o (yielded ops a.tmps) = true → wpQuiet P ops (fun w' => Frame w0 w' bs rs) Qn (o :: rest) a) (h2 : Region.wanted o (yielded ops a.tmps) = false → wpQuiet P ops (fun w' => Frame w0 w' bs rs) Qn (o :: rest) a) : wpQuiet P ops (fun w' => Frame w0 w' bs rs) Qn (o :: rest) a := by
  cases hb : Region.wanted o (yielded ops a.tmps)
  · exact h2 hb
  · exact h1 hb
theorem gate_qcallee {f : FuncId} {as : Array Operand} {ts : Array TypeId} (_ho : o.op = .call { callee := .value (.func f), args := as, argTypes := ts }) (h : wpQuiet P ops (fun w' => Frame w0 w' bs rs) Qn (o :: rest) a) : wpQuiet P ops (fun w' => Frame w0 w' bs rs) Qn (o :: rest) a := h
end
/-! What a test that the walk has answered says. -/
theorem nf {t : Bool} (h : (!t) = false) : t = true := by simpa using h
theorem nt {t : Bool} (h : (!t) = true) : ¬ t = true := by simpa using h
theorem ff {t : Bool} (h : t = false) : ¬ t = true := by simp [h]
theorem nef {α : Type} [BEq α] [LawfulBEq α] {a b : α} (h : (a != b) = false) : a = b := by simpa using h
theorem net {α : Type} [BEq α] [LawfulBEq α] {a b : α} (h : (a != b) = true) : ¬ a = b := by simpa using h
theorem eqt {α : Type} [BEq α] [LawfulBEq α] {a b : α} (h : (a == b) = true) : a = b := by simpa using h
theorem eqf {α : Type} [BEq α] [LawfulBEq α] {a b : α} (h : (a == b) = false) : ¬ a = b := by simpa using h
theorem pos2 {p : Prop} [Decidable p] (h : (!decide p) = false) : p := by simpa using h
theorem neg2 {p : Prop} [Decidable p] (h : (!decide p) = true) : ¬ p := by simpa using h
theorem dneg {p : Prop} [Decidable p] (h : ¬ p) : ¬ decide p = true := by simpa using h
end Go.Proofs.Ytkphinfijppkeaa.Fr
