/- Contracts of functions of the given program, and what they come to, for any arguments. No condition beyond each theorem's own premises. -/
import Derived.Test.YtlkaebnigmfphaaWMore
import Derived.WalkKit
import Derived.Deep.Quiet
import Derived.Test.YtlkaebnigmfphaaProg
import Derived.Below
import Derived.Deep.Draws
import Derived.Deep.AppendLies
import Derived.Maps.AppendAt
import Derived.OwnWalk
import Derived.Laws.BytesArg
import Derived.Laws.MakeOwn
import Derived.Laws.OwnMore
import Derived.Deep.OwnRows
import Derived.Tactics
import Derived.Lib.ConvBytes
import Derived.Laws.Slices
import Derived.KernelRfl
import Derived.RowKit3
import Derived.Deep.LoopGhost
import Derived.Deep.QuietTactic
import Derived.BigQuiet
import Derived.WideLaws
import Derived.Deep.DeepCutAuto
import Derived.Deep.CutBlock
import Derived.Deep.RegionHeld3
import Derived.Laws.Rows
import Derived.Lib.AppendStr
import Derived.ArgAppend
import Derived.Laws.IdiomCopy
import Derived.OrdersHeld
import Derived.Laws.BitsLemmas
import Derived.RowKit
import Derived.Shelf.Abstract
import Derived.Test.YtlkaebnigmfphaaWWords
import Derived.Test.YtlkaebnigmfphaaWLast
import Derived.Test.YtlkaebnigmfphaaWTab
import Derived.Test.YtlkaebnigmfphaaWQPut
import Derived.Test.YtlkaebnigmfphaaWApart
import Derived.Test.YtlkaebnigmfphaaWArr
import Derived.Test.YtlkaebnigmfphaaWZeros
import Derived.Test.YtlkaebnigmfphaaWFoot
import Derived.Test.YtlkaebnigmfphaaWKept
import Derived.Test.YtlkaebnigmfphaaWShare
import Derived.Test.YtlkaebnigmfphaaWN
import Derived.Test.YtlkaebnigmfphaaWEqStruct
import Derived.Test.YtlkaebnigmfphaaWRepsOne
import Derived.Test.YtlkaebnigmfphaaWNEv
import Derived.ProofKit
import Derived.OpenShut
import Derived.ShutString
import Derived.ChangeOld
import Derived.SizedLaws
import Derived.Deep.Slices
namespace Go.Proofs.Ytlkaebnigmfphaa.Fr
open Go.RowKit Go.Proofs.YtlkaebnigmfphaaW.PrintWords
set_option linter.unusedVariables false
abbrev Blk := Nat × List Value × TypeId
structure Row where
  foot : Nat → Prop
  holds : World → Prop
  dep : ∀ w w' : World, w.heap.size ≤ w'.heap.size → (∀ b, foot b → w'.heap[b]? = w.heap[b]?) → holds w → holds w'
structure Frame (w0 w : World) (bs : List Blk) (rs : List Row) : Prop where
  below : Below w0.heap.size w0 w
  blk : ∀ b ∈ bs, w0.heap.size ≤ b.1 ∧ w.heap[b.1]? = some (.cells b.2.1.toArray b.2.2 (0, 0))
  nodup : (bs.map (·.1)).Nodup
  row : ∀ r ∈ rs, r.holds w ∧ (∀ k, r.foot k → k < w.heap.size) ∧ ∀ b ∈ bs, ¬ r.foot b.1
inductive Spot (g : Nat) (t : TypeId) : List Blk → List Value → (List Value → List Blk) → Prop
  | here (cs : List Value) (bs : List Blk) : Spot g t ((g, cs, t) :: bs) cs (fun c => (g, c, t) :: bs)
  | there (b : Blk) {bs : List Blk} {cs : List Value} {f : List Value → List Blk} (h : Spot g t bs cs f) : Spot g t (b :: bs) cs (fun c => b :: f c)
theorem Spot.mem {g : Nat} {t : TypeId} {bs : List Blk} {cs : List Value} {f : List Value → List Blk} (h : Spot g t bs cs f) : (g, cs, t) ∈ bs := by
  induction h with
  | here cs bs => simp
  | there b _ ih => exact List.mem_cons_of_mem _ ih
theorem Spot.map {g : Nat} {t : TypeId} {bs : List Blk} {cs : List Value} {f : List Value → List Blk} (h : Spot g t bs cs f) (c : List Value) : (f c).map (·.1) = bs.map (·.1) := by
  induction h with
  | here cs bs => rfl
  | there b _ ih => simp [ih]
theorem Spot.other {g : Nat} {t : TypeId} {bs : List Blk} {cs : List Value} {f : List Value → List Blk} (h : Spot g t bs cs f) (hn : (bs.map (·.1)).Nodup) (c : List Value) :
    ∀ b ∈ f c, b = (g, c, t) ∨ (b ∈ bs ∧ b.1 ≠ g) := by
  induction h with
  | here cs bs =>
    intro b hb
    rcases List.mem_cons.1 hb with rfl | hb
    · exact .inl rfl
    · refine .inr ⟨List.mem_cons_of_mem _ hb, fun e => ?_⟩
      simp only [List.map_cons, List.nodup_cons] at hn
      exact hn.1 (by rw [← e]; exact List.mem_map_of_mem hb)
  | there b0 h0 ih =>
    intro b hb
    simp only [List.map_cons, List.nodup_cons] at hn
    rcases List.mem_cons.1 hb with rfl | hb
    · refine .inr ⟨List.mem_cons_self, fun e => hn.1 ?_⟩
      rw [e]; exact List.mem_map_of_mem (f := (·.1)) h0.mem
    · rcases ih hn.2 b hb with h | ⟨h1, h2⟩
      · exact .inl h
      · exact .inr ⟨List.mem_cons_of_mem _ h1, h2⟩
def patch (cs : List Value) (o : Nat) (vs : List Value) : List Value := cs.take o ++ vs ++ cs.drop (o + vs.length)
section
variable {w0 w w' : World} {bs : List Blk} {rs : List Row}
theorem Frame.start (w : World) : Frame w w [] [] := ⟨Below.refl _ _, by simp, by simp, by simp⟩
theorem Frame.lt (h : Frame w0 w bs rs) {b : Blk} (hb : b ∈ bs) : b.1 < w.heap.size := blk_lt (h.blk b hb).2
theorem Frame.call (h : Frame w0 w bs rs) (hb : Below w.heap.size w w') : Frame w0 w' bs rs :=
  ⟨below_then h.below h.below.size hb, fun b hm => ⟨(h.blk b hm).1, (hb.block _ (h.lt hm)).trans (h.blk b hm).2⟩, h.nodup,
    fun r hr => ⟨r.dep w w' hb.size (fun k hk => hb.block k ((h.row r hr).2.1 k hk)) (h.row r hr).1, fun k hk => Nat.lt_of_lt_of_le ((h.row r hr).2.1 k hk) hb.size, (h.row r hr).2.2⟩⟩
theorem Frame.drewN (h : Frame w0 w bs rs) (n : Nat) : Frame w0 (w.drewN n) bs rs := h.call (pw_below_drewN (Below.refl _ _) n)
theorem Frame.drew (h : Frame w0 w bs rs) : Frame w0 w.drew bs rs := h.call (below_drew (Below.refl _ _))
theorem Frame.alloc (h : Frame w0 w bs rs) (cs : List Value) (t : TypeId) : Frame w0 (w.alloc (.cells cs.toArray t (0, 0))) ((w.heap.size, cs, t) :: bs) rs := by
  have h1 := h.call (below_alloc (Below.refl w.heap.size w) (.cells cs.toArray t (0, 0)))
  refine ⟨h1.below, fun b hb => ?_, ?_, fun r hr => ⟨(h1.row r hr).1, (h1.row r hr).2.1, fun b hb => ?_⟩⟩
  · rcases List.mem_cons.1 hb with rfl | hb
    · exact ⟨h.below.size, blk_new _ _⟩
    · exact h1.blk b hb
  · simp only [List.map_cons, List.nodup_cons]
    refine ⟨fun hm => ?_, h.nodup⟩
    obtain ⟨b, hb, e⟩ := List.mem_map.1 hm
    have := h.lt hb
    omega
  · rcases List.mem_cons.1 hb with rfl | hb
    · intro hk
      have := (h.row r hr).2.1 _ hk
      simp at this
    · exact (h.row r hr).2.2 b hb
theorem Frame.put (h : Frame w0 w bs rs) {g : Nat} {t : TypeId} {cs : List Value} {f : List Value → List Blk} (hs : Spot g t bs cs f) (o : Nat) (vs : List Value) (ho : o + vs.length ≤ cs.length) :
    Frame w0 (w.setCells g o vs) (f (patch cs o vs)) rs := by
  obtain ⟨s1, s2, s3, s4⟩ := setCells_same g vs o w
  have hg := h.blk _ hs.mem
  obtain ⟨cur', h3, h4, h5⟩ := setCells_row vs o w cs.toArray hg.2 (by simpa using ho)
  have e : cur' = (patch cs o vs).toArray := by
    apply Array.ext'
    rw [h5]; simp [patch]
  have far : ∀ k, k ≠ g → (w.setCells g o vs).heap[k]? = w.heap[k]? := fun k hk => setCells_far vs o k hk
  refine ⟨⟨s1.trans h.below.os, s2.trans h.below.tape, s3.trans h.below.output, by rw [s4]; exact h.below.size, fun k hk => ?_⟩, fun b hb => ?_, by rw [hs.map]; exact h.nodup, fun r hr => ⟨?_, fun k hk => by rw [s4]; exact (h.row r hr).2.1 k hk, fun b hb => ?_⟩⟩
  · rw [far k (by have : w0.heap.size ≤ g := hg.1; omega)]; exact h.below.block k hk
  · rcases hs.other h.nodup _ b hb with rfl | ⟨hb, hne⟩
    · exact ⟨hg.1, by rw [← e]; exact h3⟩
    · exact ⟨(h.blk b hb).1, (far _ hne).trans (h.blk b hb).2⟩
  · refine r.dep w _ (by rw [s4]; exact Nat.le_refl _) (fun k hk => far k (fun ek => ?_)) (h.row r hr).1
    subst ek
    exact (h.row r hr).2.2 _ hs.mem hk
  · rcases hs.other h.nodup _ b hb with rfl | ⟨hb, hne⟩
    · exact fun hk => (h.row r hr).2.2 (g, cs, t) hs.mem hk
    · exact (h.row r hr).2.2 b hb
def Cells (w : World) : List Blk → Prop
  | [] => True
  | b :: bs => ((∀ i, i < b.2.1.length → w.cell? ⟨b.1, i, none⟩ = b.2.1[i]?) ∧ ∀ i, w.frozen? ⟨b.1, i, none⟩ = false) ∧ Cells w bs
theorem cells_of : ∀ (bs : List Blk), (∀ b ∈ bs, w.heap[b.1]? = some (.cells b.2.1.toArray b.2.2 (0, 0))) → Cells w bs
  | [], _ => trivial
  | b :: bs, h => ⟨⟨fun i hi => by rw [blk_cell (h b List.mem_cons_self) i]; simp, fun i => blk_frozen (h b List.mem_cons_self) i⟩, cells_of bs (fun b' hb => h b' (List.mem_cons_of_mem _ hb))⟩
theorem Frame.cells (h : Frame w0 w bs rs) : Cells w bs := cells_of bs (fun b hb => (h.blk b hb).2)
theorem Frame.rowAt (h : Frame w0 w bs rs) {r : Row} (hr : r ∈ rs) : r.holds w := (h.row r hr).1
theorem Frame.add (h : Frame w0 w bs rs) (r : Row) (hr : r.holds w) (hl : ∀ k, r.foot k → k < w.heap.size) (hd : ∀ b ∈ bs, ¬ r.foot b.1) : Frame w0 w bs (r :: rs) :=
  ⟨h.below, h.blk, h.nodup, fun r' hm => (List.mem_cons.1 hm).elim (fun e => by subst e; exact ⟨hr, hl, hd⟩) (fun hm => h.row r' hm)⟩
end
section
variable {P : Program} {ops : Array Oper} {rest : List Oper} {o : Oper} {a : Act} {Q : Exit → Act → World → Prop} {w0 W : World} {bs : List Blk} {rs : List Row}
theorem fr_box (hF : Frame w0 W bs rs) (hgd : o.guard = none) {cs : List Value} {t : TypeId}
    (hrun : (execOp a.eval o).run P W = .ok (.value (.pointer (some ⟨W.heap.size, 0, none⟩))) (W.alloc (.cells cs.toArray t (0, 0))))
    (h : ∀ g w1, Frame w0 w1 ((g, cs, t) :: bs) rs → wpList P ops Q rest (a.put o.dst (.pointer (some ⟨g, 0, none⟩))) w1) : wpList P ops Q (o :: rest) a W :=
  Kd.event_run hgd hrun (h _ _ (hF.alloc cs t))
theorem gate_alloc {t : TypeId} (_ho : o.op = .alloc t) (h : wpList P ops Q (o :: rest) a W) : wpList P ops Q (o :: rest) a W := h
theorem gate_box {t : TypeId} {x : Operand} (_ho : o.op = .box t x) (h : wpList P ops Q (o :: rest) a W) : wpList P ops Q (o :: rest) a W := h
theorem fr_store (hF : Frame w0 W bs rs) {t : TypeId} {p : Tmp} {x : Operand} (ho : o.op = .store t (.tmp p) x) (hN : o.dst = none) (hgd : o.guard = none) {g off : Nat} {tg : TypeId} {u : Value} {seg cs : List Value} {f : List Value → List Blk}
    (hp : a.eval (.tmp p) = .pointer (some ⟨g, off, none⟩)) (hx : a.eval x = u) (hu : u.cells.toList = seg) (ht : (P.info? t).map (·.size) = some seg.length) (h1 : ∀ q ∈ seg, q.oneCell' = true)
    (hs : Spot g tg bs cs f) (hfit : off + seg.length ≤ cs.length)
    (h : ∀ w1, Frame w0 w1 (f (patch cs off seg)) rs → wpList P ops Q rest a w1) : wpList P ops Q (o :: rest) a W := by
  have hg := hF.blk _ hs.mem
  have hrun : (execOp a.eval o).run P W = .ok .skip (W.setCells g off seg) := by
    have := run_store_run (P := P) t u seg hg.2 hu ht (by simpa using hfit) h1
    simp only [execOp, ho, hp, hx]
    simp [this]
  exact store_event hgd ho hN hrun (fun w' e => by subst e; exact h _ (hF.put hs off seg hfit))
end
theorem Frame.noRows {w0 w : World} {bs : List Blk} {rs : List Row} (h : Frame w0 w bs rs) : Frame w0 w bs [] := ⟨h.below, h.blk, h.nodup, by simp⟩
def rowR {α : Type} (d : Kd α) (e base : Nat) (v : Value) (xs : List α) (S : Nat → Prop) : Row := ⟨S, fun w => d.R e w base S v xs, fun _ _ _ hb h => Kd.R_move h hb⟩
theorem Frame.rowIn {α : Type} {d : Kd α} {e base : Nat} {v : Value} {xs : List α} {ok : Nat → Prop} {w0 w : World} {bs : List Blk} {rs : List Row} (h : Frame w0 w bs rs) (hR : d.R e w base ok v xs) (hok : ∀ k, ok k → ∀ b ∈ bs, k ≠ b.1) :
    ∃ S, Frame w0 w bs (rowR d e base v xs S :: rs) :=
  ⟨_, h.add (rowR d e base v xs _) (Kd.R_bound hR) (fun k hk => hk.2.2.1) (fun b hb hk => hok b.1 hk.1 b hb rfl)⟩
theorem Frame.drop {w0 w : World} {b : Blk} {bs : List Blk} {rs : List Row} (h : Frame w0 w (b :: bs) rs) : Frame w0 w bs rs :=
  ⟨h.below, fun b' hb => h.blk b' (List.mem_cons_of_mem _ hb), (List.nodup_cons.1 h.nodup).2, fun r hr => ⟨(h.row r hr).1, (h.row r hr).2.1, fun b' hb => (h.row r hr).2.2 b' (List.mem_cons_of_mem _ hb)⟩⟩
section
variable {P : Program} {ops : Array Oper} {rest : List Oper} {o : Oper} {a : Act} {Q : Exit → Act → World → Prop} {w0 W : World} {bs : List Blk}
end
section
variable {P : Program} {ops : Array Oper} {rest : List Oper} {o : Oper} {a : Act} {w0 W : World} {bs : List Blk} {rs : List Row} {Qn : Act → Prop}
theorem fr_region {id : Nat} {Q : Exit → Act → World → Prop} {l : List Oper} (hm : P.follows .mixedOrders = true) (hB : Region.lexB .any l.toArray = true) (hF : Frame w0 W bs rs)
    (h : wpQuiet P l.toArray (fun w' => Frame w0 w' bs rs) (fun a' => ∀ w', Frame w0 w' bs rs → Q .normal a' w') l a) : (Code.region id l.toArray true).wp P Q a W :=
  wp_region_quiet (C := fun w' => Frame w0 w' bs rs) hm hB (hF.drewN 1) (by simpa using h)
theorem fr_q_skip (hw : Region.wanted o (yielded ops a.tmps) = false) (h : wpQuiet P ops (fun w' => Frame w0 w' bs rs) Qn rest (a.put o.dst undef)) : wpQuiet P ops (fun w' => Frame w0 w' bs rs) Qn (o :: rest) a := by
  unfold wpQuiet
  rw [hw]
  exact h
theorem fr_q_val {v : Value} (hw : Region.wanted o (yielded ops a.tmps) = true) (hv : ∀ W, Frame w0 W bs rs → (execOp a.eval o).run P W = .ok (.value v) W) (h : wpQuiet P ops (fun w' => Frame w0 w' bs rs) Qn rest (a.put o.dst v)) : wpQuiet P ops (fun w' => Frame w0 w' bs rs) Qn (o :: rest) a := by
  unfold wpQuiet
  rw [hw, if_pos rfl]
  refine ⟨v, fun W hW => ?_, h⟩
  unfold Oper.quietAt
  rw [hv W hW]
  exact ⟨rfl, rfl⟩
theorem fr_q_call {f : FuncId} {args : Array Value} {v : Value} (hw : Region.wanted o (yielded ops a.tmps) = true) (hv : ∀ W, Frame w0 W bs rs → (execOp a.eval o).run P W = .ok (.enter f args) W)
    (hc : ∀ W, Frame w0 W bs rs → Calls P f args W fun e W' => e = .returned v ∧ Below W.heap.size W W') (h : wpQuiet P ops (fun w' => Frame w0 w' bs rs) Qn rest (a.put o.dst v)) : wpQuiet P ops (fun w' => Frame w0 w' bs rs) Qn (o :: rest) a := by
  unfold wpQuiet
  rw [hw, if_pos rfl]
  refine ⟨v, fun W hW => ?_, h⟩
  unfold Oper.quietAt
  rw [hv W hW]
  exact ⟨rfl, (hc W hW).mono fun e W' ⟨he, hb⟩ => ⟨he, hW.call hb⟩⟩
theorem gate_qcallee {f : FuncId} {aops : Array Operand} {ts : Array TypeId} (_ho : o.op = .call { callee := .value (.func f), args := aops, argTypes := ts }) (h : wpQuiet P ops (fun w' => Frame w0 w' bs rs) Qn (o :: rest) a) : wpQuiet P ops (fun w' => Frame w0 w' bs rs) Qn (o :: rest) a := h
end
theorem nf {t : Bool} (h : (!t) = false) : t = true := by simpa using h
theorem nt {t : Bool} (h : (!t) = true) : ¬ t = true := by simpa using h
theorem ff {t : Bool} (h : t = false) : ¬ t = true := by simp [h]
theorem nef {α : Type} [BEq α] [LawfulBEq α] {a b : α} (h : (a != b) = false) : a = b := by simpa using h
theorem net {α : Type} [BEq α] [LawfulBEq α] {a b : α} (h : (a != b) = true) : ¬ a = b := by simpa using h
theorem eqt {α : Type} [BEq α] [LawfulBEq α] {a b : α} (h : (a == b) = true) : a = b := by simpa using h
theorem eqf {α : Type} [BEq α] [LawfulBEq α] {a b : α} (h : (a == b) = false) : ¬ a = b := by simpa using h
theorem pos2 {p : Prop} [Decidable p] (h : (!decide p) = false) : p := by simpa using h
theorem neg2 {p : Prop} [Decidable p] (h : (!decide p) = true) : ¬ p := by simpa using h
theorem dneg {p : Prop} [Decidable p] (h : ¬ p) : ¬ decide p = true := by simpa using h
end Go.Proofs.Ytlkaebnigmfphaa.Fr
namespace Go.Proofs.Ytlkaebnigmfphaa.G
open Go.RowKit Go.Proofs.YtlkaebnigmfphaaW.PrintWords Go.Proofs.YtlkaebnigmfphaaW.PrintLast Go.Proofs.YtlkaebnigmfphaaW.PrintMore
attribute [local go_sem] max2_int min2_int max_two min_two max_three min_three max_four min_four   -- for this text's walks alone
set_option linter.unusedVariables false
set_option linter.unusedSimpArgs false
def errW : Option Int → Value
  | none => .nilIface
  | some c => .iface 0 (.int .i64 c)
theorem errW_none : errW none = .nilIface := rfl
theorem errW_some (c : Int) : errW (some c) = .iface 0 (.int .i64 c) := rfl
theorem info32 : (Try.prog.info? 32).map (fun i => (i.zero, i.size, i.bytes)) = some (some (.agg #[(.int .i64 0), (.int .i64 0)]), 2, 16) := by kernel_rfl
structure S32 where
  f0 : Int
  f1 : Int
def z32 : S32 := ⟨(0 : Int), (0 : Int)⟩
def k32 : Kd S32 := Kd.iso (Kd.pair (Kd.int .i64) (Kd.int .i64)) (fun x : S32 => (x.f0, x.f1))
theorem k32_open {w : World} {x : S32} {cs : List Value} (h : k32.K w x cs) : cs = [.int .i64 x.f0, .int .i64 x.f1] := by
  obtain ⟨_, _, rfl, rfl, rfl⟩ := h
  exact rfl
theorem k32_openM {w : World} {base : Nat} {ok : Nat → Prop} {x : S32} {cs : List Value} (h : k32.M w base ok x cs) : cs = [.int .i64 x.f0, .int .i64 x.f1] := by
  obtain ⟨_, _, rfl, rfl, rfl⟩ := h
  exact rfl
theorem k32_mk (w : World) (x : S32)  : k32.K w x [.int .i64 x.f0, .int .i64 x.f1] := ⟨[.int .i64 x.f0], [.int .i64 x.f1], rfl, rfl, rfl⟩
theorem k32_mkM (w : World) (base : Nat) (ok : Nat → Prop) (x : S32)  : k32.M w base ok x [.int .i64 x.f0, .int .i64 x.f1] := ⟨[.int .i64 x.f0], [.int .i64 x.f1], rfl, rfl, rfl⟩
def rd_T32 (xs : List S32) (i : Int) : S32 := xs.getD i.toNat z32
theorem at_T32 {w : World} {A : Option Addr} {n : Nat} {xs : List S32} (h : Kd.C k32 w A n xs) (i : Int) (h0 : 0 ≤ i) (h1 : i < n) : ∃ ad , A = some ad ∧ w.cell? (ad.add (i.toNat * 2)) = some (.int .i64 (rd_T32 xs i).f0) ∧ w.cell? ⟨(ad.add (i.toNat * 2)).block, (ad.add (i.toNat * 2)).off + 1, none⟩ = some (.int .i64 (rd_T32 xs i).f1) := by
  obtain ⟨ad, c, e, _, hK, hc0⟩ := Kd.C_get h z32 i h0 h1
  have hc : ∀ j u, c[j]? = some u → w.cell? (ad.add (i.toNat * 2 + j)) = some u := hc0
  obtain rfl := k32_open hK
  exact ⟨ad, e, hc 0 _ rfl, by rw [← add_field _ _ 1 (by omega)]; exact hc 1 _ rfl⟩
def idxP {α : Type} (p : α → Bool) (l : List α) : Int := match l.findIdx? p with | some i => (i : Int) | none => -1
theorem idxP_any {α : Type} (p : α → Bool) (l : List α) : l.any p = decide (idxP p l ≥ 0) := by
  unfold idxP
  cases h : l.findIdx? p with
  | none =>
    rw [List.findIdx?_eq_none_iff] at h
    simp only [ge_iff_le, Int.reduceLE, decide_false]
    rw [List.any_eq_false]
    intro x hx; simp [h x hx]
  | some i =>
    obtain ⟨hi, hpi, _⟩ := List.findIdx?_eq_some_iff_getElem.1 h
    have : l.any p = true := List.any_eq_true.2 ⟨l[i], List.getElem_mem _, hpi⟩
    rw [this]; simp
theorem ret_int64 {a b : Int} (h : a = b) : Ending.returned (.int .i64 a) = .returned (.int .i64 b) := by rw [h]
@[go_sem] theorem isSome_setCell (w : World) (a b : Addr) (v : Value) : ((w.setCell a v).cell? b).isSome = (w.cell? b).isSome := by
  unfold World.cell? World.setCell
  simp only [Array.getElem?_modify]
  by_cases hb : a.block = b.block
  · rw [if_pos hb]
    cases h : w.heap[b.block]? with
    | none => rfl
    | some o =>
      cases o with
      | cells c e f =>
        simp only [Option.map_some]
        by_cases hs : b.spot.isSome = true
        · simp [hs]
        · by_cases ha : a.spot.isSome = true
          · simp [ha]
          · simp only [ha, hs]
            simp only [Bool.false_eq_true, if_false, Array.getElem?_setIfInBounds]
            split
            · split <;> simp_all
            · rfl
      | _ => rfl
  · rw [if_neg hb]
end Go.Proofs.Ytlkaebnigmfphaa.G
namespace Go.Proofs.Ytlkaebnigmfphaa.Op
open Go.ChangeShapes Go.WideShapes Go.ChangeAt Go.RowKit Go.Deep Go.Proofs.YtlkaebnigmfphaaW.PrintWords
set_option linter.unusedVariables false
def Opens {α : Type} (P : Program) (w : World) (t : TypeId) (d : Kd α) (wf : α → Prop) : Prop :=
  ∀ (H : Type) (enc : TypeId × Value → H) (base : Nat) (spare : Nat → Bool) (held : Bool) (fuel : Nat) (cs : List Value) (x : DataW H × List MemPlace), DataW.trod enc P w base spare held fuel t cs = some x → ∃ y, d.K w y cs ∧ wf y
section
variable {P : Program} {w : World} {t e : TypeId} {α β : Type}
theorem opens_int {k : IntKind} (ht : P.underlying t = some (.int k)) : Opens P w t (Kd.int k) (fun n => (Lit.int k n).wf = true) := by
  intro H enc base spare held fuel cs x h
  obtain ⟨n, rfl, _, hw⟩ := DataW.trod_int ht h
  exact ⟨n, rfl, hw⟩
theorem choose_row {p : Nat → α → Prop} : ∀ (n : Nat), (∀ i, i < n → ∃ y, p i y) → ∃ ys : List α, ys.length = n ∧ ∀ i y, ys[i]? = some y → p i y
  | 0, _ => ⟨[], rfl, fun i y h => by simp at h⟩
  | n + 1, h => by
    obtain ⟨ys, hl, hy⟩ := choose_row n (fun i hi => h i (by omega))
    obtain ⟨y, hn⟩ := h n (by omega)
    refine ⟨ys ++ [y], by simp [hl], fun i z hz => ?_⟩
    by_cases hi : i < n
    · rw [List.getElem?_append_left (by omega)] at hz
      exact hy i z hz
    · have hin : i = n := by
        have := (List.getElem?_eq_some_iff.1 hz).1
        simp at this; omega
      subst hin
      rw [List.getElem?_append_right (by omega), hl] at hz
      simp at hz
      subst hz
      exact hn
theorem opens_slice {d : Kd α} {wf : α → Prop} (ht : P.underlying t = some (.slice e)) (hd : Opens P w e d wf) (hc : P.cellsOf e = d.sz) : Opens P w t (Kd.slice e d) (fun l => l.length ≤ maxLen ∧ ∀ x ∈ l, wf x) := by
  intro H enc base spare held fuel cs x h
  rcases open_slice ht h with ⟨rfl, _⟩ | ⟨a, len, cap, m, n, D, Pl, rfl, hb, hl, hm, hmm, hx, hi⟩
  · exact ⟨[], ⟨none, 0, rfl, Nat.le_refl _, rfl, by simp, fun h => absurd h (by simp)⟩, by simp [maxLen], by simp⟩
  · have hlm : len ≤ m := by rw [hmm]; split <;> omega
    obtain ⟨ys, hyl, hy⟩ := choose_row (p := fun i y => ∃ c, w.cells? base (a.add (i * P.cellsOf e)) (P.cellsOf e) = some c ∧ d.K w y c ∧ wf y) len (fun i hil => by
      obtain ⟨c, h1, h2⟩ := hi i (by omega)
      obtain ⟨y, h3, h4⟩ := hd _ _ _ _ _ _ _ _ h2
      exact ⟨y, c, h1, h3, h4⟩)
    have hmax : len ≤ maxLen := Nat.le_trans hl hm
    refine ⟨ys, ⟨some a, cap, by rw [hyl], by omega, rfl, by rw [hyl]; unfold maxLen at hmax; omega, fun _ => ⟨a, rfl, fun j p hj => ?_⟩⟩, by omega, fun z hz => ?_⟩
    · obtain ⟨c, h1, h2, _⟩ := hy j p hj
      obtain ⟨_, h4, h5⟩ := World.cells?_some h1
      refine ⟨c, d.K_len h2, h2, fun i u hu => ?_⟩
      have hic : i < P.cellsOf e := by rw [← h4]; exact (List.getElem?_eq_some_iff.1 hu).1
      have h6 := h5 i hic
      rw [Go.Deep.add_add, hc] at h6
      rw [h6, hu]
    · obtain ⟨i, hil, rfl⟩ := List.mem_iff_getElem.1 hz
      obtain ⟨c, _, _, h3⟩ := hy i _ (List.getElem?_eq_getElem hil)
      exact h3
def OpensAt (P : Program) (w : World) (o : Nat) (fs : List (Nat × TypeId)) (d : Kd α) (wf : α → Prop) : Prop :=
  ∀ (H : Type) (enc : TypeId × Value → H) (base : Nat) (spare : Nat → Bool) (held : Bool) (n : Nat) (cs : List Value), (∀ f ∈ fs, ∃ x, DataW.trod enc P w base spare held n f.2 ((cs.drop f.1).take (P.cellsOf f.2)) = some x) → cs.length = o + d.sz → ∃ y, d.K w y (cs.drop o) ∧ wf y
theorem opens_last {o : Nat} {d : Kd α} {wf : α → Prop} (hd : Opens P w t d wf) (hc : P.cellsOf t = d.sz) : OpensAt P w o [(o, t)] d wf := by
  intro H enc base spare held n cs hf hl
  obtain ⟨x, hx⟩ := hf (o, t) (by simp)
  obtain ⟨y, h1, h2⟩ := hd _ _ _ _ _ _ _ _ hx
  refine ⟨y, ?_, h2⟩
  simp only at h1
  rwa [List.take_of_length_le (by rw [List.length_drop, hc]; omega)] at h1
theorem opens_cons {o o1 : Nat} {fs : List (Nat × TypeId)} {a : Kd α} {b : Kd β} {wfa : α → Prop} {wfb : β → Prop} (ha : Opens P w t a wfa) (hc : P.cellsOf t = a.sz) (ho : o1 = o + a.sz) (hb : OpensAt P w o1 fs b wfb) :
    OpensAt P w o ((o, t) :: fs) (Kd.pair a b) (fun p => wfa p.1 ∧ wfb p.2) := by
  intro H enc base spare held n cs hf hl
  have hl' : cs.length = o + (a.sz + b.sz) := hl
  obtain ⟨x, hx⟩ := hf (o, t) (by simp)
  obtain ⟨y, h1, h2⟩ := ha _ _ _ _ _ _ _ _ hx
  obtain ⟨z, h3, h4⟩ := hb _ _ _ _ _ n cs (fun f hm => hf f (List.mem_cons_of_mem _ hm)) (by omega)
  simp only [hc] at h1
  subst ho
  exact ⟨(y, z), ⟨_, _, by rw [← List.drop_drop, List.take_append_drop], h1, h3⟩, h2, h4⟩
theorem opens_struct {fs : Array Field} {d : Kd α} {wf : α → Prop} {f : β → α} (g : α → β) (hg : ∀ y, f (g y) = y) (ht : P.underlying t = some (.struct fs)) (hc : P.cellsOf t = d.sz) {l : List (Nat × TypeId)} (hl : l = fs.toList.map fun x => (x.offset, x.type)) (hF : OpensAt P w 0 l d wf) :
    Opens P w t (Kd.iso d f) (fun x => wf (f x)) := by
  intro H enc base spare held fuel cs x h
  obtain ⟨xs, n, _, _, hlen, hxl, hf⟩ := DataW.trod_struct ht h
  obtain ⟨y, h1, h2⟩ := hF H enc base spare held n cs (fun p hp => by
    subst hl
    obtain ⟨fd, hm, rfl⟩ := List.mem_map.1 hp
    obtain ⟨i, hi, rfl⟩ := List.mem_iff_getElem.1 hm
    have hi' : i < fs.size := by simpa using hi
    refine ⟨_, (hf i _ (by simp [hi'])).trans (List.getElem?_eq_getElem (by omega))⟩) (by omega)
  refine ⟨g y, ?_, by show wf (f (g y)); rw [hg]; exact h2⟩
  show d.K w (f (g y)) cs
  rw [hg]
  simpa using h1
end
end Go.Proofs.Ytlkaebnigmfphaa.Op
namespace Go.Proofs.Ytlkaebnigmfphaa.Op
open Go.ChangeShapes Go.WideShapes Go.ChangeAt Go.RowKit Go.Deep Go.Proofs.YtlkaebnigmfphaaW.PrintWords Go.Proofs.Ytlkaebnigmfphaa.G
set_option linter.unusedVariables false
def wf32 (x : S32) : Prop := ((Lit.int .i64 x.f0).wf = true) ∧ ((Lit.int .i64 x.f1).wf = true)
theorem op32 (w : World) : Opens Try.prog w 32 k32 wf32 :=
  opens_struct (fun (y0, y1) => (⟨y0, y1⟩ : S32)) (fun _ => rfl) Try.underlying32 (by kernel_rfl) (l := [(0, 3), (1, 3)]) (by rfl) (opens_cons (opens_int Try.underlying3) (by kernel_rfl) (by kernel_rfl) (opens_last (opens_int Try.underlying3) (by kernel_rfl)))
end Go.Proofs.Ytlkaebnigmfphaa.Op
namespace Go.Proofs.Ytlkaebnigmfphaa.G
open Go.RowKit Go.Proofs.YtlkaebnigmfphaaW.PrintWords Go.Proofs.YtlkaebnigmfphaaW.PrintLast Go.Proofs.YtlkaebnigmfphaaW.PrintMore
attribute [local go_sem] max2_int min2_int max_two min_two max_three min_three max_four min_four   -- for this text's walks alone
set_option linter.unusedVariables false
set_option linter.unusedSimpArgs false
theorem eqA32 (d : Nat) (w : World) (x0 y0 : Int) (x1 y1 : Int) :
    (Op.equalIn (d + 2) 32 (.agg #[.int .i64 x0, .int .i64 x1]) (.agg #[.int .i64 y0, .int .i64 y1])).run Try.prog w = .ok (x0 == y0 && (x1 == y1)) w := by
  refine eqA_of Try.underlying32 (by kernel_rfl) ?_
  refine eqf_cons (by rfl) (by go_simp; rfl) (by go_simp; rfl) (by go_simp) ?_
  exact eqf_last (by rfl) (by go_simp; rfl) (by go_simp; rfl) (by go_simp)
end Go.Proofs.Ytlkaebnigmfphaa.G
namespace Go.Proofs.Ytlkaebnigmfphaa.G
open Go.RowKit Go.Proofs.YtlkaebnigmfphaaW.PrintWords Go.Proofs.YtlkaebnigmfphaaW.PrintLast Go.Proofs.YtlkaebnigmfphaaW.PrintMore
attribute [local go_sem] max2_int min2_int max_two min_two max_three min_three max_four min_four   -- for this text's walks alone
set_option linter.unusedVariables false
set_option linter.unusedSimpArgs false
attribute [local go_sem high] eqA32
def foghornlaw09_few.f (l0 : List (S32)) : Option ((List (S32))) := if 0 ≤ (mn (l0.length : Int) 70) then (if (mn (l0.length : Int) 70) ≤ (l0.length : Int) then (some (l0.take ((mn (l0.length : Int) 70) : Int).toNat)) else (none)) else (none)
set_option maxHeartbeats 8000000 in
set_option maxRecDepth 100000 in
theorem foghornlaw09_few.calls (P0_ : Nat → Prop) (u9000_ : Value) (l0 : List (S32)) (r : List (S32)) (w0 w : World) (hB : Below w0.heap.size w0 w) (ho0 : Kd.R k32 32 w w0.heap.size P0_ u9000_ l0) (h : foghornlaw09_few.f l0 = some r) :
    Calls Try.prog 6 #[u9000_] w fun e w' => ∃ v0_ : Value, e = .returned (v0_) ∧ Kd.R k32 32 w' w0.heap.size (fun k_ => (P0_ k_ ∨ w.heap.size ≤ k_)) v0_ r ∧ Below w0.heap.size w0 w' ∧ Kept w w' (fun k_ => P0_ k_) := by
  have HO0 := Aside0.mk (show Kd.R k32 32 w w0.heap.size (fun k_ => (P0_ k_ ∨ w.heap.size ≤ k_)) u9000_ l0 from Kd.R_mono ho0 (fun k_ hk => (.inl hk)))
  have HK := Aside0.mk (Kept.refl w (fun k_ => P0_ k_))
  have HW0 := Aside0.mk hB.size
  have HB := Aside0.mk hB
  clear hB
  have H : (if 0 ≤ (mn (l0.length : Int) 70) then (if (mn (l0.length : Int) 70) ≤ (l0.length : Int) then (some (l0.take ((mn (l0.length : Int) 70) : Int).toNat)) else (none)) else (none)) = some r := h
  clear h
  obtain ⟨ji2, hji2⟩ : ∃ j_ : Int, (mn (l0.length : Int) 70) = j_ := ⟨_, rfl⟩
  replace H : (if 0 ≤ (ji2) then (if (ji2) ≤ (l0.length : Int) then (some (l0.take ((ji2) : Int).toNat)) else (none)) else (none)) = some r := by first | (rw [hji2] at H; exact H) | (simp only [hji2] at H ⊢; exact H)
  (try (have hji2h : ji2 ≤ 70 := by (rw [← hji2]; unfold mn; (repeat' split) <;> omega)))
  (try (have hji2g : ji2 ≤ 64 := by omega))
  (try (have hji2l : 0 ≤ ji2 := by (rw [← hji2]; unfold mn; (repeat' split) <;> omega)))
  (try (have hji2m : 0 ≤ ji2 := by omega))
  have hji2_ : (if 70 < (l0.length : Int) then 70 else (l0.length : Int)) = ji2 := hji2
  by_cases c3 : 0 ≤ (ji2)
  · rw [if_pos c3] at H
    have c3b0 := eq_true c3
    have c3b1 : decide (0 ≤ (ji2)) = true := decide_eq_true c3
    clear c3
    by_cases c4 : (ji2) ≤ (l0.length : Int)
    · rw [if_pos c4] at H
      have c4b0 := eq_true c4
      have c4b1 : decide ((ji2) ≤ (l0.length : Int)) = true := decide_eq_true c4
      clear c4
      obtain ⟨y101, hy101⟩ : ∃ y_ : List (S32), y_ = (l0.take ((ji2) : Int).toNat) := ⟨_, rfl⟩
      replace H : (some y101) = some r := by first | (rw [hy101]; with_reducible exact H) | (have H2_ := (Option.bind_some _ _).symm.trans H; rw [hy101]; with_reducible exact H2_) | (have H2_ := (Option.bind_some _ _).symm.trans H; with_reducible exact H2_) | with_reducible exact H | (rw [hy101]; exact H) | exact H
      have Ny101 := Aside0.mk hy101
      clear hy101
      obtain rfl := Option.some.inj H
      obtain ⟨Ao5, co5, eo5⟩ := Kd.R_slice HO0.out
      subst eo5
      have q6 : ((ji2) : Int) ≤ ((l0.length : Int) : Int) := of_decide_eq_true (by first | (with_reducible assumption) | assumption)
      obtain ⟨i06, hi06, _, hsz6, _⟩ := info_parts info32
      have hcut6 := cut_to (P := Try.prog) 22 32 .i64 Try.underlying22 hi06 Ao5 l0.length co5 (ji2) (of_decide_eq_true (by first | (with_reducible assumption) | assumption)) q6 (Kd.R_reads' HO0.out).2.1
      have hr6 := Kd.R_take (m := ((ji2) : Int).toNat) HO0.out (by omega)
      have hy6 : y101.length = ((ji2) : Int).toNat := (by rw [Ny101.out, List.length_take]; omega)
      rw [← Ny101.out] at hr6
      rw [← hy6] at hr6 hcut6
      clear hy6 hi06 hsz6 HO0
      have HO103 := Aside0.mk hr6
      clear hr6
      replace q6 := eq_true q6
      go_enter Try.func6, Try.ntmps6
      go_wp2
      go_ret
      exact ⟨_, by first | rfl | (simp [errW_none, errW_some] <;> rfl) | (simp only [← hji2]; first | rfl | (simp [errW_none, errW_some] <;> rfl)) | (simp [*, errW_none, errW_some] <;> rfl), by (with_reducible repeat (first | apply Kd.R_alloc | apply Kd.R_drewN | apply Kd.R_drew)); exact HO103.out, by repeat (first | (with_reducible first | exact HB.out | apply below_alloc | apply pw_below_drewN | apply below_drew1) | exact HB.out), by repeat (first | (with_reducible first | exact HK.out | apply Kept.alloc | apply Kept.drewN | apply Kept.drew) | exact HK.out)⟩
    · rw [if_neg c4] at H
      exact absurd H (by simp)
  · rw [if_neg c3] at H
    exact absurd H (by simp)
def tick_Right.f (a0 : Int) : Option (Bool) := if a0 ≥ 0 then (some (decide (a0 ≤ 1099511627776))) else (some false)
set_option maxHeartbeats 8000000 in
set_option maxRecDepth 100000 in
theorem tick_Right.calls (a0 : Int) (r : Bool) (w : World) (h : tick_Right.f a0 = some r) :
    Calls Try.prog 19 #[.int .i64 a0] w fun e w' => e = .returned (.bool r) ∧ Drawn0 w w' := by
  have H : (if a0 ≥ 0 then (some (decide (a0 ≤ 1099511627776))) else (some false)) = some r := h
  clear h
  by_cases c2 : a0 ≥ 0
  · rw [if_pos c2] at H
    have c2b0 : decide (0 ≤ a0) = true := decide_eq_true c2
    clear c2
    obtain rfl := Option.some.inj H
    go_enter Try.func19, Try.ntmps19
    go_wp2
    go_ret
    exact ⟨by first | rfl | (simp; done) | (simp [*]; done), by repeat (first | exact Drawn0.refl _ | apply Drawn0.step)⟩
  · rw [if_neg c2] at H
    have c2b0 : decide (0 ≤ a0) = false := decide_eq_false c2
    clear c2
    obtain rfl := Option.some.inj H
    go_enter Try.func19, Try.ntmps19
    go_wp2
    go_ret
    exact ⟨by first | rfl | (simp; done) | (simp [*]; done), by repeat (first | exact Drawn0.refl _ | apply Drawn0.step)⟩
def foghornref09_Same.l0 : Nat → List (S32) → List (S32) → Int → Int → Option (Bool)
  | 0, _, _, _, _ => none
  | k + 1, x0, x1, x12, x13 => if x13 < x12 then (if 0 ≤ x13 then (if x13 < (x0.length : Int) then (if x13 < (x1.length : Int) then (if (!(((rd_T32 x0 x13).f0) == ((rd_T32 x1 x13).f0)) || (!(((rd_T32 x0 x13).f1) == ((rd_T32 x1 x13).f1)))) = true then (some false) else (foghornref09_Same.l0 k x0 x1 x12 (wrap64 (x13 + 1)))) else (none)) else (none)) else (none)) else (some true)
def foghornref09_Same.f (k : Nat) (l0 : List (S32)) (l1 : List (S32)) : Option (Bool) := if (l0.length : Int) = (l1.length : Int) then (foghornref09_Same.l0 k l0 l1 (l0.length : Int) 0) else (some false)
set_option maxHeartbeats 8000000 in
set_option maxRecDepth 100000 in
theorem foghornref09_Same.calls (k : Nat) (A0 : Option Addr) (c0 : Nat) (l0 : List (S32)) (A1 : Option Addr) (c1 : Nat) (l1 : List (S32)) (r : Bool) (w : World) (hr0 : Kd.C k32 w A0 l0.length l0) (hc0 : l0.length ≤ c0) (hr1 : Kd.C k32 w A1 l1.length l1) (hc1 : l1.length ≤ c1) (h : foghornref09_Same.f k l0 l1 = some r) :
    Calls Try.prog 9 #[.slice A0 l0.length c0, .slice A1 l1.length c1] w fun e w' => e = .returned (.bool r) ∧ Drawn0 w w' := by
  have hu32 := Try.underlying32
  have HR0 := Aside0.mk hr0
  have HC0 := Aside0.mk hc0
  clear hr0 hc0
  have HR1 := Aside0.mk hr1
  have HC1 := Aside0.mk hc1
  clear hr1 hc1
  have H : (if (l0.length : Int) = (l1.length : Int) then (foghornref09_Same.l0 k l0 l1 (l0.length : Int) 0) else (some false)) = some r := h
  clear h
  by_cases c3 : (l0.length : Int) = (l1.length : Int)
  · rw [if_pos c3] at H
    have c3b0 : ((l0.length : Int) == (l1.length : Int)) = true := beq_iff_eq.mpr c3
    have c3b1 : ((l0.length : Int) != (l1.length : Int)) = false := bne_eq_false_iff_eq.mpr c3
    have c3b2 : (l0.length == l1.length) = true := by first | simpa using c3 | (simp at c3 ⊢; omega)
    clear c3
    have H' := Aside0.mk H
    clear H
    go_enter Try.func9, Try.ntmps9
    go_wp2
    repeat (go_quiet (fail); try go_wp2)
    go_loopg [13] k (fun kq v13 w' => ∃ (x13_1 : Int), v13 = .int .i64 x13_1 ∧ Aside0 (foghornref09_Same.l0 kq l0 l1 (l0.length : Int) x13_1 = some r) ∧ Aside0 (kq ≤ k) ∧ Drawn0 w w')
    case atStart => exact ⟨(0), (by first | rfl | (simp; done) | (simp [*]; done)), H', ⟨Nat.le_refl _⟩, by repeat (first | exact Drawn0.refl _ | apply Drawn0.step)⟩
    case round =>
      clear H'
      try clear c1
      try clear p2
      try clear c3
      try clear c3b0
      try clear c3b1
      try clear c3b2
      obtain ⟨x13_1, rfl, HA, HK1, ⟨m1, rfl⟩⟩ := hrel
      cases gk with
      | zero => exact absurd HA.out (by simp [foghornref09_Same.l0])
      | succ k1 =>
        have H := HA.out
        clear HA
        simp only [foghornref09_Same.l0] at H
        by_cases c4 : x13_1 < (l0.length : Int)
        · rw [if_pos c4] at H
          have c4b0 : decide (x13_1 < (l0.length : Int)) = true := decide_eq_true c4
          clear c4
          by_cases c5 : 0 ≤ x13_1
          · rw [if_pos c5] at H
            have c5b0 : decide (0 ≤ x13_1) = true := decide_eq_true c5
            clear c5
            by_cases c6 : x13_1 < (l0.length : Int)
            · rw [if_pos c6] at H
              have c6b0 : decide (x13_1 < (l0.length : Int)) = true := decide_eq_true c6
              clear c6
              by_cases c7 : x13_1 < (l1.length : Int)
              · rw [if_pos c7] at H
                have c7b0 : decide (x13_1 < (l1.length : Int)) = true := decide_eq_true c7
                clear c7
                by_cases c8 : (!(((rd_T32 l0 x13_1).f0) == ((rd_T32 l1 x13_1).f0)) || (!(((rd_T32 l0 x13_1).f1) == ((rd_T32 l1 x13_1).f1)))) = true
                · rw [if_pos c8] at H
                  have c8b0 : (!(((rd_T32 l0 x13_1).f0) == ((rd_T32 l1 x13_1).f0)) || (!(((rd_T32 l0 x13_1).f1) == ((rd_T32 l1 x13_1).f1)))) = true := c8
                  clear c8
                  obtain rfl := Option.some.inj H
                  have p107 : 0 ≤ (x13_1 : Int) := of_decide_eq_true (by first | (with_reducible assumption) | assumption)
                  have q107 : x13_1 < (l0.length : Int) := of_decide_eq_true (by first | (with_reducible assumption) | assumption)
                  obtain ⟨ad107, e107, hx107_0, hx107_1⟩ := at_T32 HR0.out x13_1 p107 q107
                  cases e107
                  replace p107 := eq_true p107
                  replace q107 := eq_true q107
                  have p108 : 0 ≤ (x13_1 : Int) := of_decide_eq_true (by first | (with_reducible assumption) | assumption)
                  have q108 : x13_1 < (l1.length : Int) := of_decide_eq_true (by first | (with_reducible assumption) | assumption)
                  obtain ⟨ad108, e108, hx108_0, hx108_1⟩ := at_T32 HR1.out x13_1 p108 q108
                  cases e108
                  replace p108 := eq_true p108
                  replace q108 := eq_true q108
                  go_wp2
                  repeat (go_quiet (fail); try go_wp2)
                  go_ret
                  exact ⟨by first | rfl | (simp; done) | (simp [*]; done), by repeat (first | exact Drawn0.refl _ | apply Drawn0.step)⟩
                · rw [if_neg c8] at H
                  have c8b0 : (!(((rd_T32 l0 x13_1).f0) == ((rd_T32 l1 x13_1).f0)) || (!(((rd_T32 l0 x13_1).f1) == ((rd_T32 l1 x13_1).f1)))) = false := by simpa using c8
                  clear c8
                  have H' := Aside0.mk H
                  clear H
                  have p107 : 0 ≤ (x13_1 : Int) := of_decide_eq_true (by first | (with_reducible assumption) | assumption)
                  have q107 : x13_1 < (l0.length : Int) := of_decide_eq_true (by first | (with_reducible assumption) | assumption)
                  obtain ⟨ad107, e107, hx107_0, hx107_1⟩ := at_T32 HR0.out x13_1 p107 q107
                  cases e107
                  replace p107 := eq_true p107
                  replace q107 := eq_true q107
                  have p108 : 0 ≤ (x13_1 : Int) := of_decide_eq_true (by first | (with_reducible assumption) | assumption)
                  have q108 : x13_1 < (l1.length : Int) := of_decide_eq_true (by first | (with_reducible assumption) | assumption)
                  obtain ⟨ad108, e108, hx108_0, hx108_1⟩ := at_T32 HR1.out x13_1 p108 q108
                  cases e108
                  replace p108 := eq_true p108
                  replace q108 := eq_true q108
                  go_wp2
                  repeat (go_quiet (fail); try go_wp2)
                  go_roundg k1
                  case measure => have := HK1.out; omega
                  case rel => exact ⟨(wrap64 (x13_1 + 1)), (by first | rfl | (simp; done) | (simp [*]; done)), H', ⟨by have := HK1.out; omega⟩, by repeat (first | exact Drawn0.refl _ | apply Drawn0.step)⟩
              · rw [if_neg c7] at H
                exact absurd H (by simp)
            · rw [if_neg c6] at H
              exact absurd H (by simp)
          · rw [if_neg c5] at H
            exact absurd H (by simp)
        · rw [if_neg c4] at H
          have c4b0 : decide (x13_1 < (l0.length : Int)) = false := decide_eq_false c4
          clear c4
          obtain rfl := Option.some.inj H
          go_wp2
          repeat (go_quiet (fail); try go_wp2)
          go_ret
          exact ⟨by first | rfl | (simp; done) | (simp [*]; done), by repeat (first | exact Drawn0.refl _ | apply Drawn0.step)⟩
  · rw [if_neg c3] at H
    have c3b0 : ((l0.length : Int) == (l1.length : Int)) = false := beq_eq_false_iff_ne.mpr c3
    have c3b1 : ((l0.length : Int) != (l1.length : Int)) = true := bne_iff_ne.mpr c3
    have c3b2 : (l0.length == l1.length) = false := by first | simpa using c3 | (simp at c3 ⊢; omega)
    obtain rfl := Option.some.inj H
    go_enter Try.func9, Try.ntmps9
    go_wp2
    repeat (go_quiet (fail); try go_wp2)
    go_ret
    exact ⟨by first | rfl | (simp; done) | (simp [*]; done), by repeat (first | exact Drawn0.refl _ | apply Drawn0.step)⟩
def foghornref09_Ahead.f (a0_0 : Int) (a0_1 : Int) (a1_0 : Int) (a1_1 : Int) : Option (Bool) := if a0_0 < a1_0 then (some true) else (if a0_0 = a1_0 then (some (decide (a0_1 < a1_1))) else (some false))
set_option maxHeartbeats 8000000 in
set_option maxRecDepth 100000 in
theorem foghornref09_Ahead.calls (a0_0 : Int) (a0_1 : Int) (a1_0 : Int) (a1_1 : Int) (r : Bool) (w : World) (h : foghornref09_Ahead.f a0_0 a0_1 a1_0 a1_1 = some r) :
    Calls Try.prog 18 #[.agg #[.int .i64 a0_0, .int .i64 a0_1], .agg #[.int .i64 a1_0, .int .i64 a1_1]] w fun e w' => e = .returned (.bool r) ∧ Below w.heap.size w w' := by
  unfold foghornref09_Ahead.f at h
  have H := Aside0.mk h
  clear h
  have hF := Aside0.mk (Fr.Frame.start w)
  have HC : True := trivial
  go_enter Try.func18, Try.ntmps18
  go_wp2_with (first | ((with_reducible refine gate_store rfl ?_); apply Fr.fr_store hF.out rfl rfl rfl; (case hp => rfl); (case hx => first | (go_simp; rfl) | rfl); (case hu => (simp only [Value.cells]; rfl)); (case hs => (repeat (first | exact Fr.Spot.here _ _ | apply Fr.Spot.there))); (case ht => kernel_rfl); (case h1 => simp [Value.oneCell']); (case hfit => simp); intro W hF1; simp only [Fr.patch, List.take_zero, List.nil_append, List.drop, List.append_nil, List.take, List.cons_append, List.length_cons, List.length_nil, Nat.reduceAdd] at hF1; have HC1 := hF1.cells; simp only [Fr.Cells, List.length_cons, List.length_nil, Nat.reduceAdd, and_true] at HC1; clear hF HC; have HC := HC1; have hF := Aside0.mk hF1; clear hF1 HC1) | ((first | (with_reducible refine Fr.gate_alloc rfl ?_) | (with_reducible refine Fr.gate_box rfl ?_)); apply Fr.fr_box hF.out rfl; (case hrun => first | (go_simp; done) | (go_simp; rfl)); intro g W hF1; have HC1 := hF1.cells; simp only [Fr.Cells, List.length_cons, List.length_nil, Nat.reduceAdd, and_true] at HC1; clear hF HC; have HC := HC1; have hF := Aside0.mk hF1; clear hF1 HC1))
  all_goals (have h9 := H.out; (repeat (first | rw [if_pos (by first | rfl | assumption | exact Fr.nf (by assumption) | exact Fr.nef (by assumption) | exact Fr.eqt (by assumption) | exact of_decide_eq_true (by assumption) | exact Fr.pos2 (by assumption) | omega | exact decide_eq_true (by omega))] at h9 | rw [if_neg (by first | assumption | exact Fr.nt (by assumption) | exact Fr.ff (by assumption) | exact Fr.net (by assumption) | exact Fr.eqf (by assumption) | exact of_decide_eq_false (by assumption) | exact Fr.neg2 (by assumption) | omega | exact Fr.dneg (by omega) | decide)] at h9)); obtain rfl := Option.some.inj h9; refine bodyPost_ret ?_ rfl ⟨rfl, hF.out.below⟩; simp [results, Try.results18, go_sem, HC] <;> first | omega | (simp_all; done))
end Go.Proofs.Ytlkaebnigmfphaa.G
