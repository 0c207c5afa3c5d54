/- Contracts of functions of the given program, and what they come to, for any arguments. No condition beyond each theorem's own premises. -/
import Derived.Test.YtkphinfijppkeaaWMore
import Derived.WalkKit
import Derived.Deep.Quiet
import Derived.Test.YtkphinfijppkeaaProg
import Derived.Below
import Derived.Deep.Draws
import Derived.Deep.AppendLies
import Derived.Maps.AppendAt
import Derived.OwnWalk
import Derived.Laws.BytesArg
import Derived.Laws.MakeOwn
import Derived.Laws.OwnMore
import Derived.Deep.OwnRows
import Derived.Tactics
import Derived.Lib.ConvBytes
import Derived.Laws.Slices
import Derived.KernelRfl
import Derived.RowKit3
import Derived.Deep.LoopGhost
import Derived.Deep.QuietTactic
import Derived.BigQuiet
import Derived.WideLaws
import Derived.Deep.DeepCutAuto
import Derived.Deep.CutBlock
import Derived.Deep.RegionHeld3
import Derived.Laws.Rows
import Derived.Lib.AppendStr
import Derived.ArgAppend
import Derived.Laws.IdiomCopy
import Derived.OrdersHeld
import Derived.Laws.BitsLemmas
import Derived.RowKit
import Derived.LoopIn
import Derived.LoopNIn
import Derived.Outline
import Derived.OwnWalkIn
import Derived.RangeFuncBound
import Derived.RangeFuncCalls
import Derived.RangeFuncLeaves
import Derived.RangeFuncNested
import Derived.Shelf.Abstract
import Derived.Shelf.RegionOpen
import Derived.TacticsInMore
import Derived.Test.YtkphinfijppkeaaWWords
import Derived.Test.YtkphinfijppkeaaWLast
import Derived.Test.YtkphinfijppkeaaWTab
import Derived.Test.YtkphinfijppkeaaWFour
import Derived.Test.YtkphinfijppkeaaWQPut
import Derived.Test.YtkphinfijppkeaaWApart
import Derived.Test.YtkphinfijppkeaaWArr
import Derived.Test.YtkphinfijppkeaaWZeros
import Derived.Test.YtkphinfijppkeaaWFoot
import Derived.Test.YtkphinfijppkeaaWKept
import Derived.Test.YtkphinfijppkeaaWShare
import Derived.Test.YtkphinfijppkeaaWN
import Derived.Test.YtkphinfijppkeaaWEqStruct
import Derived.Test.YtkphinfijppkeaaWRepsOne
import Derived.Test.YtkphinfijppkeaaWNEv
import Derived.ProofKit
import Derived.OpenShut
import Derived.ShutString
import Derived.ChangeOld
import Derived.SizedLaws
import Derived.Deep.Slices
import Derived.Laws.RangeString
import Derived.Laws.RangeAny
namespace Go.Proofs.Ytkphinfijppkeaa.Fr
open Go.RowKit Go.Proofs.YtkphinfijppkeaaW.PrintWords
set_option linter.unusedVariables false
abbrev Blk := Nat × List Value × TypeId
structure Row where
  foot : Nat → Prop
  holds : World → Prop
  dep : ∀ w w' : World, w.heap.size ≤ w'.heap.size → (∀ b, foot b → w'.heap[b]? = w.heap[b]?) → holds w → holds w'
structure Frame (w0 w : World) (bs : List Blk) (rs : List Row) : Prop where
  below : Below w0.heap.size w0 w
  blk : ∀ b ∈ bs, w0.heap.size ≤ b.1 ∧ w.heap[b.1]? = some (.cells b.2.1.toArray b.2.2 (0, 0))
  nodup : (bs.map (·.1)).Nodup
  row : ∀ r ∈ rs, r.holds w ∧ (∀ k, r.foot k → k < w.heap.size) ∧ ∀ b ∈ bs, ¬ r.foot b.1
inductive Spot (g : Nat) (t : TypeId) : List Blk → List Value → (List Value → List Blk) → Prop
  | here (cs : List Value) (bs : List Blk) : Spot g t ((g, cs, t) :: bs) cs (fun c => (g, c, t) :: bs)
  | there (b : Blk) {bs : List Blk} {cs : List Value} {f : List Value → List Blk} (h : Spot g t bs cs f) : Spot g t (b :: bs) cs (fun c => b :: f c)
theorem Spot.mem {g : Nat} {t : TypeId} {bs : List Blk} {cs : List Value} {f : List Value → List Blk} (h : Spot g t bs cs f) : (g, cs, t) ∈ bs := by
  induction h with
  | here cs bs => simp
  | there b _ ih => exact List.mem_cons_of_mem _ ih
theorem Spot.map {g : Nat} {t : TypeId} {bs : List Blk} {cs : List Value} {f : List Value → List Blk} (h : Spot g t bs cs f) (c : List Value) : (f c).map (·.1) = bs.map (·.1) := by
  induction h with
  | here cs bs => rfl
  | there b _ ih => simp [ih]
theorem Spot.other {g : Nat} {t : TypeId} {bs : List Blk} {cs : List Value} {f : List Value → List Blk} (h : Spot g t bs cs f) (hn : (bs.map (·.1)).Nodup) (c : List Value) :
    ∀ b ∈ f c, b = (g, c, t) ∨ (b ∈ bs ∧ b.1 ≠ g) := by
  induction h with
  | here cs bs =>
    intro b hb
    rcases List.mem_cons.1 hb with rfl | hb
    · exact .inl rfl
    · refine .inr ⟨List.mem_cons_of_mem _ hb, fun e => ?_⟩
      simp only [List.map_cons, List.nodup_cons] at hn
      exact hn.1 (by rw [← e]; exact List.mem_map_of_mem hb)
  | there b0 h0 ih =>
    intro b hb
    simp only [List.map_cons, List.nodup_cons] at hn
    rcases List.mem_cons.1 hb with rfl | hb
    · refine .inr ⟨List.mem_cons_self, fun e => hn.1 ?_⟩
      rw [e]; exact List.mem_map_of_mem (f := (·.1)) h0.mem
    · rcases ih hn.2 b hb with h | ⟨h1, h2⟩
      · exact .inl h
      · exact .inr ⟨List.mem_cons_of_mem _ h1, h2⟩
def patch (cs : List Value) (o : Nat) (vs : List Value) : List Value := cs.take o ++ vs ++ cs.drop (o + vs.length)
section
variable {w0 w w' : World} {bs : List Blk} {rs : List Row}
theorem Frame.start (w : World) : Frame w w [] [] := ⟨Below.refl _ _, by simp, by simp, by simp⟩
theorem Frame.lt (h : Frame w0 w bs rs) {b : Blk} (hb : b ∈ bs) : b.1 < w.heap.size := blk_lt (h.blk b hb).2
theorem Frame.call (h : Frame w0 w bs rs) (hb : Below w.heap.size w w') : Frame w0 w' bs rs :=
  ⟨below_then h.below h.below.size hb, fun b hm => ⟨(h.blk b hm).1, (hb.block _ (h.lt hm)).trans (h.blk b hm).2⟩, h.nodup,
    fun r hr => ⟨r.dep w w' hb.size (fun k hk => hb.block k ((h.row r hr).2.1 k hk)) (h.row r hr).1, fun k hk => Nat.lt_of_lt_of_le ((h.row r hr).2.1 k hk) hb.size, (h.row r hr).2.2⟩⟩
theorem Frame.drewN (h : Frame w0 w bs rs) (n : Nat) : Frame w0 (w.drewN n) bs rs := h.call (pw_below_drewN (Below.refl _ _) n)
theorem Frame.drew (h : Frame w0 w bs rs) : Frame w0 w.drew bs rs := h.call (below_drew (Below.refl _ _))
theorem Frame.alloc (h : Frame w0 w bs rs) (cs : List Value) (t : TypeId) : Frame w0 (w.alloc (.cells cs.toArray t (0, 0))) ((w.heap.size, cs, t) :: bs) rs := by
  have h1 := h.call (below_alloc (Below.refl w.heap.size w) (.cells cs.toArray t (0, 0)))
  refine ⟨h1.below, fun b hb => ?_, ?_, fun r hr => ⟨(h1.row r hr).1, (h1.row r hr).2.1, fun b hb => ?_⟩⟩
  · rcases List.mem_cons.1 hb with rfl | hb
    · exact ⟨h.below.size, blk_new _ _⟩
    · exact h1.blk b hb
  · simp only [List.map_cons, List.nodup_cons]
    refine ⟨fun hm => ?_, h.nodup⟩
    obtain ⟨b, hb, e⟩ := List.mem_map.1 hm
    have := h.lt hb
    omega
  · rcases List.mem_cons.1 hb with rfl | hb
    · intro hk
      have := (h.row r hr).2.1 _ hk
      simp at this
    · exact (h.row r hr).2.2 b hb
theorem Frame.put (h : Frame w0 w bs rs) {g : Nat} {t : TypeId} {cs : List Value} {f : List Value → List Blk} (hs : Spot g t bs cs f) (o : Nat) (vs : List Value) (ho : o + vs.length ≤ cs.length) :
    Frame w0 (w.setCells g o vs) (f (patch cs o vs)) rs := by
  obtain ⟨s1, s2, s3, s4⟩ := setCells_same g vs o w
  have hg := h.blk _ hs.mem
  obtain ⟨cur', h3, h4, h5⟩ := setCells_row vs o w cs.toArray hg.2 (by simpa using ho)
  have e : cur' = (patch cs o vs).toArray := by
    apply Array.ext'
    rw [h5]; simp [patch]
  have far : ∀ k, k ≠ g → (w.setCells g o vs).heap[k]? = w.heap[k]? := fun k hk => setCells_far vs o k hk
  refine ⟨⟨s1.trans h.below.os, s2.trans h.below.tape, s3.trans h.below.output, by rw [s4]; exact h.below.size, fun k hk => ?_⟩, fun b hb => ?_, by rw [hs.map]; exact h.nodup, fun r hr => ⟨?_, fun k hk => by rw [s4]; exact (h.row r hr).2.1 k hk, fun b hb => ?_⟩⟩
  · rw [far k (by have : w0.heap.size ≤ g := hg.1; omega)]; exact h.below.block k hk
  · rcases hs.other h.nodup _ b hb with rfl | ⟨hb, hne⟩
    · exact ⟨hg.1, by rw [← e]; exact h3⟩
    · exact ⟨(h.blk b hb).1, (far _ hne).trans (h.blk b hb).2⟩
  · refine r.dep w _ (by rw [s4]; exact Nat.le_refl _) (fun k hk => far k (fun ek => ?_)) (h.row r hr).1
    subst ek
    exact (h.row r hr).2.2 _ hs.mem hk
  · rcases hs.other h.nodup _ b hb with rfl | ⟨hb, hne⟩
    · exact fun hk => (h.row r hr).2.2 (g, cs, t) hs.mem hk
    · exact (h.row r hr).2.2 b hb
def Cells (w : World) : List Blk → Prop
  | [] => True
  | b :: bs => ((∀ i, i < b.2.1.length → w.cell? ⟨b.1, i, none⟩ = b.2.1[i]?) ∧ ∀ i, w.frozen? ⟨b.1, i, none⟩ = false) ∧ Cells w bs
theorem cells_of : ∀ (bs : List Blk), (∀ b ∈ bs, w.heap[b.1]? = some (.cells b.2.1.toArray b.2.2 (0, 0))) → Cells w bs
  | [], _ => trivial
  | b :: bs, h => ⟨⟨fun i hi => by rw [blk_cell (h b List.mem_cons_self) i]; simp, fun i => blk_frozen (h b List.mem_cons_self) i⟩, cells_of bs (fun b' hb => h b' (List.mem_cons_of_mem _ hb))⟩
theorem Frame.cells (h : Frame w0 w bs rs) : Cells w bs := cells_of bs (fun b hb => (h.blk b hb).2)
theorem Frame.rowAt (h : Frame w0 w bs rs) {r : Row} (hr : r ∈ rs) : r.holds w := (h.row r hr).1
theorem Frame.add (h : Frame w0 w bs rs) (r : Row) (hr : r.holds w) (hl : ∀ k, r.foot k → k < w.heap.size) (hd : ∀ b ∈ bs, ¬ r.foot b.1) : Frame w0 w bs (r :: rs) :=
  ⟨h.below, h.blk, h.nodup, fun r' hm => (List.mem_cons.1 hm).elim (fun e => by subst e; exact ⟨hr, hl, hd⟩) (fun hm => h.row r' hm)⟩
end
section
variable {P : Program} {ops : Array Oper} {rest : List Oper} {o : Oper} {a : Act} {Q : Exit → Act → World → Prop} {w0 W : World} {bs : List Blk} {rs : List Row}
theorem fr_box (hF : Frame w0 W bs rs) (hgd : o.guard = none) {cs : List Value} {t : TypeId}
    (hrun : (execOp a.eval o).run P W = .ok (.value (.pointer (some ⟨W.heap.size, 0, none⟩))) (W.alloc (.cells cs.toArray t (0, 0))))
    (h : ∀ g w1, Frame w0 w1 ((g, cs, t) :: bs) rs → wpList P ops Q rest (a.put o.dst (.pointer (some ⟨g, 0, none⟩))) w1) : wpList P ops Q (o :: rest) a W :=
  Kd.event_run hgd hrun (h _ _ (hF.alloc cs t))
theorem gate_alloc {t : TypeId} (_ho : o.op = .alloc t) (h : wpList P ops Q (o :: rest) a W) : wpList P ops Q (o :: rest) a W := h
theorem gate_box {t : TypeId} {x : Operand} (_ho : o.op = .box t x) (h : wpList P ops Q (o :: rest) a W) : wpList P ops Q (o :: rest) a W := h
theorem fr_store (hF : Frame w0 W bs rs) {t : TypeId} {p : Tmp} {x : Operand} (ho : o.op = .store t (.tmp p) x) (hN : o.dst = none) (hgd : o.guard = none) {g off : Nat} {tg : TypeId} {u : Value} {seg cs : List Value} {f : List Value → List Blk}
    (hp : a.eval (.tmp p) = .pointer (some ⟨g, off, none⟩)) (hx : a.eval x = u) (hu : u.cells.toList = seg) (ht : (P.info? t).map (·.size) = some seg.length) (h1 : ∀ q ∈ seg, q.oneCell' = true)
    (hs : Spot g tg bs cs f) (hfit : off + seg.length ≤ cs.length)
    (h : ∀ w1, Frame w0 w1 (f (patch cs off seg)) rs → wpList P ops Q rest a w1) : wpList P ops Q (o :: rest) a W := by
  have hg := hF.blk _ hs.mem
  have hrun : (execOp a.eval o).run P W = .ok .skip (W.setCells g off seg) := by
    have := run_store_run (P := P) t u seg hg.2 hu ht (by simpa using hfit) h1
    simp only [execOp, ho, hp, hx]
    simp [this]
  exact store_event hgd ho hN hrun (fun w' e => by subst e; exact h _ (hF.put hs off seg hfit))
end
theorem Frame.noRows {w0 w : World} {bs : List Blk} {rs : List Row} (h : Frame w0 w bs rs) : Frame w0 w bs [] := ⟨h.below, h.blk, h.nodup, by simp⟩
theorem Frame.drop {w0 w : World} {b : Blk} {bs : List Blk} {rs : List Row} (h : Frame w0 w (b :: bs) rs) : Frame w0 w bs rs :=
  ⟨h.below, fun b' hb => h.blk b' (List.mem_cons_of_mem _ hb), (List.nodup_cons.1 h.nodup).2, fun r hr => ⟨(h.row r hr).1, (h.row r hr).2.1, fun b' hb => (h.row r hr).2.2 b' (List.mem_cons_of_mem _ hb)⟩⟩
section
variable {P : Program} {ops : Array Oper} {rest : List Oper} {o : Oper} {a : Act} {Q : Exit → Act → World → Prop} {w0 W : World} {bs : List Blk}
end
section
variable {P : Program} {ops : Array Oper} {rest : List Oper} {o : Oper} {a : Act} {w0 W : World} {bs : List Blk} {rs : List Row} {Qn : Act → Prop}
theorem fr_region {id : Nat} {Q : Exit → Act → World → Prop} {l : List Oper} (hm : P.follows .mixedOrders = true) (hB : Region.lexB .any l.toArray = true) (hF : Frame w0 W bs rs)
    (h : wpQuiet P l.toArray (fun w' => Frame w0 w' bs rs) (fun a' => ∀ w', Frame w0 w' bs rs → Q .normal a' w') l a) : (Code.region id l.toArray true).wp P Q a W :=
  wp_region_quiet (C := fun w' => Frame w0 w' bs rs) hm hB (hF.drewN 1) (by simpa using h)
theorem fr_q_skip (hw : Region.wanted o (yielded ops a.tmps) = false) (h : wpQuiet P ops (fun w' => Frame w0 w' bs rs) Qn rest (a.put o.dst undef)) : wpQuiet P ops (fun w' => Frame w0 w' bs rs) Qn (o :: rest) a := by
  unfold wpQuiet
  rw [hw]
  exact h
theorem fr_q_val {v : Value} (hw : Region.wanted o (yielded ops a.tmps) = true) (hv : ∀ W, Frame w0 W bs rs → (execOp a.eval o).run P W = .ok (.value v) W) (h : wpQuiet P ops (fun w' => Frame w0 w' bs rs) Qn rest (a.put o.dst v)) : wpQuiet P ops (fun w' => Frame w0 w' bs rs) Qn (o :: rest) a := by
  unfold wpQuiet
  rw [hw, if_pos rfl]
  refine ⟨v, fun W hW => ?_, h⟩
  unfold Oper.quietAt
  rw [hv W hW]
  exact ⟨rfl, rfl⟩
theorem fr_q_call {f : FuncId} {args : Array Value} {v : Value} (hw : Region.wanted o (yielded ops a.tmps) = true) (hv : ∀ W, Frame w0 W bs rs → (execOp a.eval o).run P W = .ok (.enter f args) W)
    (hc : ∀ W, Frame w0 W bs rs → Calls P f args W fun e W' => e = .returned v ∧ Below W.heap.size W W') (h : wpQuiet P ops (fun w' => Frame w0 w' bs rs) Qn rest (a.put o.dst v)) : wpQuiet P ops (fun w' => Frame w0 w' bs rs) Qn (o :: rest) a := by
  unfold wpQuiet
  rw [hw, if_pos rfl]
  refine ⟨v, fun W hW => ?_, h⟩
  unfold Oper.quietAt
  rw [hv W hW]
  exact ⟨rfl, (hc W hW).mono fun e W' ⟨he, hb⟩ => ⟨he, hW.call hb⟩⟩
theorem gate_qcallee {f : FuncId} {aops : Array Operand} {ts : Array TypeId} (_ho : o.op = .call { callee := .value (.func f), args := aops, argTypes := ts }) (h : wpQuiet P ops (fun w' => Frame w0 w' bs rs) Qn (o :: rest) a) : wpQuiet P ops (fun w' => Frame w0 w' bs rs) Qn (o :: rest) a := h
end
theorem nf {t : Bool} (h : (!t) = false) : t = true := by simpa using h
theorem nt {t : Bool} (h : (!t) = true) : ¬ t = true := by simpa using h
theorem ff {t : Bool} (h : t = false) : ¬ t = true := by simp [h]
theorem nef {α : Type} [BEq α] [LawfulBEq α] {a b : α} (h : (a != b) = false) : a = b := by simpa using h
theorem net {α : Type} [BEq α] [LawfulBEq α] {a b : α} (h : (a != b) = true) : ¬ a = b := by simpa using h
theorem eqt {α : Type} [BEq α] [LawfulBEq α] {a b : α} (h : (a == b) = true) : a = b := by simpa using h
theorem eqf {α : Type} [BEq α] [LawfulBEq α] {a b : α} (h : (a == b) = false) : ¬ a = b := by simpa using h
theorem pos2 {p : Prop} [Decidable p] (h : (!decide p) = false) : p := by simpa using h
theorem neg2 {p : Prop} [Decidable p] (h : (!decide p) = true) : ¬ p := by simpa using h
theorem dneg {p : Prop} [Decidable p] (h : ¬ p) : ¬ decide p = true := by simpa using h
end Go.Proofs.Ytkphinfijppkeaa.Fr
namespace Go.Proofs.Ytkphinfijppkeaa.G
open Go.RowKit Go.Proofs.YtkphinfijppkeaaW.PrintWords Go.Proofs.YtkphinfijppkeaaW.PrintLast Go.Proofs.YtkphinfijppkeaaW.PrintMore
attribute [local go_sem] max2_int min2_int max_two min_two max_three min_three max_four min_four   -- for this text's walks alone
set_option linter.unusedVariables false
set_option linter.unusedSimpArgs false
def errW : Option Int → Value
  | none => .nilIface
  | some c => .iface 0 (.int .i64 c)
theorem errW_none : errW none = .nilIface := rfl
theorem errW_some (c : Int) : errW (some c) = .iface 0 (.int .i64 c) := rfl
theorem info92 : (Try.prog.info? 92).map (fun i => (i.zero, i.size, i.bytes)) = some (some (.agg #[(.string ⟨#[]⟩), (.string ⟨#[]⟩)]), 2, 32) := by kernel_rfl
structure S88 where
  f0 : Int
  f1 : ByteArray
  f2 : ByteArray
def z88 : S88 := ⟨(0 : Int), (⟨#[]⟩ : ByteArray), (⟨#[]⟩ : ByteArray)⟩
def k88 : Kd S88 := Kd.iso (Kd.pair (Kd.int .i64) (Kd.pair Kd.string Kd.string)) (fun x : S88 => (x.f0, x.f1, x.f2))
theorem k88_open {w : World} {x : S88} {cs : List Value} (h : k88.K w x cs) : cs = [.int .i64 x.f0, .string x.f1, .string x.f2] := by
  obtain ⟨_, _, rfl, rfl, ⟨_, _, rfl, rfl, rfl⟩⟩ := h
  exact rfl
theorem k88_mk (w : World) (x : S88)  : k88.K w x [.int .i64 x.f0, .string x.f1, .string x.f2] := ⟨[.int .i64 x.f0], [.string x.f1, .string x.f2], rfl, rfl, ⟨[.string x.f1], [.string x.f2], rfl, rfl, rfl⟩⟩
def rd_T88 (xs : List S88) (i : Int) : S88 := xs.getD i.toNat z88
theorem at_T88 {w : World} {A : Option Addr} {n : Nat} {xs : List S88} (h : Kd.C k88 w A n xs) (i : Int) (h0 : 0 ≤ i) (h1 : i < n) : ∃ ad , A = some ad ∧ w.cell? (ad.add (i.toNat * 3)) = some (.int .i64 (rd_T88 xs i).f0) ∧ w.cell? ⟨(ad.add (i.toNat * 3)).block, (ad.add (i.toNat * 3)).off + 1, none⟩ = some (.string (rd_T88 xs i).f1) ∧ w.cell? ⟨(ad.add (i.toNat * 3)).block, (ad.add (i.toNat * 3)).off + 2, none⟩ = some (.string (rd_T88 xs i).f2) := by
  obtain ⟨ad, c, e, _, hK, hc0⟩ := Kd.C_get h z88 i h0 h1
  have hc : ∀ j u, c[j]? = some u → w.cell? (ad.add (i.toNat * 3 + j)) = some u := hc0
  obtain rfl := k88_open hK
  exact ⟨ad, e, hc 0 _ rfl, by rw [← add_field _ _ 1 (by omega)]; exact hc 1 _ rfl, by rw [← add_field _ _ 2 (by omega)]; exact hc 2 _ rfl⟩
structure S92 where
  f0 : ByteArray
  f1 : ByteArray
def z92 : S92 := ⟨(⟨#[]⟩ : ByteArray), (⟨#[]⟩ : ByteArray)⟩
def k92 : Kd S92 := Kd.iso (Kd.pair Kd.string Kd.string) (fun x : S92 => (x.f0, x.f1))
theorem k92_open {w : World} {x : S92} {cs : List Value} (h : k92.K w x cs) : cs = [.string x.f0, .string x.f1] := by
  obtain ⟨_, _, rfl, rfl, rfl⟩ := h
  exact rfl
theorem k92_mk (w : World) (x : S92)  : k92.K w x [.string x.f0, .string x.f1] := ⟨[.string x.f0], [.string x.f1], rfl, rfl, rfl⟩
def rd_T92 (xs : List S92) (i : Int) : S92 := xs.getD i.toNat z92
theorem at_T92 {w : World} {A : Option Addr} {n : Nat} {xs : List S92} (h : Kd.C k92 w A n xs) (i : Int) (h0 : 0 ≤ i) (h1 : i < n) : ∃ ad , A = some ad ∧ w.cell? (ad.add (i.toNat * 2)) = some (.string (rd_T92 xs i).f0) ∧ w.cell? ⟨(ad.add (i.toNat * 2)).block, (ad.add (i.toNat * 2)).off + 1, none⟩ = some (.string (rd_T92 xs i).f1) := by
  obtain ⟨ad, c, e, _, hK, hc0⟩ := Kd.C_get h z92 i h0 h1
  have hc : ∀ j u, c[j]? = some u → w.cell? (ad.add (i.toNat * 2 + j)) = some u := hc0
  obtain rfl := k92_open hK
  exact ⟨ad, e, hc 0 _ rfl, by rw [← add_field _ _ 1 (by omega)]; exact hc 1 _ rfl⟩
structure S74 where
  f0 : Int
  f1 : Int
  f2 : Int
def z74 : S74 := ⟨(0 : Int), (0 : Int), (0 : Int)⟩
def k74 : Kd S74 := Kd.iso (Kd.pair (Kd.int .i64) (Kd.pair (Kd.int .i64) (Kd.int .i64))) (fun x : S74 => (x.f0, x.f1, x.f2))
theorem k74_open {w : World} {x : S74} {cs : List Value} (h : k74.K w x cs) : cs = [.int .i64 x.f0, .int .i64 x.f1, .int .i64 x.f2] := by
  obtain ⟨_, _, rfl, rfl, ⟨_, _, rfl, rfl, rfl⟩⟩ := h
  exact rfl
theorem k74_mk (w : World) (x : S74)  : k74.K w x [.int .i64 x.f0, .int .i64 x.f1, .int .i64 x.f2] := ⟨[.int .i64 x.f0], [.int .i64 x.f1, .int .i64 x.f2], rfl, rfl, ⟨[.int .i64 x.f1], [.int .i64 x.f2], rfl, rfl, rfl⟩⟩
structure S76 where
  f0 : ByteArray
  f1 : S74
  f2 : Int
  f3 : Int
  f4 : Int
  f5 : Int
  f6 : Int
def z76 : S76 := ⟨(⟨#[]⟩ : ByteArray), z74, (0 : Int), (0 : Int), (0 : Int), (0 : Int), (0 : Int)⟩
def k76 : Kd S76 := Kd.iso (Kd.pair Kd.string (Kd.pair k74 (Kd.pair (Kd.int .i64) (Kd.pair (Kd.int .i64) (Kd.pair (Kd.int .i64) (Kd.pair (Kd.int .i64) (Kd.int .i64))))))) (fun x : S76 => (x.f0, x.f1, x.f2, x.f3, x.f4, x.f5, x.f6))
theorem k76_open {w : World} {x : S76} {cs : List Value} (h : k76.K w x cs) : cs = [.string x.f0, .int .i64 x.f1.f0, .int .i64 x.f1.f1, .int .i64 x.f1.f2, .int .i64 x.f2, .int .i64 x.f3, .int .i64 x.f4, .int .i64 x.f5, .int .i64 x.f6] := by
  obtain ⟨_, _, rfl, rfl, ⟨_, _, rfl, s1, ⟨_, _, rfl, rfl, ⟨_, _, rfl, rfl, ⟨_, _, rfl, rfl, ⟨_, _, rfl, rfl, rfl⟩⟩⟩⟩⟩⟩ := h
  obtain rfl := k74_open s1
  exact rfl
theorem k76_mk (w : World) (x : S76)  : k76.K w x [.string x.f0, .int .i64 x.f1.f0, .int .i64 x.f1.f1, .int .i64 x.f1.f2, .int .i64 x.f2, .int .i64 x.f3, .int .i64 x.f4, .int .i64 x.f5, .int .i64 x.f6] := ⟨[.string x.f0], [.int .i64 x.f1.f0, .int .i64 x.f1.f1, .int .i64 x.f1.f2, .int .i64 x.f2, .int .i64 x.f3, .int .i64 x.f4, .int .i64 x.f5, .int .i64 x.f6], rfl, rfl, ⟨[.int .i64 x.f1.f0, .int .i64 x.f1.f1, .int .i64 x.f1.f2], [.int .i64 x.f2, .int .i64 x.f3, .int .i64 x.f4, .int .i64 x.f5, .int .i64 x.f6], rfl, (k74_mk w x.f1 ), ⟨[.int .i64 x.f2], [.int .i64 x.f3, .int .i64 x.f4, .int .i64 x.f5, .int .i64 x.f6], rfl, rfl, ⟨[.int .i64 x.f3], [.int .i64 x.f4, .int .i64 x.f5, .int .i64 x.f6], rfl, rfl, ⟨[.int .i64 x.f4], [.int .i64 x.f5, .int .i64 x.f6], rfl, rfl, ⟨[.int .i64 x.f5], [.int .i64 x.f6], rfl, rfl, rfl⟩⟩⟩⟩⟩⟩
def rd_T76 (xs : List S76) (i : Int) : S76 := xs.getD i.toNat z76
theorem at_T76 {w : World} {A : Option Addr} {n : Nat} {xs : List S76} (h : Kd.C k76 w A n xs) (i : Int) (h0 : 0 ≤ i) (h1 : i < n) : ∃ ad , A = some ad ∧ w.cell? (ad.add (i.toNat * 9)) = some (.string (rd_T76 xs i).f0) ∧ w.cell? ⟨(ad.add (i.toNat * 9)).block, (ad.add (i.toNat * 9)).off + 1, none⟩ = some (.int .i64 (rd_T76 xs i).f1.f0) ∧ w.cell? ⟨(ad.add (i.toNat * 9)).block, (ad.add (i.toNat * 9)).off + 2, none⟩ = some (.int .i64 (rd_T76 xs i).f1.f1) ∧ w.cell? ⟨(ad.add (i.toNat * 9)).block, (ad.add (i.toNat * 9)).off + 3, none⟩ = some (.int .i64 (rd_T76 xs i).f1.f2) ∧ w.cell? ⟨(ad.add (i.toNat * 9)).block, (ad.add (i.toNat * 9)).off + 4, none⟩ = some (.int .i64 (rd_T76 xs i).f2) ∧ w.cell? ⟨(ad.add (i.toNat * 9)).block, (ad.add (i.toNat * 9)).off + 5, none⟩ = some (.int .i64 (rd_T76 xs i).f3) ∧ w.cell? ⟨(ad.add (i.toNat * 9)).block, (ad.add (i.toNat * 9)).off + 6, none⟩ = some (.int .i64 (rd_T76 xs i).f4) ∧ w.cell? ⟨(ad.add (i.toNat * 9)).block, (ad.add (i.toNat * 9)).off + 7, none⟩ = some (.int .i64 (rd_T76 xs i).f5) ∧ w.cell? ⟨(ad.add (i.toNat * 9)).block, (ad.add (i.toNat * 9)).off + 8, none⟩ = some (.int .i64 (rd_T76 xs i).f6) := by
  obtain ⟨ad, c, e, _, hK, hc0⟩ := Kd.C_get h z76 i h0 h1
  have hc : ∀ j u, c[j]? = some u → w.cell? (ad.add (i.toNat * 9 + j)) = some u := hc0
  obtain rfl := k76_open hK
  exact ⟨ad, e, hc 0 _ rfl, by rw [← add_field _ _ 1 (by omega)]; exact hc 1 _ rfl, by rw [← add_field _ _ 2 (by omega)]; exact hc 2 _ rfl, by rw [← add_field _ _ 3 (by omega)]; exact hc 3 _ rfl, by rw [← add_field _ _ 4 (by omega)]; exact hc 4 _ rfl, by rw [← add_field _ _ 5 (by omega)]; exact hc 5 _ rfl, by rw [← add_field _ _ 6 (by omega)]; exact hc 6 _ rfl, by rw [← add_field _ _ 7 (by omega)]; exact hc 7 _ rfl, by rw [← add_field _ _ 8 (by omega)]; exact hc 8 _ rfl⟩
structure S58 where
  f0 : (List Int)
  f1 : (List S88)
def z58 : S58 := ⟨([] : List Int), ([] : List S88)⟩
def k58 : Kd S58 := Kd.iso (Kd.pair (Kd.slice 3 (Kd.int .i64)) (Kd.slice 88 k88)) (fun x : S58 => (x.f0, x.f1))
theorem k58_open {w : World} {x : S58} {cs : List Value} (h : k58.K w x cs) : ∃ A0 c0 A1 c1, cs = [.slice A0 x.f0.length c0, .slice A1 x.f1.length c1] ∧ x.f0.length ≤ c0 ∧ (Kd.int .i64).C w A0 x.f0.length x.f0 ∧ x.f1.length ≤ c1 ∧ k88.C w A1 x.f1.length x.f1 := by
  obtain ⟨_, _, rfl, ⟨A0, c0, rfl, l0, g0⟩, ⟨A1, c1, rfl, l1, g1⟩⟩ := h
  exact ⟨A0, c0, A1, c1, rfl, l0, g0, l1, g1⟩
theorem k58_mk (w : World) (x : S58) {A0 : Option Addr} {c0 : Nat} (l0 : x.f0.length ≤ c0) (g0 : (Kd.int .i64).C w A0 x.f0.length x.f0) {A1 : Option Addr} {c1 : Nat} (l1 : x.f1.length ≤ c1) (g1 : k88.C w A1 x.f1.length x.f1) : k58.K w x [.slice A0 x.f0.length c0, .slice A1 x.f1.length c1] := ⟨[.slice A0 x.f0.length c0], [.slice A1 x.f1.length c1], rfl, ⟨A0, c0, rfl, l0, g0⟩, ⟨A1, c1, rfl, l1, g1⟩⟩
def rd_T58 (xs : List S58) (i : Int) : S58 := xs.getD i.toNat z58
theorem at_T58 {w : World} {A : Option Addr} {n : Nat} {xs : List S58} (h : Kd.C k58 w A n xs) (i : Int) (h0 : 0 ≤ i) (h1 : i < n) : ∃ ad A0 c0 A1 c1, A = some ad ∧ w.cell? (ad.add (i.toNat * 2)) = some (.slice A0 (rd_T58 xs i).f0.length c0) ∧ w.cell? ⟨(ad.add (i.toNat * 2)).block, (ad.add (i.toNat * 2)).off + 1, none⟩ = some (.slice A1 (rd_T58 xs i).f1.length c1) ∧ (rd_T58 xs i).f0.length ≤ c0 ∧ (Kd.int .i64).C w A0 (rd_T58 xs i).f0.length (rd_T58 xs i).f0 ∧ (rd_T58 xs i).f1.length ≤ c1 ∧ k88.C w A1 (rd_T58 xs i).f1.length (rd_T58 xs i).f1 := by
  obtain ⟨ad, c, e, _, hK, hc0⟩ := Kd.C_get h z58 i h0 h1
  have hc : ∀ j u, c[j]? = some u → w.cell? (ad.add (i.toNat * 2 + j)) = some u := hc0
  obtain ⟨A0, c0, A1, c1, rfl, l0, g0, l1, g1⟩ := k58_open hK
  exact ⟨ad, A0, c0, A1, c1, e, hc 0 _ rfl, by rw [← add_field _ _ 1 (by omega)]; exact hc 1 _ rfl, l0, g0, l1, g1⟩
def PredInt (g : Nat) (p : Int → Bool) : Prop := ∀ (x : Int) (w : World), Calls Try.prog g #[.int .i64 x] w fun e w' => e = .returned (.bool (p x)) ∧ Drawn0 w w'
def idxP {α : Type} (p : α → Bool) (l : List α) : Int := match l.findIdx? p with | some i => (i : Int) | none => -1
theorem idxP_hit (p : Int → Bool) (l : List Int) (k : Nat) (hk : k < l.length) (h : ∀ j, j < k → p (rd l (j : Int)) = false) (hp : p (rd l (k : Int)) = true) : (k : Int) = idxP p l := by
  have e : l.findIdx? p = some k := by
    rw [List.findIdx?_eq_some_iff_getElem]
    refine ⟨hk, ?_, ?_⟩
    · simpa [rd, List.getD_eq_getElem?_getD, hk] using hp
    · intro j hj
      have := h j hj
      have hjl : j < l.length := by omega
      simp [rd, List.getD_eq_getElem?_getD, hjl] at this
      simp [this]
  simp [idxP, e]
theorem idxP_miss (p : Int → Bool) (l : List Int) (h : ∀ j, j < l.length → p (rd l (j : Int)) = false) : -1 = idxP p l := by
  have e : l.findIdx? p = none := by
    rw [List.findIdx?_eq_none_iff]
    intro x hx
    obtain ⟨j, hj, rfl⟩ := List.mem_iff_getElem.1 hx
    have := h j hj
    simpa [rd, List.getD_eq_getElem?_getD, hj] using this
  simp [idxP, e]
theorem idxP_any {α : Type} (p : α → Bool) (l : List α) : l.any p = decide (idxP p l ≥ 0) := by
  unfold idxP
  cases h : l.findIdx? p with
  | none =>
    rw [List.findIdx?_eq_none_iff] at h
    simp only [ge_iff_le, Int.reduceLE, decide_false]
    rw [List.any_eq_false]
    intro x hx; simp [h x hx]
  | some i =>
    obtain ⟨hi, hpi, _⟩ := List.findIdx?_eq_some_iff_getElem.1 h
    have : l.any p = true := List.any_eq_true.2 ⟨l[i], List.getElem_mem _, hpi⟩
    rw [this]; simp
theorem ret_int64 {a b : Int} (h : a = b) : Ending.returned (.int .i64 a) = .returned (.int .i64 b) := by rw [h]
@[go_sem] theorem isSome_setCell (w : World) (a b : Addr) (v : Value) : ((w.setCell a v).cell? b).isSome = (w.cell? b).isSome := by
  unfold World.cell? World.setCell
  simp only [Array.getElem?_modify]
  by_cases hb : a.block = b.block
  · rw [if_pos hb]
    cases h : w.heap[b.block]? with
    | none => rfl
    | some o =>
      cases o with
      | cells c e f =>
        simp only [Option.map_some]
        by_cases hs : b.spot.isSome = true
        · simp [hs]
        · by_cases ha : a.spot.isSome = true
          · simp [ha]
          · simp only [ha, hs]
            simp only [Bool.false_eq_true, if_false, Array.getElem?_setIfInBounds]
            split
            · split <;> simp_all
            · rfl
      | _ => rfl
  · rw [if_neg hb]
theorem bytesLess_three : ∀ a b : List UInt8, (Op.bytesLess a b = true ∧ a ≠ b ∧ Op.bytesLess b a = false) ∨ (a = b ∧ Op.bytesLess a b = false ∧ Op.bytesLess b a = false) ∨ (Op.bytesLess b a = true ∧ a ≠ b ∧ Op.bytesLess a b = false)
  | [], [] => .inr (.inl ⟨rfl, rfl, rfl⟩)
  | [], b :: y => .inl ⟨rfl, by simp, rfl⟩
  | a :: x, [] => .inr (.inr ⟨rfl, by simp, rfl⟩)
  | a :: x, b :: y => by
    have ih := bytesLess_three x y
    simp only [Op.bytesLess, Bool.or_eq_true, Bool.and_eq_true, Bool.or_eq_false_iff, Bool.and_eq_false_iff, decide_eq_true_eq, decide_eq_false_iff_not, beq_iff_eq, beq_eq_false_iff_ne, ne_eq, List.cons.injEq]
    by_cases e : a = b
    · subst e
      have := UInt8.lt_irrefl a
      simp only [this, true_and, false_or, not_false_iff, not_true]
      rcases ih with h | h | h
      · exact .inl ⟨h.1, h.2.1, h.2.2⟩
      · exact .inr (.inl ⟨h.1, h.2.1, h.2.2⟩)
      · exact .inr (.inr ⟨h.1, h.2.1, h.2.2⟩)
    · have e' : ¬ b = a := fun h => e h.symm
      simp only [e, e', false_and, not_false_iff, true_or, and_true, or_false]
      rcases UInt8.lt_or_lt_of_ne e with h | h
      · exact .inl ⟨h, trivial, UInt8.lt_asymm h⟩
      · exact .inr (.inr ⟨h, trivial, UInt8.lt_asymm h⟩)
@[go_sem] theorem binOp_string_gtr_less (t : TypeId) (a b : ByteArray) : binOp .gtr t (.string a) (.string b) = pure (.bool (Op.bytesLess b.toList a.toList)) := by
  have h : (!(Op.bytesLess a.toList b.toList || a.toList == b.toList)) = Op.bytesLess b.toList a.toList := by
    rcases bytesLess_three a.toList b.toList with ⟨h1, h2, h3⟩ | ⟨h1, h2, h3⟩ | ⟨h1, h2, h3⟩ <;> (rw [h3]; first | (rw [h2]; simp [h1]; done) | (simp [h1, h2]; done))
  rw [← h]; simp [binOp, Op.stringOp]
end Go.Proofs.Ytkphinfijppkeaa.G
namespace Go.Proofs.Ytkphinfijppkeaa.Op
open Go.ChangeShapes Go.WideShapes Go.ChangeAt Go.RowKit Go.Deep Go.Proofs.YtkphinfijppkeaaW.PrintWords
set_option linter.unusedVariables false
def Opens {α : Type} (P : Program) (w : World) (t : TypeId) (d : Kd α) (wf : α → Prop) : Prop :=
  ∀ (H : Type) (enc : TypeId × Value → H) (base : Nat) (spare : Nat → Bool) (held : Bool) (fuel : Nat) (cs : List Value) (x : DataW H × List MemPlace), DataW.trod enc P w base spare held fuel t cs = some x → ∃ y, d.K w y cs ∧ wf y
section
variable {P : Program} {w : World} {t e : TypeId} {α β : Type}
theorem opens_int {k : IntKind} (ht : P.underlying t = some (.int k)) : Opens P w t (Kd.int k) (fun n => (Lit.int k n).wf = true) := by
  intro H enc base spare held fuel cs x h
  obtain ⟨n, rfl, _, hw⟩ := DataW.trod_int ht h
  exact ⟨n, rfl, hw⟩
theorem opens_string (ht : P.underlying t = some .string) : Opens P w t Kd.string (fun s => s.size ≤ maxLen) := by
  intro H enc base spare held fuel cs x h
  obtain ⟨n, rfl, _, hw⟩ := DataW.trod_string ht h
  exact ⟨n, rfl, hw⟩
theorem choose_row {p : Nat → α → Prop} : ∀ (n : Nat), (∀ i, i < n → ∃ y, p i y) → ∃ ys : List α, ys.length = n ∧ ∀ i y, ys[i]? = some y → p i y
  | 0, _ => ⟨[], rfl, fun i y h => by simp at h⟩
  | n + 1, h => by
    obtain ⟨ys, hl, hy⟩ := choose_row n (fun i hi => h i (by omega))
    obtain ⟨y, hn⟩ := h n (by omega)
    refine ⟨ys ++ [y], by simp [hl], fun i z hz => ?_⟩
    by_cases hi : i < n
    · rw [List.getElem?_append_left (by omega)] at hz
      exact hy i z hz
    · have hin : i = n := by
        have := (List.getElem?_eq_some_iff.1 hz).1
        simp at this; omega
      subst hin
      rw [List.getElem?_append_right (by omega), hl] at hz
      simp at hz
      subst hz
      exact hn
theorem opens_slice {d : Kd α} {wf : α → Prop} (ht : P.underlying t = some (.slice e)) (hd : Opens P w e d wf) (hc : P.cellsOf e = d.sz) : Opens P w t (Kd.slice e d) (fun l => l.length ≤ maxLen ∧ ∀ x ∈ l, wf x) := by
  intro H enc base spare held fuel cs x h
  rcases open_slice ht h with ⟨rfl, _⟩ | ⟨a, len, cap, m, n, D, Pl, rfl, hb, hl, hm, hmm, hx, hi⟩
  · exact ⟨[], ⟨none, 0, rfl, Nat.le_refl _, rfl, by simp, fun h => absurd h (by simp)⟩, by simp [maxLen], by simp⟩
  · have hlm : len ≤ m := by rw [hmm]; split <;> omega
    obtain ⟨ys, hyl, hy⟩ := choose_row (p := fun i y => ∃ c, w.cells? base (a.add (i * P.cellsOf e)) (P.cellsOf e) = some c ∧ d.K w y c ∧ wf y) len (fun i hil => by
      obtain ⟨c, h1, h2⟩ := hi i (by omega)
      obtain ⟨y, h3, h4⟩ := hd _ _ _ _ _ _ _ _ h2
      exact ⟨y, c, h1, h3, h4⟩)
    have hmax : len ≤ maxLen := Nat.le_trans hl hm
    refine ⟨ys, ⟨some a, cap, by rw [hyl], by omega, rfl, by rw [hyl]; unfold maxLen at hmax; omega, fun _ => ⟨a, rfl, fun j p hj => ?_⟩⟩, by omega, fun z hz => ?_⟩
    · obtain ⟨c, h1, h2, _⟩ := hy j p hj
      obtain ⟨_, h4, h5⟩ := World.cells?_some h1
      refine ⟨c, d.K_len h2, h2, fun i u hu => ?_⟩
      have hic : i < P.cellsOf e := by rw [← h4]; exact (List.getElem?_eq_some_iff.1 hu).1
      have h6 := h5 i hic
      rw [Go.Deep.add_add, hc] at h6
      rw [h6, hu]
    · obtain ⟨i, hil, rfl⟩ := List.mem_iff_getElem.1 hz
      obtain ⟨c, _, _, h3⟩ := hy i _ (List.getElem?_eq_getElem hil)
      exact h3
def OpensAt (P : Program) (w : World) (o : Nat) (fs : List (Nat × TypeId)) (d : Kd α) (wf : α → Prop) : Prop :=
  ∀ (H : Type) (enc : TypeId × Value → H) (base : Nat) (spare : Nat → Bool) (held : Bool) (n : Nat) (cs : List Value), (∀ f ∈ fs, ∃ x, DataW.trod enc P w base spare held n f.2 ((cs.drop f.1).take (P.cellsOf f.2)) = some x) → cs.length = o + d.sz → ∃ y, d.K w y (cs.drop o) ∧ wf y
theorem opens_last {o : Nat} {d : Kd α} {wf : α → Prop} (hd : Opens P w t d wf) (hc : P.cellsOf t = d.sz) : OpensAt P w o [(o, t)] d wf := by
  intro H enc base spare held n cs hf hl
  obtain ⟨x, hx⟩ := hf (o, t) (by simp)
  obtain ⟨y, h1, h2⟩ := hd _ _ _ _ _ _ _ _ hx
  refine ⟨y, ?_, h2⟩
  simp only at h1
  rwa [List.take_of_length_le (by rw [List.length_drop, hc]; omega)] at h1
theorem opens_cons {o o1 : Nat} {fs : List (Nat × TypeId)} {a : Kd α} {b : Kd β} {wfa : α → Prop} {wfb : β → Prop} (ha : Opens P w t a wfa) (hc : P.cellsOf t = a.sz) (ho : o1 = o + a.sz) (hb : OpensAt P w o1 fs b wfb) :
    OpensAt P w o ((o, t) :: fs) (Kd.pair a b) (fun p => wfa p.1 ∧ wfb p.2) := by
  intro H enc base spare held n cs hf hl
  have hl' : cs.length = o + (a.sz + b.sz) := hl
  obtain ⟨x, hx⟩ := hf (o, t) (by simp)
  obtain ⟨y, h1, h2⟩ := ha _ _ _ _ _ _ _ _ hx
  obtain ⟨z, h3, h4⟩ := hb _ _ _ _ _ n cs (fun f hm => hf f (List.mem_cons_of_mem _ hm)) (by omega)
  simp only [hc] at h1
  subst ho
  exact ⟨(y, z), ⟨_, _, by rw [← List.drop_drop, List.take_append_drop], h1, h3⟩, h2, h4⟩
theorem opens_struct {fs : Array Field} {d : Kd α} {wf : α → Prop} {f : β → α} (g : α → β) (hg : ∀ y, f (g y) = y) (ht : P.underlying t = some (.struct fs)) (hc : P.cellsOf t = d.sz) {l : List (Nat × TypeId)} (hl : l = fs.toList.map fun x => (x.offset, x.type)) (hF : OpensAt P w 0 l d wf) :
    Opens P w t (Kd.iso d f) (fun x => wf (f x)) := by
  intro H enc base spare held fuel cs x h
  obtain ⟨xs, n, _, _, hlen, hxl, hf⟩ := DataW.trod_struct ht h
  obtain ⟨y, h1, h2⟩ := hF H enc base spare held n cs (fun p hp => by
    subst hl
    obtain ⟨fd, hm, rfl⟩ := List.mem_map.1 hp
    obtain ⟨i, hi, rfl⟩ := List.mem_iff_getElem.1 hm
    have hi' : i < fs.size := by simpa using hi
    refine ⟨_, (hf i _ (by simp [hi'])).trans (List.getElem?_eq_getElem (by omega))⟩) (by omega)
  refine ⟨g y, ?_, by show wf (f (g y)); rw [hg]; exact h2⟩
  show d.K w (f (g y)) cs
  rw [hg]
  simpa using h1
theorem Opens.imp {d : Kd α} {wf wf' : α → Prop} (h : Opens P w t d wf) (hi : ∀ x, wf x → wf' x) : Opens P w t d wf' := by
  intro H enc base spare held fuel cs x hx
  obtain ⟨y, h1, h2⟩ := h _ _ _ _ _ _ _ _ hx
  exact ⟨y, h1, hi y h2⟩
end
end Go.Proofs.Ytkphinfijppkeaa.Op
namespace Go.Proofs.Ytkphinfijppkeaa.Op
open Go.ChangeShapes Go.WideShapes Go.ChangeAt Go.RowKit Go.Deep Go.Proofs.YtkphinfijppkeaaW.PrintWords Go.Proofs.Ytkphinfijppkeaa.G
set_option linter.unusedVariables false
structure S69 where
  f0 : (List S92)
  f1 : Int
  f2 : Int
  f3 : Int
  f4 : Int
  f5 : Int
def k69 : Kd S69 := Kd.iso (Kd.pair (Kd.slice 92 k92) (Kd.pair (Kd.int .i64) (Kd.pair (Kd.int .i64) (Kd.pair (Kd.int .i64) (Kd.pair (Kd.int .i64) (Kd.int .i64)))))) (fun x : S69 => (x.f0, x.f1, x.f2, x.f3, x.f4, x.f5))
theorem k69_open {w : World} {x : S69} {cs : List Value} (h : k69.K w x cs) : ∃ A0 c0, cs = [.slice A0 x.f0.length c0, .int .i64 x.f1, .int .i64 x.f2, .int .i64 x.f3, .int .i64 x.f4, .int .i64 x.f5] ∧ x.f0.length ≤ c0 ∧ Kd.C k92 w A0 x.f0.length x.f0 := by
  obtain ⟨_, _, rfl, ⟨A0, c0, rfl, l0, g0⟩, ⟨_, _, rfl, rfl, ⟨_, _, rfl, rfl, ⟨_, _, rfl, rfl, ⟨_, _, rfl, rfl, rfl⟩⟩⟩⟩⟩ := h
  exact ⟨A0, c0, rfl, l0, g0⟩
def wf92 (x : S92) : Prop := (x.f0.size ≤ maxLen) ∧ (x.f1.size ≤ maxLen)
theorem op92 (w : World) : Opens Try.prog w 92 k92 wf92 :=
  opens_struct (fun (y0, y1) => (⟨y0, y1⟩ : S92)) (fun _ => rfl) Try.underlying92 (by kernel_rfl) (l := [(0, 9), (1, 9)]) (by rfl) (opens_cons (opens_string Try.underlying9) (by kernel_rfl) (by kernel_rfl) (opens_last (opens_string Try.underlying9) (by kernel_rfl)))
def wf69 (x : S69) : Prop := (x.f0.length ≤ maxLen ∧ ∀ x_ ∈ x.f0, (wf92 x_)) ∧ ((Lit.int .i64 x.f1).wf = true) ∧ ((Lit.int .i64 x.f2).wf = true) ∧ ((Lit.int .i64 x.f3).wf = true) ∧ ((Lit.int .i64 x.f4).wf = true) ∧ ((Lit.int .i64 x.f5).wf = true)
theorem op69 (w : World) : Opens Try.prog w 69 k69 wf69 :=
  opens_struct (fun (y0, y1, y2, y3, y4, y5) => (⟨y0, y1, y2, y3, y4, y5⟩ : S69)) (fun _ => rfl) Try.underlying69 (by kernel_rfl) (l := [(0, 26), (1, 3), (2, 3), (3, 3), (4, 3), (5, 3)]) (by rfl) (opens_cons (opens_slice Try.underlying26 (op92 w) (by kernel_rfl)) (by kernel_rfl) (by kernel_rfl) (opens_cons (opens_int Try.underlying3) (by kernel_rfl) (by kernel_rfl) (opens_cons (opens_int Try.underlying3) (by kernel_rfl) (by kernel_rfl) (opens_cons (opens_int Try.underlying3) (by kernel_rfl) (by kernel_rfl) (opens_cons (opens_int Try.underlying3) (by kernel_rfl) (by kernel_rfl) (opens_last (opens_int Try.underlying3) (by kernel_rfl)))))))
end Go.Proofs.Ytkphinfijppkeaa.Op
namespace Go.Proofs.Ytkphinfijppkeaa.G
open Go.RowKit Go.Proofs.YtkphinfijppkeaaW.PrintWords Go.Proofs.YtkphinfijppkeaaW.PrintLast Go.Proofs.YtkphinfijppkeaaW.PrintMore
attribute [local go_sem] max2_int min2_int max_two min_two max_three min_three max_four min_four   -- for this text's walks alone
set_option linter.unusedVariables false
set_option linter.unusedSimpArgs false
theorem eqA92 (d : Nat) (w : World) (x0 y0 : ByteArray) (x1 y1 : ByteArray) :
    (Op.equalIn (d + 2) 92 (.agg #[.string x0, .string x1]) (.agg #[.string y0, .string y1])).run Try.prog w = .ok (x0.toList == y0.toList && (x1.toList == y1.toList)) w := by
  refine eqA_of Try.underlying92 (by kernel_rfl) ?_
  refine eqf_cons (by rfl) (by go_simp; rfl) (by go_simp; rfl) (by go_simp) ?_
  exact eqf_last (by rfl) (by go_simp; rfl) (by go_simp; rfl) (by go_simp)
end Go.Proofs.Ytkphinfijppkeaa.G
namespace Go.Proofs.Ytkphinfijppkeaa.Fr
open Go.RowKit Go.Proofs.YtkphinfijppkeaaW.PrintWords
set_option linter.unusedVariables false
section
variable {P : Program}
end
section
variable {P : Program} {ops : Array Oper} {rest : List Oper} {o : Oper} {a : Act} {Q : Exit → Act → World → Prop} {w0 W : World} {bs : List Blk}
theorem Frame.tail {r : Row} {rs : List Row} {w : World} (h : Frame w0 w bs (r :: rs)) : Frame w0 w bs rs := ⟨h.below, h.blk, h.nodup, fun r' hr => h.row r' (List.mem_cons_of_mem _ hr)⟩
theorem Frame.head {r : Row} {rs : List Row} {w : World} (h : Frame w0 w bs (r :: rs)) : Frame w0 w bs [r] := ⟨h.below, h.blk, h.nodup, fun r' hr => h.row r' (by rw [List.mem_singleton] at hr; subst hr; exact List.mem_cons_self)⟩
end
end Go.Proofs.Ytkphinfijppkeaa.Fr
namespace Go.Proofs.Ytkphinfijppkeaa.G
open Go.RowKit Go.Proofs.YtkphinfijppkeaaW.PrintWords Go.Proofs.YtkphinfijppkeaaW.PrintLast Go.Proofs.YtkphinfijppkeaaW.PrintMore
attribute [local go_sem] max2_int min2_int max_two min_two max_three min_three max_four min_four
set_option linter.unusedVariables false
set_option linter.unusedSimpArgs false
def lowB (b : UInt8) : Bool := decide (97 ≤ b.toNat) && decide (b.toNat ≤ 122)
def valB (b : UInt8) : Bool := (decide (97 ≤ b.toNat) && decide (b.toNat ≤ 122)) || (decide (48 ≤ b.toNat) && decide (b.toNat ≤ 57)) || decide (b.toNat = 45)
def nameB (s : ByteArray) : Bool := s.data.toList.all lowB && (decide (1 ≤ s.size) && decide (s.size ≤ 8))
def valueB (s : ByteArray) : Bool := s.data.toList.all valB && decide (s.size ≤ 8)
theorem all_at (p : UInt8 → Bool) (s : ByteArray) : s.data.toList.all p = true ↔ ∀ i, (h : i < s.size) → p s[i] = true := by
  rw [List.all_eq_true]
  constructor
  · intro h i hi
    exact h _ (by rw [ByteArray.getElem_eq_getElem_data]; simp)
  · intro h x hx
    obtain ⟨i, hi, rfl⟩ := List.mem_iff_getElem.1 hx
    have := h i (by simpa using hi)
    simpa [ByteArray.getElem_eq_getElem_data] using this
theorem below_iter (w : World) (s : ByteArray) (pos : Nat) : Below w.heap.size w (w.iter s pos) := (Below.refl _ w).alloc (Nat.le_refl _) _
theorem next_rune (w : World) (s : ByteArray) (pos : Nat) (h : pos < s.size) : ∃ r wd : Nat, 1 ≤ wd ∧ (∀ ty, (Instr.next (.pointer (some ⟨w.heap.size, 0, none⟩)) true ty).run Try.prog (w.iter s pos) = .ok (.tuple #[.bool true, .int .i64 pos, .int .i32 (r : Int)]) (w.iter s (pos + wd))) ∧
    ((r < 128 ∧ s[pos].toNat = r ∧ wd = 1) ∨ (128 ≤ r ∧ 128 ≤ s[pos].toNat)) := by
  by_cases ha : s[pos].toNat < 128
  · exact ⟨s[pos].toNat, 1, Nat.le_refl _, fun ty => run_next_ascii w s pos ty h ha, .inl ⟨ha, rfl, rfl⟩⟩
  · have hd := decode_high s pos h (by omega)
    exact ⟨(Utf8.decode s pos).1, (Utf8.decode s pos).2, hd.2, fun ty => run_next_any w s pos ty h, .inr ⟨hd.1, by omega⟩⟩
theorem dec8 (n : Nat) : decide ((n : Int) ≤ 8) = decide (n ≤ 8) := by
  rw [decide_eq_decide]; omega
theorem name_no {s : ByteArray} {pos : Nat} (h : pos < s.size) (hb : ¬ (97 ≤ s[pos].toNat ∧ s[pos].toNat ≤ 122)) : nameB s = false := by
  cases hn : nameB s with
  | false => rfl
  | true =>
    unfold nameB at hn
    rw [Bool.and_eq_true, all_at] at hn
    have := hn.1 pos h
    simp [lowB] at this
    omega
theorem name_end {s : ByteArray} (h : ∀ j, (hj : j < s.size) → 97 ≤ s[j].toNat ∧ s[j].toNat ≤ 122) : nameB s = (decide (1 ≤ s.size) && decide (s.size ≤ 8)) := by
  unfold nameB
  have : s.data.toList.all lowB = true := (all_at lowB s).2 fun i hi => by
    have := h i hi
    simp [lowB, this]
  rw [this, Bool.true_and]
set_option maxHeartbeats 1000000 in
theorem isName_calls (s : ByteArray) (w : World) : Calls Try.prog 109 #[.string s] w fun e w' => e = .returned (.bool (nameB s)) ∧ Below w.heap.size w w' := by
  go_enter Try.func109, Try.ntmps109
  go_wp2
  go_loopw [4] (fun v w' => ∃ pos : Nat, pos ≤ s.size ∧ w' = w.iter s pos ∧ Aside0 (∀ j, (hj : j < s.size) → j < pos → 97 ≤ s[j].toNat ∧ s[j].toNat ≤ 122)) (fun _ w' => s.size - w'.iterPos w.heap.size)
  case atStart => exact ⟨0, Nat.zero_le _, rfl, ⟨fun j _ hj => absurd hj (Nat.not_lt_zero _)⟩⟩
  case round =>
    obtain ⟨pos, hps, rfl, HA⟩ := hrel
    by_cases hp : pos < s.size
    · obtain ⟨r, wd, hwd, hnx, hr⟩ := next_rune w s pos hp
      by_cases hg : 97 ≤ r ∧ r ≤ 122
      · have h1 : s[pos].toNat = r ∧ wd = 1 := by omega
        obtain ⟨hb, rfl⟩ := h1
        have HB := Aside0.mk hb
        have hg1 : (97 : Int) ≤ (r : Int) := by omega
        have hg2 : (r : Int) ≤ 122 := by omega
        have hg3 := hg
        clear hr hb hg
        go_wp2
        go_roundw
        case rel => exact ⟨pos + 1, by omega, rfl, ⟨fun j hj hlt => by
          by_cases e : j = pos
          · subst e; rw [HB.out]; exact hg3
          · exact HA.out j hj (by omega)⟩⟩
        case measure => simp; omega
      · have HV := Aside0.mk (name_no hp (show ¬ (97 ≤ s[pos].toNat ∧ s[pos].toNat ≤ 122) by omega))
        have hB := below_iter w s (pos + wd)
        clear hr
        by_cases hlo : r < 97
        · have hg1 : ((r : Nat) : Int) < 97 := by omega
          clear hg
          go_wp2
          go_ret
          exact ⟨by rw [HV.out]; rfl, hB⟩
        · have hg1 : (97 : Int) ≤ (r : Int) := by omega
          have hg2 : (122 : Int) < (r : Int) := by omega
          clear hg hlo
          go_wp2
          go_ret
          exact ⟨by rw [HV.out]; rfl, hB⟩
    · have hnx : ∀ ty, (Instr.next (.pointer (some ⟨w.heap.size, 0, none⟩)) true ty).run Try.prog (w.iter s pos) = _ := fun ty => run_next_end w s pos ty hp
      have HV := Aside0.mk (name_end (fun j hj => HA.out j hj (by omega)))
      have hB := below_iter w s pos
      by_cases h0 : s.size = 0
      · have hem2 : s.toList = [] := by
          have h : s = ByteArray.empty := by simpa using h0
          rw [ByteArray.toList_eq, h]; rfl
        have hem : s.toList.isEmpty = true := by rw [hem2]; rfl
        have HZ := Aside0.mk h0
        clear h0
        go_wp2
        go_ret
        exact ⟨by rw [HV.out, HZ.out]; rfl, hB⟩
      · have hem : s.toList.isEmpty = false := by
          rw [ByteArray.toList_eq]
          cases hl : s.data.toList with
          | nil => exact absurd (by simpa using congrArg List.length hl) h0
          | cons a b => rfl
        have hem2 : (!s.toList.isEmpty) = true := by rw [hem]; rfl
        have hd1 : decide (1 ≤ s.size) = true := decide_eq_true (by omega)
        have HZ := Aside0.mk hd1
        clear h0 hd1
        go_wp2
        all_goals
          go_ret
          exact ⟨by rw [HV.out, HZ.out, Bool.true_and, ← dec8]; rfl, hB⟩
theorem value_no {s : ByteArray} {pos : Nat} (h : pos < s.size) (hb : ¬ ((97 ≤ s[pos].toNat ∧ s[pos].toNat ≤ 122) ∨ (48 ≤ s[pos].toNat ∧ s[pos].toNat ≤ 57) ∨ s[pos].toNat = 45)) : valueB s = false := by
  cases hn : valueB s with
  | false => rfl
  | true =>
    unfold valueB at hn
    rw [Bool.and_eq_true, all_at] at hn
    have := hn.1 pos h
    simp [valB] at this
    omega
theorem value_end {s : ByteArray} (h : ∀ j, (hj : j < s.size) → (97 ≤ s[j].toNat ∧ s[j].toNat ≤ 122) ∨ (48 ≤ s[j].toNat ∧ s[j].toNat ≤ 57) ∨ s[j].toNat = 45) : valueB s = decide (s.size ≤ 8) := by
  unfold valueB
  have : s.data.toList.all valB = true := (all_at valB s).2 fun i hi => by
    have := h i hi
    simp [valB]; omega
  rw [this, Bool.true_and]
set_option maxHeartbeats 1000000 in
theorem isValue_calls (s : ByteArray) (w : World) : Calls Try.prog 110 #[.string s] w fun e w' => e = .returned (.bool (valueB s)) ∧ Below w.heap.size w w' := by
  go_enter Try.func110, Try.ntmps110
  go_wp2
  go_loopw [4] (fun v w' => ∃ pos : Nat, pos ≤ s.size ∧ w' = w.iter s pos ∧ Aside0 (∀ j, (hj : j < s.size) → j < pos → (97 ≤ s[j].toNat ∧ s[j].toNat ≤ 122) ∨ (48 ≤ s[j].toNat ∧ s[j].toNat ≤ 57) ∨ s[j].toNat = 45)) (fun _ w' => s.size - w'.iterPos w.heap.size)
  case atStart => exact ⟨0, Nat.zero_le _, rfl, ⟨fun j _ hj => absurd hj (Nat.not_lt_zero _)⟩⟩
  case round =>
    obtain ⟨pos, hps, rfl, HA⟩ := hrel
    by_cases hp : pos < s.size
    · obtain ⟨r, wd, hwd, hnx, hr⟩ := next_rune w s pos hp
      by_cases hg : (97 ≤ r ∧ r ≤ 122) ∨ (48 ≤ r ∧ r ≤ 57) ∨ r = 45
      · have h1 : s[pos].toNat = r ∧ wd = 1 := by omega
        obtain ⟨hb, rfl⟩ := h1
        have HB := Aside0.mk hb
        have HG := Aside0.mk hg
        clear hr hb
        have hend : (∀ j, (hj : j < s.size) → j < pos + 1 → (97 ≤ s[j].toNat ∧ s[j].toNat ≤ 122) ∨ (48 ≤ s[j].toNat ∧ s[j].toNat ≤ 57) ∨ s[j].toNat = 45) := fun j hj hlt => by
          by_cases e : j = pos
          · subst e; rw [HB.out]; exact HG.out
          · exact HA.out j hj (by omega)
        have HEND := Aside0.mk hend
        clear hend
        rcases hg with ⟨g1, g2⟩ | ⟨g1, g2⟩ | g1
        · have k1 : (97 : Int) ≤ (r : Int) := by omega
          have k2 : (r : Int) ≤ 122 := by omega
          clear g1 g2
          go_wp2
          go_roundw
          case rel => exact ⟨pos + 1, by omega, rfl, HEND⟩
          case measure => simp; omega
        · have k0 : (r : Int) < 97 := by omega
          have k1 : (48 : Int) ≤ (r : Int) := by omega
          have k2 : (r : Int) ≤ 57 := by omega
          clear g1 g2
          go_wp2
          go_roundw
          case rel => exact ⟨pos + 1, by omega, rfl, HEND⟩
          case measure => simp; omega
        · subst g1
          go_wp2
          go_roundw
          case rel => exact ⟨pos + 1, by omega, rfl, HEND⟩
          case measure => simp; omega
      · have HV := Aside0.mk (value_no hp (by omega))
        have hB := below_iter w s (pos + wd)
        have hne : ((r : Int) == 45) = false := by rw [beq_eq_false_iff_ne]; omega
        have hne2 : ((r : Int) != 45) = true := by rw [bne_iff_ne]; omega
        clear hr
        have hc : (r < 48) ∨ (58 ≤ r ∧ r ≤ 96) ∨ 122 < r := by omega
        clear hg
        rcases hc with g | ⟨g, g'⟩ | g
        · have k1 : (r : Int) < 97 := by omega
          have k2 : (r : Int) < 48 := by omega
          clear g
          go_wp2
          go_ret
          exact ⟨by rw [HV.out]; rfl, hB⟩
        · have k1 : (r : Int) < 97 := by omega
          have k2 : (48 : Int) ≤ (r : Int) := by omega
          have k3 : (57 : Int) < (r : Int) := by omega
          clear g g'
          go_wp2
          go_ret
          exact ⟨by rw [HV.out]; rfl, hB⟩
        · have k1 : (97 : Int) ≤ (r : Int) := by omega
          have k2 : (122 : Int) < (r : Int) := by omega
          have k3 : (48 : Int) ≤ (r : Int) := by omega
          have k4 : (57 : Int) < (r : Int) := by omega
          clear g
          go_wp2
          go_ret
          exact ⟨by rw [HV.out]; rfl, hB⟩
    · have hnx : ∀ ty, (Instr.next (.pointer (some ⟨w.heap.size, 0, none⟩)) true ty).run Try.prog (w.iter s pos) = _ := fun ty => run_next_end w s pos ty hp
      have HV := Aside0.mk (value_end (fun j hj => HA.out j hj (by omega)))
      have hB := below_iter w s pos
      go_wp2
      go_ret
      exact ⟨by rw [HV.out, ← dec8]; rfl, hB⟩
def labelB (x : S92) : Bool := nameB x.f0 && valueB x.f1
set_option maxHeartbeats 1000000 in
theorem isLabel_calls (x : S92) (w : World) : Calls Try.prog 137 #[.agg #[.string x.f0, .string x.f1]] w fun e w' => e = .returned (.bool (labelB x)) ∧ Below w.heap.size w w' := by
  have hF := Aside0.mk (Fr.Frame.start w)
  have HC : True := trivial
  cases hn : nameB x.f0 with
  | true =>
    have HN := Aside0.mk hn
    clear hn
    go_enter Try.func137, Try.ntmps137
    go_wp2_with (first | ((with_reducible refine gate_store rfl ?_); apply Fr.fr_store hF.out rfl rfl rfl; (case hp => rfl); (case hx => first | (go_simp; rfl) | rfl); (case hu => (simp only [Value.cells]; rfl)); (case hs => (repeat (first | exact Fr.Spot.here _ _ | apply Fr.Spot.there))); (case ht => kernel_rfl); (case h1 => simp [Value.oneCell']); (case hfit => simp); intro W hF1; simp only [Fr.patch, List.take_zero, List.nil_append, List.drop, List.append_nil, List.take, List.cons_append, List.length_cons, List.length_nil, Nat.reduceAdd] at hF1; have HC1 := hF1.cells; simp only [Fr.Cells, List.length_cons, List.length_nil, Nat.reduceAdd, and_true] at HC1; clear hF HC; have HC := HC1; have hF := Aside0.mk hF1; clear hF1 HC1) | ((first | (with_reducible refine Fr.gate_alloc rfl ?_) | (with_reducible refine Fr.gate_box rfl ?_)); apply Fr.fr_box hF.out rfl; (case hrun => first | (go_simp; done) | (go_simp; rfl)); intro g W hF1; have HC1 := hF1.cells; simp only [Fr.Cells, List.length_cons, List.length_nil, Nat.reduceAdd, and_true] at HC1; clear hF HC; have HC := HC1; have hF := Aside0.mk hF1; clear hF1 HC1))
    (with_reducible refine (isName_calls x.f0 _).mono ?_); rintro e W ⟨rfl, hb⟩; have hF1 := hF.out.call hb; clear hb; have HC1 := hF1.cells; simp only [Fr.Cells, List.length_cons, List.length_nil, Nat.reduceAdd, and_true] at HC1; clear hF HC; have HC := HC1; have hF := Aside0.mk hF1; clear hF1 HC1
    simp only [HN.out]
    go_wp2_with (first | ((with_reducible refine gate_store rfl ?_); apply Fr.fr_store hF.out rfl rfl rfl; (case hp => rfl); (case hx => first | (go_simp; rfl) | rfl); (case hu => (simp only [Value.cells]; rfl)); (case hs => (repeat (first | exact Fr.Spot.here _ _ | apply Fr.Spot.there))); (case ht => kernel_rfl); (case h1 => simp [Value.oneCell']); (case hfit => simp); intro W hF1; simp only [Fr.patch, List.take_zero, List.nil_append, List.drop, List.append_nil, List.take, List.cons_append, List.length_cons, List.length_nil, Nat.reduceAdd] at hF1; have HC1 := hF1.cells; simp only [Fr.Cells, List.length_cons, List.length_nil, Nat.reduceAdd, and_true] at HC1; clear hF HC; have HC := HC1; have hF := Aside0.mk hF1; clear hF1 HC1) | ((first | (with_reducible refine Fr.gate_alloc rfl ?_) | (with_reducible refine Fr.gate_box rfl ?_)); apply Fr.fr_box hF.out rfl; (case hrun => first | (go_simp; done) | (go_simp; rfl)); intro g W hF1; have HC1 := hF1.cells; simp only [Fr.Cells, List.length_cons, List.length_nil, Nat.reduceAdd, and_true] at HC1; clear hF HC; have HC := HC1; have hF := Aside0.mk hF1; clear hF1 HC1))
    (with_reducible refine (isValue_calls x.f1 _).mono ?_); rintro e W ⟨rfl, hb⟩; have hF1 := hF.out.call hb; clear hb; have HC1 := hF1.cells; simp only [Fr.Cells, List.length_cons, List.length_nil, Nat.reduceAdd, and_true] at HC1; clear hF HC; have HC := HC1; have hF := Aside0.mk hF1; clear hF1 HC1
    go_wp2_with (first | ((with_reducible refine gate_store rfl ?_); apply Fr.fr_store hF.out rfl rfl rfl; (case hp => rfl); (case hx => first | (go_simp; rfl) | rfl); (case hu => (simp only [Value.cells]; rfl)); (case hs => (repeat (first | exact Fr.Spot.here _ _ | apply Fr.Spot.there))); (case ht => kernel_rfl); (case h1 => simp [Value.oneCell']); (case hfit => simp); intro W hF1; simp only [Fr.patch, List.take_zero, List.nil_append, List.drop, List.append_nil, List.take, List.cons_append, List.length_cons, List.length_nil, Nat.reduceAdd] at hF1; have HC1 := hF1.cells; simp only [Fr.Cells, List.length_cons, List.length_nil, Nat.reduceAdd, and_true] at HC1; clear hF HC; have HC := HC1; have hF := Aside0.mk hF1; clear hF1 HC1) | ((first | (with_reducible refine Fr.gate_alloc rfl ?_) | (with_reducible refine Fr.gate_box rfl ?_)); apply Fr.fr_box hF.out rfl; (case hrun => first | (go_simp; done) | (go_simp; rfl)); intro g W hF1; have HC1 := hF1.cells; simp only [Fr.Cells, List.length_cons, List.length_nil, Nat.reduceAdd, and_true] at HC1; clear hF HC; have HC := HC1; have hF := Aside0.mk hF1; clear hF1 HC1))
    go_ret
    exact ⟨by unfold labelB; rw [HN.out, Bool.true_and]; rfl, hF.out.below⟩
  | false =>
    have HN := Aside0.mk hn
    clear hn
    go_enter Try.func137, Try.ntmps137
    go_wp2_with (first | ((with_reducible refine gate_store rfl ?_); apply Fr.fr_store hF.out rfl rfl rfl; (case hp => rfl); (case hx => first | (go_simp; rfl) | rfl); (case hu => (simp only [Value.cells]; rfl)); (case hs => (repeat (first | exact Fr.Spot.here _ _ | apply Fr.Spot.there))); (case ht => kernel_rfl); (case h1 => simp [Value.oneCell']); (case hfit => simp); intro W hF1; simp only [Fr.patch, List.take_zero, List.nil_append, List.drop, List.append_nil, List.take, List.cons_append, List.length_cons, List.length_nil, Nat.reduceAdd] at hF1; have HC1 := hF1.cells; simp only [Fr.Cells, List.length_cons, List.length_nil, Nat.reduceAdd, and_true] at HC1; clear hF HC; have HC := HC1; have hF := Aside0.mk hF1; clear hF1 HC1) | ((first | (with_reducible refine Fr.gate_alloc rfl ?_) | (with_reducible refine Fr.gate_box rfl ?_)); apply Fr.fr_box hF.out rfl; (case hrun => first | (go_simp; done) | (go_simp; rfl)); intro g W hF1; have HC1 := hF1.cells; simp only [Fr.Cells, List.length_cons, List.length_nil, Nat.reduceAdd, and_true] at HC1; clear hF HC; have HC := HC1; have hF := Aside0.mk hF1; clear hF1 HC1))
    (with_reducible refine (isName_calls x.f0 _).mono ?_); rintro e W ⟨rfl, hb⟩; have hF1 := hF.out.call hb; clear hb; have HC1 := hF1.cells; simp only [Fr.Cells, List.length_cons, List.length_nil, Nat.reduceAdd, and_true] at HC1; clear hF HC; have HC := HC1; have hF := Aside0.mk hF1; clear hF1 HC1
    simp only [HN.out]
    go_wp2_with (first | ((with_reducible refine gate_store rfl ?_); apply Fr.fr_store hF.out rfl rfl rfl; (case hp => rfl); (case hx => first | (go_simp; rfl) | rfl); (case hu => (simp only [Value.cells]; rfl)); (case hs => (repeat (first | exact Fr.Spot.here _ _ | apply Fr.Spot.there))); (case ht => kernel_rfl); (case h1 => simp [Value.oneCell']); (case hfit => simp); intro W hF1; simp only [Fr.patch, List.take_zero, List.nil_append, List.drop, List.append_nil, List.take, List.cons_append, List.length_cons, List.length_nil, Nat.reduceAdd] at hF1; have HC1 := hF1.cells; simp only [Fr.Cells, List.length_cons, List.length_nil, Nat.reduceAdd, and_true] at HC1; clear hF HC; have HC := HC1; have hF := Aside0.mk hF1; clear hF1 HC1) | ((first | (with_reducible refine Fr.gate_alloc rfl ?_) | (with_reducible refine Fr.gate_box rfl ?_)); apply Fr.fr_box hF.out rfl; (case hrun => first | (go_simp; done) | (go_simp; rfl)); intro g W hF1; have HC1 := hF1.cells; simp only [Fr.Cells, List.length_cons, List.length_nil, Nat.reduceAdd, and_true] at HC1; clear hF HC; have HC := HC1; have hF := Aside0.mk hF1; clear hF1 HC1))
    go_ret
    exact ⟨by unfold labelB; rw [HN.out, Bool.false_and]; rfl, hF.out.below⟩
theorem rd_get92 (l : List S92) (i : Nat) (h : i < l.length) : rd_T92 l (i : Nat) = l[i] := by simp [rd_T92, List.getD_eq_getElem?_getD, h]
theorem idxR_hit92 (p : S92 → Bool) (l : List S92) (k : Nat) (hk : k < l.length) (h : ∀ j, j < k → p (rd_T92 l (j : Nat)) = false) (hp : p (rd_T92 l (k : Nat)) = true) : (k : Int) = idxP p l := by
  have e : l.findIdx? p = some k := by
    rw [List.findIdx?_eq_some_iff_getElem]
    refine ⟨hk, by rw [← rd_get92 l k hk]; exact hp, fun j hj => ?_⟩
    have := h j hj
    rw [rd_get92 l j (by omega)] at this
    simp [this]
  simp [idxP, e]
theorem idxR_miss92 (p : S92 → Bool) (l : List S92) (h : ∀ j, j < l.length → p (rd_T92 l (j : Nat)) = false) : -1 = idxP p l := by
  have e : l.findIdx? p = none := by
    rw [List.findIdx?_eq_none_iff]
    intro x hx
    obtain ⟨j, hj, rfl⟩ := List.mem_iff_getElem.1 hx
    have := h j hj
    rwa [rd_get92 l j hj] at this
  simp [idxP, e]
def Pred92 (ok : S92 → Prop) (g : Nat) (cap : Array Value) (p : S92 → Bool) (w : World) : Prop := ∀ (x : S92) (W : World), ok x → Below w.heap.size w W → Calls Try.prog g (#[.agg #[.string x.f0, .string x.f1]] ++ cap) W fun e W' => e = .returned (.bool (p x)) ∧ Below W.heap.size W W'
theorem rd_get88 (l : List S88) (i : Nat) (h : i < l.length) : rd_T88 l (i : Nat) = l[i] := by simp [rd_T88, List.getD_eq_getElem?_getD, h]
theorem idxR_hit88 (p : S88 → Bool) (l : List S88) (k : Nat) (hk : k < l.length) (h : ∀ j, j < k → p (rd_T88 l (j : Nat)) = false) (hp : p (rd_T88 l (k : Nat)) = true) : (k : Int) = idxP p l := by
  have e : l.findIdx? p = some k := by
    rw [List.findIdx?_eq_some_iff_getElem]
    refine ⟨hk, by rw [← rd_get88 l k hk]; exact hp, fun j hj => ?_⟩
    have := h j hj
    rw [rd_get88 l j (by omega)] at this
    simp [this]
  simp [idxP, e]
theorem idxR_miss88 (p : S88 → Bool) (l : List S88) (h : ∀ j, j < l.length → p (rd_T88 l (j : Nat)) = false) : -1 = idxP p l := by
  have e : l.findIdx? p = none := by
    rw [List.findIdx?_eq_none_iff]
    intro x hx
    obtain ⟨j, hj, rfl⟩ := List.mem_iff_getElem.1 hx
    have := h j hj
    rwa [rd_get88 l j hj] at this
  simp [idxP, e]
def Pred88 (ok : S88 → Prop) (g : Nat) (cap : Array Value) (p : S88 → Bool) (w : World) : Prop := ∀ (x : S88) (W : World), ok x → Below w.heap.size w W → Calls Try.prog g (#[.agg #[.int .i64 x.f0, .string x.f1, .string x.f2]] ++ cap) W fun e W' => e = .returned (.bool (p x)) ∧ Below W.heap.size W W'
theorem rd_get76 (l : List S76) (i : Nat) (h : i < l.length) : rd_T76 l (i : Nat) = l[i] := by simp [rd_T76, List.getD_eq_getElem?_getD, h]
theorem idxR_hit76 (p : S76 → Bool) (l : List S76) (k : Nat) (hk : k < l.length) (h : ∀ j, j < k → p (rd_T76 l (j : Nat)) = false) (hp : p (rd_T76 l (k : Nat)) = true) : (k : Int) = idxP p l := by
  have e : l.findIdx? p = some k := by
    rw [List.findIdx?_eq_some_iff_getElem]
    refine ⟨hk, by rw [← rd_get76 l k hk]; exact hp, fun j hj => ?_⟩
    have := h j hj
    rw [rd_get76 l j (by omega)] at this
    simp [this]
  simp [idxP, e]
theorem idxR_miss76 (p : S76 → Bool) (l : List S76) (h : ∀ j, j < l.length → p (rd_T76 l (j : Nat)) = false) : -1 = idxP p l := by
  have e : l.findIdx? p = none := by
    rw [List.findIdx?_eq_none_iff]
    intro x hx
    obtain ⟨j, hj, rfl⟩ := List.mem_iff_getElem.1 hx
    have := h j hj
    rwa [rd_get76 l j hj] at this
  simp [idxP, e]
def Pred76 (ok : S76 → Prop) (g : Nat) (cap : Array Value) (p : S76 → Bool) (w : World) : Prop := ∀ (x : S76) (W : World), ok x → Below w.heap.size w W → Calls Try.prog g (#[.agg #[.string x.f0, .int .i64 x.f1.f0, .int .i64 x.f1.f1, .int .i64 x.f1.f2, .int .i64 x.f2, .int .i64 x.f3, .int .i64 x.f4, .int .i64 x.f5, .int .i64 x.f6]] ++ cap) W fun e W' => e = .returned (.bool (p x)) ∧ Below W.heap.size W W'
theorem rd_get58 (l : List S58) (i : Nat) (h : i < l.length) : rd_T58 l (i : Nat) = l[i] := by simp [rd_T58, List.getD_eq_getElem?_getD, h]
theorem idxR_hit58 (p : S58 → Bool) (l : List S58) (k : Nat) (hk : k < l.length) (h : ∀ j, j < k → p (rd_T58 l (j : Nat)) = false) (hp : p (rd_T58 l (k : Nat)) = true) : (k : Int) = idxP p l := by
  have e : l.findIdx? p = some k := by
    rw [List.findIdx?_eq_some_iff_getElem]
    refine ⟨hk, by rw [← rd_get58 l k hk]; exact hp, fun j hj => ?_⟩
    have := h j hj
    rw [rd_get58 l j (by omega)] at this
    simp [this]
  simp [idxP, e]
theorem idxR_miss58 (p : S58 → Bool) (l : List S58) (h : ∀ j, j < l.length → p (rd_T58 l (j : Nat)) = false) : -1 = idxP p l := by
  have e : l.findIdx? p = none := by
    rw [List.findIdx?_eq_none_iff]
    intro x hx
    obtain ⟨j, hj, rfl⟩ := List.mem_iff_getElem.1 hx
    have := h j hj
    rwa [rd_get58 l j hj] at this
  simp [idxP, e]
def Pred58 (ok : S58 → Prop) (g : Nat) (cap : Array Value) (p : S58 → Bool) (w : World) : Prop := ∀ (x : S58) (A0 : Option Addr) (c0 : Nat) (A1 : Option Addr) (c1 : Nat) (W : World), ok x → Below w.heap.size w W → x.f0.length ≤ c0 → (Kd.int .i64).C W A0 x.f0.length x.f0 → x.f1.length ≤ c1 → k88.C W A1 x.f1.length x.f1 → Calls Try.prog g (#[.agg #[.slice A0 x.f0.length c0, .slice A1 x.f1.length c1]] ++ cap) W fun e W' => e = .returned (.bool (p x)) ∧ Below W.heap.size W W'
set_option maxHeartbeats 2000000 in
theorem indexFunc_92 (ok : S92 → Prop) (gf : Nat) (cap : Array Value) (p : S92 → Bool) (eg : ∀ args w, (callFunc gf args).run Try.prog w = .ok (.enter gf args) w) (A : Option Addr) (c : Nat) (l : List S92) (w : World) (hr : Kd.C k92 w A l.length l) (hok : ∀ j : Nat, j < l.length → ok (rd_T92 l (j : Nat))) (hp : Pred92 ok gf cap p w) :
    Calls Try.prog 112 #[.slice A l.length c, .func (.func gf) #[] cap] w fun e w' => e = .returned (.int .i64 (idxP p l)) ∧ Below w.heap.size w w' := by
  have HR := Aside0.mk hr
  have HP := Aside0.mk hp
  have HOK := Aside0.mk hok
  have hll : l.length ≤ 9223372036854775807 := hr.2.1
  clear hr hp hok
  go_enter Try.func112, Try.ntmps112
  go_wp2
  go_loopg [5, 8] l.length (fun kq v5 v8 w' => ∃ k : Nat, k ≤ l.length ∧ l.length - k ≤ kq ∧ v8 = .int .i64 k ∧ Aside0 (∀ j, j < k → p (rd_T92 l (j : Nat)) = false) ∧ Aside0 (Below w.heap.size w w'))
  case atStart => exact ⟨0, Nat.zero_le _, by omega, rfl, ⟨fun j hj => absurd hj (Nat.not_lt_zero _)⟩, ⟨Below.refl _ _⟩⟩
  case round =>
    obtain ⟨k, hk, hg, rfl, HA, HB⟩ := hrel
    by_cases hlt : k < l.length
    · have hlti : (k : Int) < (l.length : Int) := by omega
      obtain ⟨ad, e1, a0, a1⟩ := at_T92 HR.out (k : Int) (by omega) hlti
      cases e1
      replace a0 := (HB.out.cell (World.block_lt_of_cell? w _ a0)).trans a0
      replace a1 := (HB.out.cell (World.block_lt_of_cell? w _ a1)).trans a1
      rw [Int.toNat_natCast] at a0 a1
      cases hq : p (rd_T92 l k) with
      | true =>
        have HQ := Aside0.mk hq
        clear hq
        go_wp2_with (go_at_fn gf; refine (HP.out (rd_T92 l k) _ (HOK.out k hlt) HB.out ).mono ?_; rintro e W1 ⟨rfl, hb⟩; simp only [HQ.out]; have HB1 := Aside0.mk (below_then HB.out HB.out.size hb); clear hb HB; have HB := HB1; clear HB1)
        go_ret
        exact ⟨ret_int64 (idxR_hit92 p l k hlt HA.out HQ.out), HB.out⟩
      | false =>
        have HQ := Aside0.mk hq
        clear hq
        go_wp2_with (go_at_fn gf; refine (HP.out (rd_T92 l k) _ (HOK.out k hlt) HB.out ).mono ?_; rintro e W1 ⟨rfl, hb⟩; simp only [HQ.out]; have HB1 := Aside0.mk (below_then HB.out HB.out.size hb); clear hb HB; have HB := HB1; clear HB1)
        go_roundg (l.length - (k + 1))
        case measure => omega
        case rel => exact ⟨k + 1, by omega, by omega, by go_num, ⟨fun j hj => by
          by_cases e : j = k
          · subst e; exact HQ.out
          · exact HA.out j (by omega)⟩, HB⟩
    · have : k = l.length := by omega
      subst this
      go_wp2
      go_ret
      exact ⟨ret_int64 (idxR_miss92 p l HA.out), HB.out⟩
theorem containsFunc_92 (ok : S92 → Prop) (gf : Nat) (cap : Array Value) (p : S92 → Bool) (eg : ∀ args w, (callFunc gf args).run Try.prog w = .ok (.enter gf args) w) (A : Option Addr) (c : Nat) (l : List S92) (w : World) (hr : Kd.C k92 w A l.length l) (hok : ∀ j : Nat, j < l.length → ok (rd_T92 l (j : Nat))) (hp : Pred92 ok gf cap p w) :
    Calls Try.prog 135 #[.slice A l.length c, .func (.func gf) #[] cap] w fun e w' => e = .returned (.bool (l.any p)) ∧ Below w.heap.size w w' := by
  have HH := Aside0.mk (indexFunc_92 ok gf cap p eg A c l w hr hok hp)
  clear hr hp eg hok
  have EI := Aside0.mk (idxP_any p l)
  go_enter Try.func135, Try.ntmps135
  go_wp2_with (go_at_call 112; (with_reducible refine HH.out.mono ?_); rintro e w' ⟨rfl, hb⟩; have HB := Aside0.mk hb; clear hb)
  go_ret
  exact ⟨by rw [EI.out]; rfl, HB.out⟩
set_option maxHeartbeats 2000000 in
theorem indexFunc_88 (ok : S88 → Prop) (gf : Nat) (cap : Array Value) (p : S88 → Bool) (eg : ∀ args w, (callFunc gf args).run Try.prog w = .ok (.enter gf args) w) (A : Option Addr) (c : Nat) (l : List S88) (w : World) (hr : Kd.C k88 w A l.length l) (hok : ∀ j : Nat, j < l.length → ok (rd_T88 l (j : Nat))) (hp : Pred88 ok gf cap p w) :
    Calls Try.prog 108 #[.slice A l.length c, .func (.func gf) #[] cap] w fun e w' => e = .returned (.int .i64 (idxP p l)) ∧ Below w.heap.size w w' := by
  have HR := Aside0.mk hr
  have HP := Aside0.mk hp
  have HOK := Aside0.mk hok
  have hll : l.length ≤ 9223372036854775807 := hr.2.1
  clear hr hp hok
  go_enter Try.func108, Try.ntmps108
  go_wp2
  go_loopg [5, 8] l.length (fun kq v5 v8 w' => ∃ k : Nat, k ≤ l.length ∧ l.length - k ≤ kq ∧ v8 = .int .i64 k ∧ Aside0 (∀ j, j < k → p (rd_T88 l (j : Nat)) = false) ∧ Aside0 (Below w.heap.size w w'))
  case atStart => exact ⟨0, Nat.zero_le _, by omega, rfl, ⟨fun j hj => absurd hj (Nat.not_lt_zero _)⟩, ⟨Below.refl _ _⟩⟩
  case round =>
    obtain ⟨k, hk, hg, rfl, HA, HB⟩ := hrel
    by_cases hlt : k < l.length
    · have hlti : (k : Int) < (l.length : Int) := by omega
      obtain ⟨ad, e1, a0, a1, a2⟩ := at_T88 HR.out (k : Int) (by omega) hlti
      cases e1
      replace a0 := (HB.out.cell (World.block_lt_of_cell? w _ a0)).trans a0
      replace a1 := (HB.out.cell (World.block_lt_of_cell? w _ a1)).trans a1
      replace a2 := (HB.out.cell (World.block_lt_of_cell? w _ a2)).trans a2
      rw [Int.toNat_natCast] at a0 a1 a2
      cases hq : p (rd_T88 l k) with
      | true =>
        have HQ := Aside0.mk hq
        clear hq
        go_wp2_with (go_at_fn gf; refine (HP.out (rd_T88 l k) _ (HOK.out k hlt) HB.out ).mono ?_; rintro e W1 ⟨rfl, hb⟩; simp only [HQ.out]; have HB1 := Aside0.mk (below_then HB.out HB.out.size hb); clear hb HB; have HB := HB1; clear HB1)
        go_ret
        exact ⟨ret_int64 (idxR_hit88 p l k hlt HA.out HQ.out), HB.out⟩
      | false =>
        have HQ := Aside0.mk hq
        clear hq
        go_wp2_with (go_at_fn gf; refine (HP.out (rd_T88 l k) _ (HOK.out k hlt) HB.out ).mono ?_; rintro e W1 ⟨rfl, hb⟩; simp only [HQ.out]; have HB1 := Aside0.mk (below_then HB.out HB.out.size hb); clear hb HB; have HB := HB1; clear HB1)
        go_roundg (l.length - (k + 1))
        case measure => omega
        case rel => exact ⟨k + 1, by omega, by omega, by go_num, ⟨fun j hj => by
          by_cases e : j = k
          · subst e; exact HQ.out
          · exact HA.out j (by omega)⟩, HB⟩
    · have : k = l.length := by omega
      subst this
      go_wp2
      go_ret
      exact ⟨ret_int64 (idxR_miss88 p l HA.out), HB.out⟩
theorem containsFunc_88 (ok : S88 → Prop) (gf : Nat) (cap : Array Value) (p : S88 → Bool) (eg : ∀ args w, (callFunc gf args).run Try.prog w = .ok (.enter gf args) w) (A : Option Addr) (c : Nat) (l : List S88) (w : World) (hr : Kd.C k88 w A l.length l) (hok : ∀ j : Nat, j < l.length → ok (rd_T88 l (j : Nat))) (hp : Pred88 ok gf cap p w) :
    Calls Try.prog 69 #[.slice A l.length c, .func (.func gf) #[] cap] w fun e w' => e = .returned (.bool (l.any p)) ∧ Below w.heap.size w w' := by
  have HH := Aside0.mk (indexFunc_88 ok gf cap p eg A c l w hr hok hp)
  clear hr hp eg hok
  have EI := Aside0.mk (idxP_any p l)
  go_enter Try.func69, Try.ntmps69
  go_wp2_with (go_at_call 108; (with_reducible refine HH.out.mono ?_); rintro e w' ⟨rfl, hb⟩; have HB := Aside0.mk hb; clear hb)
  go_ret
  exact ⟨by rw [EI.out]; rfl, HB.out⟩
set_option maxHeartbeats 2000000 in
theorem indexFunc_76 (ok : S76 → Prop) (gf : Nat) (cap : Array Value) (p : S76 → Bool) (eg : ∀ args w, (callFunc gf args).run Try.prog w = .ok (.enter gf args) w) (A : Option Addr) (c : Nat) (l : List S76) (w : World) (hr : Kd.C k76 w A l.length l) (hok : ∀ j : Nat, j < l.length → ok (rd_T76 l (j : Nat))) (hp : Pred76 ok gf cap p w) :
    Calls Try.prog 131 #[.slice A l.length c, .func (.func gf) #[] cap] w fun e w' => e = .returned (.int .i64 (idxP p l)) ∧ Below w.heap.size w w' := by
  have HR := Aside0.mk hr
  have HP := Aside0.mk hp
  have HOK := Aside0.mk hok
  have hll : l.length ≤ 9223372036854775807 := hr.2.1
  clear hr hp hok
  go_enter Try.func131, Try.ntmps131
  go_wp2
  go_loopg [5, 8] l.length (fun kq v5 v8 w' => ∃ k : Nat, k ≤ l.length ∧ l.length - k ≤ kq ∧ v8 = .int .i64 k ∧ Aside0 (∀ j, j < k → p (rd_T76 l (j : Nat)) = false) ∧ Aside0 (Below w.heap.size w w'))
  case atStart => exact ⟨0, Nat.zero_le _, by omega, rfl, ⟨fun j hj => absurd hj (Nat.not_lt_zero _)⟩, ⟨Below.refl _ _⟩⟩
  case round =>
    obtain ⟨k, hk, hg, rfl, HA, HB⟩ := hrel
    by_cases hlt : k < l.length
    · have hlti : (k : Int) < (l.length : Int) := by omega
      obtain ⟨ad, e1, a0, a1, a2, a3, a4, a5, a6, a7, a8⟩ := at_T76 HR.out (k : Int) (by omega) hlti
      cases e1
      replace a0 := (HB.out.cell (World.block_lt_of_cell? w _ a0)).trans a0
      replace a1 := (HB.out.cell (World.block_lt_of_cell? w _ a1)).trans a1
      replace a2 := (HB.out.cell (World.block_lt_of_cell? w _ a2)).trans a2
      replace a3 := (HB.out.cell (World.block_lt_of_cell? w _ a3)).trans a3
      replace a4 := (HB.out.cell (World.block_lt_of_cell? w _ a4)).trans a4
      replace a5 := (HB.out.cell (World.block_lt_of_cell? w _ a5)).trans a5
      replace a6 := (HB.out.cell (World.block_lt_of_cell? w _ a6)).trans a6
      replace a7 := (HB.out.cell (World.block_lt_of_cell? w _ a7)).trans a7
      replace a8 := (HB.out.cell (World.block_lt_of_cell? w _ a8)).trans a8
      rw [Int.toNat_natCast] at a0 a1 a2 a3 a4 a5 a6 a7 a8
      cases hq : p (rd_T76 l k) with
      | true =>
        have HQ := Aside0.mk hq
        clear hq
        go_wp2_with (go_at_fn gf; refine (HP.out (rd_T76 l k) _ (HOK.out k hlt) HB.out ).mono ?_; rintro e W1 ⟨rfl, hb⟩; simp only [HQ.out]; have HB1 := Aside0.mk (below_then HB.out HB.out.size hb); clear hb HB; have HB := HB1; clear HB1)
        go_ret
        exact ⟨ret_int64 (idxR_hit76 p l k hlt HA.out HQ.out), HB.out⟩
      | false =>
        have HQ := Aside0.mk hq
        clear hq
        go_wp2_with (go_at_fn gf; refine (HP.out (rd_T76 l k) _ (HOK.out k hlt) HB.out ).mono ?_; rintro e W1 ⟨rfl, hb⟩; simp only [HQ.out]; have HB1 := Aside0.mk (below_then HB.out HB.out.size hb); clear hb HB; have HB := HB1; clear HB1)
        go_roundg (l.length - (k + 1))
        case measure => omega
        case rel => exact ⟨k + 1, by omega, by omega, by go_num, ⟨fun j hj => by
          by_cases e : j = k
          · subst e; exact HQ.out
          · exact HA.out j (by omega)⟩, HB⟩
    · have : k = l.length := by omega
      subst this
      go_wp2
      go_ret
      exact ⟨ret_int64 (idxR_miss76 p l HA.out), HB.out⟩
set_option maxHeartbeats 2000000 in
theorem indexFunc_58 (ok : S58 → Prop) (gf : Nat) (cap : Array Value) (p : S58 → Bool) (eg : ∀ args w, (callFunc gf args).run Try.prog w = .ok (.enter gf args) w) (A : Option Addr) (c : Nat) (l : List S58) (w : World) (hr : Kd.C k58 w A l.length l) (hok : ∀ j : Nat, j < l.length → ok (rd_T58 l (j : Nat))) (hp : Pred58 ok gf cap p w) :
    Calls Try.prog 133 #[.slice A l.length c, .func (.func gf) #[] cap] w fun e w' => e = .returned (.int .i64 (idxP p l)) ∧ Below w.heap.size w w' := by
  have HR := Aside0.mk hr
  have HP := Aside0.mk hp
  have HOK := Aside0.mk hok
  have hll : l.length ≤ 9223372036854775807 := hr.2.1
  clear hr hp hok
  go_enter Try.func133, Try.ntmps133
  go_wp2
  go_loopg [5, 8] l.length (fun kq v5 v8 w' => ∃ k : Nat, k ≤ l.length ∧ l.length - k ≤ kq ∧ v8 = .int .i64 k ∧ Aside0 (∀ j, j < k → p (rd_T58 l (j : Nat)) = false) ∧ Aside0 (Below w.heap.size w w'))
  case atStart => exact ⟨0, Nat.zero_le _, by omega, rfl, ⟨fun j hj => absurd hj (Nat.not_lt_zero _)⟩, ⟨Below.refl _ _⟩⟩
  case round =>
    obtain ⟨k, hk, hg, rfl, HA, HB⟩ := hrel
    by_cases hlt : k < l.length
    · have hlti : (k : Int) < (l.length : Int) := by omega
      obtain ⟨ad, A0, c0, A1, c1, e1, a0, a1, g0, g1, g2, g3⟩ := at_T58 HR.out (k : Int) (by omega) hlti
      cases e1
      replace a0 := (HB.out.cell (World.block_lt_of_cell? w _ a0)).trans a0
      replace a1 := (HB.out.cell (World.block_lt_of_cell? w _ a1)).trans a1
      rw [Int.toNat_natCast] at a0 a1
      have G0 := Aside0.mk g0
      clear g0
      have G1 := Aside0.mk g1
      clear g1
      have G2 := Aside0.mk g2
      clear g2
      have G3 := Aside0.mk g3
      clear g3
      cases hq : p (rd_T58 l k) with
      | true =>
        have HQ := Aside0.mk hq
        clear hq
        go_wp2_with (go_at_fn gf; refine (HP.out (rd_T58 l k) A0 c0 A1 c1 _ (HOK.out k hlt) HB.out G0.out (Kd.C_below G1.out HB.out) G2.out (Kd.C_below G3.out HB.out)).mono ?_; rintro e W1 ⟨rfl, hb⟩; simp only [HQ.out]; have HB1 := Aside0.mk (below_then HB.out HB.out.size hb); clear hb HB; have HB := HB1; clear HB1)
        go_ret
        exact ⟨ret_int64 (idxR_hit58 p l k hlt HA.out HQ.out), HB.out⟩
      | false =>
        have HQ := Aside0.mk hq
        clear hq
        go_wp2_with (go_at_fn gf; refine (HP.out (rd_T58 l k) A0 c0 A1 c1 _ (HOK.out k hlt) HB.out G0.out (Kd.C_below G1.out HB.out) G2.out (Kd.C_below G3.out HB.out)).mono ?_; rintro e W1 ⟨rfl, hb⟩; simp only [HQ.out]; have HB1 := Aside0.mk (below_then HB.out HB.out.size hb); clear hb HB; have HB := HB1; clear HB1)
        go_roundg (l.length - (k + 1))
        case measure => omega
        case rel => exact ⟨k + 1, by omega, by omega, by go_num, ⟨fun j hj => by
          by_cases e : j = k
          · subst e; exact HQ.out
          · exact HA.out j (by omega)⟩, HB⟩
    · have : k = l.length := by omega
      subst this
      go_wp2
      go_ret
      exact ⟨ret_int64 (idxR_miss58 p l HA.out), HB.out⟩
theorem containsFunc_58 (ok : S58 → Prop) (gf : Nat) (cap : Array Value) (p : S58 → Bool) (eg : ∀ args w, (callFunc gf args).run Try.prog w = .ok (.enter gf args) w) (A : Option Addr) (c : Nat) (l : List S58) (w : World) (hr : Kd.C k58 w A l.length l) (hok : ∀ j : Nat, j < l.length → ok (rd_T58 l (j : Nat))) (hp : Pred58 ok gf cap p w) :
    Calls Try.prog 102 #[.slice A l.length c, .func (.func gf) #[] cap] w fun e w' => e = .returned (.bool (l.any p)) ∧ Below w.heap.size w w' := by
  have HH := Aside0.mk (indexFunc_58 ok gf cap p eg A c l w hr hok hp)
  clear hr hp eg hok
  have EI := Aside0.mk (idxP_any p l)
  go_enter Try.func102, Try.ntmps102
  go_wp2_with (go_at_call 133; (with_reducible refine HH.out.mono ?_); rintro e w' ⟨rfl, hb⟩; have HB := Aside0.mk hb; clear hb)
  go_ret
  exact ⟨by rw [EI.out]; rfl, HB.out⟩
end Go.Proofs.Ytkphinfijppkeaa.G
namespace Go.Proofs.Ytkphinfijppkeaa.G
open Go.RowKit Go.Proofs.YtkphinfijppkeaaW.PrintWords Go.Proofs.YtkphinfijppkeaaW.PrintLast Go.Proofs.YtkphinfijppkeaaW.PrintMore
attribute [local go_sem] max2_int min2_int max_two min_two max_three min_three max_four min_four   -- for this text's walks alone
set_option linter.unusedVariables false
set_option linter.unusedSimpArgs false
def cmp_isNaN_string.f (a0 : ByteArray) : Option (Bool) := some (a0.toList != a0.toList)
set_option maxHeartbeats 8000000 in
set_option maxRecDepth 100000 in
theorem cmp_isNaN_string.calls (a0 : ByteArray) (r : Bool) (w : World) (h : cmp_isNaN_string.f a0 = some r) :
    Calls Try.prog 126 #[.string a0] w fun e w' => e = .returned (.bool r) ∧ Drawn0 w w' := by
  have H : (some (a0.toList != a0.toList)) = some r := h
  clear h
  obtain rfl := Option.some.inj H
  go_enter Try.func126, Try.ntmps126
  go_wp2
  go_ret
  exact ⟨by first | rfl | (simp; done) | (simp [*]; done), by repeat (first | exact Drawn0.refl _ | apply Drawn0.step)⟩
def cmp_Compare_string.f (a0 : ByteArray) (a1 : ByteArray) : Option (Int) := (cmp_isNaN_string.f a0).bind fun t129 => ((cmp_isNaN_string.f a1).bind fun t130 => (if t129 = true then (if t130 = true then (some 0) else (some (-1))) else (if t130 = true then (some 1) else (if (Op.bytesLess a0.toList a1.toList) = true then (some (-1)) else (if (Op.bytesLess a1.toList a0.toList) = true then (some 1) else (some 0))))))
set_option maxHeartbeats 8000000 in
set_option maxRecDepth 100000 in
theorem cmp_Compare_string.calls (a0 : ByteArray) (a1 : ByteArray) (r : Int) (w : World) (h : cmp_Compare_string.f a0 a1 = some r) :
    Calls Try.prog 88 #[.string a0, .string a1] w fun e w' => e = .returned (.int .i64 r) ∧ Drawn0 w w' := by
  have H : ((cmp_isNaN_string.f a0).bind fun t129 => ((cmp_isNaN_string.f a1).bind fun t130 => (if t129 = true then (if t130 = true then (some 0) else (some (-1))) else (if t130 = true then (some 1) else (if (Op.bytesLess a0.toList a1.toList) = true then (some (-1)) else (if (Op.bytesLess a1.toList a0.toList) = true then (some 1) else (some 0))))))) = some r := h
  clear h
  replace H := Option.bind_eq_some_iff.mp H
  obtain ⟨t129, A30, H⟩ := H
  replace H : ((cmp_isNaN_string.f a1).bind fun t130 => (if t129 = true then (if t130 = true then (some 0) else (some (-1))) else (if t130 = true then (some 1) else (if (Op.bytesLess a0.toList a1.toList) = true then (some (-1)) else (if (Op.bytesLess a1.toList a0.toList) = true then (some 1) else (some 0)))))) = some r := H
  have A3 := Aside0.mk A30
  clear A30
  replace H := Option.bind_eq_some_iff.mp H
  obtain ⟨t130, A40, H⟩ := H
  replace H : (if t129 = true then (if t130 = true then (some 0) else (some (-1))) else (if t130 = true then (some 1) else (if (Op.bytesLess a0.toList a1.toList) = true then (some (-1)) else (if (Op.bytesLess a1.toList a0.toList) = true then (some 1) else (some 0))))) = some r := H
  have A4 := Aside0.mk A40
  clear A40
  by_cases c5 : t129 = true
  · subst c5
    have H1 : (if t130 = true then (some 0) else (some (-1))) = some r := by rw [if_pos rfl] at H; exact H
    clear H
    have H := H1
    clear H1
    by_cases c6 : t130 = true
    · subst c6
      have H1 : (some 0) = some r := by rw [if_pos rfl] at H; exact H
      clear H
      have H := H1
      clear H1
      obtain rfl := Option.some.inj H
      go_enter Try.func88, Try.ntmps88
      go_wp2_with (first | ((with_reducible refine gate_callee (f := 126) rfl ?_); refine goesL_ (some 8) rfl rfl Try.func126 (by kernel_rfl) rfl #[.string a0] rfl (by (try simp only [List.map_toArray, List.map_cons, List.map_nil]); first | done | rfl | (simp only [List.length_drop, List.length_take]; rfl)) ?_; (with_reducible refine (cmp_isNaN_string.calls a0 true _ A3.out).mono ?_); rintro e w' ⟨rfl, ⟨nd, rfl⟩⟩; refine ⟨_, rfl, ?_⟩) | ((with_reducible refine gate_callee (f := 126) rfl ?_); refine goesL_ (some 10) rfl rfl Try.func126 (by kernel_rfl) rfl #[.string a1] rfl (by (try simp only [List.map_toArray, List.map_cons, List.map_nil]); first | done | rfl | (simp only [List.length_drop, List.length_take]; rfl)) ?_; (with_reducible refine (cmp_isNaN_string.calls a1 true _ A4.out).mono ?_); rintro e w' ⟨rfl, ⟨nd, rfl⟩⟩; refine ⟨_, rfl, ?_⟩))
      go_ret
      exact ⟨by first | rfl | (simp; done) | (simp [*]; done), by repeat (first | exact Drawn0.refl _ | apply Drawn0.step)⟩
    · replace c6 := Bool.eq_false_iff.mpr c6
      subst c6
      have H1 : (some (-1)) = some r := by rw [if_neg (show ¬ (false = true) by decide)] at H; exact H
      clear H
      have H := H1
      clear H1
      obtain rfl := Option.some.inj H
      go_enter Try.func88, Try.ntmps88
      go_wp2_with (first | ((with_reducible refine gate_callee (f := 126) rfl ?_); refine goesL_ (some 8) rfl rfl Try.func126 (by kernel_rfl) rfl #[.string a0] rfl (by (try simp only [List.map_toArray, List.map_cons, List.map_nil]); first | done | rfl | (simp only [List.length_drop, List.length_take]; rfl)) ?_; (with_reducible refine (cmp_isNaN_string.calls a0 true _ A3.out).mono ?_); rintro e w' ⟨rfl, ⟨nd, rfl⟩⟩; refine ⟨_, rfl, ?_⟩) | ((with_reducible refine gate_callee (f := 126) rfl ?_); refine goesL_ (some 10) rfl rfl Try.func126 (by kernel_rfl) rfl #[.string a1] rfl (by (try simp only [List.map_toArray, List.map_cons, List.map_nil]); first | done | rfl | (simp only [List.length_drop, List.length_take]; rfl)) ?_; (with_reducible refine (cmp_isNaN_string.calls a1 false _ A4.out).mono ?_); rintro e w' ⟨rfl, ⟨nd, rfl⟩⟩; refine ⟨_, rfl, ?_⟩))
      go_ret
      exact ⟨by first | rfl | (simp; done) | (simp [*]; done), by repeat (first | exact Drawn0.refl _ | apply Drawn0.step)⟩
  · replace c5 := Bool.eq_false_iff.mpr c5
    subst c5
    have H1 : (if t130 = true then (some 1) else (if (Op.bytesLess a0.toList a1.toList) = true then (some (-1)) else (if (Op.bytesLess a1.toList a0.toList) = true then (some 1) else (some 0)))) = some r := by rw [if_neg (show ¬ (false = true) by decide)] at H; exact H
    clear H
    have H := H1
    clear H1
    by_cases c7 : t130 = true
    · subst c7
      have H1 : (some 1) = some r := by rw [if_pos rfl] at H; exact H
      clear H
      have H := H1
      clear H1
      obtain rfl := Option.some.inj H
      go_enter Try.func88, Try.ntmps88
      go_wp2_with (first | ((with_reducible refine gate_callee (f := 126) rfl ?_); refine goesL_ (some 8) rfl rfl Try.func126 (by kernel_rfl) rfl #[.string a0] rfl (by (try simp only [List.map_toArray, List.map_cons, List.map_nil]); first | done | rfl | (simp only [List.length_drop, List.length_take]; rfl)) ?_; (with_reducible refine (cmp_isNaN_string.calls a0 false _ A3.out).mono ?_); rintro e w' ⟨rfl, ⟨nd, rfl⟩⟩; refine ⟨_, rfl, ?_⟩) | ((with_reducible refine gate_callee (f := 126) rfl ?_); refine goesL_ (some 10) rfl rfl Try.func126 (by kernel_rfl) rfl #[.string a1] rfl (by (try simp only [List.map_toArray, List.map_cons, List.map_nil]); first | done | rfl | (simp only [List.length_drop, List.length_take]; rfl)) ?_; (with_reducible refine (cmp_isNaN_string.calls a1 true _ A4.out).mono ?_); rintro e w' ⟨rfl, ⟨nd, rfl⟩⟩; refine ⟨_, rfl, ?_⟩))
      go_ret
      exact ⟨by first | rfl | (simp; done) | (simp [*]; done), by repeat (first | exact Drawn0.refl _ | apply Drawn0.step)⟩
    · replace c7 := Bool.eq_false_iff.mpr c7
      subst c7
      have H1 : (if (Op.bytesLess a0.toList a1.toList) = true then (some (-1)) else (if (Op.bytesLess a1.toList a0.toList) = true then (some 1) else (some 0))) = some r := by rw [if_neg (show ¬ (false = true) by decide)] at H; exact H
      clear H
      have H := H1
      clear H1
      by_cases c8 : (Op.bytesLess a0.toList a1.toList) = true
      · rw [if_pos c8] at H
        have c8b0 : (Op.bytesLess a0.toList a1.toList) = true := c8
        clear c8
        obtain rfl := Option.some.inj H
        go_enter Try.func88, Try.ntmps88
        go_wp2_with (first | ((with_reducible refine gate_callee (f := 126) rfl ?_); refine goesL_ (some 8) rfl rfl Try.func126 (by kernel_rfl) rfl #[.string a0] rfl (by (try simp only [List.map_toArray, List.map_cons, List.map_nil]); first | done | rfl | (simp only [List.length_drop, List.length_take]; rfl)) ?_; (with_reducible refine (cmp_isNaN_string.calls a0 false _ A3.out).mono ?_); rintro e w' ⟨rfl, ⟨nd, rfl⟩⟩; refine ⟨_, rfl, ?_⟩) | ((with_reducible refine gate_callee (f := 126) rfl ?_); refine goesL_ (some 10) rfl rfl Try.func126 (by kernel_rfl) rfl #[.string a1] rfl (by (try simp only [List.map_toArray, List.map_cons, List.map_nil]); first | done | rfl | (simp only [List.length_drop, List.length_take]; rfl)) ?_; (with_reducible refine (cmp_isNaN_string.calls a1 false _ A4.out).mono ?_); rintro e w' ⟨rfl, ⟨nd, rfl⟩⟩; refine ⟨_, rfl, ?_⟩))
        go_ret
        exact ⟨by first | rfl | (simp; done) | (simp [*]; done), by repeat (first | exact Drawn0.refl _ | apply Drawn0.step)⟩
      · rw [if_neg c8] at H
        have c8b0 : (Op.bytesLess a0.toList a1.toList) = false := by simpa using c8
        clear c8
        by_cases c9 : (Op.bytesLess a1.toList a0.toList) = true
        · rw [if_pos c9] at H
          have c9b0 : (Op.bytesLess a1.toList a0.toList) = true := c9
          clear c9
          obtain rfl := Option.some.inj H
          go_enter Try.func88, Try.ntmps88
          go_wp2_with (first | ((with_reducible refine gate_callee (f := 126) rfl ?_); refine goesL_ (some 8) rfl rfl Try.func126 (by kernel_rfl) rfl #[.string a0] rfl (by (try simp only [List.map_toArray, List.map_cons, List.map_nil]); first | done | rfl | (simp only [List.length_drop, List.length_take]; rfl)) ?_; (with_reducible refine (cmp_isNaN_string.calls a0 false _ A3.out).mono ?_); rintro e w' ⟨rfl, ⟨nd, rfl⟩⟩; refine ⟨_, rfl, ?_⟩) | ((with_reducible refine gate_callee (f := 126) rfl ?_); refine goesL_ (some 10) rfl rfl Try.func126 (by kernel_rfl) rfl #[.string a1] rfl (by (try simp only [List.map_toArray, List.map_cons, List.map_nil]); first | done | rfl | (simp only [List.length_drop, List.length_take]; rfl)) ?_; (with_reducible refine (cmp_isNaN_string.calls a1 false _ A4.out).mono ?_); rintro e w' ⟨rfl, ⟨nd, rfl⟩⟩; refine ⟨_, rfl, ?_⟩))
          go_ret
          exact ⟨by first | rfl | (simp; done) | (simp [*]; done), by repeat (first | exact Drawn0.refl _ | apply Drawn0.step)⟩
        · rw [if_neg c9] at H
          have c9b0 : (Op.bytesLess a1.toList a0.toList) = false := by simpa using c9
          clear c9
          obtain rfl := Option.some.inj H
          go_enter Try.func88, Try.ntmps88
          go_wp2_with (first | ((with_reducible refine gate_callee (f := 126) rfl ?_); refine goesL_ (some 8) rfl rfl Try.func126 (by kernel_rfl) rfl #[.string a0] rfl (by (try simp only [List.map_toArray, List.map_cons, List.map_nil]); first | done | rfl | (simp only [List.length_drop, List.length_take]; rfl)) ?_; (with_reducible refine (cmp_isNaN_string.calls a0 false _ A3.out).mono ?_); rintro e w' ⟨rfl, ⟨nd, rfl⟩⟩; refine ⟨_, rfl, ?_⟩) | ((with_reducible refine gate_callee (f := 126) rfl ?_); refine goesL_ (some 10) rfl rfl Try.func126 (by kernel_rfl) rfl #[.string a1] rfl (by (try simp only [List.map_toArray, List.map_cons, List.map_nil]); first | done | rfl | (simp only [List.length_drop, List.length_take]; rfl)) ?_; (with_reducible refine (cmp_isNaN_string.calls a1 false _ A4.out).mono ?_); rintro e w' ⟨rfl, ⟨nd, rfl⟩⟩; refine ⟨_, rfl, ?_⟩))
          go_ret
          exact ⟨by first | rfl | (simp; done) | (simp [*]; done), by repeat (first | exact Drawn0.refl _ | apply Drawn0.step)⟩
def label_order.f (a0_0 : ByteArray) (a0_1 : ByteArray) (a1_0 : ByteArray) (a1_1 : ByteArray) : Option (Int) := (cmp_Compare_string.f a0_0 a1_0).bind fun t133 => (some t133)
set_option maxHeartbeats 8000000 in
set_option maxRecDepth 100000 in
theorem label_order.calls (a0_0 : ByteArray) (a0_1 : ByteArray) (a1_0 : ByteArray) (a1_1 : ByteArray) (r : Int) (w : World) (h : label_order.f a0_0 a0_1 a1_0 a1_1 = some r) :
    Calls Try.prog 106 #[.agg #[.string a0_0, .string a0_1], .agg #[.string a1_0, .string a1_1]] w fun e w' => e = .returned (.int .i64 r) ∧ Below w.heap.size w w' := by
  have hu92 := Try.underlying92
  have HB := Aside0.mk (Below.refl w.heap.size w)
  have H : ((cmp_Compare_string.f a0_0 a1_0).bind fun t133 => (some t133)) = some r := h
  clear h
  replace H := Option.bind_eq_some_iff.mp H
  obtain ⟨t133, A30, H⟩ := H
  replace H : (some t133) = some r := H
  have A3 := Aside0.mk A30
  clear A30
  obtain rfl := Option.some.inj H
  go_enter Try.func106, Try.ntmps106
  go_wp2_with (first | ((with_reducible refine gate_dst (N := 2) rfl ?_); refine box_event ?hg (N := 2) ?hd (cs := #[.string a0_0, .string a0_1]) (t := 92) ?hr ?_; (case hd => rfl); (case hg => rfl); (case hr => first | (go_simp; done) | (go_simp; rfl)); intro gb131 hg w4 hbox hb; have n0_ := Aside0.mk (below_step (by repeat (first | (with_reducible first | exact HB.out | apply below_alloc | apply pw_below_drewN | apply below_drew1) | exact HB.out)) hb); have n1_ := Aside0.mk (hbox); have n2_ := Aside0.mk ((by rw [hg]; exact (below_size (by repeat (first | (with_reducible first | exact HB.out | apply below_alloc | apply pw_below_drewN | apply below_drew1) | exact HB.out))) : w.heap.size ≤ gb131)); have n3_ := Aside0.mk ((by rw [hg]; exact (below_size (by repeat (first | (with_reducible first | exact HB.out | apply below_alloc | apply pw_below_drewN | apply below_drew1) | exact HB.out))) : w.heap.size ≤ gb131)); clear HB; have HB := n0_; have BK131 := n1_; have GW131 := n2_; have GE131 := n3_; clear n0_ n1_ n2_ n3_; clear hb hbox hg) | ((with_reducible refine gate_dst (N := 3) rfl ?_); refine box_event ?hg (N := 3) ?hd (cs := #[.string a1_0, .string a1_1]) (t := 92) ?hr ?_; (case hd => rfl); (case hg => rfl); (case hr => first | (go_simp; done) | (go_simp; rfl)); intro gb132 hg w5 hbox hb; have n0_ := Aside0.mk (blk_below (g := gb131) (o := .cells #[.string a0_0, .string a0_1] 92 (0, 0)) (by (with_reducible repeat (first | refine blk_drewN ?_ _ | refine blk_drew ?_ | refine blk_alloc ?_ _)); exact BK131.out) hb); have n1_ := Aside0.mk (below_step (by repeat (first | (with_reducible first | exact HB.out | apply below_alloc | apply pw_below_drewN | apply below_drew1 | refine below_set ?_ GE131.out) | exact HB.out)) hb); have n2_ := Aside0.mk (hbox); have n3_ := Aside0.mk ((by rw [hg]; exact (below_size (by repeat (first | (with_reducible first | exact HB.out | apply below_alloc | apply pw_below_drewN | apply below_drew1 | refine below_set ?_ GE131.out) | exact HB.out))) : w.heap.size ≤ gb132)); have n4_ := Aside0.mk ((by rw [hg]; exact (below_size (by repeat (first | (with_reducible first | exact HB.out | apply below_alloc | apply pw_below_drewN | apply below_drew1 | refine below_set ?_ GE131.out) | exact HB.out))) : w.heap.size ≤ gb132)); have n5_ := Aside0.mk ((by rw [hg]; exact Nat.ne_of_lt (blk_lt (g := gb131) (o := .cells #[.string a0_0, .string a0_1] 92 (0, 0)) (by (with_reducible repeat (first | refine blk_drewN ?_ _ | refine blk_drew ?_ | refine blk_alloc ?_ _)); exact BK131.out)) : gb131 ≠ gb132)); have n6_ := Aside0.mk ((by rw [hg]; exact Nat.ne_of_gt (blk_lt (g := gb131) (o := .cells #[.string a0_0, .string a0_1] 92 (0, 0)) (by (with_reducible repeat (first | refine blk_drewN ?_ _ | refine blk_drew ?_ | refine blk_alloc ?_ _)); exact BK131.out)) : gb132 ≠ gb131)); clear BK131; clear HB; have BK131 := n0_; have HB := n1_; have BK132 := n2_; have GW132 := n3_; have GE132 := n4_; have NB131_132 := n5_; have NB132_131 := n6_; clear n0_ n1_ n2_ n3_ n4_ n5_ n6_; clear hb hbox hg; have hnb6 := NB131_132.out; have hnc6 := NB132_131.out; have hcz7_0 : w5.cell? ⟨gb131, 0, none⟩ = some (.string a0_0) := (blk_cell BK131.out 0).trans rfl; have hcz7_1 : w5.cell? ⟨gb131, 1, none⟩ = some (.string a0_1) := (blk_cell BK131.out 1).trans rfl; have hfz7_0 := blk_frozen BK131.out 0; have hfz7_1 := blk_frozen BK131.out 1; have hcz8_0 : w5.cell? ⟨gb132, 0, none⟩ = some (.string a1_0) := (blk_cell BK132.out 0).trans rfl; have hcz8_1 : w5.cell? ⟨gb132, 1, none⟩ = some (.string a1_1) := (blk_cell BK132.out 1).trans rfl; have hfz8_0 := blk_frozen BK132.out 0; have hfz8_1 := blk_frozen BK132.out 1) | ((with_reducible refine gate_callee (f := 88) rfl ?_); refine goesL_ (some 9) rfl rfl Try.func88 (by kernel_rfl) rfl #[.string a0_0, .string a1_0] rfl (by (try simp only [List.map_toArray, List.map_cons, List.map_nil]); first | done | rfl | (simp only [List.length_drop, List.length_take]; rfl)) ?_; (with_reducible refine (cmp_Compare_string.calls a0_0 a1_0 t133 _ A3.out).mono ?_); rintro e w' ⟨rfl, ⟨nd, rfl⟩⟩; refine ⟨_, rfl, ?_⟩))
  go_ret
  exact ⟨by first | rfl | (simp [errW_none, errW_some] <;> rfl) | (simp [*, errW_none, errW_some] <;> rfl), by repeat (first | (with_reducible first | exact HB.out | apply below_alloc | apply pw_below_drewN | apply below_drew1 | refine below_set ?_ GE131.out | refine below_set ?_ GE132.out) | exact HB.out)⟩
def tick_Right.f (a0 : Int) : Option (Bool) := if a0 ≥ 0 then (some (decide (a0 ≤ 1099511627776))) else (some false)
set_option maxHeartbeats 8000000 in
set_option maxRecDepth 100000 in
theorem tick_Right.calls (a0 : Int) (r : Bool) (w : World) (h : tick_Right.f a0 = some r) :
    Calls Try.prog 54 #[.int .i64 a0] w fun e w' => e = .returned (.bool r) ∧ Drawn0 w w' := by
  have H : (if a0 ≥ 0 then (some (decide (a0 ≤ 1099511627776))) else (some false)) = some r := h
  clear h
  by_cases c2 : a0 ≥ 0
  · rw [if_pos c2] at H
    have c2b0 : decide (0 ≤ a0) = true := decide_eq_true c2
    clear c2
    obtain rfl := Option.some.inj H
    go_enter Try.func54, Try.ntmps54
    go_wp2
    go_ret
    exact ⟨by first | rfl | (simp; done) | (simp [*]; done), by repeat (first | exact Drawn0.refl _ | apply Drawn0.step)⟩
  · rw [if_neg c2] at H
    have c2b0 : decide (0 ≤ a0) = false := decide_eq_false c2
    clear c2
    obtain rfl := Option.some.inj H
    go_enter Try.func54, Try.ntmps54
    go_wp2
    go_ret
    exact ⟨by first | rfl | (simp; done) | (simp [*]; done), by repeat (first | exact Drawn0.refl _ | apply Drawn0.step)⟩
def foghornlaw16_some.f (l0 : List (S92)) : Option ((List (S92))) := if 0 ≤ (mn (l0.length : Int) 5) then (if (mn (l0.length : Int) 5) ≤ (l0.length : Int) then (some (l0.take ((mn (l0.length : Int) 5) : Int).toNat)) else (none)) else (none)
set_option maxHeartbeats 8000000 in
set_option maxRecDepth 100000 in
theorem foghornlaw16_some.calls (P0_ : Nat → Prop) (u9000_ : Value) (l0 : List (S92)) (r : List (S92)) (w0 w : World) (hB : Below w0.heap.size w0 w) (ho0 : Kd.R k92 92 w w0.heap.size P0_ u9000_ l0) (h : foghornlaw16_some.f l0 = some r) :
    Calls Try.prog 42 #[u9000_] w fun e w' => ∃ v0_ : Value, e = .returned (v0_) ∧ Kd.R k92 92 w' w0.heap.size (fun k_ => (P0_ k_ ∨ w.heap.size ≤ k_)) v0_ r ∧ Below w0.heap.size w0 w' ∧ Kept w w' (fun k_ => P0_ k_) := by
  have HO0 := Aside0.mk (show Kd.R k92 92 w w0.heap.size (fun k_ => (P0_ k_ ∨ w.heap.size ≤ k_)) u9000_ l0 from Kd.R_mono ho0 (fun k_ hk => (.inl hk)))
  have HK := Aside0.mk (Kept.refl w (fun k_ => P0_ k_))
  have HW0 := Aside0.mk hB.size
  have HB := Aside0.mk hB
  clear hB
  have H : (if 0 ≤ (mn (l0.length : Int) 5) then (if (mn (l0.length : Int) 5) ≤ (l0.length : Int) then (some (l0.take ((mn (l0.length : Int) 5) : Int).toNat)) else (none)) else (none)) = some r := h
  clear h
  obtain ⟨ji2, hji2⟩ : ∃ j_ : Int, (mn (l0.length : Int) 5) = j_ := ⟨_, rfl⟩
  replace H : (if 0 ≤ (ji2) then (if (ji2) ≤ (l0.length : Int) then (some (l0.take ((ji2) : Int).toNat)) else (none)) else (none)) = some r := by first | (rw [hji2] at H; exact H) | (simp only [hji2] at H ⊢; exact H)
  (try (have hji2h : ji2 ≤ 5 := by (rw [← hji2]; unfold mn; (repeat' split) <;> omega)))
  (try (have hji2g : ji2 ≤ 64 := by omega))
  (try (have hji2l : 0 ≤ ji2 := by (rw [← hji2]; unfold mn; (repeat' split) <;> omega)))
  (try (have hji2m : 0 ≤ ji2 := by omega))
  have hji2_ : (if 5 < (l0.length : Int) then 5 else (l0.length : Int)) = ji2 := hji2
  by_cases c3 : 0 ≤ (ji2)
  · rw [if_pos c3] at H
    have c3b0 := eq_true c3
    have c3b1 : decide (0 ≤ (ji2)) = true := decide_eq_true c3
    clear c3
    by_cases c4 : (ji2) ≤ (l0.length : Int)
    · rw [if_pos c4] at H
      have c4b0 := eq_true c4
      have c4b1 : decide ((ji2) ≤ (l0.length : Int)) = true := decide_eq_true c4
      clear c4
      obtain ⟨y365, hy365⟩ : ∃ y_ : List (S92), y_ = (l0.take ((ji2) : Int).toNat) := ⟨_, rfl⟩
      replace H : (some y365) = some r := by first | (rw [hy365]; with_reducible exact H) | (have H2_ := (Option.bind_some _ _).symm.trans H; rw [hy365]; with_reducible exact H2_) | (have H2_ := (Option.bind_some _ _).symm.trans H; with_reducible exact H2_) | with_reducible exact H | (rw [hy365]; exact H) | exact H
      have Ny365 := Aside0.mk hy365
      clear hy365
      obtain rfl := Option.some.inj H
      obtain ⟨Ao5, co5, eo5⟩ := Kd.R_slice HO0.out
      subst eo5
      have q6 : ((ji2) : Int) ≤ ((l0.length : Int) : Int) := of_decide_eq_true (by first | (with_reducible assumption) | assumption)
      obtain ⟨i06, hi06, _, hsz6, _⟩ := info_parts info92
      have hcut6 := cut_to (P := Try.prog) 26 92 .i64 Try.underlying26 hi06 Ao5 l0.length co5 (ji2) (of_decide_eq_true (by first | (with_reducible assumption) | assumption)) q6 (Kd.R_reads' HO0.out).2.1
      have hr6 := Kd.R_take (m := ((ji2) : Int).toNat) HO0.out (by omega)
      have hy6 : y365.length = ((ji2) : Int).toNat := (by rw [Ny365.out, List.length_take]; omega)
      rw [← Ny365.out] at hr6
      rw [← hy6] at hr6 hcut6
      clear hy6 hi06 hsz6 HO0
      have HO367 := Aside0.mk hr6
      clear hr6
      replace q6 := eq_true q6
      go_enter Try.func42, Try.ntmps42
      go_wp2
      go_ret
      exact ⟨_, by first | rfl | (simp [errW_none, errW_some] <;> rfl) | (simp only [← hji2]; first | rfl | (simp [errW_none, errW_some] <;> rfl)) | (simp [*, errW_none, errW_some] <;> rfl), by (with_reducible repeat (first | apply Kd.R_alloc | apply Kd.R_drewN | apply Kd.R_drew)); exact HO367.out, by repeat (first | (with_reducible first | exact HB.out | apply below_alloc | apply pw_below_drewN | apply below_drew1) | exact HB.out), by repeat (first | (with_reducible first | exact HK.out | apply Kept.alloc | apply Kept.drewN | apply Kept.drew) | exact HK.out)⟩
    · rw [if_neg c4] at H
      exact absurd H (by simp)
  · rw [if_neg c3] at H
    exact absurd H (by simp)
set_option maxHeartbeats 1000000 in
theorem indexFunc_int (g : Nat) (p : Int → Bool) (eg : ∀ args w, (callFunc g args).run Try.prog w = .ok (.enter g args) w) (hp : PredInt g p) (A : Option Addr) (c : Nat) (l : List Int) (w : World) (hr : Kd.C (Kd.int .i64) w A l.length l) (hl : l.length ≤ 9223372036854775807) :
    Calls Try.prog 148 #[.slice A l.length c, .func (.func g) #[] #[]] w fun e w' => e = .returned (.int .i64 (idxP p l)) ∧ Drawn0 w w' := by
  have HR := Aside0.mk hr
  clear hr
  have HP := Aside0.mk hp
  clear hp
  go_enter Try.func148, Try.ntmps148
  go_wp2
  go_loopg [5, 8] l.length (fun kq v5 v8 w' => ∃ k : Nat, k ≤ l.length ∧ l.length - k ≤ kq ∧ v8 = .int .i64 k ∧ Aside0 (∀ j, j < k → p (rd l (j : Int)) = false) ∧ Drawn0 w w')
  case atStart => exact ⟨0, Nat.zero_le _, by omega, rfl, ⟨fun j hj => absurd hj (Nat.not_lt_zero _)⟩, Drawn0.refl _⟩
  case round =>
    obtain ⟨k, hk, hg, rfl, HA, ⟨m1, rfl⟩⟩ := hrel
    by_cases hlt : k < l.length
    · have hlti : (k : Int) < (l.length : Int) := by omega
      obtain ⟨ad, e1, hx⟩ := Kd.at_int HR.out (k : Int) (by omega) hlti
      cases e1
      rw [Int.toNat_natCast] at hx
      obtain ⟨y, hy⟩ : ∃ y, rd l (k : Int) = y := ⟨_, rfl⟩
      rw [hy] at hx
      have HY := Aside0.mk hy
      clear hy
      cases hq : p y with
      | true =>
        have HQ := Aside0.mk hq
        clear hq
        go_wp2_with (go_at_fn g; refine (HP.out y _).mono ?_; rintro e w' ⟨rfl, ⟨q', rfl⟩⟩; simp only [HQ.out])
        go_ret
        exact ⟨ret_int64 (idxP_hit p l k hlt HA.out (by rw [HY.out]; exact HQ.out)), (by repeat (first | exact Drawn0.refl _ | apply Drawn0.step))⟩
      | false =>
        have HQ := Aside0.mk hq
        clear hq
        go_wp2_with (go_at_fn g; refine (HP.out y _).mono ?_; rintro e w' ⟨rfl, ⟨q', rfl⟩⟩; simp only [HQ.out])
        go_roundg (l.length - (k + 1))
        case measure => omega
        case rel =>
          refine ⟨k + 1, by omega, by omega, by go_num, ⟨fun j hj => ?_⟩, (by repeat (first | exact Drawn0.refl _ | apply Drawn0.step))⟩
          by_cases e : j = k
          · subst e; rw [HY.out]; exact HQ.out
          · exact HA.out j (by omega)
    · have : k = l.length := by omega
      subst this
      go_wp2
      go_ret
      exact ⟨ret_int64 (idxP_miss p l HA.out), (Drawn0.refl _).step _⟩
theorem containsFunc_int (g : Nat) (p : Int → Bool) (eg : ∀ args w, (callFunc g args).run Try.prog w = .ok (.enter g args) w) (hp : PredInt g p) (A : Option Addr) (c : Nat) (l : List Int) (w : World) (hr : Kd.C (Kd.int .i64) w A l.length l) (hl : l.length ≤ 9223372036854775807) :
    Calls Try.prog 142 #[.slice A l.length c, .func (.func g) #[] #[]] w fun e w' => e = .returned (.bool (l.any p)) ∧ Drawn0 w w' := by
  have HH := Aside0.mk (fun W hr => indexFunc_int g p eg hp A c l W hr hl)
  have HR := Aside0.mk hr
  clear hr hp eg
  have ei := idxP_any p l
  have EI := Aside0.mk ei
  clear ei
  go_enter Try.func142, Try.ntmps142
  go_wp2_with (go_at_call 148; refine (HH.out _ HR.out).mono ?_; rintro e w' ⟨rfl, ⟨q', rfl⟩⟩)
  go_ret
  exact ⟨by rw [EI.out]; rfl, (Drawn0.refl _).step _⟩
theorem pred_tick_all : PredInt 143 (fun t => !(decide (0 ≤ t) && decide (t ≤ 1099511627776))) := by
  intro x w
  by_cases h0 : 0 ≤ x
  · by_cases h1 : x ≤ 1099511627776
    · go_enter Try.func143, Try.ntmps143
      go_wp2
      go_ret
      exact ⟨by simp [h0, h1], Drawn0.refl _⟩
    · go_enter Try.func143, Try.ntmps143
      go_wp2
      go_ret
      exact ⟨by simp [h0, h1], Drawn0.refl _⟩
  · go_enter Try.func143, Try.ntmps143
    go_wp2
    go_ret
    exact ⟨by simp [h0], Drawn0.refl _⟩
def tick_all.f (l0 : List Int) : Option Bool := some (l0.all fun t => decide (0 ≤ t) && decide (t ≤ 1099511627776))
theorem tick_all.calls (A0 : Option Addr) (c0 : Nat) (l0 : List Int) (r : Bool) (w : World) (hr0 : Kd.C (Kd.int .i64) w A0 l0.length l0) (hc0 : l0.length ≤ c0) (h : tick_all.f l0 = some r) :
    Calls Try.prog 119 #[.slice A0 l0.length c0] w fun e w' => e = .returned (.bool r) ∧ Drawn0 w w' := by
  have hl : l0.length ≤ 9223372036854775807 := hr0.2.1
  have HH := Aside0.mk (fun W hr => containsFunc_int 143 _ (enters_of Try.func143 (by kernel_rfl) rfl) pred_tick_all A0 c0 l0 W hr hl)
  have HR := Aside0.mk hr0
  have H := Aside0.mk (Option.some.inj h)
  clear hr0 hc0 h hl
  go_enter Try.func119, Try.ntmps119
  go_wp2_with (go_at_call 142; refine (HH.out _ HR.out).mono ?_; rintro e w' ⟨rfl, ⟨q', rfl⟩⟩)
  go_ret
  refine ⟨?_, by repeat (first | exact Drawn0.refl _ | apply Drawn0.step)⟩
  rw [← H.out, List.not_any_eq_all_not]
  simp
def tick_Add.f (a0 : Int) (a1 : Int) : Option (Int × Int) := (tick_all.f (([a0, a1] : List Int))).bind fun t375 => (if t375 = true then (some (mn (wrap64 (a0 + a1)) 1099511627776, 0)) else (some (0, 1)))
set_option maxHeartbeats 8000000 in
set_option maxRecDepth 100000 in
theorem tick_Add.calls (a0 : Int) (a1 : Int) (r1 : Int) (r2 : Int) (w : World) (h : tick_Add.f a0 a1 = some (r1, r2)) :
    Calls Try.prog 82 #[.int .i64 a0, .int .i64 a1] w fun e w' => e = .returned (.tuple #[.int .i64 r1, .int .i64 r2]) ∧ Below w.heap.size w w' := by
  have HB := Aside0.mk (Below.refl w.heap.size w)
  have H : ((tick_all.f (([a0, a1] : List Int))).bind fun t375 => (if t375 = true then (some (mn (wrap64 (a0 + a1)) 1099511627776, 0)) else (some (0, 1)))) = some (r1, r2) := h
  clear h
  obtain ⟨y372, hy372⟩ : ∃ y_ : List Int, y_ = (([a0, a1] : List Int)) := ⟨_, rfl⟩
  replace H : ((tick_all.f y372).bind fun t375 => (if t375 = true then (some (mn (wrap64 (a0 + a1)) 1099511627776, 0)) else (some (0, 1)))) = some (r1, r2) := by first | (rw [hy372]; with_reducible exact H) | (have H2_ := (Option.bind_some _ _).symm.trans H; rw [hy372]; with_reducible exact H2_) | (have H2_ := (Option.bind_some _ _).symm.trans H; with_reducible exact H2_) | with_reducible exact H | (rw [hy372]; exact H) | exact H
  have Ny372 := Aside0.mk hy372
  clear hy372
  replace H := Option.bind_eq_some_iff.mp H
  obtain ⟨t375, A30, H⟩ := H
  replace H : (if t375 = true then (some (mn (wrap64 (a0 + a1)) 1099511627776, 0)) else (some (0, 1))) = some (r1, r2) := H
  have A3 := Aside0.mk A30
  clear A30
  by_cases c4 : t375 = true
  · subst c4
    have H1 : (some (mn (wrap64 (a0 + a1)) 1099511627776, 0)) = some (r1, r2) := by rw [if_pos rfl] at H; exact H
    clear H
    have H := H1
    clear H1
    obtain ⟨ji5, hji5⟩ : ∃ j_ : Int, (mn (wrap64 (a0 + a1)) 1099511627776) = j_ := ⟨_, rfl⟩
    replace H : (some (ji5, 0)) = some (r1, r2) := by first | (rw [hji5] at H; exact H) | (simp only [hji5] at H ⊢; exact H)
    (try rw [hji5] at A3)
    (try (have hji5h : ji5 ≤ 1099511627776 := by (rw [← hji5]; unfold mn; (repeat' split) <;> omega)))
    (try (have hji5g : ji5 ≤ 64 := by omega))
    have hji5_ : (if 1099511627776 < (wrap64 (a0 + a1)) then 1099511627776 else (wrap64 (a0 + a1))) = ji5 := hji5
    simp only [Option.some.injEq, Prod.mk.injEq] at H
    obtain ⟨rfl, rfl⟩ := H
    go_enter Try.func82, Try.ntmps82
    go_wp2_with (first | ((with_reducible refine gate_dst (N := 8) rfl ?_); refine Kd.R_lit (Kd.int .i64) _ 3 ?hg (N := 8) ?hd (xs := ([a0, a1] : List Int)) (inner := [.int .i64 a0, .int .i64 a1]) (ok := fun _ => True) (okp := fun _ => True) ?hr ?hp (fun _ hk => hk) trivial (Below.refl _ _) (Nat.le_refl _) (by simp) ?_; (case hd => rfl); (case hg => rfl); (case hr => first | (go_simp; done) | (go_simp; rfl)); (case hp => exact (Reps.one (show Kd.M (Kd.int .i64) _ _ _ a0 [.int .i64 a0] from rfl) (Reps.one (show Kd.M (Kd.int .i64) _ _ _ a1 [.int .i64 a1] from rfl) (Reps.none _ _)))); intro v373 w6 ho7 hb hg_ hnew_; clear hg_ hnew_; (first | rw [← Ny372.out] at ho7 | (simp only [Int.reduceToNat] at ho7; rw [← Ny372.out] at ho7)); have n0_ := Aside0.mk (Kd.R_lower ho7 (below_size (by repeat (first | (with_reducible first | exact HB.out | apply below_alloc | apply pw_below_drewN | apply below_drew1) | exact HB.out)))); have n1_ := Aside0.mk (below_step (by repeat (first | (with_reducible first | exact HB.out | apply below_alloc | apply pw_below_drewN | apply below_drew1) | exact HB.out)) hb); clear HB; have HO374 := n0_; have HB := n1_; clear n0_ n1_; clear hb ho7; obtain ⟨Ao8, co8, eo8⟩ := Kd.R_slice HO374.out; subst eo8) | ((with_reducible refine gate_callee (f := 119) rfl ?_); refine goesL_ (some 9) rfl rfl Try.func119 (by kernel_rfl) rfl #[.slice Ao8 y372.length co8] rfl (by (try simp only [List.map_toArray, List.map_cons, List.map_nil]); first | done | rfl | (simp only [List.length_drop, List.length_take]; rfl)) ?_; (with_reducible refine (tick_all.calls _ _ y372 true _ ?side1 ?side2 A3.out).mono ?_); (case side1 => repeat (first | exact (Kd.R_reads' HO374.out).2.2 | (with_reducible refine Kd.C_alloc ?_ _) | (with_reducible refine Kd.C_drewN ?_ _) | (with_reducible refine Kd.C_drew ?_))); (case side2 => exact (Kd.R_reads' HO374.out).2.1); rintro e w' ⟨rfl, ⟨nd, rfl⟩⟩; refine ⟨_, rfl, ?_⟩))
    go_ret2
    exact ⟨by first | rfl | (simp [errW_none, errW_some] <;> rfl) | (simp only [← hji5]; first | rfl | (simp [errW_none, errW_some] <;> rfl)) | (simp [*, errW_none, errW_some] <;> rfl), by repeat (first | (with_reducible first | exact HB.out | apply below_alloc | apply pw_below_drewN | apply below_drew1) | exact HB.out)⟩
  · replace c4 := Bool.eq_false_iff.mpr c4
    subst c4
    have H1 : (some (0, 1)) = some (r1, r2) := by rw [if_neg (show ¬ (false = true) by decide)] at H; exact H
    clear H
    have H := H1
    clear H1
    simp only [Option.some.injEq, Prod.mk.injEq] at H
    obtain ⟨rfl, rfl⟩ := H
    go_enter Try.func82, Try.ntmps82
    go_wp2_with (first | ((with_reducible refine gate_dst (N := 8) rfl ?_); refine Kd.R_lit (Kd.int .i64) _ 3 ?hg (N := 8) ?hd (xs := ([a0, a1] : List Int)) (inner := [.int .i64 a0, .int .i64 a1]) (ok := fun _ => True) (okp := fun _ => True) ?hr ?hp (fun _ hk => hk) trivial (Below.refl _ _) (Nat.le_refl _) (by simp) ?_; (case hd => rfl); (case hg => rfl); (case hr => first | (go_simp; done) | (go_simp; rfl)); (case hp => exact (Reps.one (show Kd.M (Kd.int .i64) _ _ _ a0 [.int .i64 a0] from rfl) (Reps.one (show Kd.M (Kd.int .i64) _ _ _ a1 [.int .i64 a1] from rfl) (Reps.none _ _)))); intro v373 w9 ho10 hb hg_ hnew_; clear hg_ hnew_; (first | rw [← Ny372.out] at ho10 | (simp only [Int.reduceToNat] at ho10; rw [← Ny372.out] at ho10)); have n0_ := Aside0.mk (Kd.R_lower ho10 (below_size (by repeat (first | (with_reducible first | exact HB.out | apply below_alloc | apply pw_below_drewN | apply below_drew1) | exact HB.out)))); have n1_ := Aside0.mk (below_step (by repeat (first | (with_reducible first | exact HB.out | apply below_alloc | apply pw_below_drewN | apply below_drew1) | exact HB.out)) hb); clear HB; have HO374 := n0_; have HB := n1_; clear n0_ n1_; clear hb ho10; obtain ⟨Ao11, co11, eo11⟩ := Kd.R_slice HO374.out; subst eo11) | ((with_reducible refine gate_callee (f := 119) rfl ?_); refine goesL_ (some 9) rfl rfl Try.func119 (by kernel_rfl) rfl #[.slice Ao11 y372.length co11] rfl (by (try simp only [List.map_toArray, List.map_cons, List.map_nil]); first | done | rfl | (simp only [List.length_drop, List.length_take]; rfl)) ?_; (with_reducible refine (tick_all.calls _ _ y372 false _ ?side1 ?side2 A3.out).mono ?_); (case side1 => repeat (first | exact (Kd.R_reads' HO374.out).2.2 | (with_reducible refine Kd.C_alloc ?_ _) | (with_reducible refine Kd.C_drewN ?_ _) | (with_reducible refine Kd.C_drew ?_))); (case side2 => exact (Kd.R_reads' HO374.out).2.1); rintro e w' ⟨rfl, ⟨nd, rfl⟩⟩; refine ⟨_, rfl, ?_⟩))
    go_ret2
    exact ⟨by first | rfl | (simp [errW_none, errW_some] <;> rfl) | (simp [*, errW_none, errW_some] <;> rfl), by repeat (first | (with_reducible first | exact HB.out | apply below_alloc | apply pw_below_drewN | apply below_drew1) | exact HB.out)⟩
end Go.Proofs.Ytkphinfijppkeaa.G
