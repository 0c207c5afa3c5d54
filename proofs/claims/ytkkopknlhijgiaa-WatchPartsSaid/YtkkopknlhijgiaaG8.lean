/- Contracts of functions of the given program, each proved by a walk of its code: written by gprint.py, this session's program round the kit's print; texts of our own stand among the printed ones. No condition beyond each theorem's own premises. -/
import Derived.Test.YtkkopknlhijgiaaG0
import Derived.Test.YtkkopknlhijgiaaG2
import Derived.Test.YtkkopknlhijgiaaG3
import Derived.Test.YtkkopknlhijgiaaG4
namespace Go.Proofs.Ytkkopknlhijgiaa.G
open Go.RowKit Go.Proofs.YtkkopknlhijgiaaW.PrintWords Go.Proofs.YtkkopknlhijgiaaW.PrintLast Go.Proofs.YtkkopknlhijgiaaW.PrintMore
attribute [local go_sem] max2_int min2_int max_two min_two max_three min_three max_four min_four   -- for this text's walks alone
set_option linter.unusedVariables false
set_option linter.unusedSimpArgs false

/-! ### watch_Twice: function 37 -/
-- GIVEN OWN
open Go.Shelf
open Go.MapKept (Stamped stamped_push stamped_modify stamped_empty)
open Go.ChangeMaps (setBlock)
open Go.WideElems (findIdx_born findIdx_arr modify_last set_self)
def twVal (x : S51) : Value := .agg #[.int .i64 x.f0, .string x.f2, .bool x.f3]
def twWf (x : S51) : Bool := (Lit.int .i64 x.f0).wf && decide (x.f2.size ≤ maxLen)
def twKey (x : S51) : Int × ByteArray × Bool := (x.f0, x.f2, x.f3)
theorem twVal_eq {x y : S51} : twVal x = twVal y ↔ twKey x = twKey y := by simp [twVal, twKey]

theorem tw_law85 : WideMaps.KeyLaw Try.prog 85 := deep_law_laid (P := Try.prog) (by kernel_rfl) (m := 2) (by omega) (of_decide_eq_true (by kernel_rfl)) (by kernel_rfl) (by kernel_rfl)
theorem tw_key85 (x : S51) (h : twWf x = true) : ∃ l, keyOf Try.prog 85 (twVal x) = some l := by
  simp only [twWf, Bool.and_eq_true, decide_eq_true_eq] at h
  have hs : ∃ m, Try.prog.types.size = m + 1 := ⟨Try.prog.types.size - 1, by kernel_rfl⟩
  obtain ⟨m, hm⟩ := hs
  have hkt : Try.prog.keyType 85 = true := by kernel_rfl
  have c85 : Try.prog.cellsOf 85 = 3 := by kernel_rfl
  have c3 : Try.prog.cellsOf 3 = 1 := by kernel_rfl
  have c9 : Try.prog.cellsOf 9 = 1 := by kernel_rfl
  have c4 : Try.prog.cellsOf 4 = 1 := by kernel_rfl
  unfold keyOf
  simp only [Try.underlying85]
  rw [if_pos (by simp [hkt, twVal, Value.formed, Try.underlying85, c85]), hm]
  unfold Program.keyLits
  simp only [Try.underlying85, twVal, Value.cells]
  rw [if_pos (by rw [c85]; exact ⟨rfl, by simp⟩)]
  simp [c3, c9, c4, Program.keyLits, Try.underlying3, Try.underlying9, Try.underlying4, h.1, h.2]
/-- How many bear that key. -/
def twCnt (k : Int × ByteArray × Bool) (p : List S51) : Nat := p.countP fun y => decide (twKey y = k)
theorem twCnt_pos {x : S51} {p : List S51} (h : ∃ y ∈ p, twKey y = twKey x) : 0 < twCnt (twKey x) p := by
  obtain ⟨y, hy, e⟩ := h
  exact List.countP_pos_iff.2 ⟨y, hy, by simp [e]⟩
theorem twCnt_zero {x : S51} {p : List S51} (h : ∀ y ∈ p, twKey y ≠ twKey x) : twCnt (twKey x) p = 0 := by
  unfold twCnt
  rw [List.countP_eq_zero]
  intro y hy; simp [h y hy]
theorem twCnt_snoc (k : Int × ByteArray × Bool) (p : List S51) (x : S51) : twCnt k (p ++ [x]) = twCnt k p + if twKey x = k then 1 else 0 := by
  unfold twCnt
  rw [List.countP_append]
  by_cases h : twKey x = k <;> simp [h]
/-- What such a map holds, behind some. -/
structure TwMet (es : Array MapEntry) (clock : Nat) (p : List S51) : Prop where
  st : Stamped es clock
  all : ∀ e ∈ es.toList, ∃ x ∈ p, twWf x = true ∧ e.key = twVal x ∧ e.val = .int .i64 (twCnt (twKey x) p)
  has : ∀ x ∈ p, ∃ e ∈ es.toList, e.key = twVal x
theorem twMet_nil : TwMet #[] 0 [] := ⟨stamped_empty 0, by simp, by simp⟩
theorem twMet_keys {es : Array MapEntry} {clock : Nat} {p : List S51} (M : TwMet es clock p) : ∀ e ∈ es.toList, ∃ l, keyOf Try.prog 85 e.key = some l := by
  intro e he
  obtain ⟨x, _, hw, hk, _⟩ := M.all e he
  rw [hk]; exact tw_key85 x hw
theorem twMet_lookup {es : Array MapEntry} {clock : Nat} {p : List S51} (M : TwMet es clock p) (x : S51) (hx : twWf x = true) (W : World) (bm : Nat) (hb : W.heap[bm]? = some (.map es clock)) :
    (Instr.lookup 83 (.map (some bm)) (twVal x) false).run Try.prog W = .ok (.int .i64 (twCnt (twKey x) p)) W := by
  obtain ⟨l, hl⟩ := tw_key85 x hx
  have hz : (zeroValue 3).run Try.prog W = .ok (.int .i64 0) W := by kernel_rfl
  rcases tw_law85.find W hl es.toList (twMet_keys M) with ⟨h1, h2⟩ | ⟨j, e0, h1, h2, h3⟩
  · have h0 : twCnt (twKey x) p = 0 := twCnt_zero fun y hy e => by
      obtain ⟨e', he', hk⟩ := M.has y hy
      exact h2 e' he' (by rw [hk]; exact twVal_eq.2 e)
    simp [Instr.lookup, run_underlying Try.underlying83, MapKept.run_getObj_map hb, tw_law85.check W _ hl, h1, hz, h0]
  · obtain ⟨y, hy, hw, hk, hv⟩ := M.all e0 (List.mem_of_getElem? h2)
    have e : twKey y = twKey x := twVal_eq.1 (by rw [← hk, h3])
    simp [Instr.lookup, run_underlying Try.underlying83, MapKept.run_getObj_map hb, tw_law85.check W _ hl, h1, hv, e]
theorem twMet_step {es : Array MapEntry} {clock : Nat} {p : List S51} (M : TwMet es clock p) (x : S51) (hx : twWf x = true) :
    ∃ (es1 : Array MapEntry) (clock1 : Nat) (z : Value) (st : Int) (es2 : Array MapEntry) (clock2 : Nat),
      (∀ (W : World) (bm : Nat), W.heap[bm]? = some (.map es clock) → (Instr.mapEntry 83 (.map (some bm)) (twVal x)).run Try.prog W = .ok (.tuple #[z, .int .i64 st]) (setBlock W bm (.map es1 clock1))) ∧
      (∀ (W : World) (bm : Nat), W.heap[bm]? = some (.map es1 clock1) → (Instr.lookup 83 (.map (some bm)) (twVal x) false).run Try.prog W = .ok (.int .i64 (twCnt (twKey x) p)) W) ∧
      (∀ (W : World) (bm : Nat), W.heap[bm]? = some (.map es1 clock1) → (Instr.entryStore 83 (.map (some bm)) (.int .i64 st) (.int .i64 (twCnt (twKey x) p + 1))).run Try.prog W = .ok () (setBlock W bm (.map es2 clock2))) ∧
      TwMet es2 clock2 (p ++ [x]) := by
  obtain ⟨l, hl⟩ := tw_key85 x hx
  have hz : ∀ W : World, (zeroValue 3).run Try.prog W = .ok (.int .i64 0) W := fun W => by kernel_rfl
  obtain ⟨s1, s2, _⟩ := M.st
  by_cases hf : ∃ e0 ∈ es.toList, e0.key = twVal x
  · obtain ⟨e0, hm, h3⟩ := hf
    obtain ⟨j, hj0⟩ := List.mem_iff_getElem?.1 hm
    have hj : es[j]? = some e0 := by simpa using hj0
    obtain ⟨y, hy, hw, hk, hv⟩ := M.all e0 hm
    have ey : twKey y = twKey x := twVal_eq.1 (by rw [← hk, h3])
    have hfind : ∀ W : World, (Instr.findKey 85 (twVal x) es.toList).run Try.prog W = .ok (some (j, e0.val)) W := by
      intro W
      rcases tw_law85.find W hl es.toList (twMet_keys M) with ⟨h1, h2⟩ | ⟨j', e', h1, h2, h4⟩
      · exact absurd h3 (h2 e0 hm)
      · have : j' = j := by
          have hn2 := M.st.2.2
          have a1 : (es.toList.map (·.key))[j']? = some (twVal x) := by rw [List.getElem?_map, h2]; simp [h4]
          have a2 : (es.toList.map (·.key))[j]? = some (twVal x) := by rw [List.getElem?_map, hj0]; simp [h3]
          obtain ⟨l1, b1⟩ := List.getElem?_eq_some_iff.1 a1
          obtain ⟨l2, b2⟩ := List.getElem?_eq_some_iff.1 a2
          exact (List.getElem_inj hn2).1 (b1.trans b2.symm)
        subst this
        rw [h1]
        rw [h2] at hj0
        cases hj0; rfl
    have hsame : es.modify j (fun e => { e with key := twVal x }) = es := by
      apply Array.ext'
      rw [Array.toList_modify, Go.ChangeMaps.modify_eq_set _ _ _ _ hj0]
      have : ({ e0 with key := twVal x } : MapEntry) = e0 := by rw [← h3]
      rw [this]
      exact set_self _ _ _ hj0
    have hidx : es.findIdx? (fun e => ((e.born : Nat) : Int) == ((e0.born : Nat) : Int)) = some j := by
      rw [findIdx_arr]
      exact findIdx_born s2 hj0
    refine ⟨es, clock, e0.val, e0.born, es.modify j (fun e => { e with val := .int .i64 (twCnt (twKey x) p + 1) }), clock, fun W bm hb => ?_, fun W bm hb => twMet_lookup M x hx W bm hb, fun W bm hb => ?_, ?_⟩
    · simp [Instr.mapEntry, run_underlying Try.underlying83, MapKept.run_getObj_map hb, tw_law85.check W _ hl, hfind, hj, h3, tw_law85.stays W hl, hsame, MapKept.run_setObj_map _ hb, Result.andThen, setBlock, goInt]
    · simp [Instr.entryStore, MapKept.run_getObj_map hb, asInt, asIntOf, goInt, hidx, MapKept.run_setObj_map _ hb, Result.andThen, setBlock]
    · refine ⟨stamped_modify M.st j _ (fun e _ => rfl) (fun e _ _ => rfl), ?_, ?_⟩
      · intro e he
        rw [Array.toList_modify, Go.ChangeMaps.modify_eq_set _ _ _ _ hj0] at he
        obtain ⟨i, hi⟩ := List.mem_iff_getElem?.1 he
        rw [List.getElem?_set] at hi
        by_cases hij : j = i
        · rw [if_pos hij] at hi
          have hlt : j < es.toList.length := (List.getElem?_eq_some_iff.1 hj0).1
          rw [if_pos hlt] at hi
          obtain rfl := Option.some.inj hi
          refine ⟨x, by simp, hx, h3, ?_⟩
          rw [twCnt_snoc, if_pos rfl]; rfl
        · rw [if_neg hij] at hi
          obtain ⟨z, hz1, hz2, hz3, hz4⟩ := M.all e (List.mem_of_getElem? hi)
          refine ⟨z, List.mem_append_left _ hz1, hz2, hz3, ?_⟩
          rw [twCnt_snoc, if_neg, hz4]; · rfl
          intro he2
          have hn2 := M.st.2.2
          have a1 : (es.toList.map (·.key))[i]? = some (twVal x) := by rw [List.getElem?_map, hi]; simp [hz3]; exact twVal_eq.2 he2.symm
          have a2 : (es.toList.map (·.key))[j]? = some (twVal x) := by rw [List.getElem?_map, hj0]; simp [h3]
          obtain ⟨l1, b1⟩ := List.getElem?_eq_some_iff.1 a1
          obtain ⟨l2, b2⟩ := List.getElem?_eq_some_iff.1 a2
          exact hij ((List.getElem_inj hn2).1 (b2.trans b1.symm))
      · intro q hq
        have hk2 := Go.MapKept.modify_keys (es := es) j (fun e => { e with val := .int .i64 (twCnt (twKey x) p + 1) }) (fun e _ => rfl)
        have : twVal q ∈ es.toList.map (·.key) := by
          rcases List.mem_append.1 hq with h | h
          · obtain ⟨e, he, hk⟩ := M.has q h
            exact List.mem_map.2 ⟨e, he, hk⟩
          · rw [List.mem_singleton] at h
            subst h
            exact List.mem_map.2 ⟨e0, hm, h3⟩
        rw [← hk2] at this
        obtain ⟨e, he, hk⟩ := List.mem_map.1 this
        exact ⟨e, he, hk⟩
  · have hno : ∀ e ∈ es.toList, e.key ≠ twVal x := fun e he h => hf ⟨e, he, h⟩
    have hfind : ∀ W : World, (Instr.findKey 85 (twVal x) es.toList).run Try.prog W = .ok none W := by
      intro W
      rcases tw_law85.find W hl es.toList (twMet_keys M) with ⟨h1, h2⟩ | ⟨j', e', h1, h2, h4⟩
      · exact h1
      · exact absurd h4 (hno e' (List.mem_of_getElem? h2))
    have h0 : twCnt (twKey x) p = 0 := twCnt_zero fun y hy e => by
      obtain ⟨e', he', hk⟩ := M.has y hy
      exact hno e' he' (by rw [hk]; exact twVal_eq.2 e)
    have hidx : (es.push ⟨twVal x, .int .i64 0, clock⟩).findIdx? (fun e => ((e.born : Nat) : Int) == ((clock : Nat) : Int)) = some es.size := by
      rw [findIdx_arr]
      exact findIdx_born (l := (es.push ⟨twVal x, .int .i64 0, clock⟩).toList) (j := es.size) (e0 := ⟨twVal x, .int .i64 0, clock⟩) (by
        simp only [Array.toList_push, List.map_append, List.map_cons, List.map_nil]
        refine List.nodup_append.2 ⟨s2, by simp, fun a ha c hc e1 => ?_⟩
        simp only [List.mem_singleton] at hc
        obtain ⟨x, hx, rfl⟩ := List.mem_map.1 ha
        have := s1 x hx
        omega) (by simp)
    have hmod : (es.push ⟨twVal x, .int .i64 0, clock⟩).modify es.size (fun e => { e with val := .int .i64 1 }) = es.push ⟨twVal x, .int .i64 1, clock⟩ := by
      apply Array.ext'
      rw [Array.toList_modify, Array.toList_push, Array.toList_push, ← Array.length_toList, modify_last]
    rw [h0]
    have hz := hz
    have hlk : ∀ (W : World) (bm : Nat), W.heap[bm]? = some (.map (es.push ⟨twVal x, .int .i64 0, clock⟩) (clock + 1)) → (Instr.lookup 83 (.map (some bm)) (twVal x) false).run Try.prog W = .ok (.int .i64 0) W := by
      intro W bm hb
      have hkeys : ∀ e ∈ (es.push ⟨twVal x, .int .i64 0, clock⟩).toList, ∃ l, keyOf Try.prog 85 e.key = some l := by
        intro e he
        rw [Array.toList_push, List.mem_append, List.mem_singleton] at he
        rcases he with he | rfl
        · exact twMet_keys M e he
        · exact ⟨l, hl⟩
      rcases tw_law85.find W hl _ hkeys with ⟨h1, h2⟩ | ⟨j, e0, h1, h2, h3⟩
      · exact absurd rfl (h2 ⟨twVal x, .int .i64 0, clock⟩ (by simp))
      · have hv : e0.val = .int .i64 0 := by
          have := List.mem_of_getElem? h2
          rw [Array.toList_push, List.mem_append, List.mem_singleton] at this
          rcases this with h | rfl
          · exact absurd h3 (hno e0 h)
          · rfl
        simp only [Array.toList_push] at h1
        simp [Instr.lookup, run_underlying Try.underlying83, MapKept.run_getObj_map hb, tw_law85.check W _ hl, h1, hv]
    refine ⟨es.push ⟨twVal x, .int .i64 0, clock⟩, clock + 1, .int .i64 0, clock, es.push ⟨twVal x, .int .i64 1, clock⟩, clock + 1, fun W bm hb => ?_, fun W bm hb => hlk W bm hb, fun W bm hb => ?_, ?_⟩
    · simp [Instr.mapEntry, run_underlying Try.underlying83, MapKept.run_getObj_map hb, tw_law85.check W _ hl, hfind, hz, MapKept.run_setObj_map _ hb, Result.andThen, setBlock, goInt]
    · simp [Instr.entryStore, MapKept.run_getObj_map hb, asInt, asIntOf, goInt, hidx, hmod, MapKept.run_setObj_map _ hb, Result.andThen, setBlock]
    · refine ⟨stamped_push M.st hno, ?_, ?_⟩
      · intro e he
        rw [Array.toList_push, List.mem_append, List.mem_singleton] at he
        rcases he with he | rfl
        · obtain ⟨z, hz1, hz2, hz3, hz4⟩ := M.all e he
          refine ⟨z, List.mem_append_left _ hz1, hz2, hz3, ?_⟩
          rw [twCnt_snoc, if_neg, hz4]; · rfl
          intro he2
          exact hno e he (by rw [hz3]; exact twVal_eq.2 he2.symm)
        · refine ⟨x, by simp, hx, rfl, ?_⟩
          rw [twCnt_snoc, if_pos rfl, h0]; rfl
      · intro q hq
        rcases List.mem_append.1 hq with h | h
        · obtain ⟨e, he, hk⟩ := M.has q h
          exact ⟨e, by simp [he], hk⟩
        · rw [List.mem_singleton] at h
          subst h
          exact ⟨⟨twVal q, .int .i64 1, clock⟩, by simp, rfl⟩
attribute [local go_sem] Oper.semAt_some
def twRow (bm : Nat) (p : List S51) : Fr.Row := ⟨fun k => k = bm, fun w => ∃ es clock, w.heap[bm]? = some (.map es clock) ∧ TwMet es clock p, fun w w' _ hb h => by
  obtain ⟨es, clock, h1, h2⟩ := h
  exact ⟨es, clock, (hb bm rfl).trans h1, h2⟩⟩
theorem tw_same {w : World} {b : Nat} {o o' : Obj} (h : w.heap[b]? = some o) : (setBlock w b o').heap[b]? = some o' := by
  obtain ⟨hl, _⟩ := Array.getElem?_eq_some_iff.1 h
  simp [setBlock, Array.getElem?_setIfInBounds, hl]
theorem tw_far {w : World} {b k : Nat} {o' : Obj} (h : k ≠ b) : (setBlock w b o').heap[k]? = w.heap[k]? := by
  simp [setBlock, Array.getElem?_setIfInBounds]
  intro e; exact absurd e.symm h
theorem twPut {w0 w : World} {bs : List Fr.Blk} {r : Fr.Row} {bm : Nat} {p p2 : List S51} {es2 : Array MapEntry} {c2 : Nat} (h : Fr.Frame w0 w bs [r, twRow bm p]) (hm : w0.heap.size ≤ bm) (hd : ¬ r.foot bm) (M : TwMet es2 c2 p2) :
    Fr.Frame w0 (setBlock w bm (.map es2 c2)) bs [r, twRow bm p2] := by
  have hsz : (setBlock w bm (.map es2 c2)).heap.size = w.heap.size := by simp [setBlock]
  obtain ⟨⟨es, c, hb, _⟩, hlt, hn⟩ := h.row (twRow bm p) (by simp)
  refine ⟨⟨h.below.os, h.below.tape, h.below.output, by rw [hsz]; exact h.below.size, fun k hk => ?_⟩, fun b hb => ⟨(h.blk b hb).1, (tw_far (fun e => ?_)).trans (h.blk b hb).2⟩, h.nodup, fun r' hr' => ?_⟩
  · rw [tw_far (by omega)]; exact h.below.block k hk
  · exact hn b hb e
  · simp only [List.mem_cons, List.not_mem_nil, or_false] at hr'
    rcases hr' with rfl | rfl
    · obtain ⟨h1, h2, h3⟩ := h.row r' (by simp)
      refine ⟨r'.dep w _ (by rw [hsz]; exact Nat.le_refl _) (fun k hk => tw_far (fun e => hd (by rw [← e]; exact hk))) h1, fun k hk => by rw [hsz]; exact h2 k hk, h3⟩
    · exact ⟨⟨es2, c2, tw_same hb, M⟩, fun k hk => by rw [hsz]; exact hlt k hk, hn⟩
def twP (x : S51) : Bool := !(x.f1 == -1)
theorem twice1 (w : World) : PredS 61 #[] twP w := by
  intro x W hB
  clear hB
  show Calls Try.prog 61 #[.agg #[.int .i64 x.f0, .int .i64 x.f1, .string x.f2, .bool x.f3]] W _
  go_enter Try.func61, Try.ntmps61
  go_wp2
  go_ret
  exact ⟨by simp [twP, bne], (Below.refl _ W).alloc (Nat.le_refl _) _⟩
def twGo (p : List S51) : List S51 → Int
  | [] => 0
  | x :: r => (if 0 < twCnt (twKey x) p then 1 else 0) + twGo (p ++ [x]) r
theorem tw_callRB {α : Type} {d : Kd α} {e : Nat} {v : Value} {xs : List α} {ok : Nat → Prop} {w0 w w' : World} {bs : List Fr.Blk} {rs : List Fr.Row} (h : Fr.Frame w0 w bs rs) (hb : Below w.heap.size w w') (hR : d.R e w' w.heap.size ok v xs) :
    ∃ S, Fr.Frame w0 w' bs (Fr.rowR d e w.heap.size v xs S :: rs) ∧ ∀ k, S k → w.heap.size ≤ k :=
  ⟨_, (h.call hb).add (Fr.rowR d e w.heap.size v xs _) (Kd.R_bound hR) (fun k hk => hk.2.2.1) (fun b hm hk => by have := h.lt hm; have := hk.2.1; omega), fun k hk => hk.2.1⟩
theorem tw_allocMap {w0 w : World} {bs : List Fr.Blk} {rs : List Fr.Row} (h : Fr.Frame w0 w bs rs) : Fr.Frame w0 (w.alloc (.map #[] 0)) bs (twRow w.heap.size [] :: rs) := by
  refine (h.call ((Below.refl _ w).alloc (Nat.le_refl _) _)).add (twRow w.heap.size []) ⟨#[], 0, (MapKept.heap_alloc w _).1, twMet_nil⟩ (fun k hk => by have : k = w.heap.size := hk; subst this; simp) (fun b hb he => ?_)
  have := h.lt hb
  have : b.1 = w.heap.size := he
  omega

set_option maxHeartbeats 1000000 in
set_option maxRecDepth 100000 in
theorem twice_no (A : Option Addr) (c : Nat) (l : List S51) (w : World) (hr : Kd.C k51 w A l.length l) (hlen : l.length * 40 ≤ 140737488351232) (h : upF l = false) :
    Calls Try.prog 37 #[.slice A l.length c] w fun e w' => e = .returned (.tuple #[.int .i64 0, .int .i64 1]) ∧ Below w.heap.size w w' := by
  have HR := Aside0.mk hr
  have HU := Aside0.mk h
  have HL := Aside0.mk hlen
  clear hr h hlen
  have hF := Aside0.mk (Fr.Frame.start w)
  have HC : True := trivial
  go_enter Try.func37, Try.ntmps37
  go_wp2_with (first | (go_at_call 41; refine (right_calls A c l _ (Kd.C_below HR.out hF.out.below) HL.out).mono ?_; rintro e W1 ⟨rfl, hb⟩; have hF1 := hF.out.call hb; clear hb; simp only [HU.out]; have HC1 := hF1.cells; simp only [Fr.Cells, List.length_cons, List.length_nil, Nat.reduceAdd, and_true] at HC1; clear hF HC; have HC := HC1; have hF := Aside0.mk hF1; clear hF1 HC1) | ((with_reducible refine gate_store rfl ?_); apply Fr.fr_store hF.out rfl rfl rfl; (case hp => rfl); (case hx => first | (go_simp; rfl) | rfl); (case hu => (simp only [Value.cells]; rfl)); (case hs => (repeat (first | exact Fr.Spot.here _ _ | apply Fr.Spot.there))); (case ht => kernel_rfl); (case h1 => simp [Value.oneCell']); (case hfit => simp); intro W hF1; simp only [Fr.patch, List.take_zero, List.nil_append, List.drop, List.append_nil, List.take, List.cons_append, List.length_cons, List.length_nil, Nat.reduceAdd] at hF1; have HC1 := hF1.cells; simp only [Fr.Cells, List.length_cons, List.length_nil, Nat.reduceAdd, and_true] at HC1; clear hF HC; have HC := HC1; have hF := Aside0.mk hF1; clear hF1 HC1) | ((first | (with_reducible refine Fr.gate_alloc rfl ?_) | (with_reducible refine Fr.gate_box rfl ?_)); apply Fr.fr_box hF.out rfl; (case hrun => first | (go_simp; done) | (go_simp; rfl)); intro g W hF1; have HC1 := hF1.cells; simp only [Fr.Cells, List.length_cons, List.length_nil, Nat.reduceAdd, and_true] at HC1; clear hF HC; have HC := HC1; have hF := Aside0.mk hF1; clear hF1 HC1))
  go_ret2
  exact ⟨rfl, hF.out.below⟩
set_option maxHeartbeats 4000000 in
set_option maxRecDepth 100000 in
theorem twice_yes (A : Option Addr) (c : Nat) (l : List S51) (w : World) (hr : Kd.C k51 w A l.length l) (hlen : l.length * 40 ≤ 140737488351232) (h : upF l = true) (hk : ∀ x ∈ l, twWf x = true) (r : Int) (hG : twGo [] (l.filter twP) = r) :
    Calls Try.prog 37 #[.slice A l.length c] w fun e w' => e = .returned (.tuple #[.int .i64 r, .int .i64 0]) ∧ Below w.heap.size w w' := by
  have HR := Aside0.mk hr
  have HU := Aside0.mk h
  have HL := Aside0.mk hlen
  have HG0 := Aside0.mk hG
  have HK0 := Aside0.mk hk
  clear hr h hlen hG hk
  have hF := Aside0.mk (Fr.Frame.start w)
  have HC : True := trivial
  have hmm := @run_makeMap Try.prog
  go_enter Try.func37, Try.ntmps37
  go_wp2_with (first | (go_at_call 41; refine (right_calls A c l _ (Kd.C_below HR.out hF.out.below) HL.out).mono ?_; rintro e W1 ⟨rfl, hb⟩; have hF1 := hF.out.call hb; clear hb; simp only [HU.out]; have HC1 := hF1.cells; simp only [Fr.Cells, List.length_cons, List.length_nil, Nat.reduceAdd, and_true] at HC1; clear hF HC; have HC := HC1; have hF := Aside0.mk hF1; clear hF1 HC1) | ((with_reducible refine gate_store rfl ?_); apply Fr.fr_store hF.out rfl rfl rfl; (case hp => rfl); (case hx => first | (go_simp; rfl) | rfl); (case hu => (simp only [Value.cells]; rfl)); (case hs => (repeat (first | exact Fr.Spot.here _ _ | apply Fr.Spot.there))); (case ht => kernel_rfl); (case h1 => simp [Value.oneCell']); (case hfit => simp); intro W hF1; simp only [Fr.patch, List.take_zero, List.nil_append, List.drop, List.append_nil, List.take, List.cons_append, List.length_cons, List.length_nil, Nat.reduceAdd] at hF1; have HC1 := hF1.cells; simp only [Fr.Cells, List.length_cons, List.length_nil, Nat.reduceAdd, and_true] at HC1; clear hF HC; have HC := HC1; have hF := Aside0.mk hF1; clear hF1 HC1) | ((first | (with_reducible refine Fr.gate_alloc rfl ?_) | (with_reducible refine Fr.gate_box rfl ?_)); apply Fr.fr_box hF.out rfl; (case hrun => first | (go_simp; done) | (go_simp; rfl)); intro g W hF1; have HC1 := hF1.cells; simp only [Fr.Cells, List.length_cons, List.length_nil, Nat.reduceAdd, and_true] at HC1; clear hF HC; have HC := HC1; have hF := Aside0.mk hF1; clear hF1 HC1))
  refine (only_calls 61 #[] twP (enters_of Try.func61 (by kernel_rfl) rfl) A c l _ (Kd.C_below HR.out (tw_allocMap hF.out).below) HL.out (twice1 _)).mono ?_
  rintro e W2 ⟨v1, rfl, hR1, hb⟩
  obtain ⟨A1, c1, rfl, hc1, _⟩ := Kd.R_reads hR1
  have hbm : w.heap.size ≤ W1.heap.size := hF.out.below.size
  obtain ⟨S1, hF1, hS1⟩ := tw_callRB (tw_allocMap hF.out) hb hR1
  obtain ⟨bm, hbmE⟩ : ∃ n : Nat, W1.heap.size = n := ⟨_, rfl⟩
  have hd := Aside0.mk (show ¬ S1 bm from fun h => by have := hS1 _ h; rw [← hbmE] at this; simp at this; omega)
  obtain ⟨bN, hbN⟩ : ∃ n : Nat, (W1.alloc (.map #[] 0)).heap.size = n := ⟨_, rfl⟩
  rw [hbN] at hF1
  rw [hbmE] at hF1 hbm ⊢
  have HLn := Aside0.mk (show (l.filter twP).length ≤ 3518437208883 by have := List.length_filter_le twP l; have := HL.out; omega)
  have HKs := Aside0.mk (show ∀ x ∈ l.filter twP, twWf x = true from fun x hx => HK0.out x (List.mem_filter.1 hx).1)
  have HM := Aside0.mk hbm
  clear hR1 hb hc1 hbN HK0 hS1 hmm hbm hbmE
  have HC1 := hF1.cells; simp only [Fr.Cells, List.length_cons, List.length_nil, Nat.reduceAdd, and_true] at HC1; clear hF HC; have HC := HC1; have hF := Aside0.mk hF1; clear hF1 HC1
  obtain ⟨s, hs⟩ : ∃ s, s = l.filter twP := ⟨_, rfl⟩
  rw [← hs] at hF HLn HG0 HKs ⊢
  have HG := HG0
  clear HG0 hs
  go_wp2
  go_loopg [5, 16] s.length (fun kq v5 v16 w' => ∃ (k : Nat) (n : Int), k ≤ s.length ∧ s.length - k ≤ kq ∧ v16 = .int .i64 k ∧ v5 = .int .i64 n ∧ Aside0 (0 ≤ n ∧ n ≤ k) ∧ Aside0 (n + twGo (s.take k) (s.drop k) = r) ∧ Aside0 (Fr.Frame w w' [] [Fr.rowR k51 51 bN (.slice A1 s.length c1) s S1, twRow bm (s.take k)]))
  case atStart => exact ⟨0, 0, Nat.zero_le _, by omega, rfl, rfl, ⟨by omega, by omega⟩, ⟨by rw [List.drop_zero, List.take_zero, Int.zero_add]; exact HG.out⟩, hF⟩
  case round =>
    obtain ⟨k, n, hk, hg, rfl, rfl, Hn, HGo, hF⟩ := hrel
    clear HC
    have HC1 := hF.out.cells
    simp only [Fr.Cells, List.length_cons, List.length_nil, Nat.reduceAdd, and_true] at HC1
    have HC := HC1
    clear HC1
    have hRr : Kd.R k51 51 wr bN S1 (.slice A1 s.length c1) s := hF.out.rowAt List.mem_cons_self
    have hCr := (Kd.R_reads' hRr).2.2
    clear hRr
    have hle : s.length ≤ 9223372036854775807 := by have := HLn.out; omega
    by_cases hlt : k < s.length
    · have hlti : (k : Int) < (s.length : Int) := by omega
      obtain ⟨ad, e1, a0, a1, a2, a3⟩ := at_T51 hCr (k : Int) (by omega) hlti
      cases e1
      rw [Int.toNat_natCast] at a0 a1 a2 a3
      have HD := Aside0.mk (rd_drop s k hlt)
      have HT := Aside0.mk (show s.take (k + 1) = s.take k ++ [rd_T51 s k] by rw [show rd_T51 s k = s[k] by simp [rd_T51, List.getD_eq_getElem?_getD, hlt], List.take_succ_eq_append_getElem hlt])
      have HX := Aside0.mk (HKs.out (rd_T51 s k) (by rw [show rd_T51 s k = s[k] by simp [rd_T51, List.getD_eq_getElem?_getD, hlt]]; exact List.getElem_mem _))
      clear hCr
      generalize rd_T51 s (k : Int) = x at *
      go_wp2_with (first | ((with_reducible refine gate_store rfl ?_); apply Fr.fr_store hF.out rfl rfl rfl; (case hp => rfl); (case hx => first | (go_simp; rfl) | rfl); (case hu => (simp only [Value.cells]; rfl)); (case hs => (repeat (first | exact Fr.Spot.here _ _ | apply Fr.Spot.there))); (case ht => kernel_rfl); (case h1 => simp [Value.oneCell']); (case hfit => simp); intro W hF1; simp only [Fr.patch, List.take_zero, List.nil_append, List.drop, List.append_nil, List.take, List.cons_append, List.length_cons, List.length_nil, Nat.reduceAdd] at hF1; have HC1 := hF1.cells; simp only [Fr.Cells, List.length_cons, List.length_nil, Nat.reduceAdd, and_true] at HC1; clear hF HC; have HC := HC1; have hF := Aside0.mk hF1; clear hF1 HC1) | ((with_reducible refine gate_dst (N := 7) rfl ?_); apply Fr.fr_box hF.out rfl; (case hrun => first | (go_simp; done) | (go_simp; rfl)); intro g7 W hF1; have HC1 := hF1.cells; simp only [Fr.Cells, List.length_cons, List.length_nil, Nat.reduceAdd, and_true] at HC1; clear hF HC; have HC := HC1; have hF := Aside0.mk hF1; clear hF1 HC1) | ((with_reducible refine gate_dst (N := 8) rfl ?_); apply Fr.fr_box hF.out rfl; (case hrun => first | (go_simp; done) | (go_simp; rfl)); intro g8 W hF1; have HC1 := hF1.cells; simp only [Fr.Cells, List.length_cons, List.length_nil, Nat.reduceAdd, and_true] at HC1; clear hF HC; have HC := HC1; have hF := Aside0.mk hF1; clear hF1 HC1))
      obtain ⟨es, ck, hmb, M⟩ := hF.out.rowAt (r := twRow bm (s.take k)) (by simp)
      obtain ⟨es1, ck1, z, st, es2, ck2, hE, hL1, hS, M2⟩ := twMet_step M x HX.out
      have hL := twMet_lookup M x HX.out
      have hL2 := twMet_lookup M2 x HX.out
      have hN : twCnt (twKey x) (s.take k) ≤ k := Nat.le_trans List.countP_le_length (by simp; omega)
      rw [twCnt_snoc, if_pos rfl] at hL2
      have HDup := Aside0.mk (show (if 0 < twCnt (twKey x) (s.take k) then (1 : Int) else 0) + twGo (s.take k ++ [x]) (s.drop (k + 1)) = twGo (s.take k) (s.drop k) by rw [HD.out, twGo])
      generalize twCnt (twKey x) (s.take k) = N at *
      have hg : g8 ≠ bm := fun e => (hF.out.row (twRow bm (s.take k)) (by simp)).2.2 (g8, [.int .i64 x.f0, .string x.f2, .bool x.f3], 85) (by simp) e
      have hF2 := Aside0.mk (twPut hF.out.drew HM.out hd.out M2)
      have hb0 : W.drew.heap[bm]? = some (.map es ck) := hmb
      have L0 := hL W.drew bm hb0
      have E0 := hE W.drew bm hb0
      have L1 := hL1 (setBlock W.drew bm (.map es1 ck1)) bm (tw_same hb0)
      have S0 := hS (setBlock W.drew bm (.map es1 ck1)) bm (tw_same hb0)
      have e2 : setBlock (setBlock W.drew bm (.map es1 ck1)) bm (.map es2 ck2) = setBlock W.drew bm (.map es2 ck2) := by simp [setBlock]
      rw [e2] at S0
      have L2 := hL2 (setBlock W.drew bm (.map es2 ck2)) bm (tw_same hb0)
      obtain ⟨V, hV⟩ : ∃ V, V = setBlock W.drew bm (.map es1 ck1) := ⟨_, rfl⟩
      have cV : ∀ i : Nat, V.cell? ⟨g8, i, none⟩ = W.cell? ⟨g8, i, none⟩ := fun i => by
        rw [hV]; unfold World.cell?; rw [tw_far hg]; rfl
      rw [← hV] at E0 L1 S0
      obtain ⟨V2, hV2⟩ : ∃ V, V = setBlock W.drew bm (.map es2 ck2) := ⟨_, rfl⟩
      rw [← hV2] at S0 hF2 L2
      have c0 := HC.1.1 0 (by decide)
      have c1' := HC.1.1 1 (by decide)
      have c2 := HC.1.1 2 (by decide)
      simp only [List.getElem?_cons_zero, List.getElem?_cons_succ] at c0 c1' c2
      have v0 := (cV 0).trans c0
      have v1 := (cV 1).trans c1'
      have v2 := (cV 2).trans c2
      have hw : IntKind.i64.wrap ((N : Int) + 1) = (N : Int) + 1 := by have := HLn.out; unfold IntKind.wrap; simp [IntKind.signed, IntKind.bits]; omega
      clear hL hE hL1 hS hL2 hmb hb0 e2 hV hV2 cV M M2 hF
      have hF := hF2
      have HC1 := hF.out.cells
      simp only [Fr.Cells, List.length_cons, List.length_nil, Nat.reduceAdd, and_true] at HC1
      clear HC hF2
      have HC := HC1
      clear HC1
      simp only [twVal] at L0 L1 E0 L2
      simp only [Act.put, List.setIfInBounds_toArray, List.set_cons_zero, List.set_cons_succ]
      have e1 : (((N + 1 : Nat) : Int)) = (N : Int) + 1 := by omega
      rw [e1] at L2
      clear e1
      have hn0 := Hn.out.1
      have hn1 := Hn.out.2
      have hkk := HLn.out
      have hwn : IntKind.i64.wrap (n + 1) = n + 1 := by unfold IntKind.wrap; simp [IntKind.signed, IntKind.bits]; omega
      by_cases hd0 : 0 < N
      · have hd1 : (1 : Int) < (N : Int) + 1 := by omega
        have HG2 := Aside0.mk (show (n + 1) + twGo (s.take (k + 1)) (s.drop (k + 1)) = r by rw [HT.out, ← HGo.out, ← HDup.out, if_pos hd0]; omega)
        clear HGo HDup
        go_region_held3 (fun w' => w'.cell? ⟨g8, 0, none⟩ = some (.int .i64 x.f0) ∧ w'.cell? ⟨g8, 1, none⟩ = some (.string x.f2) ∧ w'.cell? ⟨g8, 2, none⟩ = some (.bool x.f3)) (go_keep) (fail)
        all_goals
          go_wp2
          go_roundg (s.length - (k + 1))
          case measure => omega
          case rel => exact ⟨k + 1, n + 1, by omega, by omega, by go_num, rfl, ⟨by omega, by omega⟩, HG2, ⟨by rw [HT.out]; exact hF.out.forget⟩⟩
      · have hd1 : ¬ (1 : Int) < (N : Int) + 1 := by omega
        have HG2 := Aside0.mk (show n + twGo (s.take (k + 1)) (s.drop (k + 1)) = r by rw [HT.out, ← HGo.out, ← HDup.out, if_neg hd0]; omega)
        clear HGo HDup
        go_region_held3 (fun w' => w'.cell? ⟨g8, 0, none⟩ = some (.int .i64 x.f0) ∧ w'.cell? ⟨g8, 1, none⟩ = some (.string x.f2) ∧ w'.cell? ⟨g8, 2, none⟩ = some (.bool x.f3)) (go_keep) (fail)
        all_goals
          go_wp2
          go_roundg (s.length - (k + 1))
          case measure => omega
          case rel => exact ⟨k + 1, n, by omega, by omega, by go_num, rfl, ⟨by omega, by omega⟩, HG2, ⟨by rw [HT.out]; exact hF.out.forget⟩⟩
    · have hks : k = s.length := by omega
      subst hks
      have HN := Aside0.mk (show n = r by
        have h9 := HGo.out
        rw [List.drop_length] at h9
        simpa [twGo] using h9)
      clear HGo hCr
      go_wp2
      go_ret2
      exact ⟨by rw [← HN.out]; rfl, hF.out.below⟩
def watch_Twice.f (l : List S51) : Option (Int × Int) :=
  if l.length * 40 ≤ 140737488351232 ∧ l.all twWf = true then (if upF l = true then some (twGo [] (l.filter twP), 0) else some (0, 1)) else none
theorem watch_Twice.calls (A0 : Option Addr) (c0 : Nat) (l0 : List S51) (r1 : Int) (r2 : Int) (w : World) (hr0 : Kd.C k51 w A0 l0.length l0) (hc0 : l0.length ≤ c0) (h : watch_Twice.f l0 = some (r1, r2)) :
    Calls Try.prog 37 #[.slice A0 l0.length c0] w fun e w' => e = .returned (.tuple #[.int .i64 r1, .int .i64 r2]) ∧ Below w.heap.size w w' := by
  unfold watch_Twice.f at h
  by_cases hl : l0.length * 40 ≤ 140737488351232 ∧ l0.all twWf = true
  · rw [if_pos hl] at h
    by_cases hm : upF l0 = true
    · rw [if_pos hm] at h
      simp only [Option.some.injEq, Prod.mk.injEq] at h
      obtain ⟨h, rfl⟩ := h
      exact twice_yes A0 c0 l0 w hr0 hl.1 hm (List.all_eq_true.1 hl.2) r1 h
    · rw [if_neg hm] at h
      simp only [Option.some.injEq, Prod.mk.injEq] at h
      obtain ⟨rfl, rfl⟩ := h
      exact twice_no A0 c0 l0 w hr0 hl.1 (by simpa using hm)
  · rw [if_neg hl] at h; cases h


end Go.Proofs.Ytkkopknlhijgiaa.G
