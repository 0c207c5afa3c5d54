/- More for a walk's own memory: several elements appended to a slice of one's own, which stays one's own. No program in sight. -/
import Derived.Test.YtkphinfijppkeaaFrame
import Derived.Maps.AppendAt
import Derived.Deep.AppendLies
namespace Go.Proofs.Ytkphinfijppkeaa.Fr
open Go.RowKit Go.Proofs.YtkphinfijppkeaaW.PrintWords
set_option linter.unusedVariables false
/-! Several elements appended to a slice of one's own; and the slice that was appended to stays one's own. -/
section
variable {P : Program}
theorem append_how (w : World) (base : Nat) (t ty e : TypeId) (i : TypeInfo) (z : Value) (ht : P.underlying t = some (.slice e)) (hi : P.info? e = some i) (hz : i.zero = some z)
    (v : Value) (n : Nat) (xs : List Value) (hown : w.ownsRow base e i.size v n xs)
    (a : Addr) (m c : Nat) (news : List Value) (hl : news.length = m * i.size) (hnews : ∀ j u, news[j]? = some u → w.cell? (a.add j) = some u) (h1 : ∀ u ∈ news, u.oneCell' = true)
    (h63 : n + m ≤ maxLen) (hbytes : (n + m) * i.bytes ≤ 140737488355328) (v1 : Value) (w1 : World) (hrun : (Builtin.append_ #[t, t] ty #[v, .slice (some a) m c]).run P w = .ok v1 w1) :
    (v = .slice none 0 0 ∧ n = 0) ∨ (∃ A cap, v = .slice A n cap ∧ v1 = .slice A (n + m) cap) ∨ ∀ k, k < w.heap.size → w1.heap[k]? = w.heap[k]? := by
  have hsmall : n + m ≤ 9223372036854775807 := by simp only [maxLen] at h63; omega
  rcases hown.2 with ⟨rfl, rfl⟩ | ⟨g, cap, cur, rfl, hbg, hg, hnc, hcm, hcs, htake⟩
  · exact .inl ⟨rfl, rfl⟩
  · refine .inr ?_
    by_cases hroom : n + m ≤ cap
    · have hfit : n * i.size + news.length ≤ cur.size := by rw [hl, hcs, ← Nat.add_mul]; exact Nat.mul_le_mul_right _ hroom
      have hr := run_append_room (P := P) w t ty e i ht hi g n cap cur hg a m c news hl hnews h1 hroom hfit
      rw [hr] at hrun
      injection hrun with e1 e2
      exact .inl ⟨_, cap, rfl, e1.symm⟩
    · have holds : ∀ j u, xs[j]? = some u → w.cell? ((⟨g, 0, none⟩ : Addr).add j) = some u := hown.cells (g := g) rfl
      have hr := run_append_grow (P := P) w t ty e i z ht hi hz ⟨g, 0, none⟩ n cap xs hown.1 holds a m c news hl hnews (by omega) (by omega) (growslice_fits (by omega) hbytes)
      rw [hr] at hrun
      injection hrun with e1 e2
      refine .inr fun k hk => ?_
      rw [← e2]
      exact heap_alloc_old w.drew _ hk
theorem R_append_keep {α : Type} (d : Kd α) {W : World} (base : Nat) (t ty e : TypeId) (z : Value) (bytes : Nat)
    (ht : P.underlying t = some (.slice e)) (hinfo : (P.info? e).map (fun i => (i.zero, i.size, i.bytes)) = some (some z, d.sz, bytes)) (hz : z.cells.size = d.sz) (hs0 : 0 < d.sz) (hb0 : 0 < bytes)
    {v : Value} {xs ps : List α} {cs : List Value} {ok : Nat → Prop} (HO : d.R e W base ok v xs) (hps : ∀ (w : World) (ok : Nat → Prop), Reps (d.M w base ok) d.sz ps cs) (hone : ∀ u ∈ cs, u.oneCell' = true) (ad : Addr) (m c : Nat) (hm : ps.length = m)
    (hnews : ∀ j u, cs[j]? = some u → W.cell? (ad.add j) = some u) (hl : (xs.length + m) * bytes ≤ 140737488355328) (hbase : base ≤ W.heap.size) (hfresh : ∀ k, W.heap.size ≤ k → ok k) :
    ∃ v1 w1, (Builtin.append_ #[t, t] ty #[v, .slice (some ad) m c]).run P W = .ok v1 w1 ∧ d.R e w1 base ok v1 (xs ++ ps) ∧ d.R e w1 base ok v xs ∧ W.grownBy w1 v.ownBlock := by
  obtain ⟨i0, hi, hzz⟩ := Option.map_eq_some_iff.1 hinfo
  simp only [Prod.mk.injEq] at hzz
  obtain ⟨hz0, hz1, hz2⟩ := hzz
  have HO0 := HO
  obtain ⟨hok, inner, hown, hr⟩ := HO
  have hlen : xs.length + m ≤ 140737488355328 := Nat.le_trans (Nat.le_mul_of_pos_right _ hb0) hl
  obtain ⟨v1, w1, hrun, h2, hg, _, hat⟩ := run_append_own_at (P := P) W base t ty e i0 z d.sz bytes ht hi hz0 hz1 hz2 hz hs0 v xs.length inner hown ad m c cs (by rw [← hm]; exact (hps W ok).1) hnews hone (by simp only [maxLen]; omega) hl hbase
  have hne : ∀ k, some k ≠ v.ownBlock → k < W.heap.size → some k ≠ v1.ownBlock := by
    intro k hk hlt
    rcases hat with hat | hat
    · rw [hat]; exact hk
    · rw [hat]
      intro he
      injection he with he
      omega
  have step : ∀ {q : α} {c : List Value} {o : Nat → Prop}, d.M W base o q c → (∀ k, o k → ok k ∧ some k ≠ v.ownBlock) → d.M w1 base (fun k => ok k ∧ some k ≠ v1.ownBlock) q c := by
    intro q c o hq ho
    have h1 := d.M_move (w1 := w1) (fun k hk => hg.block k hk.2.2.1 (ho k hk.1).2) (d.M_bound hq)
    exact d.M_mono (fun k hk => ⟨(ho k hk.1).1, hne k (ho k hk.1).2 hk.2.2.1⟩) h1
  have HR : d.R e w1 base ok v1 (xs ++ ps) := by
    refine ⟨fun k hk => ?_, inner ++ cs, by rw [List.length_append, hm]; exact h2, Kd.reps_append (hr.imp_ (fun _ _ hq => step hq (fun _ hk => hk))) (hps w1 _)⟩
    rcases hat with hat | hat
    · exact hok k (hat ▸ hk)
    · rw [hat] at hk
      injection hk with hk
      exact hfresh k (by omega)
  refine ⟨v1, w1, hrun, HR, ?_, hg⟩
  rcases append_how W base t ty e i0 z ht hi hz0 v xs.length inner (by rw [hz1]; exact hown) ad m c cs (by rw [hz1, ← hm]; exact (hps W ok).1) hnews hone (by simp only [maxLen]; omega) (by rw [hz2]; exact hl) v1 w1 hrun with ⟨rfl, h0⟩ | ⟨A, cap, rfl, rfl⟩ | hsame
  · rw [List.eq_nil_of_length_eq_zero h0]
    exact Kd.R_nil d e w1 base ok
  · have := Kd.R_take HR (m := xs.length) (by simp)
    rwa [List.take_left] at this
  · exact Kd.R_step HO0 (fun k _ hk => hsame k hk)
end
section
variable {P : Program} {ops : Array Oper} {rest : List Oper} {o : Oper} {a : Act} {Q : Exit → Act → World → Prop} {w0 W : World} {bs : List Blk}
theorem Frame.tail {r : Row} {rs : List Row} {w : World} (h : Frame w0 w bs (r :: rs)) : Frame w0 w bs rs := ⟨h.below, h.blk, h.nodup, fun r' hr => h.row r' (List.mem_cons_of_mem _ hr)⟩
theorem Frame.head {r : Row} {rs : List Row} {w : World} (h : Frame w0 w bs (r :: rs)) : Frame w0 w bs [r] := ⟨h.below, h.blk, h.nodup, fun r' hr => h.row r' (by rw [List.mem_singleton] at hr; subst hr; exact List.mem_cons_self)⟩
/-- 'append(out, x, y, ..)': 'out' itself is known behind it, too. -/
theorem fr_appends {α : Type} (d : Kd α) {S : Nat → Prop} {v : Value} {xs : List α} (s x : Operand) (t e : TypeId) (z : Value) (bytes : Nat) (ps : List α) (cs : List Value) (m : Nat)
    (hF : Frame w0 W bs [rowR d e w0.heap.size v xs S]) (hgd : o.guard = none) (ho : o.op = .call { callee := .builtin .append, args := #[s, x], argTypes := #[t, t] })
    (ht : P.underlying t = some (.slice e)) (hinfo : (P.info? e).map (fun i => (i.zero, i.size, i.bytes)) = some (some z, d.sz, bytes)) (hz : z.cells.size = d.sz) (hs0 : 0 < d.sz) (hb0 : 0 < bytes)
    (hs : a.eval s = v) (hx : a.eval x = .slice (some ⟨W.heap.size, 0, none⟩) m m) (hps : ∀ (w : World) (ok : Nat → Prop), Reps (d.M w w0.heap.size ok) d.sz ps cs) (hone : ∀ u ∈ cs, u.oneCell' = true) (hm : ps.length = m) (hl : (xs.length + m) * bytes ≤ 140737488355328)
    (h : ∀ v1 w1 S1 S2, Frame w0 w1 bs [rowR d e w0.heap.size v1 (xs ++ ps) S1, rowR d e w0.heap.size v xs S2] → wpList P ops Q rest (a.put o.dst v1) w1) : wpList P ops Q (o :: rest) a (W.alloc (.cells cs.toArray e)) := by
  have hr := hF.row (rowR d e w0.heap.size v xs S) List.mem_cons_self
  have hRS : d.R e W w0.heap.size S v xs := hr.1
  have hdis : ∀ k, S k → ∀ b ∈ bs, k ≠ b.1 := fun k hk b hb he => hr.2.2 b hb (by subst he; exact hk)
  have HO : d.R e (W.alloc (.cells cs.toArray e)) w0.heap.size (fun k => ∀ b ∈ bs, k ≠ b.1) v xs := Kd.R_alloc (Kd.R_mono hRS hdis) _
  have hsz : (W.alloc (.cells cs.toArray e)).heap.size = W.heap.size + 1 := by simp
  obtain ⟨v1, w1, hrun, h1, h2, hg⟩ := R_append_keep (P := P) d w0.heap.size t o.type e z bytes ht hinfo hz hs0 hb0 HO hps hone ⟨W.heap.size, 0, none⟩ m m hm (fun j u hu => World.news_of_block (heap_alloc_new W _) j u (by simpa using hu)) hl (by rw [hsz]; exact Nat.le_succ_of_le hF.below.size) (fun k hk b hb he => by have := hF.lt hb; rw [hsz] at hk; omega)
  have hF0 : Frame w0 (W.alloc (.cells cs.toArray e)) bs [] := (hF.noRows).call ((Below.refl _ W).alloc (Nat.le_refl _) _)
  have hF1 : Frame w0 w1 bs [] := ⟨hF0.below.grown hg (by rw [hsz]; exact Nat.le_succ_of_le hF.below.size) (fun k hk => Kd.R_base hRS k hk), fun b hb => ⟨(hF0.blk b hb).1, blk_grown (hF0.blk b hb).2 hg (fun e1 => hdis b.1 (hRS.1 b.1 e1.symm) b hb rfl)⟩, hF0.nodup, by simp⟩
  obtain ⟨S2, hS2⟩ := hF1.rowIn h2 (fun k hk => hk)
  have hb1 := Kd.R_bound h1
  have hF3 : ∃ S1, Frame w0 w1 bs [rowR d e w0.heap.size v1 (xs ++ ps) S1, rowR d e w0.heap.size v xs S2] :=
    ⟨_, hS2.add (rowR d e w0.heap.size v1 (xs ++ ps) _) hb1 (fun k hk => hk.2.2.1) (fun b hb hk => hk.1 b hb rfl)⟩
  obtain ⟨S1, hS1⟩ := hF3
  refine wpList_plain hgd fun K hK => ?_
  unfold Oper.wp execOp
  simp only [ho, resolve, invoke, builtin, Sem.run_bind, Sem.run_pure, Result.andThen_ok, List.map_toArray, List.map_cons, List.map_nil, hs, hx, hrun]
  exact hK _ _ (h v1 w1 S1 S2 hS1)
end
end Go.Proofs.Ytkphinfijppkeaa.Fr
