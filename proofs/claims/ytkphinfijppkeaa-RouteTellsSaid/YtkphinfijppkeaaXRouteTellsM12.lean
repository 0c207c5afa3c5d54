/- Contracts of functions of the given program, and what they come to, for any arguments. No condition beyond each theorem's own premises. -/
import Derived.Test.YtkphinfijppkeaaXRouteTellsM11
namespace Go.Proofs.Ytkphinfijppkeaa.G
open Go.RowKit Go.Proofs.YtkphinfijppkeaaW.PrintWords Go.Proofs.YtkphinfijppkeaaW.PrintLast Go.Proofs.YtkphinfijppkeaaW.PrintMore
attribute [local go_sem] max2_int min2_int max_two min_two max_three min_three max_four min_four
set_option linter.unusedVariables false
set_option linter.unusedSimpArgs false
theorem chain_1 {c : Cf} {i p : Int} (h : cfgB c = false) : chainE c i p = 1 ∧ recvV c i p = 0 ∧ afterV c i p = 0 := by
  have e : chainE c i p = 1 := by unfold chainE; rw [h]; rfl
  exact ⟨e, by unfold recvV; rw [e]; rfl, by unfold afterV; rw [e]; rfl⟩
theorem chain_3 {c : Cf} {i p : Int} (h : cfgB c = true) (h2 : hasB c i p = false) : chainE c i p = 3 ∧ recvV c i p = 0 ∧ afterV c i p = 0 := by
  have e : chainE c i p = 3 := by unfold chainE; rw [h, h2]; rfl
  exact ⟨e, by unfold recvV; rw [e]; rfl, by unfold afterV; rw [e]; rfl⟩
theorem chain_0 {c : Cf} {i p : Int} (h : cfgB c = true) (h2 : hasB c i p = true) : chainE c i p = 0 ∧ recvV c i p = rd (rd_T58 c.ro i).f0 p := by
  have e : chainE c i p = 0 := by unfold chainE; rw [h, h2]; rfl
  exact ⟨e, by unfold recvV; rw [if_pos e]⟩
theorem cut_ok {c q : Cf} (hq : cutC c = q) (hz : CfOk c) : CfOk q := by
  subst hq
  refine ⟨?_, ?_, fun r hr => hz.2.2.1 r (List.mem_of_mem_take hr), fun x hx => hz.2.2.2 x (List.mem_of_mem_take hx)⟩
  · show (c.rs.take 6).length ≤ M63
    rw [List.length_take]; have := hz.1; omega
  · show (c.ro.take 6).length ≤ M63
    rw [List.length_take]; have := hz.2.1; omega
def LOk (x : S92) : Prop := x.f0.size ≤ M63 ∧ x.f1.size ≤ M63
theorem right_ev (L : List S92) (hl : L.length ≤ 1000) (hz : ∀ x ∈ L, LOk x) : Ev (fun k => foghornref10_Right.f k L) (rightB L) :=
  ⟨M63 + 3000, fun k hk => right_ref L hl (M63 + 1) k (fun x hx => ⟨Nat.lt_succ_of_le (hz x hx).1, Nat.lt_succ_of_le (hz x hx).2, (hz x hx).1, (hz x hx).2⟩) (by omega)⟩
theorem RouteTells (c : Cf) (A0 : Option Addr) (c0 : Nat) (A1 : Option Addr) (c1 : Nat) (A2 : Option Addr) (c2 : Nat) (l : List S92) (i p : Int) (w : World) (hr0 : Kd.C k76 w A0 c.rs.length c.rs) (hl0 : c.rs.length ≤ c0) (hr1 : Kd.C k58 w A1 c.ro.length c.ro) (hl1 : c.ro.length ≤ c1) (hr2 : Kd.C k92 w A2 l.length l) (hl2 : l.length ≤ c2) (hwf : ∀ x ∈ c.ro, WfR x) (hz : CfOk c) (hzl : ∀ x ∈ l, LOk x) :
    Calls Try.prog 8 #[.agg #[.slice A0 c.rs.length c0, .slice A1 c.ro.length c1, .int .i64 c.rep, .int .i64 c.beat], .slice A2 l.length c2, .int .i64 i, .int .i64 p] w fun e w' => e = .returned (.bool true) ∧ Below w.heap.size w w' := by
  obtain ⟨q, hq⟩ : ∃ q, cutC c = q := ⟨_, rfl⟩
  obtain ⟨L, hL⟩ : ∃ L, l.take 5 = L := ⟨_, rfl⟩
  have hqz := cut_ok hq hz
  have hLl : L.length ≤ 5 := by rw [← hL]; exact List.length_take_le 5 l
  obtain ⟨K1, r1⟩ := cfg_ev q hqz
  obtain ⟨K2, r2⟩ := right_ev L (by omega) (fun x hx => hzl x (List.mem_of_mem_take (by rw [hL]; exact hx)))
  cases h1 : cfgB q with
  | false =>
    rw [h1] at r1
    have hb := choose_bad (c := q) (l := L) (by rw [h1]; rfl)
    have hc := chain_1 (i := i) (p := p) h1
    exact rtells_0 c A0 c0 A1 c1 A2 c2 l i p w hr0 hl0 hr1 hl1 hr2 hl2 hwf q hq L hL K1 hb.1 hb.2 hc.1 hc.2.1 hc.2.2 (r1 K1 (Nat.le_refl _))
  | true =>
    rw [h1] at r1
    have hlen : ∀ i : Int, 0 ≤ i → i < (q.ro.length : Int) → (rd_T58 q.ro i).f0.length ≤ M63 := fun i h0 h2 => by
      have e : rd_T58 q.ro i = q.ro[i.toNat] := by
        have := rd_get58 q.ro i.toNat (by omega)
        rwa [Int.toNat_of_nonneg h0] at this
      rw [e]
      exact (hqz.2.2.2 _ (List.getElem_mem _)).1
    cases hR : rightB L with
    | false =>
      rw [hR] at r2
      have hb := choose_bad (c := q) (l := L) (by rw [hR, Bool.and_false])
      cases h2 : hasB q i p with
      | false =>
        have hc := chain_3 h1 h2
        have r4 := has_is q i p
        rw [h2] at r4
        exact rtells_a3 c A0 c0 A1 c1 A2 c2 l i p w hr0 hl0 hr1 hl1 hr2 hl2 hwf q hq L hL (max K1 K2) hb.1 hb.2 hc.1 hc.2.1 hc.2.2 (r1 _ (by omega)) (r2 _ (by omega)) r4
      | true =>
        have hc := chain_0 h1 h2
        have hf := chain_facts hc.1
        have r4 := has_is q i p
        rw [h2] at r4
        exact rtells_a0 c A0 c0 A1 c1 A2 c2 l i p w hr0 hl0 hr1 hl1 hr2 hl2 hwf q hq L hL (max K1 K2) _ hb.1 hb.2 hc.1 hc.2 rfl hf.2.1 hf.2.2.1 hf.2.2.2.1 hf.2.2.2.2 (r1 _ (by omega)) (r2 _ (by omega)) r4 (after_is q i p hc.1 (hlen i hf.2.1 hf.2.2.1))
    | true =>
      rw [hR] at r2
      obtain ⟨K3, r3⟩ := choose_ev q L h1 hR (by omega) hqz.2.1
      have hk : takeI q.ro L = -1 ∨ ∃ kk : Nat, takeI q.ro L = kk := by
        unfold takeI idxP
        cases q.ro.findIdx? (takesB L) with
        | none => exact .inl rfl
        | some k => exact .inr ⟨k, rfl⟩
      rcases hk with hk | ⟨kk, hk⟩
      · have hb := choose_none h1 hR hk
        rw [hk] at r3
        cases h2 : hasB q i p with
        | false =>
          have hc := chain_3 h1 h2
          have r4 := has_is q i p
          rw [h2] at r4
          exact rtells_b3 c A0 c0 A1 c1 A2 c2 l i p w hr0 hl0 hr1 hl1 hr2 hl2 hwf q hq L hL (max K1 (max K2 K3)) hb.1 hb.2 hc.1 hc.2.1 hc.2.2 (r1 _ (by omega)) (r2 _ (by omega)) (r3 _ (by omega)) r4
        | true =>
          have hc := chain_0 h1 h2
          have hf := chain_facts hc.1
          have r4 := has_is q i p
          rw [h2] at r4
          exact rtells_b0 c A0 c0 A1 c1 A2 c2 l i p w hr0 hl0 hr1 hl1 hr2 hl2 hwf q hq L hL (max K1 (max K2 K3)) _ hb.1 hb.2 hc.1 hc.2 rfl hf.2.1 hf.2.2.1 hf.2.2.2.1 hf.2.2.2.2 (r1 _ (by omega)) (r2 _ (by omega)) (r3 _ (by omega)) r4 (after_is q i p hc.1 (hlen i hf.2.1 hf.2.2.1))
      · have hb := choose_some h1 hR hk
        rw [hk] at r3
        cases h2 : hasB q i p with
        | false =>
          have hc := chain_3 h1 h2
          have r4 := has_is q i p
          rw [h2] at r4
          exact rtells_c3 c A0 c0 A1 c1 A2 c2 l i p w hr0 hl0 hr1 hl1 hr2 hl2 hwf q hq L hL (max K1 (max K2 K3)) kk hb.1 hb.2 hc.1 hc.2.1 hc.2.2 (r1 _ (by omega)) (r2 _ (by omega)) (r3 _ (by omega)) r4
        | true =>
          have hc := chain_0 h1 h2
          have hf := chain_facts hc.1
          have r4 := has_is q i p
          rw [h2] at r4
          exact rtells_c0 c A0 c0 A1 c1 A2 c2 l i p w hr0 hl0 hr1 hl1 hr2 hl2 hwf q hq L hL (max K1 (max K2 K3)) kk _ hb.1 hb.2 hc.1 hc.2 rfl hf.2.1 hf.2.2.1 hf.2.2.2.1 hf.2.2.2.2 (r1 _ (by omega)) (r2 _ (by omega)) (r3 _ (by omega)) r4 (after_is q i p hc.1 (hlen i hf.2.1 hf.2.2.1))
def W74 (x : S74) : Prop := ((Lit.int .i64 x.f0).wf = true) ∧ ((Lit.int .i64 x.f1).wf = true) ∧ ((Lit.int .i64 x.f2).wf = true)
def W76 (x : S76) : Prop := (x.f0.size ≤ maxLen) ∧ (W74 x.f1) ∧ ((Lit.int .i64 x.f2).wf = true) ∧ ((Lit.int .i64 x.f3).wf = true) ∧ ((Lit.int .i64 x.f4).wf = true) ∧ ((Lit.int .i64 x.f5).wf = true) ∧ ((Lit.int .i64 x.f6).wf = true)
def W88 (x : S88) : Prop := ((Lit.int .i64 x.f0).wf = true) ∧ (x.f1.size ≤ maxLen) ∧ (x.f2.size ≤ maxLen)
def W58 (x : S58) : Prop := (x.f0.length ≤ maxLen ∧ ∀ x_ ∈ x.f0, ((Lit.int .i64 x_).wf = true)) ∧ (x.f1.length ≤ maxLen ∧ ∀ x_ ∈ x.f1, (W88 x_))
def WCf (rs : List S76) (ro : List S58) (rep beat : Int) : Prop := (rs.length ≤ maxLen ∧ ∀ x_ ∈ rs, (W76 x_)) ∧ (ro.length ≤ maxLen ∧ ∀ x_ ∈ ro, (W58 x_)) ∧ ((Lit.int .i64 rep).wf = true) ∧ ((Lit.int .i64 beat).wf = true)
def WLs (l : List S92) : Prop := l.length ≤ maxLen ∧ ∀ z ∈ l, (z.f0.size ≤ maxLen) ∧ (z.f1.size ≤ maxLen)
theorem WCf.ok {rs : List S76} {ro : List S58} {rep beat : Int} (h : WCf rs ro rep beat) : CfOk ⟨rs, ro, rep, beat⟩ ∧ ∀ x ∈ ro, WfR x :=
  ⟨⟨h.1.1, h.2.1.1, fun r hr => (h.1.2 r hr).1, fun x hx => ⟨(h.2.1.2 x hx).1.1, (h.2.1.2 x hx).2.1, fun m hm => ⟨((h.2.1.2 x hx).2.2 m hm).2.1, ((h.2.1.2 x hx).2.2 m hm).2.2⟩⟩⟩, fun x hx k hk => (h.2.1.2 x hx).1.2 k hk⟩
theorem WLs.ok {l : List S92} (h : WLs l) : ∀ x ∈ l, LOk x := fun x hx => h.2 x hx
theorem RouteTellsR {P2 P3 : Prop} (A0 : Option Addr) (c0 : Nat) (l0 : List S76) (A1 : Option Addr) (c1 : Nat) (l1 : List S58) (rep beat : Int) (A2 : Option Addr) (c2 : Nat) (l : List S92) (i p : Int) (w : World) (hr0 : Kd.C k76 w A0 l0.length l0) (hl0 : l0.length ≤ c0) (hr1 : Kd.C k58 w A1 l1.length l1) (hl1 : l1.length ≤ c1) (hr2 : Kd.C k92 w A2 l.length l) (hl2 : l.length ≤ c2)
    (w0 : WCf l0 l1 rep beat) (w1 : WLs l) (w2 : P2) (w3 : P3) :
    Calls Try.prog 8 #[.agg #[.slice A0 l0.length c0, .slice A1 l1.length c1, .int .i64 rep, .int .i64 beat], .slice A2 l.length c2, .int .i64 i, .int .i64 p] w fun e w' => e = .returned (.bool true) ∧ Below w.heap.size w w' :=
  RouteTells ⟨l0, l1, rep, beat⟩ A0 c0 A1 c1 A2 c2 l i p w hr0 hl0 hr1 hl1 hr2 hl2 w0.ok.2 w0.ok.1 w1.ok
end Go.Proofs.Ytkphinfijppkeaa.G
