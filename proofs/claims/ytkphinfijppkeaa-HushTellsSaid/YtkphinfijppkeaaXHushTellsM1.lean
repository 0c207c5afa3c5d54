/- Contracts of functions of the given program, and what they come to, for any arguments. No condition beyond each theorem's own premises. -/
import Derived.Test.YtkphinfijppkeaaXHushTellsM0
namespace Go.Proofs.Ytkphinfijppkeaa.G
open Go.RowKit Go.Proofs.YtkphinfijppkeaaW.PrintWords Go.Proofs.YtkphinfijppkeaaW.PrintLast Go.Proofs.YtkphinfijppkeaaW.PrintMore
attribute [local go_sem] max2_int min2_int max_two min_two max_three min_three max_four min_four
theorem rd_get92 (l : List S92) (i : Nat) (h : i < l.length) : rd_T92 l (i : Nat) = l[i] := by simp [rd_T92, List.getD_eq_getElem?_getD, h]
theorem idxR_hit92 (p : S92 → Bool) (l : List S92) (k : Nat) (hk : k < l.length) (h : ∀ j, j < k → p (rd_T92 l (j : Nat)) = false) (hp : p (rd_T92 l (k : Nat)) = true) : (k : Int) = idxP p l := by
  have e : l.findIdx? p = some k := by
    rw [List.findIdx?_eq_some_iff_getElem]
    refine ⟨hk, by rw [← rd_get92 l k hk]; exact hp, fun j hj => ?_⟩
    have := h j hj
    rw [rd_get92 l j (by omega)] at this
    simp [this]
  simp [idxP, e]
theorem idxR_miss92 (p : S92 → Bool) (l : List S92) (h : ∀ j, j < l.length → p (rd_T92 l (j : Nat)) = false) : -1 = idxP p l := by
  have e : l.findIdx? p = none := by
    rw [List.findIdx?_eq_none_iff]
    intro x hx
    obtain ⟨j, hj, rfl⟩ := List.mem_iff_getElem.1 hx
    have := h j hj
    rwa [rd_get92 l j hj] at this
  simp [idxP, e]
def Pred92 (ok : S92 → Prop) (g : Nat) (cap : Array Value) (p : S92 → Bool) (w : World) : Prop := ∀ (x : S92) (W : World), ok x → Below w.heap.size w W → Calls Try.prog g (#[.agg #[.string x.f0, .string x.f1]] ++ cap) W fun e W' => e = .returned (.bool (p x)) ∧ Below W.heap.size W W'
theorem rd_get88 (l : List S88) (i : Nat) (h : i < l.length) : rd_T88 l (i : Nat) = l[i] := by simp [rd_T88, List.getD_eq_getElem?_getD, h]
theorem idxR_hit88 (p : S88 → Bool) (l : List S88) (k : Nat) (hk : k < l.length) (h : ∀ j, j < k → p (rd_T88 l (j : Nat)) = false) (hp : p (rd_T88 l (k : Nat)) = true) : (k : Int) = idxP p l := by
  have e : l.findIdx? p = some k := by
    rw [List.findIdx?_eq_some_iff_getElem]
    refine ⟨hk, by rw [← rd_get88 l k hk]; exact hp, fun j hj => ?_⟩
    have := h j hj
    rw [rd_get88 l j (by omega)] at this
    simp [this]
  simp [idxP, e]
theorem idxR_miss88 (p : S88 → Bool) (l : List S88) (h : ∀ j, j < l.length → p (rd_T88 l (j : Nat)) = false) : -1 = idxP p l := by
  have e : l.findIdx? p = none := by
    rw [List.findIdx?_eq_none_iff]
    intro x hx
    obtain ⟨j, hj, rfl⟩ := List.mem_iff_getElem.1 hx
    have := h j hj
    rwa [rd_get88 l j hj] at this
  simp [idxP, e]
def Pred88 (ok : S88 → Prop) (g : Nat) (cap : Array Value) (p : S88 → Bool) (w : World) : Prop := ∀ (x : S88) (W : World), ok x → Below w.heap.size w W → Calls Try.prog g (#[.agg #[.int .i64 x.f0, .string x.f1, .string x.f2]] ++ cap) W fun e W' => e = .returned (.bool (p x)) ∧ Below W.heap.size W W'
theorem rd_get25 (l : List S25) (i : Nat) (h : i < l.length) : rd_T25 l (i : Nat) = l[i] := by simp [rd_T25, List.getD_eq_getElem?_getD, h]
theorem idxR_hit25 (p : S25 → Bool) (l : List S25) (k : Nat) (hk : k < l.length) (h : ∀ j, j < k → p (rd_T25 l (j : Nat)) = false) (hp : p (rd_T25 l (k : Nat)) = true) : (k : Int) = idxP p l := by
  have e : l.findIdx? p = some k := by
    rw [List.findIdx?_eq_some_iff_getElem]
    refine ⟨hk, by rw [← rd_get25 l k hk]; exact hp, fun j hj => ?_⟩
    have := h j hj
    rw [rd_get25 l j (by omega)] at this
    simp [this]
  simp [idxP, e]
theorem idxR_miss25 (p : S25 → Bool) (l : List S25) (h : ∀ j, j < l.length → p (rd_T25 l (j : Nat)) = false) : -1 = idxP p l := by
  have e : l.findIdx? p = none := by
    rw [List.findIdx?_eq_none_iff]
    intro x hx
    obtain ⟨j, hj, rfl⟩ := List.mem_iff_getElem.1 hx
    have := h j hj
    rwa [rd_get25 l j hj] at this
  simp [idxP, e]
def Pred25 (ok : S25 → Prop) (g : Nat) (cap : Array Value) (p : S25 → Bool) (w : World) : Prop := ∀ (x : S25) (A2 : Option Addr) (c2 : Nat) (W : World), ok x → Below w.heap.size w W → x.f2.length ≤ c2 → k88.C W A2 x.f2.length x.f2 → Calls Try.prog g (#[.agg #[.int .i64 x.f0, .int .i64 x.f1, .slice A2 x.f2.length c2]] ++ cap) W fun e W' => e = .returned (.bool (p x)) ∧ Below W.heap.size W W'
set_option maxHeartbeats 2000000 in
theorem indexFunc_92 (ok : S92 → Prop) (gf : Nat) (cap : Array Value) (p : S92 → Bool) (eg : ∀ args w, (callFunc gf args).run Try.prog w = .ok (.enter gf args) w) (A : Option Addr) (c : Nat) (l : List S92) (w : World) (hr : Kd.C k92 w A l.length l) (hok : ∀ j : Nat, j < l.length → ok (rd_T92 l (j : Nat))) (hp : Pred92 ok gf cap p w) :
    Calls Try.prog 112 #[.slice A l.length c, .func (.func gf) #[] cap] w fun e w' => e = .returned (.int .i64 (idxP p l)) ∧ Below w.heap.size w w' := by
  have HR := Aside0.mk hr
  have HP := Aside0.mk hp
  have HOK := Aside0.mk hok
  have hll : l.length ≤ 9223372036854775807 := hr.2.1
  clear hr hp hok
  go_enter Try.func112, Try.ntmps112
  go_wp2
  go_loopg [5, 8] l.length (fun kq v5 v8 w' => ∃ k : Nat, k ≤ l.length ∧ l.length - k ≤ kq ∧ v8 = .int .i64 k ∧ Aside0 (∀ j, j < k → p (rd_T92 l (j : Nat)) = false) ∧ Aside0 (Below w.heap.size w w'))
  case atStart => exact ⟨0, Nat.zero_le _, by omega, rfl, ⟨fun j hj => absurd hj (Nat.not_lt_zero _)⟩, ⟨Below.refl _ _⟩⟩
  case round =>
    obtain ⟨k, hk, hg, rfl, HA, HB⟩ := hrel
    by_cases hlt : k < l.length
    · have hlti : (k : Int) < (l.length : Int) := by omega
      obtain ⟨ad, e1, a0, a1⟩ := at_T92 HR.out (k : Int) (by omega) hlti
      cases e1
      replace a0 := (HB.out.cell (World.block_lt_of_cell? w _ a0)).trans a0
      replace a1 := (HB.out.cell (World.block_lt_of_cell? w _ a1)).trans a1
      rw [Int.toNat_natCast] at a0 a1
      cases hq : p (rd_T92 l k) with
      | true =>
        have HQ := Aside0.mk hq
        clear hq
        go_wp2_with (go_at_fn gf; refine (HP.out (rd_T92 l k) _ (HOK.out k hlt) HB.out ).mono ?_; rintro e W1 ⟨rfl, hb⟩; simp only [HQ.out]; have HB1 := Aside0.mk (below_then HB.out HB.out.size hb); clear hb HB; have HB := HB1; clear HB1)
        go_ret
        exact ⟨ret_int64 (idxR_hit92 p l k hlt HA.out HQ.out), HB.out⟩
      | false =>
        have HQ := Aside0.mk hq
        clear hq
        go_wp2_with (go_at_fn gf; refine (HP.out (rd_T92 l k) _ (HOK.out k hlt) HB.out ).mono ?_; rintro e W1 ⟨rfl, hb⟩; simp only [HQ.out]; have HB1 := Aside0.mk (below_then HB.out HB.out.size hb); clear hb HB; have HB := HB1; clear HB1)
        go_roundg (l.length - (k + 1))
        case measure => omega
        case rel => exact ⟨k + 1, by omega, by omega, by go_num, ⟨fun j hj => by
          by_cases e : j = k
          · subst e; exact HQ.out
          · exact HA.out j (by omega)⟩, HB⟩
    · have : k = l.length := by omega
      subst this
      go_wp2
      go_ret
      exact ⟨ret_int64 (idxR_miss92 p l HA.out), HB.out⟩
theorem containsFunc_92 (ok : S92 → Prop) (gf : Nat) (cap : Array Value) (p : S92 → Bool) (eg : ∀ args w, (callFunc gf args).run Try.prog w = .ok (.enter gf args) w) (A : Option Addr) (c : Nat) (l : List S92) (w : World) (hr : Kd.C k92 w A l.length l) (hok : ∀ j : Nat, j < l.length → ok (rd_T92 l (j : Nat))) (hp : Pred92 ok gf cap p w) :
    Calls Try.prog 135 #[.slice A l.length c, .func (.func gf) #[] cap] w fun e w' => e = .returned (.bool (l.any p)) ∧ Below w.heap.size w w' := by
  have HH := Aside0.mk (indexFunc_92 ok gf cap p eg A c l w hr hok hp)
  clear hr hp eg hok
  have EI := Aside0.mk (idxP_any p l)
  go_enter Try.func135, Try.ntmps135
  go_wp2_with (go_at_call 112; (with_reducible refine HH.out.mono ?_); rintro e w' ⟨rfl, hb⟩; have HB := Aside0.mk hb; clear hb)
  go_ret
  exact ⟨by rw [EI.out]; rfl, HB.out⟩
set_option maxHeartbeats 2000000 in
theorem indexFunc_88 (ok : S88 → Prop) (gf : Nat) (cap : Array Value) (p : S88 → Bool) (eg : ∀ args w, (callFunc gf args).run Try.prog w = .ok (.enter gf args) w) (A : Option Addr) (c : Nat) (l : List S88) (w : World) (hr : Kd.C k88 w A l.length l) (hok : ∀ j : Nat, j < l.length → ok (rd_T88 l (j : Nat))) (hp : Pred88 ok gf cap p w) :
    Calls Try.prog 108 #[.slice A l.length c, .func (.func gf) #[] cap] w fun e w' => e = .returned (.int .i64 (idxP p l)) ∧ Below w.heap.size w w' := by
  have HR := Aside0.mk hr
  have HP := Aside0.mk hp
  have HOK := Aside0.mk hok
  have hll : l.length ≤ 9223372036854775807 := hr.2.1
  clear hr hp hok
  go_enter Try.func108, Try.ntmps108
  go_wp2
  go_loopg [5, 8] l.length (fun kq v5 v8 w' => ∃ k : Nat, k ≤ l.length ∧ l.length - k ≤ kq ∧ v8 = .int .i64 k ∧ Aside0 (∀ j, j < k → p (rd_T88 l (j : Nat)) = false) ∧ Aside0 (Below w.heap.size w w'))
  case atStart => exact ⟨0, Nat.zero_le _, by omega, rfl, ⟨fun j hj => absurd hj (Nat.not_lt_zero _)⟩, ⟨Below.refl _ _⟩⟩
  case round =>
    obtain ⟨k, hk, hg, rfl, HA, HB⟩ := hrel
    by_cases hlt : k < l.length
    · have hlti : (k : Int) < (l.length : Int) := by omega
      obtain ⟨ad, e1, a0, a1, a2⟩ := at_T88 HR.out (k : Int) (by omega) hlti
      cases e1
      replace a0 := (HB.out.cell (World.block_lt_of_cell? w _ a0)).trans a0
      replace a1 := (HB.out.cell (World.block_lt_of_cell? w _ a1)).trans a1
      replace a2 := (HB.out.cell (World.block_lt_of_cell? w _ a2)).trans a2
      rw [Int.toNat_natCast] at a0 a1 a2
      cases hq : p (rd_T88 l k) with
      | true =>
        have HQ := Aside0.mk hq
        clear hq
        go_wp2_with (go_at_fn gf; refine (HP.out (rd_T88 l k) _ (HOK.out k hlt) HB.out ).mono ?_; rintro e W1 ⟨rfl, hb⟩; simp only [HQ.out]; have HB1 := Aside0.mk (below_then HB.out HB.out.size hb); clear hb HB; have HB := HB1; clear HB1)
        go_ret
        exact ⟨ret_int64 (idxR_hit88 p l k hlt HA.out HQ.out), HB.out⟩
      | false =>
        have HQ := Aside0.mk hq
        clear hq
        go_wp2_with (go_at_fn gf; refine (HP.out (rd_T88 l k) _ (HOK.out k hlt) HB.out ).mono ?_; rintro e W1 ⟨rfl, hb⟩; simp only [HQ.out]; have HB1 := Aside0.mk (below_then HB.out HB.out.size hb); clear hb HB; have HB := HB1; clear HB1)
        go_roundg (l.length - (k + 1))
        case measure => omega
        case rel => exact ⟨k + 1, by omega, by omega, by go_num, ⟨fun j hj => by
          by_cases e : j = k
          · subst e; exact HQ.out
          · exact HA.out j (by omega)⟩, HB⟩
    · have : k = l.length := by omega
      subst this
      go_wp2
      go_ret
      exact ⟨ret_int64 (idxR_miss88 p l HA.out), HB.out⟩
theorem containsFunc_88 (ok : S88 → Prop) (gf : Nat) (cap : Array Value) (p : S88 → Bool) (eg : ∀ args w, (callFunc gf args).run Try.prog w = .ok (.enter gf args) w) (A : Option Addr) (c : Nat) (l : List S88) (w : World) (hr : Kd.C k88 w A l.length l) (hok : ∀ j : Nat, j < l.length → ok (rd_T88 l (j : Nat))) (hp : Pred88 ok gf cap p w) :
    Calls Try.prog 69 #[.slice A l.length c, .func (.func gf) #[] cap] w fun e w' => e = .returned (.bool (l.any p)) ∧ Below w.heap.size w w' := by
  have HH := Aside0.mk (indexFunc_88 ok gf cap p eg A c l w hr hok hp)
  clear hr hp eg hok
  have EI := Aside0.mk (idxP_any p l)
  go_enter Try.func69, Try.ntmps69
  go_wp2_with (go_at_call 108; (with_reducible refine HH.out.mono ?_); rintro e w' ⟨rfl, hb⟩; have HB := Aside0.mk hb; clear hb)
  go_ret
  exact ⟨by rw [EI.out]; rfl, HB.out⟩
set_option maxHeartbeats 2000000 in
theorem indexFunc_25 (ok : S25 → Prop) (gf : Nat) (cap : Array Value) (p : S25 → Bool) (eg : ∀ args w, (callFunc gf args).run Try.prog w = .ok (.enter gf args) w) (A : Option Addr) (c : Nat) (l : List S25) (w : World) (hr : Kd.C k25 w A l.length l) (hok : ∀ j : Nat, j < l.length → ok (rd_T25 l (j : Nat))) (hp : Pred25 ok gf cap p w) :
    Calls Try.prog 92 #[.slice A l.length c, .func (.func gf) #[] cap] w fun e w' => e = .returned (.int .i64 (idxP p l)) ∧ Below w.heap.size w w' := by
  have HR := Aside0.mk hr
  have HP := Aside0.mk hp
  have HOK := Aside0.mk hok
  have hll : l.length ≤ 9223372036854775807 := hr.2.1
  clear hr hp hok
  go_enter Try.func92, Try.ntmps92
  go_wp2
  go_loopg [5, 8] l.length (fun kq v5 v8 w' => ∃ k : Nat, k ≤ l.length ∧ l.length - k ≤ kq ∧ v8 = .int .i64 k ∧ Aside0 (∀ j, j < k → p (rd_T25 l (j : Nat)) = false) ∧ Aside0 (Below w.heap.size w w'))
  case atStart => exact ⟨0, Nat.zero_le _, by omega, rfl, ⟨fun j hj => absurd hj (Nat.not_lt_zero _)⟩, ⟨Below.refl _ _⟩⟩
  case round =>
    obtain ⟨k, hk, hg, rfl, HA, HB⟩ := hrel
    by_cases hlt : k < l.length
    · have hlti : (k : Int) < (l.length : Int) := by omega
      obtain ⟨ad, A2, c2, e1, a0, a1, a2, g0, g1⟩ := at_T25 HR.out (k : Int) (by omega) hlti
      cases e1
      replace a0 := (HB.out.cell (World.block_lt_of_cell? w _ a0)).trans a0
      replace a1 := (HB.out.cell (World.block_lt_of_cell? w _ a1)).trans a1
      replace a2 := (HB.out.cell (World.block_lt_of_cell? w _ a2)).trans a2
      rw [Int.toNat_natCast] at a0 a1 a2
      have G0 := Aside0.mk g0
      clear g0
      have G1 := Aside0.mk g1
      clear g1
      cases hq : p (rd_T25 l k) with
      | true =>
        have HQ := Aside0.mk hq
        clear hq
        go_wp2_with (go_at_fn gf; refine (HP.out (rd_T25 l k) A2 c2 _ (HOK.out k hlt) HB.out G0.out (Kd.C_below G1.out HB.out)).mono ?_; rintro e W1 ⟨rfl, hb⟩; simp only [HQ.out]; have HB1 := Aside0.mk (below_then HB.out HB.out.size hb); clear hb HB; have HB := HB1; clear HB1)
        go_ret
        exact ⟨ret_int64 (idxR_hit25 p l k hlt HA.out HQ.out), HB.out⟩
      | false =>
        have HQ := Aside0.mk hq
        clear hq
        go_wp2_with (go_at_fn gf; refine (HP.out (rd_T25 l k) A2 c2 _ (HOK.out k hlt) HB.out G0.out (Kd.C_below G1.out HB.out)).mono ?_; rintro e W1 ⟨rfl, hb⟩; simp only [HQ.out]; have HB1 := Aside0.mk (below_then HB.out HB.out.size hb); clear hb HB; have HB := HB1; clear HB1)
        go_roundg (l.length - (k + 1))
        case measure => omega
        case rel => exact ⟨k + 1, by omega, by omega, by go_num, ⟨fun j hj => by
          by_cases e : j = k
          · subst e; exact HQ.out
          · exact HA.out j (by omega)⟩, HB⟩
    · have : k = l.length := by omega
      subst this
      go_wp2
      go_ret
      exact ⟨ret_int64 (idxR_miss25 p l HA.out), HB.out⟩
theorem allR_no88 (p : S88 → Bool) (l : List S88) (k : Nat) (hk : k < l.length) (h : p (rd_T88 l (k : Nat)) = false) : l.all p = false := by
  rw [rd_get88 l k hk] at h
  rw [List.all_eq_false]
  exact ⟨l[k], List.getElem_mem _, by simp [h]⟩
theorem allR_yes88 (p : S88 → Bool) (l : List S88) (h : ∀ j, j < l.length → p (rd_T88 l (j : Nat)) = true) : l.all p = true := by
  rw [List.all_eq_true]
  intro x hx
  obtain ⟨j, hj, rfl⟩ := List.mem_iff_getElem.1 hx
  have := h j hj
  rwa [rd_get88 l j hj] at this
set_option maxHeartbeats 4000000 in
set_option maxRecDepth 100000 in
theorem all_88 (ok : S88 → Prop) (gf : Nat) (cap : Array Value) (p : S88 → Bool) (eg : ∀ args w, (callFunc gf args).run Try.prog w = .ok (.enter gf args) w) (A : Option Addr) (c : Nat) (l : List S88) (w : World) (hr : Kd.C k88 w A l.length l) (hok : ∀ j : Nat, j < l.length → ok (rd_T88 l (j : Nat))) (hp : Pred88 ok gf cap p w) :
    Calls Try.prog 94 #[.slice A l.length c, .func (.func gf) #[] cap] w fun e w' => e = .returned (.bool (l.all p)) ∧ Below w.heap.size w w' := by
  have HR := Aside0.mk hr
  have HP := Aside0.mk hp
  have HOK := Aside0.mk hok
  have hll : l.length ≤ 9223372036854775807 := hr.2.1
  clear hr hp hok
  go_enter Try.func94, Try.ntmps94
  go_wp2
  go_loopg [9] l.length (fun kq v9 w' => ∃ k : Nat, k ≤ l.length ∧ l.length - k ≤ kq ∧ v9 = .int .i64 k ∧ Aside0 (∀ j, j < k → p (rd_T88 l (j : Nat)) = true) ∧ Aside0 (Fr.Frame w w' [] []))
  case atStart => exact ⟨0, Nat.zero_le _, by omega, rfl, ⟨fun j hj => absurd hj (Nat.not_lt_zero _)⟩, ⟨Fr.Frame.start w⟩⟩
  case round =>
    obtain ⟨k, hk, hg, rfl, HA, hF⟩ := hrel
    have HC : True := trivial
    by_cases hlt : k < l.length
    · have hlti : (k : Int) < (l.length : Int) := by omega
      obtain ⟨ad, e1, a0, a1, a2⟩ := at_T88 HR.out (k : Int) (by omega) hlti
      cases e1
      replace a0 := (hF.out.below.cell (World.block_lt_of_cell? w _ a0)).trans a0
      replace a1 := (hF.out.below.cell (World.block_lt_of_cell? w _ a1)).trans a1
      replace a2 := (hF.out.below.cell (World.block_lt_of_cell? w _ a2)).trans a2
      rw [Int.toNat_natCast] at a0 a1 a2
      cases hq : p (rd_T88 l k) with
      | true =>
        have HQ := Aside0.mk hq
        clear hq
        go_wp2_with (first | (go_at_fn gf; refine (HP.out (rd_T88 l k) _ (HOK.out k hlt) hF.out.below ).mono ?_; rintro e W ⟨rfl, hb⟩; simp only [HQ.out]; have hF1 := hF.out.call hb; clear hb; have HC1 := hF1.cells; simp only [Fr.Cells, List.length_cons, List.length_nil, Nat.reduceAdd, and_true] at HC1; clear hF HC; have HC := HC1; have hF := Aside0.mk hF1; clear hF1 HC1) | ((with_reducible refine gate_store rfl ?_); apply Fr.fr_store hF.out rfl rfl rfl; (case hp => rfl); (case hx => first | (go_simp; rfl) | rfl); (case hu => (simp only [Value.cells]; rfl)); (case hs => (repeat (first | exact Fr.Spot.here _ _ | apply Fr.Spot.there))); (case ht => kernel_rfl); (case h1 => simp [Value.oneCell']); (case hfit => simp); intro W hF1; simp only [Fr.patch, List.take_zero, List.nil_append, List.drop, List.append_nil, List.take, List.cons_append, List.length_cons, List.length_nil, Nat.reduceAdd] at hF1; have HC1 := hF1.cells; simp only [Fr.Cells, List.length_cons, List.length_nil, Nat.reduceAdd, and_true] at HC1; clear hF HC; have HC := HC1; have hF := Aside0.mk hF1; clear hF1 HC1) | ((first | (with_reducible refine Fr.gate_alloc rfl ?_) | (with_reducible refine Fr.gate_box rfl ?_)); apply Fr.fr_box hF.out rfl; (case hrun => first | (go_simp; done) | (go_simp; rfl)); intro g W hF1; have HC1 := hF1.cells; simp only [Fr.Cells, List.length_cons, List.length_nil, Nat.reduceAdd, and_true] at HC1; clear hF HC; have HC := HC1; have hF := Aside0.mk hF1; clear hF1 HC1))
        go_roundg (l.length - (k + 1))
        case measure => omega
        case rel => exact ⟨k + 1, by omega, by omega, by go_num, ⟨fun j hj => by
          by_cases e : j = k
          · subst e; exact HQ.out
          · exact HA.out j (by omega)⟩, ⟨hF.out.forget⟩⟩
      | false =>
        have HQ := Aside0.mk hq
        clear hq
        go_wp2_with (first | (go_at_fn gf; refine (HP.out (rd_T88 l k) _ (HOK.out k hlt) hF.out.below ).mono ?_; rintro e W ⟨rfl, hb⟩; simp only [HQ.out]; have hF1 := hF.out.call hb; clear hb; have HC1 := hF1.cells; simp only [Fr.Cells, List.length_cons, List.length_nil, Nat.reduceAdd, and_true] at HC1; clear hF HC; have HC := HC1; have hF := Aside0.mk hF1; clear hF1 HC1) | ((with_reducible refine gate_store rfl ?_); apply Fr.fr_store hF.out rfl rfl rfl; (case hp => rfl); (case hx => first | (go_simp; rfl) | rfl); (case hu => (simp only [Value.cells]; rfl)); (case hs => (repeat (first | exact Fr.Spot.here _ _ | apply Fr.Spot.there))); (case ht => kernel_rfl); (case h1 => simp [Value.oneCell']); (case hfit => simp); intro W hF1; simp only [Fr.patch, List.take_zero, List.nil_append, List.drop, List.append_nil, List.take, List.cons_append, List.length_cons, List.length_nil, Nat.reduceAdd] at hF1; have HC1 := hF1.cells; simp only [Fr.Cells, List.length_cons, List.length_nil, Nat.reduceAdd, and_true] at HC1; clear hF HC; have HC := HC1; have hF := Aside0.mk hF1; clear hF1 HC1) | ((first | (with_reducible refine Fr.gate_alloc rfl ?_) | (with_reducible refine Fr.gate_box rfl ?_)); apply Fr.fr_box hF.out rfl; (case hrun => first | (go_simp; done) | (go_simp; rfl)); intro g W hF1; have HC1 := hF1.cells; simp only [Fr.Cells, List.length_cons, List.length_nil, Nat.reduceAdd, and_true] at HC1; clear hF HC; have HC := HC1; have hF := Aside0.mk hF1; clear hF1 HC1))
        go_ret
        exact ⟨by rw [allR_no88 p l k hlt HQ.out]; rfl, hF.out.below⟩
    · have : k = l.length := by omega
      subst this
      go_wp2
      go_ret
      exact ⟨by rw [allR_yes88 p l HA.out]; rfl, hF.out.below⟩
theorem allR_no25 (p : S25 → Bool) (l : List S25) (k : Nat) (hk : k < l.length) (h : p (rd_T25 l (k : Nat)) = false) : l.all p = false := by
  rw [rd_get25 l k hk] at h
  rw [List.all_eq_false]
  exact ⟨l[k], List.getElem_mem _, by simp [h]⟩
theorem allR_yes25 (p : S25 → Bool) (l : List S25) (h : ∀ j, j < l.length → p (rd_T25 l (j : Nat)) = true) : l.all p = true := by
  rw [List.all_eq_true]
  intro x hx
  obtain ⟨j, hj, rfl⟩ := List.mem_iff_getElem.1 hx
  have := h j hj
  rwa [rd_get25 l j hj] at this
set_option maxHeartbeats 4000000 in
set_option maxRecDepth 100000 in
theorem all_25 (ok : S25 → Prop) (gf : Nat) (cap : Array Value) (p : S25 → Bool) (eg : ∀ args w, (callFunc gf args).run Try.prog w = .ok (.enter gf args) w) (A : Option Addr) (c : Nat) (l : List S25) (w : World) (hr : Kd.C k25 w A l.length l) (hok : ∀ j : Nat, j < l.length → ok (rd_T25 l (j : Nat))) (hp : Pred25 ok gf cap p w) :
    Calls Try.prog 61 #[.slice A l.length c, .func (.func gf) #[] cap] w fun e w' => e = .returned (.bool (l.all p)) ∧ Below w.heap.size w w' := by
  have HR := Aside0.mk hr
  have HP := Aside0.mk hp
  have HOK := Aside0.mk hok
  have hll : l.length ≤ 9223372036854775807 := hr.2.1
  clear hr hp hok
  go_enter Try.func61, Try.ntmps61
  go_wp2
  go_loopg [9] l.length (fun kq v9 w' => ∃ k : Nat, k ≤ l.length ∧ l.length - k ≤ kq ∧ v9 = .int .i64 k ∧ Aside0 (∀ j, j < k → p (rd_T25 l (j : Nat)) = true) ∧ Aside0 (Fr.Frame w w' [] []))
  case atStart => exact ⟨0, Nat.zero_le _, by omega, rfl, ⟨fun j hj => absurd hj (Nat.not_lt_zero _)⟩, ⟨Fr.Frame.start w⟩⟩
  case round =>
    obtain ⟨k, hk, hg, rfl, HA, hF⟩ := hrel
    have HC : True := trivial
    by_cases hlt : k < l.length
    · have hlti : (k : Int) < (l.length : Int) := by omega
      obtain ⟨ad, A2, c2, e1, a0, a1, a2, g0, g1⟩ := at_T25 HR.out (k : Int) (by omega) hlti
      cases e1
      replace a0 := (hF.out.below.cell (World.block_lt_of_cell? w _ a0)).trans a0
      replace a1 := (hF.out.below.cell (World.block_lt_of_cell? w _ a1)).trans a1
      replace a2 := (hF.out.below.cell (World.block_lt_of_cell? w _ a2)).trans a2
      rw [Int.toNat_natCast] at a0 a1 a2
      have G0 := Aside0.mk g0
      clear g0
      have G1 := Aside0.mk g1
      clear g1
      cases hq : p (rd_T25 l k) with
      | true =>
        have HQ := Aside0.mk hq
        clear hq
        go_wp2_with (first | (go_at_fn gf; refine (HP.out (rd_T25 l k) A2 c2 _ (HOK.out k hlt) hF.out.below G0.out (Kd.C_below G1.out hF.out.below)).mono ?_; rintro e W ⟨rfl, hb⟩; simp only [HQ.out]; have hF1 := hF.out.call hb; clear hb; have HC1 := hF1.cells; simp only [Fr.Cells, List.length_cons, List.length_nil, Nat.reduceAdd, and_true] at HC1; clear hF HC; have HC := HC1; have hF := Aside0.mk hF1; clear hF1 HC1) | ((with_reducible refine gate_store rfl ?_); apply Fr.fr_store hF.out rfl rfl rfl; (case hp => rfl); (case hx => first | (go_simp; rfl) | rfl); (case hu => (simp only [Value.cells]; rfl)); (case hs => (repeat (first | exact Fr.Spot.here _ _ | apply Fr.Spot.there))); (case ht => kernel_rfl); (case h1 => simp [Value.oneCell']); (case hfit => simp); intro W hF1; simp only [Fr.patch, List.take_zero, List.nil_append, List.drop, List.append_nil, List.take, List.cons_append, List.length_cons, List.length_nil, Nat.reduceAdd] at hF1; have HC1 := hF1.cells; simp only [Fr.Cells, List.length_cons, List.length_nil, Nat.reduceAdd, and_true] at HC1; clear hF HC; have HC := HC1; have hF := Aside0.mk hF1; clear hF1 HC1) | ((first | (with_reducible refine Fr.gate_alloc rfl ?_) | (with_reducible refine Fr.gate_box rfl ?_)); apply Fr.fr_box hF.out rfl; (case hrun => first | (go_simp; done) | (go_simp; rfl)); intro g W hF1; have HC1 := hF1.cells; simp only [Fr.Cells, List.length_cons, List.length_nil, Nat.reduceAdd, and_true] at HC1; clear hF HC; have HC := HC1; have hF := Aside0.mk hF1; clear hF1 HC1))
        go_roundg (l.length - (k + 1))
        case measure => omega
        case rel => exact ⟨k + 1, by omega, by omega, by go_num, ⟨fun j hj => by
          by_cases e : j = k
          · subst e; exact HQ.out
          · exact HA.out j (by omega)⟩, ⟨hF.out.forget⟩⟩
      | false =>
        have HQ := Aside0.mk hq
        clear hq
        go_wp2_with (first | (go_at_fn gf; refine (HP.out (rd_T25 l k) A2 c2 _ (HOK.out k hlt) hF.out.below G0.out (Kd.C_below G1.out hF.out.below)).mono ?_; rintro e W ⟨rfl, hb⟩; simp only [HQ.out]; have hF1 := hF.out.call hb; clear hb; have HC1 := hF1.cells; simp only [Fr.Cells, List.length_cons, List.length_nil, Nat.reduceAdd, and_true] at HC1; clear hF HC; have HC := HC1; have hF := Aside0.mk hF1; clear hF1 HC1) | ((with_reducible refine gate_store rfl ?_); apply Fr.fr_store hF.out rfl rfl rfl; (case hp => rfl); (case hx => first | (go_simp; rfl) | rfl); (case hu => (simp only [Value.cells]; rfl)); (case hs => (repeat (first | exact Fr.Spot.here _ _ | apply Fr.Spot.there))); (case ht => kernel_rfl); (case h1 => simp [Value.oneCell']); (case hfit => simp); intro W hF1; simp only [Fr.patch, List.take_zero, List.nil_append, List.drop, List.append_nil, List.take, List.cons_append, List.length_cons, List.length_nil, Nat.reduceAdd] at hF1; have HC1 := hF1.cells; simp only [Fr.Cells, List.length_cons, List.length_nil, Nat.reduceAdd, and_true] at HC1; clear hF HC; have HC := HC1; have hF := Aside0.mk hF1; clear hF1 HC1) | ((first | (with_reducible refine Fr.gate_alloc rfl ?_) | (with_reducible refine Fr.gate_box rfl ?_)); apply Fr.fr_box hF.out rfl; (case hrun => first | (go_simp; done) | (go_simp; rfl)); intro g W hF1; have HC1 := hF1.cells; simp only [Fr.Cells, List.length_cons, List.length_nil, Nat.reduceAdd, and_true] at HC1; clear hF HC; have HC := HC1; have hF := Aside0.mk hF1; clear hF1 HC1))
        go_ret
        exact ⟨by rw [allR_no25 p l k hlt HQ.out]; rfl, hF.out.below⟩
    · have : k = l.length := by omega
      subst this
      go_wp2
      go_ret
      exact ⟨by rw [allR_yes25 p l HA.out]; rfl, hF.out.below⟩
end Go.Proofs.Ytkphinfijppkeaa.G
