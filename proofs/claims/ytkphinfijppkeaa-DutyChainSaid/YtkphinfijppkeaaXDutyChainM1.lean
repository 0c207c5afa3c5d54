/- Contracts of functions of the given program, and what they come to, for any arguments. No condition beyond each theorem's own premises. -/
import Derived.Test.YtkphinfijppkeaaXDutyChainM0
namespace Go.Proofs.Ytkphinfijppkeaa.G
open Go.RowKit Go.Proofs.YtkphinfijppkeaaW.PrintWords Go.Proofs.YtkphinfijppkeaaW.PrintLast Go.Proofs.YtkphinfijppkeaaW.PrintMore
attribute [local go_sem] max2_int min2_int max_two min_two max_three min_three max_four min_four
set_option linter.unusedVariables false
set_option linter.unusedSimpArgs false
theorem rd_get92 (l : List S92) (i : Nat) (h : i < l.length) : rd_T92 l (i : Nat) = l[i] := by simp [rd_T92, List.getD_eq_getElem?_getD, h]
theorem idxR_hit92 (p : S92 → Bool) (l : List S92) (k : Nat) (hk : k < l.length) (h : ∀ j, j < k → p (rd_T92 l (j : Nat)) = false) (hp : p (rd_T92 l (k : Nat)) = true) : (k : Int) = idxP p l := by
  have e : l.findIdx? p = some k := by
    rw [List.findIdx?_eq_some_iff_getElem]
    refine ⟨hk, by rw [← rd_get92 l k hk]; exact hp, fun j hj => ?_⟩
    have := h j hj
    rw [rd_get92 l j (by omega)] at this
    simp [this]
  simp [idxP, e]
theorem idxR_miss92 (p : S92 → Bool) (l : List S92) (h : ∀ j, j < l.length → p (rd_T92 l (j : Nat)) = false) : -1 = idxP p l := by
  have e : l.findIdx? p = none := by
    rw [List.findIdx?_eq_none_iff]
    intro x hx
    obtain ⟨j, hj, rfl⟩ := List.mem_iff_getElem.1 hx
    have := h j hj
    rwa [rd_get92 l j hj] at this
  simp [idxP, e]
def Pred92 (ok : S92 → Prop) (g : Nat) (cap : Array Value) (p : S92 → Bool) (w : World) : Prop := ∀ (x : S92) (W : World), ok x → Below w.heap.size w W → Calls Try.prog g (#[.agg #[.string x.f0, .string x.f1]] ++ cap) W fun e W' => e = .returned (.bool (p x)) ∧ Below W.heap.size W W'
theorem rd_get88 (l : List S88) (i : Nat) (h : i < l.length) : rd_T88 l (i : Nat) = l[i] := by simp [rd_T88, List.getD_eq_getElem?_getD, h]
theorem idxR_hit88 (p : S88 → Bool) (l : List S88) (k : Nat) (hk : k < l.length) (h : ∀ j, j < k → p (rd_T88 l (j : Nat)) = false) (hp : p (rd_T88 l (k : Nat)) = true) : (k : Int) = idxP p l := by
  have e : l.findIdx? p = some k := by
    rw [List.findIdx?_eq_some_iff_getElem]
    refine ⟨hk, by rw [← rd_get88 l k hk]; exact hp, fun j hj => ?_⟩
    have := h j hj
    rw [rd_get88 l j (by omega)] at this
    simp [this]
  simp [idxP, e]
theorem idxR_miss88 (p : S88 → Bool) (l : List S88) (h : ∀ j, j < l.length → p (rd_T88 l (j : Nat)) = false) : -1 = idxP p l := by
  have e : l.findIdx? p = none := by
    rw [List.findIdx?_eq_none_iff]
    intro x hx
    obtain ⟨j, hj, rfl⟩ := List.mem_iff_getElem.1 hx
    have := h j hj
    rwa [rd_get88 l j hj] at this
  simp [idxP, e]
def Pred88 (ok : S88 → Prop) (g : Nat) (cap : Array Value) (p : S88 → Bool) (w : World) : Prop := ∀ (x : S88) (W : World), ok x → Below w.heap.size w W → Calls Try.prog g (#[.agg #[.int .i64 x.f0, .string x.f1, .string x.f2]] ++ cap) W fun e W' => e = .returned (.bool (p x)) ∧ Below W.heap.size W W'
theorem rd_get76 (l : List S76) (i : Nat) (h : i < l.length) : rd_T76 l (i : Nat) = l[i] := by simp [rd_T76, List.getD_eq_getElem?_getD, h]
theorem idxR_hit76 (p : S76 → Bool) (l : List S76) (k : Nat) (hk : k < l.length) (h : ∀ j, j < k → p (rd_T76 l (j : Nat)) = false) (hp : p (rd_T76 l (k : Nat)) = true) : (k : Int) = idxP p l := by
  have e : l.findIdx? p = some k := by
    rw [List.findIdx?_eq_some_iff_getElem]
    refine ⟨hk, by rw [← rd_get76 l k hk]; exact hp, fun j hj => ?_⟩
    have := h j hj
    rw [rd_get76 l j (by omega)] at this
    simp [this]
  simp [idxP, e]
theorem idxR_miss76 (p : S76 → Bool) (l : List S76) (h : ∀ j, j < l.length → p (rd_T76 l (j : Nat)) = false) : -1 = idxP p l := by
  have e : l.findIdx? p = none := by
    rw [List.findIdx?_eq_none_iff]
    intro x hx
    obtain ⟨j, hj, rfl⟩ := List.mem_iff_getElem.1 hx
    have := h j hj
    rwa [rd_get76 l j hj] at this
  simp [idxP, e]
def Pred76 (ok : S76 → Prop) (g : Nat) (cap : Array Value) (p : S76 → Bool) (w : World) : Prop := ∀ (x : S76) (W : World), ok x → Below w.heap.size w W → Calls Try.prog g (#[.agg #[.string x.f0, .int .i64 x.f1.f0, .int .i64 x.f1.f1, .int .i64 x.f1.f2, .int .i64 x.f2, .int .i64 x.f3, .int .i64 x.f4, .int .i64 x.f5, .int .i64 x.f6]] ++ cap) W fun e W' => e = .returned (.bool (p x)) ∧ Below W.heap.size W W'
theorem rd_get58 (l : List S58) (i : Nat) (h : i < l.length) : rd_T58 l (i : Nat) = l[i] := by simp [rd_T58, List.getD_eq_getElem?_getD, h]
theorem idxR_hit58 (p : S58 → Bool) (l : List S58) (k : Nat) (hk : k < l.length) (h : ∀ j, j < k → p (rd_T58 l (j : Nat)) = false) (hp : p (rd_T58 l (k : Nat)) = true) : (k : Int) = idxP p l := by
  have e : l.findIdx? p = some k := by
    rw [List.findIdx?_eq_some_iff_getElem]
    refine ⟨hk, by rw [← rd_get58 l k hk]; exact hp, fun j hj => ?_⟩
    have := h j hj
    rw [rd_get58 l j (by omega)] at this
    simp [this]
  simp [idxP, e]
theorem idxR_miss58 (p : S58 → Bool) (l : List S58) (h : ∀ j, j < l.length → p (rd_T58 l (j : Nat)) = false) : -1 = idxP p l := by
  have e : l.findIdx? p = none := by
    rw [List.findIdx?_eq_none_iff]
    intro x hx
    obtain ⟨j, hj, rfl⟩ := List.mem_iff_getElem.1 hx
    have := h j hj
    rwa [rd_get58 l j hj] at this
  simp [idxP, e]
def Pred58 (ok : S58 → Prop) (g : Nat) (cap : Array Value) (p : S58 → Bool) (w : World) : Prop := ∀ (x : S58) (A0 : Option Addr) (c0 : Nat) (A1 : Option Addr) (c1 : Nat) (W : World), ok x → Below w.heap.size w W → x.f0.length ≤ c0 → (Kd.int .i64).C W A0 x.f0.length x.f0 → x.f1.length ≤ c1 → k88.C W A1 x.f1.length x.f1 → Calls Try.prog g (#[.agg #[.slice A0 x.f0.length c0, .slice A1 x.f1.length c1]] ++ cap) W fun e W' => e = .returned (.bool (p x)) ∧ Below W.heap.size W W'
set_option maxHeartbeats 2000000 in
theorem indexFunc_92 (ok : S92 → Prop) (gf : Nat) (cap : Array Value) (p : S92 → Bool) (eg : ∀ args w, (callFunc gf args).run Try.prog w = .ok (.enter gf args) w) (A : Option Addr) (c : Nat) (l : List S92) (w : World) (hr : Kd.C k92 w A l.length l) (hok : ∀ j : Nat, j < l.length → ok (rd_T92 l (j : Nat))) (hp : Pred92 ok gf cap p w) :
    Calls Try.prog 112 #[.slice A l.length c, .func (.func gf) #[] cap] w fun e w' => e = .returned (.int .i64 (idxP p l)) ∧ Below w.heap.size w w' := by
  have HR := Aside0.mk hr
  have HP := Aside0.mk hp
  have HOK := Aside0.mk hok
  have hll : l.length ≤ 9223372036854775807 := hr.2.1
  clear hr hp hok
  go_enter Try.func112, Try.ntmps112
  go_wp2
  go_loopg [5, 8] l.length (fun kq v5 v8 w' => ∃ k : Nat, k ≤ l.length ∧ l.length - k ≤ kq ∧ v8 = .int .i64 k ∧ Aside0 (∀ j, j < k → p (rd_T92 l (j : Nat)) = false) ∧ Aside0 (Below w.heap.size w w'))
  case atStart => exact ⟨0, Nat.zero_le _, by omega, rfl, ⟨fun j hj => absurd hj (Nat.not_lt_zero _)⟩, ⟨Below.refl _ _⟩⟩
  case round =>
    obtain ⟨k, hk, hg, rfl, HA, HB⟩ := hrel
    by_cases hlt : k < l.length
    · have hlti : (k : Int) < (l.length : Int) := by omega
      obtain ⟨ad, e1, a0, a1⟩ := at_T92 HR.out (k : Int) (by omega) hlti
      cases e1
      replace a0 := (HB.out.cell (World.block_lt_of_cell? w _ a0)).trans a0
      replace a1 := (HB.out.cell (World.block_lt_of_cell? w _ a1)).trans a1
      rw [Int.toNat_natCast] at a0 a1
      cases hq : p (rd_T92 l k) with
      | true =>
        have HQ := Aside0.mk hq
        clear hq
        go_wp2_with (go_at_fn gf; refine (HP.out (rd_T92 l k) _ (HOK.out k hlt) HB.out ).mono ?_; rintro e W1 ⟨rfl, hb⟩; simp only [HQ.out]; have HB1 := Aside0.mk (below_then HB.out HB.out.size hb); clear hb HB; have HB := HB1; clear HB1)
        go_ret
        exact ⟨ret_int64 (idxR_hit92 p l k hlt HA.out HQ.out), HB.out⟩
      | false =>
        have HQ := Aside0.mk hq
        clear hq
        go_wp2_with (go_at_fn gf; refine (HP.out (rd_T92 l k) _ (HOK.out k hlt) HB.out ).mono ?_; rintro e W1 ⟨rfl, hb⟩; simp only [HQ.out]; have HB1 := Aside0.mk (below_then HB.out HB.out.size hb); clear hb HB; have HB := HB1; clear HB1)
        go_roundg (l.length - (k + 1))
        case measure => omega
        case rel => exact ⟨k + 1, by omega, by omega, by go_num, ⟨fun j hj => by
          by_cases e : j = k
          · subst e; exact HQ.out
          · exact HA.out j (by omega)⟩, HB⟩
    · have : k = l.length := by omega
      subst this
      go_wp2
      go_ret
      exact ⟨ret_int64 (idxR_miss92 p l HA.out), HB.out⟩
theorem containsFunc_92 (ok : S92 → Prop) (gf : Nat) (cap : Array Value) (p : S92 → Bool) (eg : ∀ args w, (callFunc gf args).run Try.prog w = .ok (.enter gf args) w) (A : Option Addr) (c : Nat) (l : List S92) (w : World) (hr : Kd.C k92 w A l.length l) (hok : ∀ j : Nat, j < l.length → ok (rd_T92 l (j : Nat))) (hp : Pred92 ok gf cap p w) :
    Calls Try.prog 135 #[.slice A l.length c, .func (.func gf) #[] cap] w fun e w' => e = .returned (.bool (l.any p)) ∧ Below w.heap.size w w' := by
  have HH := Aside0.mk (indexFunc_92 ok gf cap p eg A c l w hr hok hp)
  clear hr hp eg hok
  have EI := Aside0.mk (idxP_any p l)
  go_enter Try.func135, Try.ntmps135
  go_wp2_with (go_at_call 112; (with_reducible refine HH.out.mono ?_); rintro e w' ⟨rfl, hb⟩; have HB := Aside0.mk hb; clear hb)
  go_ret
  exact ⟨by rw [EI.out]; rfl, HB.out⟩
set_option maxHeartbeats 2000000 in
theorem indexFunc_88 (ok : S88 → Prop) (gf : Nat) (cap : Array Value) (p : S88 → Bool) (eg : ∀ args w, (callFunc gf args).run Try.prog w = .ok (.enter gf args) w) (A : Option Addr) (c : Nat) (l : List S88) (w : World) (hr : Kd.C k88 w A l.length l) (hok : ∀ j : Nat, j < l.length → ok (rd_T88 l (j : Nat))) (hp : Pred88 ok gf cap p w) :
    Calls Try.prog 108 #[.slice A l.length c, .func (.func gf) #[] cap] w fun e w' => e = .returned (.int .i64 (idxP p l)) ∧ Below w.heap.size w w' := by
  have HR := Aside0.mk hr
  have HP := Aside0.mk hp
  have HOK := Aside0.mk hok
  have hll : l.length ≤ 9223372036854775807 := hr.2.1
  clear hr hp hok
  go_enter Try.func108, Try.ntmps108
  go_wp2
  go_loopg [5, 8] l.length (fun kq v5 v8 w' => ∃ k : Nat, k ≤ l.length ∧ l.length - k ≤ kq ∧ v8 = .int .i64 k ∧ Aside0 (∀ j, j < k → p (rd_T88 l (j : Nat)) = false) ∧ Aside0 (Below w.heap.size w w'))
  case atStart => exact ⟨0, Nat.zero_le _, by omega, rfl, ⟨fun j hj => absurd hj (Nat.not_lt_zero _)⟩, ⟨Below.refl _ _⟩⟩
  case round =>
    obtain ⟨k, hk, hg, rfl, HA, HB⟩ := hrel
    by_cases hlt : k < l.length
    · have hlti : (k : Int) < (l.length : Int) := by omega
      obtain ⟨ad, e1, a0, a1, a2⟩ := at_T88 HR.out (k : Int) (by omega) hlti
      cases e1
      replace a0 := (HB.out.cell (World.block_lt_of_cell? w _ a0)).trans a0
      replace a1 := (HB.out.cell (World.block_lt_of_cell? w _ a1)).trans a1
      replace a2 := (HB.out.cell (World.block_lt_of_cell? w _ a2)).trans a2
      rw [Int.toNat_natCast] at a0 a1 a2
      cases hq : p (rd_T88 l k) with
      | true =>
        have HQ := Aside0.mk hq
        clear hq
        go_wp2_with (go_at_fn gf; refine (HP.out (rd_T88 l k) _ (HOK.out k hlt) HB.out ).mono ?_; rintro e W1 ⟨rfl, hb⟩; simp only [HQ.out]; have HB1 := Aside0.mk (below_then HB.out HB.out.size hb); clear hb HB; have HB := HB1; clear HB1)
        go_ret
        exact ⟨ret_int64 (idxR_hit88 p l k hlt HA.out HQ.out), HB.out⟩
      | false =>
        have HQ := Aside0.mk hq
        clear hq
        go_wp2_with (go_at_fn gf; refine (HP.out (rd_T88 l k) _ (HOK.out k hlt) HB.out ).mono ?_; rintro e W1 ⟨rfl, hb⟩; simp only [HQ.out]; have HB1 := Aside0.mk (below_then HB.out HB.out.size hb); clear hb HB; have HB := HB1; clear HB1)
        go_roundg (l.length - (k + 1))
        case measure => omega
        case rel => exact ⟨k + 1, by omega, by omega, by go_num, ⟨fun j hj => by
          by_cases e : j = k
          · subst e; exact HQ.out
          · exact HA.out j (by omega)⟩, HB⟩
    · have : k = l.length := by omega
      subst this
      go_wp2
      go_ret
      exact ⟨ret_int64 (idxR_miss88 p l HA.out), HB.out⟩
theorem containsFunc_88 (ok : S88 → Prop) (gf : Nat) (cap : Array Value) (p : S88 → Bool) (eg : ∀ args w, (callFunc gf args).run Try.prog w = .ok (.enter gf args) w) (A : Option Addr) (c : Nat) (l : List S88) (w : World) (hr : Kd.C k88 w A l.length l) (hok : ∀ j : Nat, j < l.length → ok (rd_T88 l (j : Nat))) (hp : Pred88 ok gf cap p w) :
    Calls Try.prog 69 #[.slice A l.length c, .func (.func gf) #[] cap] w fun e w' => e = .returned (.bool (l.any p)) ∧ Below w.heap.size w w' := by
  have HH := Aside0.mk (indexFunc_88 ok gf cap p eg A c l w hr hok hp)
  clear hr hp eg hok
  have EI := Aside0.mk (idxP_any p l)
  go_enter Try.func69, Try.ntmps69
  go_wp2_with (go_at_call 108; (with_reducible refine HH.out.mono ?_); rintro e w' ⟨rfl, hb⟩; have HB := Aside0.mk hb; clear hb)
  go_ret
  exact ⟨by rw [EI.out]; rfl, HB.out⟩
set_option maxHeartbeats 2000000 in
theorem indexFunc_76 (ok : S76 → Prop) (gf : Nat) (cap : Array Value) (p : S76 → Bool) (eg : ∀ args w, (callFunc gf args).run Try.prog w = .ok (.enter gf args) w) (A : Option Addr) (c : Nat) (l : List S76) (w : World) (hr : Kd.C k76 w A l.length l) (hok : ∀ j : Nat, j < l.length → ok (rd_T76 l (j : Nat))) (hp : Pred76 ok gf cap p w) :
    Calls Try.prog 131 #[.slice A l.length c, .func (.func gf) #[] cap] w fun e w' => e = .returned (.int .i64 (idxP p l)) ∧ Below w.heap.size w w' := by
  have HR := Aside0.mk hr
  have HP := Aside0.mk hp
  have HOK := Aside0.mk hok
  have hll : l.length ≤ 9223372036854775807 := hr.2.1
  clear hr hp hok
  go_enter Try.func131, Try.ntmps131
  go_wp2
  go_loopg [5, 8] l.length (fun kq v5 v8 w' => ∃ k : Nat, k ≤ l.length ∧ l.length - k ≤ kq ∧ v8 = .int .i64 k ∧ Aside0 (∀ j, j < k → p (rd_T76 l (j : Nat)) = false) ∧ Aside0 (Below w.heap.size w w'))
  case atStart => exact ⟨0, Nat.zero_le _, by omega, rfl, ⟨fun j hj => absurd hj (Nat.not_lt_zero _)⟩, ⟨Below.refl _ _⟩⟩
  case round =>
    obtain ⟨k, hk, hg, rfl, HA, HB⟩ := hrel
    by_cases hlt : k < l.length
    · have hlti : (k : Int) < (l.length : Int) := by omega
      obtain ⟨ad, e1, a0, a1, a2, a3, a4, a5, a6, a7, a8⟩ := at_T76 HR.out (k : Int) (by omega) hlti
      cases e1
      replace a0 := (HB.out.cell (World.block_lt_of_cell? w _ a0)).trans a0
      replace a1 := (HB.out.cell (World.block_lt_of_cell? w _ a1)).trans a1
      replace a2 := (HB.out.cell (World.block_lt_of_cell? w _ a2)).trans a2
      replace a3 := (HB.out.cell (World.block_lt_of_cell? w _ a3)).trans a3
      replace a4 := (HB.out.cell (World.block_lt_of_cell? w _ a4)).trans a4
      replace a5 := (HB.out.cell (World.block_lt_of_cell? w _ a5)).trans a5
      replace a6 := (HB.out.cell (World.block_lt_of_cell? w _ a6)).trans a6
      replace a7 := (HB.out.cell (World.block_lt_of_cell? w _ a7)).trans a7
      replace a8 := (HB.out.cell (World.block_lt_of_cell? w _ a8)).trans a8
      rw [Int.toNat_natCast] at a0 a1 a2 a3 a4 a5 a6 a7 a8
      cases hq : p (rd_T76 l k) with
      | true =>
        have HQ := Aside0.mk hq
        clear hq
        go_wp2_with (go_at_fn gf; refine (HP.out (rd_T76 l k) _ (HOK.out k hlt) HB.out ).mono ?_; rintro e W1 ⟨rfl, hb⟩; simp only [HQ.out]; have HB1 := Aside0.mk (below_then HB.out HB.out.size hb); clear hb HB; have HB := HB1; clear HB1)
        go_ret
        exact ⟨ret_int64 (idxR_hit76 p l k hlt HA.out HQ.out), HB.out⟩
      | false =>
        have HQ := Aside0.mk hq
        clear hq
        go_wp2_with (go_at_fn gf; refine (HP.out (rd_T76 l k) _ (HOK.out k hlt) HB.out ).mono ?_; rintro e W1 ⟨rfl, hb⟩; simp only [HQ.out]; have HB1 := Aside0.mk (below_then HB.out HB.out.size hb); clear hb HB; have HB := HB1; clear HB1)
        go_roundg (l.length - (k + 1))
        case measure => omega
        case rel => exact ⟨k + 1, by omega, by omega, by go_num, ⟨fun j hj => by
          by_cases e : j = k
          · subst e; exact HQ.out
          · exact HA.out j (by omega)⟩, HB⟩
    · have : k = l.length := by omega
      subst this
      go_wp2
      go_ret
      exact ⟨ret_int64 (idxR_miss76 p l HA.out), HB.out⟩
set_option maxHeartbeats 2000000 in
theorem indexFunc_58 (ok : S58 → Prop) (gf : Nat) (cap : Array Value) (p : S58 → Bool) (eg : ∀ args w, (callFunc gf args).run Try.prog w = .ok (.enter gf args) w) (A : Option Addr) (c : Nat) (l : List S58) (w : World) (hr : Kd.C k58 w A l.length l) (hok : ∀ j : Nat, j < l.length → ok (rd_T58 l (j : Nat))) (hp : Pred58 ok gf cap p w) :
    Calls Try.prog 133 #[.slice A l.length c, .func (.func gf) #[] cap] w fun e w' => e = .returned (.int .i64 (idxP p l)) ∧ Below w.heap.size w w' := by
  have HR := Aside0.mk hr
  have HP := Aside0.mk hp
  have HOK := Aside0.mk hok
  have hll : l.length ≤ 9223372036854775807 := hr.2.1
  clear hr hp hok
  go_enter Try.func133, Try.ntmps133
  go_wp2
  go_loopg [5, 8] l.length (fun kq v5 v8 w' => ∃ k : Nat, k ≤ l.length ∧ l.length - k ≤ kq ∧ v8 = .int .i64 k ∧ Aside0 (∀ j, j < k → p (rd_T58 l (j : Nat)) = false) ∧ Aside0 (Below w.heap.size w w'))
  case atStart => exact ⟨0, Nat.zero_le _, by omega, rfl, ⟨fun j hj => absurd hj (Nat.not_lt_zero _)⟩, ⟨Below.refl _ _⟩⟩
  case round =>
    obtain ⟨k, hk, hg, rfl, HA, HB⟩ := hrel
    by_cases hlt : k < l.length
    · have hlti : (k : Int) < (l.length : Int) := by omega
      obtain ⟨ad, A0, c0, A1, c1, e1, a0, a1, g0, g1, g2, g3⟩ := at_T58 HR.out (k : Int) (by omega) hlti
      cases e1
      replace a0 := (HB.out.cell (World.block_lt_of_cell? w _ a0)).trans a0
      replace a1 := (HB.out.cell (World.block_lt_of_cell? w _ a1)).trans a1
      rw [Int.toNat_natCast] at a0 a1
      have G0 := Aside0.mk g0
      clear g0
      have G1 := Aside0.mk g1
      clear g1
      have G2 := Aside0.mk g2
      clear g2
      have G3 := Aside0.mk g3
      clear g3
      cases hq : p (rd_T58 l k) with
      | true =>
        have HQ := Aside0.mk hq
        clear hq
        go_wp2_with (go_at_fn gf; refine (HP.out (rd_T58 l k) A0 c0 A1 c1 _ (HOK.out k hlt) HB.out G0.out (Kd.C_below G1.out HB.out) G2.out (Kd.C_below G3.out HB.out)).mono ?_; rintro e W1 ⟨rfl, hb⟩; simp only [HQ.out]; have HB1 := Aside0.mk (below_then HB.out HB.out.size hb); clear hb HB; have HB := HB1; clear HB1)
        go_ret
        exact ⟨ret_int64 (idxR_hit58 p l k hlt HA.out HQ.out), HB.out⟩
      | false =>
        have HQ := Aside0.mk hq
        clear hq
        go_wp2_with (go_at_fn gf; refine (HP.out (rd_T58 l k) A0 c0 A1 c1 _ (HOK.out k hlt) HB.out G0.out (Kd.C_below G1.out HB.out) G2.out (Kd.C_below G3.out HB.out)).mono ?_; rintro e W1 ⟨rfl, hb⟩; simp only [HQ.out]; have HB1 := Aside0.mk (below_then HB.out HB.out.size hb); clear hb HB; have HB := HB1; clear HB1)
        go_roundg (l.length - (k + 1))
        case measure => omega
        case rel => exact ⟨k + 1, by omega, by omega, by go_num, ⟨fun j hj => by
          by_cases e : j = k
          · subst e; exact HQ.out
          · exact HA.out j (by omega)⟩, HB⟩
    · have : k = l.length := by omega
      subst this
      go_wp2
      go_ret
      exact ⟨ret_int64 (idxR_miss58 p l HA.out), HB.out⟩
theorem containsFunc_58 (ok : S58 → Prop) (gf : Nat) (cap : Array Value) (p : S58 → Bool) (eg : ∀ args w, (callFunc gf args).run Try.prog w = .ok (.enter gf args) w) (A : Option Addr) (c : Nat) (l : List S58) (w : World) (hr : Kd.C k58 w A l.length l) (hok : ∀ j : Nat, j < l.length → ok (rd_T58 l (j : Nat))) (hp : Pred58 ok gf cap p w) :
    Calls Try.prog 102 #[.slice A l.length c, .func (.func gf) #[] cap] w fun e w' => e = .returned (.bool (l.any p)) ∧ Below w.heap.size w w' := by
  have HH := Aside0.mk (indexFunc_58 ok gf cap p eg A c l w hr hok hp)
  clear hr hp eg hok
  have EI := Aside0.mk (idxP_any p l)
  go_enter Try.func102, Try.ntmps102
  go_wp2_with (go_at_call 133; (with_reducible refine HH.out.mono ?_); rintro e w' ⟨rfl, hb⟩; have HB := Aside0.mk hb; clear hb)
  go_ret
  exact ⟨by rw [EI.out]; rfl, HB.out⟩
end Go.Proofs.Ytkphinfijppkeaa.G
