/- Contracts of functions of the given program, each proved by a walk of its code: written by gprint.py, this session's program round the kit's print; texts of our own stand among the printed ones. No condition beyond each theorem's own premises. -/
import Derived.Test.YtkkopknlhijgiaaG0
import Derived.Test.YtkkopknlhijgiaaG17
import Derived.Test.YtkkopknlhijgiaaG19
namespace Go.Proofs.Ytkkopknlhijgiaa.G
open Go.RowKit Go.Proofs.YtkkopknlhijgiaaW.PrintWords Go.Proofs.YtkkopknlhijgiaaW.PrintLast Go.Proofs.YtkkopknlhijgiaaW.PrintMore
attribute [local go_sem] max2_int min2_int max_two min_two max_three min_three max_four min_four   -- for this text's walks alone
set_option linter.unusedVariables false
set_option linter.unusedSimpArgs false

/-! ### foghornlaw08_BucketBounds: function 5 -/
mutual
def foghornlaw08_BucketBounds.j0 : Nat → List Int → Bool → Int → Int → Int → Int → Option (Bool)
  | 0, _, _, _, _, _, _ => none
  | k + 1, x3, x33, x333000, x333001, x333002, x333003 => if x33 = true then (some false) else (if 0 ≤ (mn (x3.length : Int) 200) then (if (mn (x3.length : Int) 200) ≤ (x3.length : Int) then ((some (x3.take ((mn (x3.length : Int) 200) : Int).toNat : List Int)).bind fun y334 => (foghornlaw08_BucketBounds.l0 k 0 ([] : List Int) y334 (y334.length : Int) 0 x333000 x333001 x333002 x333003)) else (none)) else (none))
def foghornlaw08_BucketBounds.l0 : Nat → Int → List Int → List Int → Int → Int → Int → Int → Int → Int → Option (Bool)
  | 0, _, _, _, _, _, _, _, _, _ => none
  | k + 1, x11, x12, x38, x39, x40, x333000, x333001, x333002, x333003 => if x40 < x39 then (if 0 ≤ x40 then (if x40 < (x38.length : Int) then ((bucket_Take.f x333000 x333001 x333002 x333003 (wrap64 (x11 + (Int.tmod (wrap64 ((Int.tmod (rd x38 x40) 9) + 9)) 9)))).bind fun bt339 => (if bt339.2.2.2.2.2 = 0 then (if bt339.2.2.2.2.1 = true then (if x12.length < 17592186044416 then (foghornlaw08_BucketBounds.l0 k (wrap64 (x11 + (Int.tmod (wrap64 ((Int.tmod (rd x38 x40) 9) + 9)) 9))) (x12 ++ [wrap64 (x11 + (Int.tmod (wrap64 ((Int.tmod (rd x38 x40) 9) + 9)) 9))]) x38 x39 (wrap64 (x40 + 1)) bt339.1 bt339.2.1 bt339.2.2.1 bt339.2.2.2.1) else (none)) else (foghornlaw08_BucketBounds.l0 k (wrap64 (x11 + (Int.tmod (wrap64 ((Int.tmod (rd x38 x40) 9) + 9)) 9))) x12 x38 x39 (wrap64 (x40 + 1)) bt339.1 bt339.2.1 bt339.2.2.1 bt339.2.2.2.1)) else (some false))) else (none)) else (none)) else (foghornlaw08_BucketBounds.l1 k x12 x12 (x12.length : Int) 0 x333000 x333001 x333002 x333003)
def foghornlaw08_BucketBounds.l1 : Nat → List Int → List Int → Int → Int → Int → Int → Int → Int → Option (Bool)
  | 0, _, _, _, _, _, _, _, _ => none
  | k + 1, x12, x66, x67, x68, x333000, x333001, x333002, x333003 => if x68 < x67 then (if 0 ≤ x68 then (if x68 < (x66.length : Int) then (foghornlaw08_BucketBounds.l2 k x12 x68 (rd x66 x68) x68 x66 x67 x68 x333000 x333001 x333002 x333003) else (none)) else (none)) else (some true)
def foghornlaw08_BucketBounds.l2 : Nat → List Int → Int → Int → Int → List Int → Int → Int → Int → Int → Int → Int → Option (Bool)
  | 0, _, _, _, _, _, _, _, _, _, _, _ => none
  | k + 1, x12, x18, x19, x20, x66, x67, x68, x333000, x333001, x333002, x333003 => if x20 < (x12.length : Int) then (if 0 ≤ x20 then (if x333001 = 0 then (none) else (if (wrap64 ((wrap64 (x20 - x18)) + 1)) > (wrap64 (x333000 + (wrap64 (Int.tdiv (wrap64 ((rd x12 x20) - x19)) x333001)))) then (some false) else (foghornlaw08_BucketBounds.l2 k x12 x18 x19 (wrap64 (x20 + 1)) x66 x67 x68 x333000 x333001 x333002 x333003))) else (none)) else (foghornlaw08_BucketBounds.l1 k x12 x66 x67 (wrap64 (x68 + 1)) x333000 x333001 x333002 x333003)
end
def foghornlaw08_BucketBounds.f (k : Nat) (a0 : Int) (a1 : Int) (a2 : Int) (l3 : List Int) : Option (Bool) := (foghornlaw08_some.f a0 a1 a2).bind fun bt327 => (if bt327.2.2.2.2 = true then ((foghornlaw08_alive.f).bind fun t333 => (foghornlaw08_BucketBounds.j0 k l3 (!t333) bt327.1 bt327.2.1 bt327.2.2.1 bt327.2.2.2.1)) else (foghornlaw08_BucketBounds.j0 k l3 true bt327.1 bt327.2.1 bt327.2.2.1 bt327.2.2.2.1))
theorem foghornlaw08_BucketBounds.mono_l : ∀ k, (∀ y0 y1 y2 y3 y4 y5, LeO (foghornlaw08_BucketBounds.j0 k y0 y1 y2 y3 y4 y5) (foghornlaw08_BucketBounds.j0 (k + 1) y0 y1 y2 y3 y4 y5)) ∧ (∀ y0 y1 y2 y3 y4 y5 y6 y7 y8, LeO (foghornlaw08_BucketBounds.l0 k y0 y1 y2 y3 y4 y5 y6 y7 y8) (foghornlaw08_BucketBounds.l0 (k + 1) y0 y1 y2 y3 y4 y5 y6 y7 y8)) ∧ (∀ y0 y1 y2 y3 y4 y5 y6 y7, LeO (foghornlaw08_BucketBounds.l1 k y0 y1 y2 y3 y4 y5 y6 y7) (foghornlaw08_BucketBounds.l1 (k + 1) y0 y1 y2 y3 y4 y5 y6 y7)) ∧ (∀ y0 y1 y2 y3 y4 y5 y6 y7 y8 y9 y10, LeO (foghornlaw08_BucketBounds.l2 k y0 y1 y2 y3 y4 y5 y6 y7 y8 y9 y10) (foghornlaw08_BucketBounds.l2 (k + 1) y0 y1 y2 y3 y4 y5 y6 y7 y8 y9 y10))
  | 0 => ⟨fun _ _ _ _ _ _ r h => by simp [foghornlaw08_BucketBounds.j0] at h, fun _ _ _ _ _ _ _ _ _ r h => by simp [foghornlaw08_BucketBounds.l0] at h, fun _ _ _ _ _ _ _ _ r h => by simp [foghornlaw08_BucketBounds.l1] at h, fun _ _ _ _ _ _ _ _ _ _ _ r h => by simp [foghornlaw08_BucketBounds.l2] at h⟩
  | k + 1 => by
    obtain ⟨ih0, ih1, ih2, ih3⟩ := foghornlaw08_BucketBounds.mono_l k
    refine ⟨?_, ?_, ?_, ?_⟩
    · intro y0 y1 y2 y3 y4 y5
      unfold foghornlaw08_BucketBounds.j0
      repeat' first
      | (with_reducible exact ih0 _ _ _ _ _ _)
      | (with_reducible exact ih1 _ _ _ _ _ _ _ _ _)
      | (with_reducible exact ih2 _ _ _ _ _ _ _ _)
      | (with_reducible exact ih3 _ _ _ _ _ _ _ _ _ _ _)
      | (with_reducible exact LeO.refl _)
      | (with_reducible exact LeO.none _)
      | (with_reducible refine LeO.ite ?_ ?_)
      | (with_reducible refine LeO.bind ?_ (fun _ => ?_))
      | exact ih0 _ _ _ _ _ _
      | exact ih1 _ _ _ _ _ _ _ _ _
      | exact ih2 _ _ _ _ _ _ _ _
      | exact ih3 _ _ _ _ _ _ _ _ _ _ _
      | exact LeO.none _
      | refine LeO.ite ?_ ?_
      | refine LeO.bind ?_ (fun _ => ?_)
    · intro y0 y1 y2 y3 y4 y5 y6 y7 y8
      unfold foghornlaw08_BucketBounds.l0
      repeat' first
      | (with_reducible exact ih0 _ _ _ _ _ _)
      | (with_reducible exact ih1 _ _ _ _ _ _ _ _ _)
      | (with_reducible exact ih2 _ _ _ _ _ _ _ _)
      | (with_reducible exact ih3 _ _ _ _ _ _ _ _ _ _ _)
      | (with_reducible exact LeO.refl _)
      | (with_reducible exact LeO.none _)
      | (with_reducible refine LeO.ite ?_ ?_)
      | (with_reducible refine LeO.bind ?_ (fun _ => ?_))
      | exact ih0 _ _ _ _ _ _
      | exact ih1 _ _ _ _ _ _ _ _ _
      | exact ih2 _ _ _ _ _ _ _ _
      | exact ih3 _ _ _ _ _ _ _ _ _ _ _
      | exact LeO.none _
      | refine LeO.ite ?_ ?_
      | refine LeO.bind ?_ (fun _ => ?_)
    · intro y0 y1 y2 y3 y4 y5 y6 y7
      unfold foghornlaw08_BucketBounds.l1
      repeat' first
      | (with_reducible exact ih0 _ _ _ _ _ _)
      | (with_reducible exact ih1 _ _ _ _ _ _ _ _ _)
      | (with_reducible exact ih2 _ _ _ _ _ _ _ _)
      | (with_reducible exact ih3 _ _ _ _ _ _ _ _ _ _ _)
      | (with_reducible exact LeO.refl _)
      | (with_reducible exact LeO.none _)
      | (with_reducible refine LeO.ite ?_ ?_)
      | (with_reducible refine LeO.bind ?_ (fun _ => ?_))
      | exact ih0 _ _ _ _ _ _
      | exact ih1 _ _ _ _ _ _ _ _ _
      | exact ih2 _ _ _ _ _ _ _ _
      | exact ih3 _ _ _ _ _ _ _ _ _ _ _
      | exact LeO.none _
      | refine LeO.ite ?_ ?_
      | refine LeO.bind ?_ (fun _ => ?_)
    · intro y0 y1 y2 y3 y4 y5 y6 y7 y8 y9 y10
      unfold foghornlaw08_BucketBounds.l2
      repeat' first
      | (with_reducible exact ih0 _ _ _ _ _ _)
      | (with_reducible exact ih1 _ _ _ _ _ _ _ _ _)
      | (with_reducible exact ih2 _ _ _ _ _ _ _ _)
      | (with_reducible exact ih3 _ _ _ _ _ _ _ _ _ _ _)
      | (with_reducible exact LeO.refl _)
      | (with_reducible exact LeO.none _)
      | (with_reducible refine LeO.ite ?_ ?_)
      | (with_reducible refine LeO.bind ?_ (fun _ => ?_))
      | exact ih0 _ _ _ _ _ _
      | exact ih1 _ _ _ _ _ _ _ _ _
      | exact ih2 _ _ _ _ _ _ _ _
      | exact ih3 _ _ _ _ _ _ _ _ _ _ _
      | exact LeO.none _
      | refine LeO.ite ?_ ?_
      | refine LeO.bind ?_ (fun _ => ?_)
theorem foghornlaw08_BucketBounds.mono : ∀ a0 a1 a2 a3 k, LeO (foghornlaw08_BucketBounds.f k a0 a1 a2 a3) (foghornlaw08_BucketBounds.f (k + 1) a0 a1 a2 a3) := by
  intro a0 a1 a2 a3 k
  obtain ⟨ih0, ih1, ih2, ih3⟩ := foghornlaw08_BucketBounds.mono_l k
  unfold foghornlaw08_BucketBounds.f
  repeat' first
      | (with_reducible exact ih0 _ _ _ _ _ _)
      | (with_reducible exact ih1 _ _ _ _ _ _ _ _ _)
      | (with_reducible exact ih2 _ _ _ _ _ _ _ _)
      | (with_reducible exact ih3 _ _ _ _ _ _ _ _ _ _ _)
      | (with_reducible exact LeO.refl _)
      | (with_reducible exact LeO.none _)
      | (with_reducible refine LeO.ite ?_ ?_)
      | (with_reducible refine LeO.bind ?_ (fun _ => ?_))
      | exact ih0 _ _ _ _ _ _
      | exact ih1 _ _ _ _ _ _ _ _ _
      | exact ih2 _ _ _ _ _ _ _ _
      | exact ih3 _ _ _ _ _ _ _ _ _ _ _
      | exact LeO.none _
      | refine LeO.ite ?_ ?_
      | refine LeO.bind ?_ (fun _ => ?_)
set_option maxHeartbeats 8000000 in
set_option maxRecDepth 100000 in
theorem foghornlaw08_BucketBounds.calls (k : Nat) (a0 : Int) (a1 : Int) (a2 : Int) (A3 : Option Addr) (c3 : Nat) (l3 : List Int) (r : Bool) (w : World) (hr3 : Kd.C (Kd.int .i64) w A3 l3.length l3) (hc3 : l3.length ≤ c3) (h : foghornlaw08_BucketBounds.f k a0 a1 a2 l3 = some r) :
    Calls Try.prog 5 #[.int .i64 a0, .int .i64 a1, .int .i64 a2, .slice A3 l3.length c3] w fun e w' => e = .returned (.bool r) ∧ Below w.heap.size w w' := by
  have hu37 := Try.underlying37
  have HR3 := Aside0.mk hr3
  have HC3 := Aside0.mk hc3
  clear hr3 hc3
  have HB := Aside0.mk (Below.refl w.heap.size w)
  have H : ((foghornlaw08_some.f a0 a1 a2).bind fun bt327 => (if bt327.2.2.2.2 = true then ((foghornlaw08_alive.f).bind fun t333 => (foghornlaw08_BucketBounds.j0 k l3 (!t333) bt327.1 bt327.2.1 bt327.2.2.1 bt327.2.2.2.1)) else (foghornlaw08_BucketBounds.j0 k l3 true bt327.1 bt327.2.1 bt327.2.2.1 bt327.2.2.2.1))) = some r := h
  clear h
  replace H := Option.bind_eq_some_iff.mp H
  obtain ⟨⟨t327, t328, t329, t330, t331⟩, A50, H⟩ := H
  replace H : (if t331 = true then ((foghornlaw08_alive.f).bind fun t333 => (foghornlaw08_BucketBounds.j0 k l3 (!t333) t327 t328 t329 t330)) else (foghornlaw08_BucketBounds.j0 k l3 true t327 t328 t329 t330)) = some r := H
  have A5 := Aside0.mk A50
  clear A50
  have HC6 := Aside0.mk H
  clear H
  go_enter Try.func5, Try.ntmps5
  go_upto_region 2 with (first | (go_at_call 24; (with_reducible refine (foghornlaw08_some.calls a0 a1 a2 t327 t328 t329 t330 t331 _ A5.out).mono ?_); rintro e w7 ⟨rfl, hb⟩; have n0_ := Aside0.mk (below_step (by repeat (first | (with_reducible first | exact HB.out | apply below_alloc | apply pw_below_drewN | apply below_drew1) | exact HB.out)) hb); clear HB; have HB := n0_; clear n0_; (try clear hb); (try clear hb2); (try clear hk); (try clear hi)) | ((with_reducible refine gate_dst (N := 9) rfl ?_); refine box_event ?hg (N := 9) ?hd (cs := #[.int .i64 0, .int .i64 0, .int .i64 0, .int .i64 0]) (t := 37) ?hr ?_; (case hd => rfl); (case hg => rfl); (case hr => first | (go_simp; done) | (go_simp; rfl)); intro gb332 hg w8 hbox hb; have n0_ := Aside0.mk (below_step (by repeat (first | (with_reducible first | exact HB.out | apply below_alloc | apply pw_below_drewN | apply below_drew1) | exact HB.out)) hb); have n1_ := Aside0.mk (hbox); have n2_ := Aside0.mk ((by rw [hg]; exact (below_size (by repeat (first | (with_reducible first | exact HB.out | apply below_alloc | apply pw_below_drewN | apply below_drew1) | exact HB.out))) : w.heap.size ≤ gb332)); have n3_ := Aside0.mk ((by rw [hg]; exact (below_size (by repeat (first | (with_reducible first | exact HB.out | apply below_alloc | apply pw_below_drewN | apply below_drew1) | exact HB.out))) : w.heap.size ≤ gb332)); clear HB; have HB := n0_; have BK332 := n1_; have GW332 := n2_; have GE332 := n3_; clear n0_ n1_ n2_ n3_; clear hb hbox hg; have hcz9_0 : w8.cell? ⟨gb332, 0, none⟩ = some (.int .i64 0) := (blk_cell BK332.out 0).trans rfl; have hcz9_1 : w8.cell? ⟨gb332, 1, none⟩ = some (.int .i64 0) := (blk_cell BK332.out 1).trans rfl; have hcz9_2 : w8.cell? ⟨gb332, 2, none⟩ = some (.int .i64 0) := (blk_cell BK332.out 2).trans rfl; have hcz9_3 : w8.cell? ⟨gb332, 3, none⟩ = some (.int .i64 0) := (blk_cell BK332.out 3).trans rfl; have hfz9_0 := blk_frozen BK332.out 0; have hfz9_1 := blk_frozen BK332.out 1; have hfz9_2 := blk_frozen BK332.out 2; have hfz9_3 := blk_frozen BK332.out 3))
  repeat (go_quiet (first | (go_at_call 24; (with_reducible refine (foghornlaw08_some.calls a0 a1 a2 t327 t328 t329 t330 t331 _ A5.out).mono ?_); rintro e w7 ⟨rfl, hb⟩; have n0_ := Aside0.mk (below_step (by repeat (first | (with_reducible first | exact HB.out | apply below_alloc | apply pw_below_drewN | apply below_drew1) | exact HB.out)) hb); clear HB; have HB := n0_; clear n0_; (try clear hb); (try clear hb2); (try clear hk); (try clear hi)) | ((with_reducible refine gate_dst (N := 9) rfl ?_); refine box_event ?hg (N := 9) ?hd (cs := #[.int .i64 0, .int .i64 0, .int .i64 0, .int .i64 0]) (t := 37) ?hr ?_; (case hd => rfl); (case hg => rfl); (case hr => first | (go_simp; done) | (go_simp; rfl)); intro gb332 hg w8 hbox hb; have n0_ := Aside0.mk (below_step (by repeat (first | (with_reducible first | exact HB.out | apply below_alloc | apply pw_below_drewN | apply below_drew1) | exact HB.out)) hb); have n1_ := Aside0.mk (hbox); have n2_ := Aside0.mk ((by rw [hg]; exact (below_size (by repeat (first | (with_reducible first | exact HB.out | apply below_alloc | apply pw_below_drewN | apply below_drew1) | exact HB.out))) : w.heap.size ≤ gb332)); have n3_ := Aside0.mk ((by rw [hg]; exact (below_size (by repeat (first | (with_reducible first | exact HB.out | apply below_alloc | apply pw_below_drewN | apply below_drew1) | exact HB.out))) : w.heap.size ≤ gb332)); clear HB; have HB := n0_; have BK332 := n1_; have GW332 := n2_; have GE332 := n3_; clear n0_ n1_ n2_ n3_; clear hb hbox hg; have hcz9_0 : w8.cell? ⟨gb332, 0, none⟩ = some (.int .i64 0) := (blk_cell BK332.out 0).trans rfl; have hcz9_1 : w8.cell? ⟨gb332, 1, none⟩ = some (.int .i64 0) := (blk_cell BK332.out 1).trans rfl; have hcz9_2 : w8.cell? ⟨gb332, 2, none⟩ = some (.int .i64 0) := (blk_cell BK332.out 2).trans rfl; have hcz9_3 : w8.cell? ⟨gb332, 3, none⟩ = some (.int .i64 0) := (blk_cell BK332.out 3).trans rfl; have hfz9_0 := blk_frozen BK332.out 0; have hfz9_1 := blk_frozen BK332.out 1; have hfz9_2 := blk_frozen BK332.out 2; have hfz9_3 := blk_frozen BK332.out 3)); go_upto_region 2 with (first | (go_at_call 24; (with_reducible refine (foghornlaw08_some.calls a0 a1 a2 t327 t328 t329 t330 t331 _ A5.out).mono ?_); rintro e w7 ⟨rfl, hb⟩; have n0_ := Aside0.mk (below_step (by repeat (first | (with_reducible first | exact HB.out | apply below_alloc | apply pw_below_drewN | apply below_drew1) | exact HB.out)) hb); clear HB; have HB := n0_; clear n0_; (try clear hb); (try clear hb2); (try clear hk); (try clear hi)) | ((with_reducible refine gate_dst (N := 9) rfl ?_); refine box_event ?hg (N := 9) ?hd (cs := #[.int .i64 0, .int .i64 0, .int .i64 0, .int .i64 0]) (t := 37) ?hr ?_; (case hd => rfl); (case hg => rfl); (case hr => first | (go_simp; done) | (go_simp; rfl)); intro gb332 hg w8 hbox hb; have n0_ := Aside0.mk (below_step (by repeat (first | (with_reducible first | exact HB.out | apply below_alloc | apply pw_below_drewN | apply below_drew1) | exact HB.out)) hb); have n1_ := Aside0.mk (hbox); have n2_ := Aside0.mk ((by rw [hg]; exact (below_size (by repeat (first | (with_reducible first | exact HB.out | apply below_alloc | apply pw_below_drewN | apply below_drew1) | exact HB.out))) : w.heap.size ≤ gb332)); have n3_ := Aside0.mk ((by rw [hg]; exact (below_size (by repeat (first | (with_reducible first | exact HB.out | apply below_alloc | apply pw_below_drewN | apply below_drew1) | exact HB.out))) : w.heap.size ≤ gb332)); clear HB; have HB := n0_; have BK332 := n1_; have GW332 := n2_; have GE332 := n3_; clear n0_ n1_ n2_ n3_; clear hb hbox hg; have hcz9_0 : w8.cell? ⟨gb332, 0, none⟩ = some (.int .i64 0) := (blk_cell BK332.out 0).trans rfl; have hcz9_1 : w8.cell? ⟨gb332, 1, none⟩ = some (.int .i64 0) := (blk_cell BK332.out 1).trans rfl; have hcz9_2 : w8.cell? ⟨gb332, 2, none⟩ = some (.int .i64 0) := (blk_cell BK332.out 2).trans rfl; have hcz9_3 : w8.cell? ⟨gb332, 3, none⟩ = some (.int .i64 0) := (blk_cell BK332.out 3).trans rfl; have hfz9_0 := blk_frozen BK332.out 0; have hfz9_1 := blk_frozen BK332.out 1; have hfz9_2 := blk_frozen BK332.out 2; have hfz9_3 := blk_frozen BK332.out 3)))
  (try simp only [Act.put, List.setIfInBounds_toArray, List.set_cons_zero, List.set_cons_succ])
  go_cut [33] (fun v33 wc => ∃ (kq : Nat) (x33_5 : Bool), v33 = .bool x33_5 ∧ Aside0 (foghornlaw08_BucketBounds.j0 kq l3 x33_5 t327 t328 t329 t330 = some r) ∧ Aside0 (kq ≤ k) ∧ Aside0 (wc.heap[gb332]? = some (.cells #[.int .i64 t327, .int .i64 t328, .int .i64 t329, .int .i64 t330] 37 (0, 0))) ∧ Aside0 (Below w.heap.size w wc))
  case first =>
    have H := HC6.out
    clear HC6
    by_cases c10 : t331 = true
    · subst c10
      have H1 : ((foghornlaw08_alive.f).bind fun t333 => (foghornlaw08_BucketBounds.j0 k l3 (!t333) t327 t328 t329 t330)) = some r := by rw [if_pos rfl] at H; exact H
      clear H
      have H := H1
      clear H1
      replace H := Option.bind_eq_some_iff.mp H
      obtain ⟨t333, A110, H⟩ := H
      replace H : (foghornlaw08_BucketBounds.j0 k l3 (!t333) t327 t328 t329 t330) = some r := H
      have A11 := Aside0.mk A110
      clear A110
      have H' := Aside0.mk H
      clear H
      go_wp2_with (first | (go_at_call 25; (with_reducible refine (foghornlaw08_alive.calls  t333 _ A11.out).mono ?_); rintro e w12 ⟨rfl, hb⟩; have n0_ := Aside0.mk (blk_below (g := gb332) (o := .cells #[.int .i64 t327, .int .i64 t328, .int .i64 t329, .int .i64 t330] 37 (0, 0)) (by (with_reducible repeat (first | refine blk_drewN ?_ _ | refine blk_drew ?_ | refine blk_alloc ?_ _)); refine blk_put (cs := #[.int .i64 t327, .int .i64 t328, .int .i64 t329, .int .i64 0]) ?_ 3 _ rfl; (with_reducible repeat (first | refine blk_drewN ?_ _ | refine blk_drew ?_ | refine blk_alloc ?_ _)); refine blk_put (cs := #[.int .i64 t327, .int .i64 t328, .int .i64 0, .int .i64 0]) ?_ 2 _ rfl; (with_reducible repeat (first | refine blk_drewN ?_ _ | refine blk_drew ?_ | refine blk_alloc ?_ _)); refine blk_put (cs := #[.int .i64 t327, .int .i64 0, .int .i64 0, .int .i64 0]) ?_ 1 _ rfl; (with_reducible repeat (first | refine blk_drewN ?_ _ | refine blk_drew ?_ | refine blk_alloc ?_ _)); refine blk_put (cs := #[.int .i64 0, .int .i64 0, .int .i64 0, .int .i64 0]) ?_ 0 _ rfl; (with_reducible repeat (first | refine blk_drewN ?_ _ | refine blk_drew ?_ | refine blk_alloc ?_ _)); exact BK332.out) hb); have n1_ := Aside0.mk (below_step (by repeat (first | (with_reducible first | exact HB.out | apply below_alloc | apply pw_below_drewN | apply below_drew1 | refine below_set ?_ GE332.out) | exact HB.out)) hb); clear BK332; clear HB; have BK332 := n0_; have HB := n1_; clear n0_ n1_; (try clear hb); (try clear hb2); (try clear hk); (try clear hi)))
      repeat (go_quiet (first | (go_at_call 25; (with_reducible refine (foghornlaw08_alive.calls  t333 _ A11.out).mono ?_); rintro e w12 ⟨rfl, hb⟩; have n0_ := Aside0.mk (blk_below (g := gb332) (o := .cells #[.int .i64 t327, .int .i64 t328, .int .i64 t329, .int .i64 t330] 37 (0, 0)) (by (with_reducible repeat (first | refine blk_drewN ?_ _ | refine blk_drew ?_ | refine blk_alloc ?_ _)); refine blk_put (cs := #[.int .i64 t327, .int .i64 t328, .int .i64 t329, .int .i64 0]) ?_ 3 _ rfl; (with_reducible repeat (first | refine blk_drewN ?_ _ | refine blk_drew ?_ | refine blk_alloc ?_ _)); refine blk_put (cs := #[.int .i64 t327, .int .i64 t328, .int .i64 0, .int .i64 0]) ?_ 2 _ rfl; (with_reducible repeat (first | refine blk_drewN ?_ _ | refine blk_drew ?_ | refine blk_alloc ?_ _)); refine blk_put (cs := #[.int .i64 t327, .int .i64 0, .int .i64 0, .int .i64 0]) ?_ 1 _ rfl; (with_reducible repeat (first | refine blk_drewN ?_ _ | refine blk_drew ?_ | refine blk_alloc ?_ _)); refine blk_put (cs := #[.int .i64 0, .int .i64 0, .int .i64 0, .int .i64 0]) ?_ 0 _ rfl; (with_reducible repeat (first | refine blk_drewN ?_ _ | refine blk_drew ?_ | refine blk_alloc ?_ _)); exact BK332.out) hb); have n1_ := Aside0.mk (below_step (by repeat (first | (with_reducible first | exact HB.out | apply below_alloc | apply pw_below_drewN | apply below_drew1 | refine below_set ?_ GE332.out) | exact HB.out)) hb); clear BK332; clear HB; have BK332 := n0_; have HB := n1_; clear n0_ n1_; (try clear hb); (try clear hb2); (try clear hk); (try clear hi))); try go_wp2_with (first | (go_at_call 25; (with_reducible refine (foghornlaw08_alive.calls  t333 _ A11.out).mono ?_); rintro e w12 ⟨rfl, hb⟩; have n0_ := Aside0.mk (blk_below (g := gb332) (o := .cells #[.int .i64 t327, .int .i64 t328, .int .i64 t329, .int .i64 t330] 37 (0, 0)) (by (with_reducible repeat (first | refine blk_drewN ?_ _ | refine blk_drew ?_ | refine blk_alloc ?_ _)); refine blk_put (cs := #[.int .i64 t327, .int .i64 t328, .int .i64 t329, .int .i64 0]) ?_ 3 _ rfl; (with_reducible repeat (first | refine blk_drewN ?_ _ | refine blk_drew ?_ | refine blk_alloc ?_ _)); refine blk_put (cs := #[.int .i64 t327, .int .i64 t328, .int .i64 0, .int .i64 0]) ?_ 2 _ rfl; (with_reducible repeat (first | refine blk_drewN ?_ _ | refine blk_drew ?_ | refine blk_alloc ?_ _)); refine blk_put (cs := #[.int .i64 t327, .int .i64 0, .int .i64 0, .int .i64 0]) ?_ 1 _ rfl; (with_reducible repeat (first | refine blk_drewN ?_ _ | refine blk_drew ?_ | refine blk_alloc ?_ _)); refine blk_put (cs := #[.int .i64 0, .int .i64 0, .int .i64 0, .int .i64 0]) ?_ 0 _ rfl; (with_reducible repeat (first | refine blk_drewN ?_ _ | refine blk_drew ?_ | refine blk_alloc ?_ _)); exact BK332.out) hb); have n1_ := Aside0.mk (below_step (by repeat (first | (with_reducible first | exact HB.out | apply below_alloc | apply pw_below_drewN | apply below_drew1 | refine below_set ?_ GE332.out) | exact HB.out)) hb); clear BK332; clear HB; have BK332 := n0_; have HB := n1_; clear n0_ n1_; (try clear hb); (try clear hb2); (try clear hk); (try clear hi))))
      go_meet
      case rel => exact ⟨_, (!t333), (by first | rfl | (simp; done) | (simp [*]; done)), H', ⟨by first | omega | exact Nat.le_refl _⟩, ⟨by (with_reducible repeat (first | refine blk_drewN ?_ _ | refine blk_drew ?_ | refine blk_alloc ?_ _)); exact BK332.out⟩, ⟨by repeat (first | (with_reducible first | exact HB.out | apply below_alloc | apply pw_below_drewN | apply below_drew1 | refine below_set ?_ GE332.out) | exact HB.out)⟩⟩
    · replace c10 := Bool.eq_false_iff.mpr c10
      subst c10
      have H1 : (foghornlaw08_BucketBounds.j0 k l3 true t327 t328 t329 t330) = some r := by rw [if_neg (show ¬ (false = true) by decide)] at H; exact H
      clear H
      have H := H1
      clear H1
      have H' := Aside0.mk H
      clear H
      go_wp2
      repeat (go_quiet (fail); try go_wp2)
      go_meet
      case rel => exact ⟨_, (true), (by first | rfl | (simp; done) | (simp [*]; done)), H', ⟨by first | omega | exact Nat.le_refl _⟩, ⟨by (with_reducible repeat (first | refine blk_drewN ?_ _ | refine blk_drew ?_ | refine blk_alloc ?_ _)); refine blk_put (cs := #[.int .i64 t327, .int .i64 t328, .int .i64 t329, .int .i64 0]) ?_ 3 _ rfl; (with_reducible repeat (first | refine blk_drewN ?_ _ | refine blk_drew ?_ | refine blk_alloc ?_ _)); refine blk_put (cs := #[.int .i64 t327, .int .i64 t328, .int .i64 0, .int .i64 0]) ?_ 2 _ rfl; (with_reducible repeat (first | refine blk_drewN ?_ _ | refine blk_drew ?_ | refine blk_alloc ?_ _)); refine blk_put (cs := #[.int .i64 t327, .int .i64 0, .int .i64 0, .int .i64 0]) ?_ 1 _ rfl; (with_reducible repeat (first | refine blk_drewN ?_ _ | refine blk_drew ?_ | refine blk_alloc ?_ _)); refine blk_put (cs := #[.int .i64 0, .int .i64 0, .int .i64 0, .int .i64 0]) ?_ 0 _ rfl; (with_reducible repeat (first | refine blk_drewN ?_ _ | refine blk_drew ?_ | refine blk_alloc ?_ _)); exact BK332.out⟩, ⟨by repeat (first | (with_reducible first | exact HB.out | apply below_alloc | apply pw_below_drewN | apply below_drew1 | refine below_set ?_ GE332.out) | exact HB.out)⟩⟩
  case rest =>
    clear HC6
    try clear c1
    try clear p2
    try clear c3
    try clear c5
    try clear c10
    try clear hcz9_0
    try clear hcz9_1
    try clear hcz9_2
    try clear hcz9_3
    try clear hfz9_0
    try clear hfz9_1
    try clear hfz9_2
    try clear hfz9_3
    obtain ⟨kq, x33_5, rfl, HA, HJ5, BK332, HB⟩ := hcut
    cases kq with
    | zero => exact absurd HA.out (by simp [foghornlaw08_BucketBounds.j0])
    | succ kj5 =>
      have H := HA.out
      clear HA
      simp only [foghornlaw08_BucketBounds.j0] at H
      by_cases c13 : x33_5 = true
      · subst c13
        have H1 : (some false) = some r := by rw [if_pos rfl] at H; exact H
        clear H
        have H := H1
        clear H1
        obtain rfl := Option.some.inj H
        go_wp2
        repeat (go_quiet (fail); try go_wp2)
        go_ret
        exact ⟨by first | rfl | (simp [errW_none, errW_some] <;> rfl) | (simp [*, errW_none, errW_some] <;> rfl), by repeat (first | (with_reducible first | exact HB.out | apply below_alloc | apply pw_below_drewN | apply below_drew1 | refine below_set ?_ GE332.out) | exact HB.out)⟩
      · replace c13 := Bool.eq_false_iff.mpr c13
        subst c13
        have H1 : (if 0 ≤ (mn (l3.length : Int) 200) then (if (mn (l3.length : Int) 200) ≤ (l3.length : Int) then ((some (l3.take ((mn (l3.length : Int) 200) : Int).toNat : List Int)).bind fun y334 => (foghornlaw08_BucketBounds.l0 kj5 0 ([] : List Int) y334 (y334.length : Int) 0 t327 t328 t329 t330)) else (none)) else (none)) = some r := by rw [if_neg (show ¬ (false = true) by decide)] at H; exact H
        clear H
        have H := H1
        clear H1
        obtain ⟨ji14, hji14⟩ : ∃ j_ : Int, (mn (l3.length : Int) 200) = j_ := ⟨_, rfl⟩
        replace H : (if 0 ≤ (ji14) then (if (ji14) ≤ (l3.length : Int) then ((some (l3.take ((ji14) : Int).toNat : List Int)).bind fun y334 => (foghornlaw08_BucketBounds.l0 kj5 0 ([] : List Int) y334 (y334.length : Int) 0 t327 t328 t329 t330)) else (none)) else (none)) = some r := by first | (rw [hji14] at H; exact H) | (simp only [hji14] at H ⊢; exact H)
        have hji14_ : (if 200 < (l3.length : Int) then 200 else (l3.length : Int)) = ji14 := hji14
        by_cases c15 : 0 ≤ (ji14)
        · rw [if_pos c15] at H
          have c15b0 := eq_true c15
          have c15b1 : decide (0 ≤ (ji14)) = true := decide_eq_true c15
          clear c15
          by_cases c16 : (ji14) ≤ (l3.length : Int)
          · rw [if_pos c16] at H
            have c16b0 := eq_true c16
            have c16b1 : decide ((ji14) ≤ (l3.length : Int)) = true := decide_eq_true c16
            clear c16
            obtain ⟨y334, hy334⟩ : ∃ y_ : List Int, y_ = (l3.take ((ji14) : Int).toNat) := ⟨_, rfl⟩
            replace H : (foghornlaw08_BucketBounds.l0 kj5 0 ([] : List Int) y334 (y334.length : Int) 0 t327 t328 t329 t330) = some r := by first | (rw [hy334]; with_reducible exact H) | (have H2_ := (Option.bind_some _ _).symm.trans H; rw [hy334]; with_reducible exact H2_) | (have H2_ := (Option.bind_some _ _).symm.trans H; with_reducible exact H2_) | with_reducible exact H | (rw [hy334]; exact H) | exact H
            have Ny334 := Aside0.mk hy334
            clear hy334
            have H' := Aside0.mk H
            clear H
            have q17 : ((ji14) : Int) ≤ ((l3.length : Int) : Int) := of_decide_eq_true (by first | (with_reducible assumption) | assumption)
            obtain ⟨i017, hi017, _, hsz17, _⟩ := info_parts info3
            have hroom17 : l3.length ≤ c3 := HC3.out
            have hC17 : Kd.C (Kd.int .i64) _ A3 l3.length l3 := HR3.out
            have hcut17 := cut_to (P := Try.prog) 35 3 .i64 Try.underlying35 hi017 A3 l3.length c3 (ji14) (of_decide_eq_true (by first | (with_reducible assumption) | assumption)) q17 hroom17
            have hr17 := Kd.C_take (m := ((ji14) : Int).toNat) hC17 (by omega)
            have hy17 : y334.length = ((ji14) : Int).toNat := (by rw [Ny334.out, List.length_take]; omega)
            rw [← Ny334.out] at hr17
            rw [← hy17] at hcut17
            have HR337 := Aside0.mk hr17
            have HC337 := Aside0.mk (show y334.length ≤ c3 from by omega)
            clear hr17 hC17 hroom17 hi017 hsz17
            have KY17 := Aside0.mk hy17
            clear hy17
            replace q17 := eq_true q17
            go_wp2
            repeat (go_quiet (fail); try go_wp2)
            go_loopg [11, 12, 40] kj5 (fun kq v11 v12 v40 w' => ∃ (x11_2 : Int) (x12_2 : List Int) (x40_2 : Int) (x333000_2 : Int) (x333001_2 : Int) (x333002_2 : Int) (x333003_2 : Int), v11 = .int .i64 x11_2 ∧ v40 = .int .i64 x40_2 ∧ Aside0 (foghornlaw08_BucketBounds.l0 kq x11_2 x12_2 y334 (y334.length : Int) x40_2 x333000_2 x333001_2 x333002_2 x333003_2 = some r) ∧ Aside0 (kq ≤ kj5) ∧ Aside0 (Kd.R (Kd.int .i64) 3 w' w.heap.size (fun _ => True) v12 x12_2) ∧ Aside0 (w'.heap[gb332]? = some (.cells #[.int .i64 x333000_2, .int .i64 x333001_2, .int .i64 x333002_2, .int .i64 x333003_2] 37 (0, 0))) ∧ Aside0 (Below w.heap.size w w'))
            case atStart => exact ⟨(0), (([] : List Int)), (0), (t327), (t328), (t329), (t330), (by first | rfl | (simp; done) | (simp [*]; done)), (by first | rfl | (simp; done) | (simp [*]; done)), H', ⟨Nat.le_refl _⟩, ⟨by first | exact Kd.R_nil _ _ _ _ _ | exact Kd.N_nil _ _ _ _ _ | exact Kd.V_nil _ _ _ _ _ | exact Kd.Q_nil _ _ _ _ _ | exact Kd.S_nil _ _ _ _ _⟩, ⟨by (with_reducible repeat (first | refine blk_drewN ?_ _ | refine blk_drew ?_ | refine blk_alloc ?_ _)); exact BK332.out⟩, ⟨by repeat (first | (with_reducible first | exact HB.out | apply below_alloc | apply pw_below_drewN | apply below_drew1 | refine below_set ?_ GE332.out) | exact HB.out)⟩⟩
            case round =>
              clear H'
              try clear c1
              try clear q1
              try clear p2
              try clear c3
              try clear c5
              try clear c10
              try clear c13
              try clear c15
              try clear c15b0
              try clear c15b1
              try clear c16
              try clear c16b0
              try clear c16b1
              try clear q17
              try clear hcz9_0
              try clear hcz9_1
              try clear hcz9_2
              try clear hcz9_3
              try clear hfz9_0
              try clear hfz9_1
              try clear hfz9_2
              try clear hfz9_3
              try clear p2
              try clear q17
              obtain ⟨x11_2, x12_2, x40_2, x333000_2, x333001_2, x333002_2, x333003_2, rfl, rfl, HA, HK2, HO_12, BK332, HB⟩ := hrel
              cases gk with
              | zero => exact absurd HA.out (by simp [foghornlaw08_BucketBounds.l0])
              | succ k2 =>
                have H := HA.out
                clear HA
                simp only [foghornlaw08_BucketBounds.l0] at H
                by_cases c18 : x40_2 < (y334.length : Int)
                · rw [if_pos c18] at H
                  have c18b0 : decide (x40_2 < (y334.length : Int)) = true := decide_eq_true c18
                  clear c18
                  by_cases c19 : 0 ≤ x40_2
                  · rw [if_pos c19] at H
                    have c19b0 : decide (0 ≤ x40_2) = true := decide_eq_true c19
                    clear c19
                    by_cases c20 : x40_2 < (y334.length : Int)
                    · rw [if_pos c20] at H
                      have c20b0 : decide (x40_2 < (y334.length : Int)) = true := decide_eq_true c20
                      clear c20
                      replace H := Option.bind_eq_some_iff.mp H
                      obtain ⟨⟨t339, t340, t341, t342, t343, t344⟩, A210, H⟩ := H
                      replace H : (if t344 = 0 then (if t343 = true then (if x12_2.length < 17592186044416 then (foghornlaw08_BucketBounds.l0 k2 (wrap64 (x11_2 + (Int.tmod (wrap64 ((Int.tmod (rd y334 x40_2) 9) + 9)) 9))) (x12_2 ++ [wrap64 (x11_2 + (Int.tmod (wrap64 ((Int.tmod (rd y334 x40_2) 9) + 9)) 9))]) y334 (y334.length : Int) (wrap64 (x40_2 + 1)) t339 t340 t341 t342) else (none)) else (foghornlaw08_BucketBounds.l0 k2 (wrap64 (x11_2 + (Int.tmod (wrap64 ((Int.tmod (rd y334 x40_2) 9) + 9)) 9))) x12_2 y334 (y334.length : Int) (wrap64 (x40_2 + 1)) t339 t340 t341 t342)) else (some false)) = some r := H
                      have A21 := Aside0.mk A210
                      clear A210
                      by_cases c22 : t344 = 0
                      · rw [if_pos c22] at H
                        have c22b0 : (t344 == 0) = true := beq_iff_eq.mpr c22
                        have c22b1 : (t344 != 0) = false := bne_eq_false_iff_eq.mpr c22
                        clear c22
                        by_cases c23 : t343 = true
                        · subst c23
                          have H1 : (if x12_2.length < 17592186044416 then (foghornlaw08_BucketBounds.l0 k2 (wrap64 (x11_2 + (Int.tmod (wrap64 ((Int.tmod (rd y334 x40_2) 9) + 9)) 9))) (x12_2 ++ [wrap64 (x11_2 + (Int.tmod (wrap64 ((Int.tmod (rd y334 x40_2) 9) + 9)) 9))]) y334 (y334.length : Int) (wrap64 (x40_2 + 1)) t339 t340 t341 t342) else (none)) = some r := by rw [if_pos rfl] at H; exact H
                          clear H
                          have H := H1
                          clear H1
                          by_cases c24 : x12_2.length < 17592186044416
                          · rw [if_pos c24] at H
                            have LMc24 := Aside0.mk c24
                            clear c24
                            obtain ⟨y346, hy346⟩ : ∃ y_ : List Int, y_ = (x12_2 ++ [wrap64 (x11_2 + (Int.tmod (wrap64 ((Int.tmod (rd y334 x40_2) 9) + 9)) 9))]) := ⟨_, rfl⟩
                            replace H : (foghornlaw08_BucketBounds.l0 k2 (wrap64 (x11_2 + (Int.tmod (wrap64 ((Int.tmod (rd y334 x40_2) 9) + 9)) 9))) y346 y334 (y334.length : Int) (wrap64 (x40_2 + 1)) t339 t340 t341 t342) = some r := by first | (rw [hy346]; with_reducible exact H) | (have H2_ := (Option.bind_some _ _).symm.trans H; rw [hy346]; with_reducible exact H2_) | (have H2_ := (Option.bind_some _ _).symm.trans H; with_reducible exact H2_) | with_reducible exact H | (rw [hy346]; exact H) | exact H
                            have Ny346 := Aside0.mk hy346
                            clear hy346
                            have H' := Aside0.mk H
                            clear H
                            have p338 : 0 ≤ (x40_2 : Int) := of_decide_eq_true (by first | (with_reducible assumption) | assumption)
                            have q338 : x40_2 < (y334.length : Int) := of_decide_eq_true (by first | (with_reducible assumption) | assumption)
                            obtain ⟨ad338, e338, hx338_0⟩ := Kd.at_int HR337.out x40_2 p338 q338
                            cases e338
                            replace hx338_0 := (HB.out.cell (World.block_lt_of_cell? w _ hx338_0)).trans hx338_0
                            replace p338 := eq_true p338
                            replace q338 := eq_true q338
                            have hcz25_0 : wr.cell? ⟨gb332, 0, none⟩ = some (.int .i64 x333000_2) := (blk_cell BK332.out 0).trans rfl
                            have hcz25_1 : wr.cell? ⟨gb332, 1, none⟩ = some (.int .i64 x333001_2) := (blk_cell BK332.out 1).trans rfl
                            have hcz25_2 : wr.cell? ⟨gb332, 2, none⟩ = some (.int .i64 x333002_2) := (blk_cell BK332.out 2).trans rfl
                            have hcz25_3 : wr.cell? ⟨gb332, 3, none⟩ = some (.int .i64 x333003_2) := (blk_cell BK332.out 3).trans rfl
                            have hfz25_0 := blk_frozen BK332.out 0
                            have hfz25_1 := blk_frozen BK332.out 1
                            have hfz25_2 := blk_frozen BK332.out 2
                            have hfz25_3 := blk_frozen BK332.out 3
                            go_wp2_with (first | (go_at_call 26; (with_reducible refine (bucket_Take.calls x333000_2 x333001_2 x333002_2 x333003_2 (wrap64 (x11_2 + (Int.tmod (wrap64 ((Int.tmod (rd y334 x40_2) 9) + 9)) 9))) t339 t340 t341 t342 true t344 _ A21.out).mono ?_); rintro e w26 ⟨rfl, hb⟩; have n0_ := Aside0.mk (Kd.R_below (by (with_reducible repeat (first | apply Kd.R_alloc | apply Kd.R_drewN | apply Kd.R_drew)); exact HO_12.out) hb); have n1_ := Aside0.mk (blk_below (g := gb332) (o := .cells #[.int .i64 x333000_2, .int .i64 x333001_2, .int .i64 x333002_2, .int .i64 x333003_2] 37 (0, 0)) (by (with_reducible repeat (first | refine blk_drewN ?_ _ | refine blk_drew ?_ | refine blk_alloc ?_ _)); exact BK332.out) hb); have n2_ := Aside0.mk (below_step (by repeat (first | (with_reducible first | exact HB.out | apply below_alloc | apply pw_below_drewN | apply below_drew1 | refine below_set ?_ GE332.out) | exact HB.out)) hb); clear HO_12; clear BK332; clear HB; have HO_12 := n0_; have BK332 := n1_; have HB := n2_; clear n0_ n1_ n2_; (try clear hb); (try clear hb2); (try clear hk); (try clear hi)) | ((with_reducible refine gate_dst (N := 15) rfl ?_); refine box_event ?hg (N := 15) ?hd (cs := #[.int .i64 0, .int .i64 0, .int .i64 0, .int .i64 0]) (t := 37) ?hr ?_; (case hd => rfl); (case hg => rfl); (case hr => first | (go_simp; done) | (go_simp; rfl)); intro gb345 hg w27 hbox hb; have n0_ := Aside0.mk (Kd.R_below (by (with_reducible repeat (first | apply Kd.R_alloc | apply Kd.R_drewN | apply Kd.R_drew)); exact HO_12.out) hb); have n1_ := Aside0.mk (blk_below (g := gb332) (o := .cells #[.int .i64 x333000_2, .int .i64 x333001_2, .int .i64 x333002_2, .int .i64 x333003_2] 37 (0, 0)) (by (with_reducible repeat (first | refine blk_drewN ?_ _ | refine blk_drew ?_ | refine blk_alloc ?_ _)); exact BK332.out) hb); have n2_ := Aside0.mk (below_step (by repeat (first | (with_reducible first | exact HB.out | apply below_alloc | apply pw_below_drewN | apply below_drew1 | refine below_set ?_ GE332.out) | exact HB.out)) hb); have n3_ := Aside0.mk (hbox); have n4_ := Aside0.mk ((by rw [hg]; exact (below_size (by repeat (first | (with_reducible first | exact HB.out | apply below_alloc | apply pw_below_drewN | apply below_drew1 | refine below_set ?_ GE332.out) | exact HB.out))) : w.heap.size ≤ gb345)); have n5_ := Aside0.mk ((by rw [hg]; exact (below_size (by repeat (first | (with_reducible first | exact HB.out | apply below_alloc | apply pw_below_drewN | apply below_drew1 | refine below_set ?_ GE332.out) | exact HB.out))) : w.heap.size ≤ gb345)); have n6_ := Aside0.mk ((by rw [hg]; exact Nat.ne_of_lt (blk_lt (g := gb332) (o := .cells #[.int .i64 x333000_2, .int .i64 x333001_2, .int .i64 x333002_2, .int .i64 x333003_2] 37 (0, 0)) (by (with_reducible repeat (first | refine blk_drewN ?_ _ | refine blk_drew ?_ | refine blk_alloc ?_ _)); exact BK332.out)) : gb332 ≠ gb345)); have n7_ := Aside0.mk ((by rw [hg]; exact Nat.ne_of_gt (blk_lt (g := gb332) (o := .cells #[.int .i64 x333000_2, .int .i64 x333001_2, .int .i64 x333002_2, .int .i64 x333003_2] 37 (0, 0)) (by (with_reducible repeat (first | refine blk_drewN ?_ _ | refine blk_drew ?_ | refine blk_alloc ?_ _)); exact BK332.out)) : gb345 ≠ gb332)); clear HO_12; clear BK332; clear HB; have HO_12 := n0_; have BK332 := n1_; have HB := n2_; have BK345 := n3_; have GW345 := n4_; have GE345 := n5_; have NB332_345 := n6_; have NB345_332 := n7_; clear n0_ n1_ n2_ n3_ n4_ n5_ n6_ n7_; clear hb hbox hg; have hnb28 := NB345_332.out; have hnc28 := NB332_345.out; have hcz29_0 : w27.cell? ⟨gb345, 0, none⟩ = some (.int .i64 0) := (blk_cell BK345.out 0).trans rfl; have hcz29_1 : w27.cell? ⟨gb345, 1, none⟩ = some (.int .i64 0) := (blk_cell BK345.out 1).trans rfl; have hcz29_2 : w27.cell? ⟨gb345, 2, none⟩ = some (.int .i64 0) := (blk_cell BK345.out 2).trans rfl; have hcz29_3 : w27.cell? ⟨gb345, 3, none⟩ = some (.int .i64 0) := (blk_cell BK345.out 3).trans rfl; have hfz29_0 := blk_frozen BK345.out 0; have hfz29_1 := blk_frozen BK345.out 1; have hfz29_2 := blk_frozen BK345.out 2; have hfz29_3 := blk_frozen BK345.out 3; have hcz30_0 : w27.cell? ⟨gb332, 0, none⟩ = some (.int .i64 x333000_2) := (blk_cell BK332.out 0).trans rfl; have hcz30_1 : w27.cell? ⟨gb332, 1, none⟩ = some (.int .i64 x333001_2) := (blk_cell BK332.out 1).trans rfl; have hcz30_2 : w27.cell? ⟨gb332, 2, none⟩ = some (.int .i64 x333002_2) := (blk_cell BK332.out 2).trans rfl; have hcz30_3 : w27.cell? ⟨gb332, 3, none⟩ = some (.int .i64 x333003_2) := (blk_cell BK332.out 3).trans rfl; have hfz30_0 := blk_frozen BK332.out 0; have hfz30_1 := blk_frozen BK332.out 1; have hfz30_2 := blk_frozen BK332.out 2; have hfz30_3 := blk_frozen BK332.out 3) | ((with_reducible refine gate_builtin (b := .append) (xs := #[.tmp 61, .tmp 63]) rfl ?_); at_builtin; refine Kd.R_append (Kd.int .i64) (w0 := w) w.heap.size rfl (.tmp 61) (.tmp 63) 35 3 (.int .i64 0) 8 rfl Try.underlying35 info3 rfl (by decide) (by omega) u12 x12_2 (wrap64 (x11_2 + (Int.tmod (wrap64 ((Int.tmod (rd y334 x40_2) 9) + 9)) 9))) [.int .i64 (wrap64 (x11_2 + (Int.tmod (wrap64 ((Int.tmod (rd y334 x40_2) 9) + 9)) 9)))] (fun _ => True) (fun _ => False) rfl (by first | (go_simp; done) | (go_simp; rfl)) ?aP (fun _ hk => hk.elim) ?aF ?aO ?aB ?aS ?aL ?_; (case aP => exact rfl); (case aB => exact (by repeat (first | (with_reducible first | exact HB.out | apply below_alloc | apply pw_below_drewN | apply below_drew1 | refine below_set ?_ GE332.out | refine below_set ?_ GE345.out) | exact HB.out))); (case aF => exact (fun _ _ => trivial)); (case aO => exact (by (with_reducible repeat (first | apply Kd.R_alloc | apply Kd.R_drewN | apply Kd.R_drew)); exact Kd.R_mono (Kd.R_far (p := ⟨gb332, 3, none⟩) (Kd.R_far (p := ⟨gb332, 2, none⟩) (Kd.R_far (p := ⟨gb332, 1, none⟩) (Kd.R_far (p := ⟨gb332, 0, none⟩) (Kd.R_far (p := ⟨gb345, 3, none⟩) (Kd.R_far (p := ⟨gb345, 2, none⟩) (Kd.R_far (p := ⟨gb345, 1, none⟩) (Kd.R_far (p := ⟨gb345, 0, none⟩) (Kd.R_types (Kd.R_types HO_12.out BK345.out (by decide)) BK332.out (by decide)) (fun _ hk => hk.1.2) (.int .i64 t339)) (fun _ hk => hk.1.2) (.int .i64 t340)) (fun _ hk => hk.1.2) (.int .i64 t341)) (fun _ hk => hk.1.2) (.int .i64 t342)) (fun _ hk => hk.2) (.int .i64 t339)) (fun _ hk => hk.2) (.int .i64 t340)) (fun _ hk => hk.2) (.int .i64 t341)) (fun _ hk => hk.2) (.int .i64 t342)) (fun _ hk => trivial))); (case aS => exact (below_size (by repeat (first | (with_reducible first | exact HB.out | apply below_alloc | apply pw_below_drewN | apply below_drew1 | refine below_set ?_ GE332.out | refine below_set ?_ GE345.out) | exact HB.out)))); (case aL => have := LMc24.out; omega); intro v347 w31 ho hb hg hat; rw [← Ny346.out] at ho; have n0_ := Aside0.mk (blk_grown (g := gb332) (o := .cells #[.int .i64 t339, .int .i64 t340, .int .i64 t341, .int .i64 t342] 37 (0, 0)) (by (with_reducible repeat (first | refine blk_drewN ?_ _ | refine blk_drew ?_ | refine blk_alloc ?_ _)); refine blk_put (cs := #[.int .i64 t339, .int .i64 t340, .int .i64 t341, .int .i64 x333003_2]) ?_ 3 _ rfl; (with_reducible repeat (first | refine blk_drewN ?_ _ | refine blk_drew ?_ | refine blk_alloc ?_ _)); refine blk_put (cs := #[.int .i64 t339, .int .i64 t340, .int .i64 x333002_2, .int .i64 x333003_2]) ?_ 2 _ rfl; (with_reducible repeat (first | refine blk_drewN ?_ _ | refine blk_drew ?_ | refine blk_alloc ?_ _)); refine blk_put (cs := #[.int .i64 t339, .int .i64 x333001_2, .int .i64 x333002_2, .int .i64 x333003_2]) ?_ 1 _ rfl; (with_reducible repeat (first | refine blk_drewN ?_ _ | refine blk_drew ?_ | refine blk_alloc ?_ _)); refine blk_put (cs := #[.int .i64 x333000_2, .int .i64 x333001_2, .int .i64 x333002_2, .int .i64 x333003_2]) ?_ 0 _ rfl; (with_reducible repeat (first | refine blk_drewN ?_ _ | refine blk_drew ?_ | refine blk_alloc ?_ _)); refine blk_far ?_ NB332_345.out _; (with_reducible repeat (first | refine blk_drewN ?_ _ | refine blk_drew ?_ | refine blk_alloc ?_ _)); refine blk_far ?_ NB332_345.out _; (with_reducible repeat (first | refine blk_drewN ?_ _ | refine blk_drew ?_ | refine blk_alloc ?_ _)); refine blk_far ?_ NB332_345.out _; (with_reducible repeat (first | refine blk_drewN ?_ _ | refine blk_drew ?_ | refine blk_alloc ?_ _)); refine blk_far ?_ NB332_345.out _; (with_reducible repeat (first | refine blk_drewN ?_ _ | refine blk_drew ?_ | refine blk_alloc ?_ _)); exact BK332.out) hg (Kd.R_ne HO_12.out BK332.out (by decide))); have n1_ := Aside0.mk (blk_grown (g := gb345) (o := .cells #[.int .i64 t339, .int .i64 t340, .int .i64 t341, .int .i64 t342] 37 (0, 0)) (by (with_reducible repeat (first | refine blk_drewN ?_ _ | refine blk_drew ?_ | refine blk_alloc ?_ _)); refine blk_far ?_ NB345_332.out _; (with_reducible repeat (first | refine blk_drewN ?_ _ | refine blk_drew ?_ | refine blk_alloc ?_ _)); refine blk_far ?_ NB345_332.out _; (with_reducible repeat (first | refine blk_drewN ?_ _ | refine blk_drew ?_ | refine blk_alloc ?_ _)); refine blk_far ?_ NB345_332.out _; (with_reducible repeat (first | refine blk_drewN ?_ _ | refine blk_drew ?_ | refine blk_alloc ?_ _)); refine blk_far ?_ NB345_332.out _; (with_reducible repeat (first | refine blk_drewN ?_ _ | refine blk_drew ?_ | refine blk_alloc ?_ _)); refine blk_put (cs := #[.int .i64 t339, .int .i64 t340, .int .i64 t341, .int .i64 0]) ?_ 3 _ rfl; (with_reducible repeat (first | refine blk_drewN ?_ _ | refine blk_drew ?_ | refine blk_alloc ?_ _)); refine blk_put (cs := #[.int .i64 t339, .int .i64 t340, .int .i64 0, .int .i64 0]) ?_ 2 _ rfl; (with_reducible repeat (first | refine blk_drewN ?_ _ | refine blk_drew ?_ | refine blk_alloc ?_ _)); refine blk_put (cs := #[.int .i64 t339, .int .i64 0, .int .i64 0, .int .i64 0]) ?_ 1 _ rfl; (with_reducible repeat (first | refine blk_drewN ?_ _ | refine blk_drew ?_ | refine blk_alloc ?_ _)); refine blk_put (cs := #[.int .i64 0, .int .i64 0, .int .i64 0, .int .i64 0]) ?_ 0 _ rfl; (with_reducible repeat (first | refine blk_drewN ?_ _ | refine blk_drew ?_ | refine blk_alloc ?_ _)); exact BK345.out) hg (Kd.R_ne HO_12.out BK345.out (by decide))); have n2_ := Aside0.mk (hb); have n3_ := Aside0.mk (ho); clear BK332; clear BK345; clear HB; clear HO_12; have BK332 := n0_; have BK345 := n1_; have HB := n2_; have HO348 := n3_; clear n0_ n1_ n2_ n3_; clear ho hb hg hat))
                            repeat (go_quiet (first | (go_at_call 26; (with_reducible refine (bucket_Take.calls x333000_2 x333001_2 x333002_2 x333003_2 (wrap64 (x11_2 + (Int.tmod (wrap64 ((Int.tmod (rd y334 x40_2) 9) + 9)) 9))) t339 t340 t341 t342 true t344 _ A21.out).mono ?_); rintro e w26 ⟨rfl, hb⟩; have n0_ := Aside0.mk (Kd.R_below (by (with_reducible repeat (first | apply Kd.R_alloc | apply Kd.R_drewN | apply Kd.R_drew)); exact HO_12.out) hb); have n1_ := Aside0.mk (blk_below (g := gb332) (o := .cells #[.int .i64 x333000_2, .int .i64 x333001_2, .int .i64 x333002_2, .int .i64 x333003_2] 37 (0, 0)) (by (with_reducible repeat (first | refine blk_drewN ?_ _ | refine blk_drew ?_ | refine blk_alloc ?_ _)); exact BK332.out) hb); have n2_ := Aside0.mk (below_step (by repeat (first | (with_reducible first | exact HB.out | apply below_alloc | apply pw_below_drewN | apply below_drew1 | refine below_set ?_ GE332.out) | exact HB.out)) hb); clear HO_12; clear BK332; clear HB; have HO_12 := n0_; have BK332 := n1_; have HB := n2_; clear n0_ n1_ n2_; (try clear hb); (try clear hb2); (try clear hk); (try clear hi)) | ((with_reducible refine gate_dst (N := 15) rfl ?_); refine box_event ?hg (N := 15) ?hd (cs := #[.int .i64 0, .int .i64 0, .int .i64 0, .int .i64 0]) (t := 37) ?hr ?_; (case hd => rfl); (case hg => rfl); (case hr => first | (go_simp; done) | (go_simp; rfl)); intro gb345 hg w27 hbox hb; have n0_ := Aside0.mk (Kd.R_below (by (with_reducible repeat (first | apply Kd.R_alloc | apply Kd.R_drewN | apply Kd.R_drew)); exact HO_12.out) hb); have n1_ := Aside0.mk (blk_below (g := gb332) (o := .cells #[.int .i64 x333000_2, .int .i64 x333001_2, .int .i64 x333002_2, .int .i64 x333003_2] 37 (0, 0)) (by (with_reducible repeat (first | refine blk_drewN ?_ _ | refine blk_drew ?_ | refine blk_alloc ?_ _)); exact BK332.out) hb); have n2_ := Aside0.mk (below_step (by repeat (first | (with_reducible first | exact HB.out | apply below_alloc | apply pw_below_drewN | apply below_drew1 | refine below_set ?_ GE332.out) | exact HB.out)) hb); have n3_ := Aside0.mk (hbox); have n4_ := Aside0.mk ((by rw [hg]; exact (below_size (by repeat (first | (with_reducible first | exact HB.out | apply below_alloc | apply pw_below_drewN | apply below_drew1 | refine below_set ?_ GE332.out) | exact HB.out))) : w.heap.size ≤ gb345)); have n5_ := Aside0.mk ((by rw [hg]; exact (below_size (by repeat (first | (with_reducible first | exact HB.out | apply below_alloc | apply pw_below_drewN | apply below_drew1 | refine below_set ?_ GE332.out) | exact HB.out))) : w.heap.size ≤ gb345)); have n6_ := Aside0.mk ((by rw [hg]; exact Nat.ne_of_lt (blk_lt (g := gb332) (o := .cells #[.int .i64 x333000_2, .int .i64 x333001_2, .int .i64 x333002_2, .int .i64 x333003_2] 37 (0, 0)) (by (with_reducible repeat (first | refine blk_drewN ?_ _ | refine blk_drew ?_ | refine blk_alloc ?_ _)); exact BK332.out)) : gb332 ≠ gb345)); have n7_ := Aside0.mk ((by rw [hg]; exact Nat.ne_of_gt (blk_lt (g := gb332) (o := .cells #[.int .i64 x333000_2, .int .i64 x333001_2, .int .i64 x333002_2, .int .i64 x333003_2] 37 (0, 0)) (by (with_reducible repeat (first | refine blk_drewN ?_ _ | refine blk_drew ?_ | refine blk_alloc ?_ _)); exact BK332.out)) : gb345 ≠ gb332)); clear HO_12; clear BK332; clear HB; have HO_12 := n0_; have BK332 := n1_; have HB := n2_; have BK345 := n3_; have GW345 := n4_; have GE345 := n5_; have NB332_345 := n6_; have NB345_332 := n7_; clear n0_ n1_ n2_ n3_ n4_ n5_ n6_ n7_; clear hb hbox hg; have hnb28 := NB345_332.out; have hnc28 := NB332_345.out; have hcz29_0 : w27.cell? ⟨gb345, 0, none⟩ = some (.int .i64 0) := (blk_cell BK345.out 0).trans rfl; have hcz29_1 : w27.cell? ⟨gb345, 1, none⟩ = some (.int .i64 0) := (blk_cell BK345.out 1).trans rfl; have hcz29_2 : w27.cell? ⟨gb345, 2, none⟩ = some (.int .i64 0) := (blk_cell BK345.out 2).trans rfl; have hcz29_3 : w27.cell? ⟨gb345, 3, none⟩ = some (.int .i64 0) := (blk_cell BK345.out 3).trans rfl; have hfz29_0 := blk_frozen BK345.out 0; have hfz29_1 := blk_frozen BK345.out 1; have hfz29_2 := blk_frozen BK345.out 2; have hfz29_3 := blk_frozen BK345.out 3; have hcz30_0 : w27.cell? ⟨gb332, 0, none⟩ = some (.int .i64 x333000_2) := (blk_cell BK332.out 0).trans rfl; have hcz30_1 : w27.cell? ⟨gb332, 1, none⟩ = some (.int .i64 x333001_2) := (blk_cell BK332.out 1).trans rfl; have hcz30_2 : w27.cell? ⟨gb332, 2, none⟩ = some (.int .i64 x333002_2) := (blk_cell BK332.out 2).trans rfl; have hcz30_3 : w27.cell? ⟨gb332, 3, none⟩ = some (.int .i64 x333003_2) := (blk_cell BK332.out 3).trans rfl; have hfz30_0 := blk_frozen BK332.out 0; have hfz30_1 := blk_frozen BK332.out 1; have hfz30_2 := blk_frozen BK332.out 2; have hfz30_3 := blk_frozen BK332.out 3) | ((with_reducible refine gate_builtin (b := .append) (xs := #[.tmp 61, .tmp 63]) rfl ?_); at_builtin; refine Kd.R_append (Kd.int .i64) (w0 := w) w.heap.size rfl (.tmp 61) (.tmp 63) 35 3 (.int .i64 0) 8 rfl Try.underlying35 info3 rfl (by decide) (by omega) u12 x12_2 (wrap64 (x11_2 + (Int.tmod (wrap64 ((Int.tmod (rd y334 x40_2) 9) + 9)) 9))) [.int .i64 (wrap64 (x11_2 + (Int.tmod (wrap64 ((Int.tmod (rd y334 x40_2) 9) + 9)) 9)))] (fun _ => True) (fun _ => False) rfl (by first | (go_simp; done) | (go_simp; rfl)) ?aP (fun _ hk => hk.elim) ?aF ?aO ?aB ?aS ?aL ?_; (case aP => exact rfl); (case aB => exact (by repeat (first | (with_reducible first | exact HB.out | apply below_alloc | apply pw_below_drewN | apply below_drew1 | refine below_set ?_ GE332.out | refine below_set ?_ GE345.out) | exact HB.out))); (case aF => exact (fun _ _ => trivial)); (case aO => exact (by (with_reducible repeat (first | apply Kd.R_alloc | apply Kd.R_drewN | apply Kd.R_drew)); exact Kd.R_mono (Kd.R_far (p := ⟨gb332, 3, none⟩) (Kd.R_far (p := ⟨gb332, 2, none⟩) (Kd.R_far (p := ⟨gb332, 1, none⟩) (Kd.R_far (p := ⟨gb332, 0, none⟩) (Kd.R_far (p := ⟨gb345, 3, none⟩) (Kd.R_far (p := ⟨gb345, 2, none⟩) (Kd.R_far (p := ⟨gb345, 1, none⟩) (Kd.R_far (p := ⟨gb345, 0, none⟩) (Kd.R_types (Kd.R_types HO_12.out BK345.out (by decide)) BK332.out (by decide)) (fun _ hk => hk.1.2) (.int .i64 t339)) (fun _ hk => hk.1.2) (.int .i64 t340)) (fun _ hk => hk.1.2) (.int .i64 t341)) (fun _ hk => hk.1.2) (.int .i64 t342)) (fun _ hk => hk.2) (.int .i64 t339)) (fun _ hk => hk.2) (.int .i64 t340)) (fun _ hk => hk.2) (.int .i64 t341)) (fun _ hk => hk.2) (.int .i64 t342)) (fun _ hk => trivial))); (case aS => exact (below_size (by repeat (first | (with_reducible first | exact HB.out | apply below_alloc | apply pw_below_drewN | apply below_drew1 | refine below_set ?_ GE332.out | refine below_set ?_ GE345.out) | exact HB.out)))); (case aL => have := LMc24.out; omega); intro v347 w31 ho hb hg hat; rw [← Ny346.out] at ho; have n0_ := Aside0.mk (blk_grown (g := gb332) (o := .cells #[.int .i64 t339, .int .i64 t340, .int .i64 t341, .int .i64 t342] 37 (0, 0)) (by (with_reducible repeat (first | refine blk_drewN ?_ _ | refine blk_drew ?_ | refine blk_alloc ?_ _)); refine blk_put (cs := #[.int .i64 t339, .int .i64 t340, .int .i64 t341, .int .i64 x333003_2]) ?_ 3 _ rfl; (with_reducible repeat (first | refine blk_drewN ?_ _ | refine blk_drew ?_ | refine blk_alloc ?_ _)); refine blk_put (cs := #[.int .i64 t339, .int .i64 t340, .int .i64 x333002_2, .int .i64 x333003_2]) ?_ 2 _ rfl; (with_reducible repeat (first | refine blk_drewN ?_ _ | refine blk_drew ?_ | refine blk_alloc ?_ _)); refine blk_put (cs := #[.int .i64 t339, .int .i64 x333001_2, .int .i64 x333002_2, .int .i64 x333003_2]) ?_ 1 _ rfl; (with_reducible repeat (first | refine blk_drewN ?_ _ | refine blk_drew ?_ | refine blk_alloc ?_ _)); refine blk_put (cs := #[.int .i64 x333000_2, .int .i64 x333001_2, .int .i64 x333002_2, .int .i64 x333003_2]) ?_ 0 _ rfl; (with_reducible repeat (first | refine blk_drewN ?_ _ | refine blk_drew ?_ | refine blk_alloc ?_ _)); refine blk_far ?_ NB332_345.out _; (with_reducible repeat (first | refine blk_drewN ?_ _ | refine blk_drew ?_ | refine blk_alloc ?_ _)); refine blk_far ?_ NB332_345.out _; (with_reducible repeat (first | refine blk_drewN ?_ _ | refine blk_drew ?_ | refine blk_alloc ?_ _)); refine blk_far ?_ NB332_345.out _; (with_reducible repeat (first | refine blk_drewN ?_ _ | refine blk_drew ?_ | refine blk_alloc ?_ _)); refine blk_far ?_ NB332_345.out _; (with_reducible repeat (first | refine blk_drewN ?_ _ | refine blk_drew ?_ | refine blk_alloc ?_ _)); exact BK332.out) hg (Kd.R_ne HO_12.out BK332.out (by decide))); have n1_ := Aside0.mk (blk_grown (g := gb345) (o := .cells #[.int .i64 t339, .int .i64 t340, .int .i64 t341, .int .i64 t342] 37 (0, 0)) (by (with_reducible repeat (first | refine blk_drewN ?_ _ | refine blk_drew ?_ | refine blk_alloc ?_ _)); refine blk_far ?_ NB345_332.out _; (with_reducible repeat (first | refine blk_drewN ?_ _ | refine blk_drew ?_ | refine blk_alloc ?_ _)); refine blk_far ?_ NB345_332.out _; (with_reducible repeat (first | refine blk_drewN ?_ _ | refine blk_drew ?_ | refine blk_alloc ?_ _)); refine blk_far ?_ NB345_332.out _; (with_reducible repeat (first | refine blk_drewN ?_ _ | refine blk_drew ?_ | refine blk_alloc ?_ _)); refine blk_far ?_ NB345_332.out _; (with_reducible repeat (first | refine blk_drewN ?_ _ | refine blk_drew ?_ | refine blk_alloc ?_ _)); refine blk_put (cs := #[.int .i64 t339, .int .i64 t340, .int .i64 t341, .int .i64 0]) ?_ 3 _ rfl; (with_reducible repeat (first | refine blk_drewN ?_ _ | refine blk_drew ?_ | refine blk_alloc ?_ _)); refine blk_put (cs := #[.int .i64 t339, .int .i64 t340, .int .i64 0, .int .i64 0]) ?_ 2 _ rfl; (with_reducible repeat (first | refine blk_drewN ?_ _ | refine blk_drew ?_ | refine blk_alloc ?_ _)); refine blk_put (cs := #[.int .i64 t339, .int .i64 0, .int .i64 0, .int .i64 0]) ?_ 1 _ rfl; (with_reducible repeat (first | refine blk_drewN ?_ _ | refine blk_drew ?_ | refine blk_alloc ?_ _)); refine blk_put (cs := #[.int .i64 0, .int .i64 0, .int .i64 0, .int .i64 0]) ?_ 0 _ rfl; (with_reducible repeat (first | refine blk_drewN ?_ _ | refine blk_drew ?_ | refine blk_alloc ?_ _)); exact BK345.out) hg (Kd.R_ne HO_12.out BK345.out (by decide))); have n2_ := Aside0.mk (hb); have n3_ := Aside0.mk (ho); clear BK332; clear BK345; clear HB; clear HO_12; have BK332 := n0_; have BK345 := n1_; have HB := n2_; have HO348 := n3_; clear n0_ n1_ n2_ n3_; clear ho hb hg hat)); try go_wp2_with (first | (go_at_call 26; (with_reducible refine (bucket_Take.calls x333000_2 x333001_2 x333002_2 x333003_2 (wrap64 (x11_2 + (Int.tmod (wrap64 ((Int.tmod (rd y334 x40_2) 9) + 9)) 9))) t339 t340 t341 t342 true t344 _ A21.out).mono ?_); rintro e w26 ⟨rfl, hb⟩; have n0_ := Aside0.mk (Kd.R_below (by (with_reducible repeat (first | apply Kd.R_alloc | apply Kd.R_drewN | apply Kd.R_drew)); exact HO_12.out) hb); have n1_ := Aside0.mk (blk_below (g := gb332) (o := .cells #[.int .i64 x333000_2, .int .i64 x333001_2, .int .i64 x333002_2, .int .i64 x333003_2] 37 (0, 0)) (by (with_reducible repeat (first | refine blk_drewN ?_ _ | refine blk_drew ?_ | refine blk_alloc ?_ _)); exact BK332.out) hb); have n2_ := Aside0.mk (below_step (by repeat (first | (with_reducible first | exact HB.out | apply below_alloc | apply pw_below_drewN | apply below_drew1 | refine below_set ?_ GE332.out) | exact HB.out)) hb); clear HO_12; clear BK332; clear HB; have HO_12 := n0_; have BK332 := n1_; have HB := n2_; clear n0_ n1_ n2_; (try clear hb); (try clear hb2); (try clear hk); (try clear hi)) | ((with_reducible refine gate_dst (N := 15) rfl ?_); refine box_event ?hg (N := 15) ?hd (cs := #[.int .i64 0, .int .i64 0, .int .i64 0, .int .i64 0]) (t := 37) ?hr ?_; (case hd => rfl); (case hg => rfl); (case hr => first | (go_simp; done) | (go_simp; rfl)); intro gb345 hg w27 hbox hb; have n0_ := Aside0.mk (Kd.R_below (by (with_reducible repeat (first | apply Kd.R_alloc | apply Kd.R_drewN | apply Kd.R_drew)); exact HO_12.out) hb); have n1_ := Aside0.mk (blk_below (g := gb332) (o := .cells #[.int .i64 x333000_2, .int .i64 x333001_2, .int .i64 x333002_2, .int .i64 x333003_2] 37 (0, 0)) (by (with_reducible repeat (first | refine blk_drewN ?_ _ | refine blk_drew ?_ | refine blk_alloc ?_ _)); exact BK332.out) hb); have n2_ := Aside0.mk (below_step (by repeat (first | (with_reducible first | exact HB.out | apply below_alloc | apply pw_below_drewN | apply below_drew1 | refine below_set ?_ GE332.out) | exact HB.out)) hb); have n3_ := Aside0.mk (hbox); have n4_ := Aside0.mk ((by rw [hg]; exact (below_size (by repeat (first | (with_reducible first | exact HB.out | apply below_alloc | apply pw_below_drewN | apply below_drew1 | refine below_set ?_ GE332.out) | exact HB.out))) : w.heap.size ≤ gb345)); have n5_ := Aside0.mk ((by rw [hg]; exact (below_size (by repeat (first | (with_reducible first | exact HB.out | apply below_alloc | apply pw_below_drewN | apply below_drew1 | refine below_set ?_ GE332.out) | exact HB.out))) : w.heap.size ≤ gb345)); have n6_ := Aside0.mk ((by rw [hg]; exact Nat.ne_of_lt (blk_lt (g := gb332) (o := .cells #[.int .i64 x333000_2, .int .i64 x333001_2, .int .i64 x333002_2, .int .i64 x333003_2] 37 (0, 0)) (by (with_reducible repeat (first | refine blk_drewN ?_ _ | refine blk_drew ?_ | refine blk_alloc ?_ _)); exact BK332.out)) : gb332 ≠ gb345)); have n7_ := Aside0.mk ((by rw [hg]; exact Nat.ne_of_gt (blk_lt (g := gb332) (o := .cells #[.int .i64 x333000_2, .int .i64 x333001_2, .int .i64 x333002_2, .int .i64 x333003_2] 37 (0, 0)) (by (with_reducible repeat (first | refine blk_drewN ?_ _ | refine blk_drew ?_ | refine blk_alloc ?_ _)); exact BK332.out)) : gb345 ≠ gb332)); clear HO_12; clear BK332; clear HB; have HO_12 := n0_; have BK332 := n1_; have HB := n2_; have BK345 := n3_; have GW345 := n4_; have GE345 := n5_; have NB332_345 := n6_; have NB345_332 := n7_; clear n0_ n1_ n2_ n3_ n4_ n5_ n6_ n7_; clear hb hbox hg; have hnb28 := NB345_332.out; have hnc28 := NB332_345.out; have hcz29_0 : w27.cell? ⟨gb345, 0, none⟩ = some (.int .i64 0) := (blk_cell BK345.out 0).trans rfl; have hcz29_1 : w27.cell? ⟨gb345, 1, none⟩ = some (.int .i64 0) := (blk_cell BK345.out 1).trans rfl; have hcz29_2 : w27.cell? ⟨gb345, 2, none⟩ = some (.int .i64 0) := (blk_cell BK345.out 2).trans rfl; have hcz29_3 : w27.cell? ⟨gb345, 3, none⟩ = some (.int .i64 0) := (blk_cell BK345.out 3).trans rfl; have hfz29_0 := blk_frozen BK345.out 0; have hfz29_1 := blk_frozen BK345.out 1; have hfz29_2 := blk_frozen BK345.out 2; have hfz29_3 := blk_frozen BK345.out 3; have hcz30_0 : w27.cell? ⟨gb332, 0, none⟩ = some (.int .i64 x333000_2) := (blk_cell BK332.out 0).trans rfl; have hcz30_1 : w27.cell? ⟨gb332, 1, none⟩ = some (.int .i64 x333001_2) := (blk_cell BK332.out 1).trans rfl; have hcz30_2 : w27.cell? ⟨gb332, 2, none⟩ = some (.int .i64 x333002_2) := (blk_cell BK332.out 2).trans rfl; have hcz30_3 : w27.cell? ⟨gb332, 3, none⟩ = some (.int .i64 x333003_2) := (blk_cell BK332.out 3).trans rfl; have hfz30_0 := blk_frozen BK332.out 0; have hfz30_1 := blk_frozen BK332.out 1; have hfz30_2 := blk_frozen BK332.out 2; have hfz30_3 := blk_frozen BK332.out 3) | ((with_reducible refine gate_builtin (b := .append) (xs := #[.tmp 61, .tmp 63]) rfl ?_); at_builtin; refine Kd.R_append (Kd.int .i64) (w0 := w) w.heap.size rfl (.tmp 61) (.tmp 63) 35 3 (.int .i64 0) 8 rfl Try.underlying35 info3 rfl (by decide) (by omega) u12 x12_2 (wrap64 (x11_2 + (Int.tmod (wrap64 ((Int.tmod (rd y334 x40_2) 9) + 9)) 9))) [.int .i64 (wrap64 (x11_2 + (Int.tmod (wrap64 ((Int.tmod (rd y334 x40_2) 9) + 9)) 9)))] (fun _ => True) (fun _ => False) rfl (by first | (go_simp; done) | (go_simp; rfl)) ?aP (fun _ hk => hk.elim) ?aF ?aO ?aB ?aS ?aL ?_; (case aP => exact rfl); (case aB => exact (by repeat (first | (with_reducible first | exact HB.out | apply below_alloc | apply pw_below_drewN | apply below_drew1 | refine below_set ?_ GE332.out | refine below_set ?_ GE345.out) | exact HB.out))); (case aF => exact (fun _ _ => trivial)); (case aO => exact (by (with_reducible repeat (first | apply Kd.R_alloc | apply Kd.R_drewN | apply Kd.R_drew)); exact Kd.R_mono (Kd.R_far (p := ⟨gb332, 3, none⟩) (Kd.R_far (p := ⟨gb332, 2, none⟩) (Kd.R_far (p := ⟨gb332, 1, none⟩) (Kd.R_far (p := ⟨gb332, 0, none⟩) (Kd.R_far (p := ⟨gb345, 3, none⟩) (Kd.R_far (p := ⟨gb345, 2, none⟩) (Kd.R_far (p := ⟨gb345, 1, none⟩) (Kd.R_far (p := ⟨gb345, 0, none⟩) (Kd.R_types (Kd.R_types HO_12.out BK345.out (by decide)) BK332.out (by decide)) (fun _ hk => hk.1.2) (.int .i64 t339)) (fun _ hk => hk.1.2) (.int .i64 t340)) (fun _ hk => hk.1.2) (.int .i64 t341)) (fun _ hk => hk.1.2) (.int .i64 t342)) (fun _ hk => hk.2) (.int .i64 t339)) (fun _ hk => hk.2) (.int .i64 t340)) (fun _ hk => hk.2) (.int .i64 t341)) (fun _ hk => hk.2) (.int .i64 t342)) (fun _ hk => trivial))); (case aS => exact (below_size (by repeat (first | (with_reducible first | exact HB.out | apply below_alloc | apply pw_below_drewN | apply below_drew1 | refine below_set ?_ GE332.out | refine below_set ?_ GE345.out) | exact HB.out)))); (case aL => have := LMc24.out; omega); intro v347 w31 ho hb hg hat; rw [← Ny346.out] at ho; have n0_ := Aside0.mk (blk_grown (g := gb332) (o := .cells #[.int .i64 t339, .int .i64 t340, .int .i64 t341, .int .i64 t342] 37 (0, 0)) (by (with_reducible repeat (first | refine blk_drewN ?_ _ | refine blk_drew ?_ | refine blk_alloc ?_ _)); refine blk_put (cs := #[.int .i64 t339, .int .i64 t340, .int .i64 t341, .int .i64 x333003_2]) ?_ 3 _ rfl; (with_reducible repeat (first | refine blk_drewN ?_ _ | refine blk_drew ?_ | refine blk_alloc ?_ _)); refine blk_put (cs := #[.int .i64 t339, .int .i64 t340, .int .i64 x333002_2, .int .i64 x333003_2]) ?_ 2 _ rfl; (with_reducible repeat (first | refine blk_drewN ?_ _ | refine blk_drew ?_ | refine blk_alloc ?_ _)); refine blk_put (cs := #[.int .i64 t339, .int .i64 x333001_2, .int .i64 x333002_2, .int .i64 x333003_2]) ?_ 1 _ rfl; (with_reducible repeat (first | refine blk_drewN ?_ _ | refine blk_drew ?_ | refine blk_alloc ?_ _)); refine blk_put (cs := #[.int .i64 x333000_2, .int .i64 x333001_2, .int .i64 x333002_2, .int .i64 x333003_2]) ?_ 0 _ rfl; (with_reducible repeat (first | refine blk_drewN ?_ _ | refine blk_drew ?_ | refine blk_alloc ?_ _)); refine blk_far ?_ NB332_345.out _; (with_reducible repeat (first | refine blk_drewN ?_ _ | refine blk_drew ?_ | refine blk_alloc ?_ _)); refine blk_far ?_ NB332_345.out _; (with_reducible repeat (first | refine blk_drewN ?_ _ | refine blk_drew ?_ | refine blk_alloc ?_ _)); refine blk_far ?_ NB332_345.out _; (with_reducible repeat (first | refine blk_drewN ?_ _ | refine blk_drew ?_ | refine blk_alloc ?_ _)); refine blk_far ?_ NB332_345.out _; (with_reducible repeat (first | refine blk_drewN ?_ _ | refine blk_drew ?_ | refine blk_alloc ?_ _)); exact BK332.out) hg (Kd.R_ne HO_12.out BK332.out (by decide))); have n1_ := Aside0.mk (blk_grown (g := gb345) (o := .cells #[.int .i64 t339, .int .i64 t340, .int .i64 t341, .int .i64 t342] 37 (0, 0)) (by (with_reducible repeat (first | refine blk_drewN ?_ _ | refine blk_drew ?_ | refine blk_alloc ?_ _)); refine blk_far ?_ NB345_332.out _; (with_reducible repeat (first | refine blk_drewN ?_ _ | refine blk_drew ?_ | refine blk_alloc ?_ _)); refine blk_far ?_ NB345_332.out _; (with_reducible repeat (first | refine blk_drewN ?_ _ | refine blk_drew ?_ | refine blk_alloc ?_ _)); refine blk_far ?_ NB345_332.out _; (with_reducible repeat (first | refine blk_drewN ?_ _ | refine blk_drew ?_ | refine blk_alloc ?_ _)); refine blk_far ?_ NB345_332.out _; (with_reducible repeat (first | refine blk_drewN ?_ _ | refine blk_drew ?_ | refine blk_alloc ?_ _)); refine blk_put (cs := #[.int .i64 t339, .int .i64 t340, .int .i64 t341, .int .i64 0]) ?_ 3 _ rfl; (with_reducible repeat (first | refine blk_drewN ?_ _ | refine blk_drew ?_ | refine blk_alloc ?_ _)); refine blk_put (cs := #[.int .i64 t339, .int .i64 t340, .int .i64 0, .int .i64 0]) ?_ 2 _ rfl; (with_reducible repeat (first | refine blk_drewN ?_ _ | refine blk_drew ?_ | refine blk_alloc ?_ _)); refine blk_put (cs := #[.int .i64 t339, .int .i64 0, .int .i64 0, .int .i64 0]) ?_ 1 _ rfl; (with_reducible repeat (first | refine blk_drewN ?_ _ | refine blk_drew ?_ | refine blk_alloc ?_ _)); refine blk_put (cs := #[.int .i64 0, .int .i64 0, .int .i64 0, .int .i64 0]) ?_ 0 _ rfl; (with_reducible repeat (first | refine blk_drewN ?_ _ | refine blk_drew ?_ | refine blk_alloc ?_ _)); exact BK345.out) hg (Kd.R_ne HO_12.out BK345.out (by decide))); have n2_ := Aside0.mk (hb); have n3_ := Aside0.mk (ho); clear BK332; clear BK345; clear HB; clear HO_12; have BK332 := n0_; have BK345 := n1_; have HB := n2_; have HO348 := n3_; clear n0_ n1_ n2_ n3_; clear ho hb hg hat)))
                            go_roundg k2
                            case measure => have := HJ5.out; have := HK2.out; omega
                            case rel => exact ⟨(wrap64 (x11_2 + (Int.tmod (wrap64 ((Int.tmod (rd y334 x40_2) 9) + 9)) 9))), (y346), (wrap64 (x40_2 + 1)), (t339), (t340), (t341), (t342), (by first | rfl | (simp; done) | (simp [*]; done)), (by first | rfl | (simp; done) | (simp [*]; done)), H', ⟨by have := HJ5.out; have := HK2.out; omega⟩, ⟨by (with_reducible repeat (first | apply Kd.R_alloc | apply Kd.R_drewN | apply Kd.R_drew)); exact HO348.out⟩, ⟨by (with_reducible repeat (first | refine blk_drewN ?_ _ | refine blk_drew ?_ | refine blk_alloc ?_ _)); exact BK332.out⟩, ⟨by repeat (first | (with_reducible first | exact HB.out | apply below_alloc | apply pw_below_drewN | apply below_drew1 | refine below_set ?_ GE332.out | refine below_set ?_ GE345.out) | exact HB.out)⟩⟩
                          · rw [if_neg c24] at H
                            exact absurd H (by simp)
                        · replace c23 := Bool.eq_false_iff.mpr c23
                          subst c23
                          have H1 : (foghornlaw08_BucketBounds.l0 k2 (wrap64 (x11_2 + (Int.tmod (wrap64 ((Int.tmod (rd y334 x40_2) 9) + 9)) 9))) x12_2 y334 (y334.length : Int) (wrap64 (x40_2 + 1)) t339 t340 t341 t342) = some r := by rw [if_neg (show ¬ (false = true) by decide)] at H; exact H
                          clear H
                          have H := H1
                          clear H1
                          have H' := Aside0.mk H
                          clear H
                          have p338 : 0 ≤ (x40_2 : Int) := of_decide_eq_true (by first | (with_reducible assumption) | assumption)
                          have q338 : x40_2 < (y334.length : Int) := of_decide_eq_true (by first | (with_reducible assumption) | assumption)
                          obtain ⟨ad338, e338, hx338_0⟩ := Kd.at_int HR337.out x40_2 p338 q338
                          cases e338
                          replace hx338_0 := (HB.out.cell (World.block_lt_of_cell? w _ hx338_0)).trans hx338_0
                          replace p338 := eq_true p338
                          replace q338 := eq_true q338
                          have hcz32_0 : wr.cell? ⟨gb332, 0, none⟩ = some (.int .i64 x333000_2) := (blk_cell BK332.out 0).trans rfl
                          have hcz32_1 : wr.cell? ⟨gb332, 1, none⟩ = some (.int .i64 x333001_2) := (blk_cell BK332.out 1).trans rfl
                          have hcz32_2 : wr.cell? ⟨gb332, 2, none⟩ = some (.int .i64 x333002_2) := (blk_cell BK332.out 2).trans rfl
                          have hcz32_3 : wr.cell? ⟨gb332, 3, none⟩ = some (.int .i64 x333003_2) := (blk_cell BK332.out 3).trans rfl
                          have hfz32_0 := blk_frozen BK332.out 0
                          have hfz32_1 := blk_frozen BK332.out 1
                          have hfz32_2 := blk_frozen BK332.out 2
                          have hfz32_3 := blk_frozen BK332.out 3
                          go_wp2_with (first | (go_at_call 26; (with_reducible refine (bucket_Take.calls x333000_2 x333001_2 x333002_2 x333003_2 (wrap64 (x11_2 + (Int.tmod (wrap64 ((Int.tmod (rd y334 x40_2) 9) + 9)) 9))) t339 t340 t341 t342 false t344 _ A21.out).mono ?_); rintro e w33 ⟨rfl, hb⟩; have n0_ := Aside0.mk (Kd.R_below (by (with_reducible repeat (first | apply Kd.R_alloc | apply Kd.R_drewN | apply Kd.R_drew)); exact HO_12.out) hb); have n1_ := Aside0.mk (blk_below (g := gb332) (o := .cells #[.int .i64 x333000_2, .int .i64 x333001_2, .int .i64 x333002_2, .int .i64 x333003_2] 37 (0, 0)) (by (with_reducible repeat (first | refine blk_drewN ?_ _ | refine blk_drew ?_ | refine blk_alloc ?_ _)); exact BK332.out) hb); have n2_ := Aside0.mk (below_step (by repeat (first | (with_reducible first | exact HB.out | apply below_alloc | apply pw_below_drewN | apply below_drew1 | refine below_set ?_ GE332.out) | exact HB.out)) hb); clear HO_12; clear BK332; clear HB; have HO_12 := n0_; have BK332 := n1_; have HB := n2_; clear n0_ n1_ n2_; (try clear hb); (try clear hb2); (try clear hk); (try clear hi)) | ((with_reducible refine gate_dst (N := 15) rfl ?_); refine box_event ?hg (N := 15) ?hd (cs := #[.int .i64 0, .int .i64 0, .int .i64 0, .int .i64 0]) (t := 37) ?hr ?_; (case hd => rfl); (case hg => rfl); (case hr => first | (go_simp; done) | (go_simp; rfl)); intro gb345 hg w34 hbox hb; have n0_ := Aside0.mk (Kd.R_below (by (with_reducible repeat (first | apply Kd.R_alloc | apply Kd.R_drewN | apply Kd.R_drew)); exact HO_12.out) hb); have n1_ := Aside0.mk (blk_below (g := gb332) (o := .cells #[.int .i64 x333000_2, .int .i64 x333001_2, .int .i64 x333002_2, .int .i64 x333003_2] 37 (0, 0)) (by (with_reducible repeat (first | refine blk_drewN ?_ _ | refine blk_drew ?_ | refine blk_alloc ?_ _)); exact BK332.out) hb); have n2_ := Aside0.mk (below_step (by repeat (first | (with_reducible first | exact HB.out | apply below_alloc | apply pw_below_drewN | apply below_drew1 | refine below_set ?_ GE332.out) | exact HB.out)) hb); have n3_ := Aside0.mk (hbox); have n4_ := Aside0.mk ((by rw [hg]; exact (below_size (by repeat (first | (with_reducible first | exact HB.out | apply below_alloc | apply pw_below_drewN | apply below_drew1 | refine below_set ?_ GE332.out) | exact HB.out))) : w.heap.size ≤ gb345)); have n5_ := Aside0.mk ((by rw [hg]; exact (below_size (by repeat (first | (with_reducible first | exact HB.out | apply below_alloc | apply pw_below_drewN | apply below_drew1 | refine below_set ?_ GE332.out) | exact HB.out))) : w.heap.size ≤ gb345)); have n6_ := Aside0.mk ((by rw [hg]; exact Nat.ne_of_lt (blk_lt (g := gb332) (o := .cells #[.int .i64 x333000_2, .int .i64 x333001_2, .int .i64 x333002_2, .int .i64 x333003_2] 37 (0, 0)) (by (with_reducible repeat (first | refine blk_drewN ?_ _ | refine blk_drew ?_ | refine blk_alloc ?_ _)); exact BK332.out)) : gb332 ≠ gb345)); have n7_ := Aside0.mk ((by rw [hg]; exact Nat.ne_of_gt (blk_lt (g := gb332) (o := .cells #[.int .i64 x333000_2, .int .i64 x333001_2, .int .i64 x333002_2, .int .i64 x333003_2] 37 (0, 0)) (by (with_reducible repeat (first | refine blk_drewN ?_ _ | refine blk_drew ?_ | refine blk_alloc ?_ _)); exact BK332.out)) : gb345 ≠ gb332)); clear HO_12; clear BK332; clear HB; have HO_12 := n0_; have BK332 := n1_; have HB := n2_; have BK345 := n3_; have GW345 := n4_; have GE345 := n5_; have NB332_345 := n6_; have NB345_332 := n7_; clear n0_ n1_ n2_ n3_ n4_ n5_ n6_ n7_; clear hb hbox hg; have hnb35 := NB345_332.out; have hnc35 := NB332_345.out; have hcz36_0 : w34.cell? ⟨gb345, 0, none⟩ = some (.int .i64 0) := (blk_cell BK345.out 0).trans rfl; have hcz36_1 : w34.cell? ⟨gb345, 1, none⟩ = some (.int .i64 0) := (blk_cell BK345.out 1).trans rfl; have hcz36_2 : w34.cell? ⟨gb345, 2, none⟩ = some (.int .i64 0) := (blk_cell BK345.out 2).trans rfl; have hcz36_3 : w34.cell? ⟨gb345, 3, none⟩ = some (.int .i64 0) := (blk_cell BK345.out 3).trans rfl; have hfz36_0 := blk_frozen BK345.out 0; have hfz36_1 := blk_frozen BK345.out 1; have hfz36_2 := blk_frozen BK345.out 2; have hfz36_3 := blk_frozen BK345.out 3; have hcz37_0 : w34.cell? ⟨gb332, 0, none⟩ = some (.int .i64 x333000_2) := (blk_cell BK332.out 0).trans rfl; have hcz37_1 : w34.cell? ⟨gb332, 1, none⟩ = some (.int .i64 x333001_2) := (blk_cell BK332.out 1).trans rfl; have hcz37_2 : w34.cell? ⟨gb332, 2, none⟩ = some (.int .i64 x333002_2) := (blk_cell BK332.out 2).trans rfl; have hcz37_3 : w34.cell? ⟨gb332, 3, none⟩ = some (.int .i64 x333003_2) := (blk_cell BK332.out 3).trans rfl; have hfz37_0 := blk_frozen BK332.out 0; have hfz37_1 := blk_frozen BK332.out 1; have hfz37_2 := blk_frozen BK332.out 2; have hfz37_3 := blk_frozen BK332.out 3))
                          repeat (go_quiet (first | (go_at_call 26; (with_reducible refine (bucket_Take.calls x333000_2 x333001_2 x333002_2 x333003_2 (wrap64 (x11_2 + (Int.tmod (wrap64 ((Int.tmod (rd y334 x40_2) 9) + 9)) 9))) t339 t340 t341 t342 false t344 _ A21.out).mono ?_); rintro e w33 ⟨rfl, hb⟩; have n0_ := Aside0.mk (Kd.R_below (by (with_reducible repeat (first | apply Kd.R_alloc | apply Kd.R_drewN | apply Kd.R_drew)); exact HO_12.out) hb); have n1_ := Aside0.mk (blk_below (g := gb332) (o := .cells #[.int .i64 x333000_2, .int .i64 x333001_2, .int .i64 x333002_2, .int .i64 x333003_2] 37 (0, 0)) (by (with_reducible repeat (first | refine blk_drewN ?_ _ | refine blk_drew ?_ | refine blk_alloc ?_ _)); exact BK332.out) hb); have n2_ := Aside0.mk (below_step (by repeat (first | (with_reducible first | exact HB.out | apply below_alloc | apply pw_below_drewN | apply below_drew1 | refine below_set ?_ GE332.out) | exact HB.out)) hb); clear HO_12; clear BK332; clear HB; have HO_12 := n0_; have BK332 := n1_; have HB := n2_; clear n0_ n1_ n2_; (try clear hb); (try clear hb2); (try clear hk); (try clear hi)) | ((with_reducible refine gate_dst (N := 15) rfl ?_); refine box_event ?hg (N := 15) ?hd (cs := #[.int .i64 0, .int .i64 0, .int .i64 0, .int .i64 0]) (t := 37) ?hr ?_; (case hd => rfl); (case hg => rfl); (case hr => first | (go_simp; done) | (go_simp; rfl)); intro gb345 hg w34 hbox hb; have n0_ := Aside0.mk (Kd.R_below (by (with_reducible repeat (first | apply Kd.R_alloc | apply Kd.R_drewN | apply Kd.R_drew)); exact HO_12.out) hb); have n1_ := Aside0.mk (blk_below (g := gb332) (o := .cells #[.int .i64 x333000_2, .int .i64 x333001_2, .int .i64 x333002_2, .int .i64 x333003_2] 37 (0, 0)) (by (with_reducible repeat (first | refine blk_drewN ?_ _ | refine blk_drew ?_ | refine blk_alloc ?_ _)); exact BK332.out) hb); have n2_ := Aside0.mk (below_step (by repeat (first | (with_reducible first | exact HB.out | apply below_alloc | apply pw_below_drewN | apply below_drew1 | refine below_set ?_ GE332.out) | exact HB.out)) hb); have n3_ := Aside0.mk (hbox); have n4_ := Aside0.mk ((by rw [hg]; exact (below_size (by repeat (first | (with_reducible first | exact HB.out | apply below_alloc | apply pw_below_drewN | apply below_drew1 | refine below_set ?_ GE332.out) | exact HB.out))) : w.heap.size ≤ gb345)); have n5_ := Aside0.mk ((by rw [hg]; exact (below_size (by repeat (first | (with_reducible first | exact HB.out | apply below_alloc | apply pw_below_drewN | apply below_drew1 | refine below_set ?_ GE332.out) | exact HB.out))) : w.heap.size ≤ gb345)); have n6_ := Aside0.mk ((by rw [hg]; exact Nat.ne_of_lt (blk_lt (g := gb332) (o := .cells #[.int .i64 x333000_2, .int .i64 x333001_2, .int .i64 x333002_2, .int .i64 x333003_2] 37 (0, 0)) (by (with_reducible repeat (first | refine blk_drewN ?_ _ | refine blk_drew ?_ | refine blk_alloc ?_ _)); exact BK332.out)) : gb332 ≠ gb345)); have n7_ := Aside0.mk ((by rw [hg]; exact Nat.ne_of_gt (blk_lt (g := gb332) (o := .cells #[.int .i64 x333000_2, .int .i64 x333001_2, .int .i64 x333002_2, .int .i64 x333003_2] 37 (0, 0)) (by (with_reducible repeat (first | refine blk_drewN ?_ _ | refine blk_drew ?_ | refine blk_alloc ?_ _)); exact BK332.out)) : gb345 ≠ gb332)); clear HO_12; clear BK332; clear HB; have HO_12 := n0_; have BK332 := n1_; have HB := n2_; have BK345 := n3_; have GW345 := n4_; have GE345 := n5_; have NB332_345 := n6_; have NB345_332 := n7_; clear n0_ n1_ n2_ n3_ n4_ n5_ n6_ n7_; clear hb hbox hg; have hnb35 := NB345_332.out; have hnc35 := NB332_345.out; have hcz36_0 : w34.cell? ⟨gb345, 0, none⟩ = some (.int .i64 0) := (blk_cell BK345.out 0).trans rfl; have hcz36_1 : w34.cell? ⟨gb345, 1, none⟩ = some (.int .i64 0) := (blk_cell BK345.out 1).trans rfl; have hcz36_2 : w34.cell? ⟨gb345, 2, none⟩ = some (.int .i64 0) := (blk_cell BK345.out 2).trans rfl; have hcz36_3 : w34.cell? ⟨gb345, 3, none⟩ = some (.int .i64 0) := (blk_cell BK345.out 3).trans rfl; have hfz36_0 := blk_frozen BK345.out 0; have hfz36_1 := blk_frozen BK345.out 1; have hfz36_2 := blk_frozen BK345.out 2; have hfz36_3 := blk_frozen BK345.out 3; have hcz37_0 : w34.cell? ⟨gb332, 0, none⟩ = some (.int .i64 x333000_2) := (blk_cell BK332.out 0).trans rfl; have hcz37_1 : w34.cell? ⟨gb332, 1, none⟩ = some (.int .i64 x333001_2) := (blk_cell BK332.out 1).trans rfl; have hcz37_2 : w34.cell? ⟨gb332, 2, none⟩ = some (.int .i64 x333002_2) := (blk_cell BK332.out 2).trans rfl; have hcz37_3 : w34.cell? ⟨gb332, 3, none⟩ = some (.int .i64 x333003_2) := (blk_cell BK332.out 3).trans rfl; have hfz37_0 := blk_frozen BK332.out 0; have hfz37_1 := blk_frozen BK332.out 1; have hfz37_2 := blk_frozen BK332.out 2; have hfz37_3 := blk_frozen BK332.out 3)); try go_wp2_with (first | (go_at_call 26; (with_reducible refine (bucket_Take.calls x333000_2 x333001_2 x333002_2 x333003_2 (wrap64 (x11_2 + (Int.tmod (wrap64 ((Int.tmod (rd y334 x40_2) 9) + 9)) 9))) t339 t340 t341 t342 false t344 _ A21.out).mono ?_); rintro e w33 ⟨rfl, hb⟩; have n0_ := Aside0.mk (Kd.R_below (by (with_reducible repeat (first | apply Kd.R_alloc | apply Kd.R_drewN | apply Kd.R_drew)); exact HO_12.out) hb); have n1_ := Aside0.mk (blk_below (g := gb332) (o := .cells #[.int .i64 x333000_2, .int .i64 x333001_2, .int .i64 x333002_2, .int .i64 x333003_2] 37 (0, 0)) (by (with_reducible repeat (first | refine blk_drewN ?_ _ | refine blk_drew ?_ | refine blk_alloc ?_ _)); exact BK332.out) hb); have n2_ := Aside0.mk (below_step (by repeat (first | (with_reducible first | exact HB.out | apply below_alloc | apply pw_below_drewN | apply below_drew1 | refine below_set ?_ GE332.out) | exact HB.out)) hb); clear HO_12; clear BK332; clear HB; have HO_12 := n0_; have BK332 := n1_; have HB := n2_; clear n0_ n1_ n2_; (try clear hb); (try clear hb2); (try clear hk); (try clear hi)) | ((with_reducible refine gate_dst (N := 15) rfl ?_); refine box_event ?hg (N := 15) ?hd (cs := #[.int .i64 0, .int .i64 0, .int .i64 0, .int .i64 0]) (t := 37) ?hr ?_; (case hd => rfl); (case hg => rfl); (case hr => first | (go_simp; done) | (go_simp; rfl)); intro gb345 hg w34 hbox hb; have n0_ := Aside0.mk (Kd.R_below (by (with_reducible repeat (first | apply Kd.R_alloc | apply Kd.R_drewN | apply Kd.R_drew)); exact HO_12.out) hb); have n1_ := Aside0.mk (blk_below (g := gb332) (o := .cells #[.int .i64 x333000_2, .int .i64 x333001_2, .int .i64 x333002_2, .int .i64 x333003_2] 37 (0, 0)) (by (with_reducible repeat (first | refine blk_drewN ?_ _ | refine blk_drew ?_ | refine blk_alloc ?_ _)); exact BK332.out) hb); have n2_ := Aside0.mk (below_step (by repeat (first | (with_reducible first | exact HB.out | apply below_alloc | apply pw_below_drewN | apply below_drew1 | refine below_set ?_ GE332.out) | exact HB.out)) hb); have n3_ := Aside0.mk (hbox); have n4_ := Aside0.mk ((by rw [hg]; exact (below_size (by repeat (first | (with_reducible first | exact HB.out | apply below_alloc | apply pw_below_drewN | apply below_drew1 | refine below_set ?_ GE332.out) | exact HB.out))) : w.heap.size ≤ gb345)); have n5_ := Aside0.mk ((by rw [hg]; exact (below_size (by repeat (first | (with_reducible first | exact HB.out | apply below_alloc | apply pw_below_drewN | apply below_drew1 | refine below_set ?_ GE332.out) | exact HB.out))) : w.heap.size ≤ gb345)); have n6_ := Aside0.mk ((by rw [hg]; exact Nat.ne_of_lt (blk_lt (g := gb332) (o := .cells #[.int .i64 x333000_2, .int .i64 x333001_2, .int .i64 x333002_2, .int .i64 x333003_2] 37 (0, 0)) (by (with_reducible repeat (first | refine blk_drewN ?_ _ | refine blk_drew ?_ | refine blk_alloc ?_ _)); exact BK332.out)) : gb332 ≠ gb345)); have n7_ := Aside0.mk ((by rw [hg]; exact Nat.ne_of_gt (blk_lt (g := gb332) (o := .cells #[.int .i64 x333000_2, .int .i64 x333001_2, .int .i64 x333002_2, .int .i64 x333003_2] 37 (0, 0)) (by (with_reducible repeat (first | refine blk_drewN ?_ _ | refine blk_drew ?_ | refine blk_alloc ?_ _)); exact BK332.out)) : gb345 ≠ gb332)); clear HO_12; clear BK332; clear HB; have HO_12 := n0_; have BK332 := n1_; have HB := n2_; have BK345 := n3_; have GW345 := n4_; have GE345 := n5_; have NB332_345 := n6_; have NB345_332 := n7_; clear n0_ n1_ n2_ n3_ n4_ n5_ n6_ n7_; clear hb hbox hg; have hnb35 := NB345_332.out; have hnc35 := NB332_345.out; have hcz36_0 : w34.cell? ⟨gb345, 0, none⟩ = some (.int .i64 0) := (blk_cell BK345.out 0).trans rfl; have hcz36_1 : w34.cell? ⟨gb345, 1, none⟩ = some (.int .i64 0) := (blk_cell BK345.out 1).trans rfl; have hcz36_2 : w34.cell? ⟨gb345, 2, none⟩ = some (.int .i64 0) := (blk_cell BK345.out 2).trans rfl; have hcz36_3 : w34.cell? ⟨gb345, 3, none⟩ = some (.int .i64 0) := (blk_cell BK345.out 3).trans rfl; have hfz36_0 := blk_frozen BK345.out 0; have hfz36_1 := blk_frozen BK345.out 1; have hfz36_2 := blk_frozen BK345.out 2; have hfz36_3 := blk_frozen BK345.out 3; have hcz37_0 : w34.cell? ⟨gb332, 0, none⟩ = some (.int .i64 x333000_2) := (blk_cell BK332.out 0).trans rfl; have hcz37_1 : w34.cell? ⟨gb332, 1, none⟩ = some (.int .i64 x333001_2) := (blk_cell BK332.out 1).trans rfl; have hcz37_2 : w34.cell? ⟨gb332, 2, none⟩ = some (.int .i64 x333002_2) := (blk_cell BK332.out 2).trans rfl; have hcz37_3 : w34.cell? ⟨gb332, 3, none⟩ = some (.int .i64 x333003_2) := (blk_cell BK332.out 3).trans rfl; have hfz37_0 := blk_frozen BK332.out 0; have hfz37_1 := blk_frozen BK332.out 1; have hfz37_2 := blk_frozen BK332.out 2; have hfz37_3 := blk_frozen BK332.out 3)))
                          go_roundg k2
                          case measure => have := HJ5.out; have := HK2.out; omega
                          case rel => exact ⟨(wrap64 (x11_2 + (Int.tmod (wrap64 ((Int.tmod (rd y334 x40_2) 9) + 9)) 9))), (x12_2), (wrap64 (x40_2 + 1)), (t339), (t340), (t341), (t342), (by first | rfl | (simp; done) | (simp [*]; done)), (by first | rfl | (simp; done) | (simp [*]; done)), H', ⟨by have := HJ5.out; have := HK2.out; omega⟩, ⟨by (with_reducible repeat (first | apply Kd.R_alloc | apply Kd.R_drewN | apply Kd.R_drew)); exact Kd.R_mono (Kd.R_far (p := ⟨gb332, 3, none⟩) (Kd.R_far (p := ⟨gb332, 2, none⟩) (Kd.R_far (p := ⟨gb332, 1, none⟩) (Kd.R_far (p := ⟨gb332, 0, none⟩) (Kd.R_far (p := ⟨gb345, 3, none⟩) (Kd.R_far (p := ⟨gb345, 2, none⟩) (Kd.R_far (p := ⟨gb345, 1, none⟩) (Kd.R_far (p := ⟨gb345, 0, none⟩) (Kd.R_types (Kd.R_types HO_12.out BK345.out (by decide)) BK332.out (by decide)) (fun _ hk => hk.1.2) (.int .i64 t339)) (fun _ hk => hk.1.2) (.int .i64 t340)) (fun _ hk => hk.1.2) (.int .i64 t341)) (fun _ hk => hk.1.2) (.int .i64 t342)) (fun _ hk => hk.2) (.int .i64 t339)) (fun _ hk => hk.2) (.int .i64 t340)) (fun _ hk => hk.2) (.int .i64 t341)) (fun _ hk => hk.2) (.int .i64 t342)) (fun _ hk => trivial)⟩, ⟨by (with_reducible repeat (first | refine blk_drewN ?_ _ | refine blk_drew ?_ | refine blk_alloc ?_ _)); refine blk_put (cs := #[.int .i64 t339, .int .i64 t340, .int .i64 t341, .int .i64 x333003_2]) ?_ 3 _ rfl; (with_reducible repeat (first | refine blk_drewN ?_ _ | refine blk_drew ?_ | refine blk_alloc ?_ _)); refine blk_put (cs := #[.int .i64 t339, .int .i64 t340, .int .i64 x333002_2, .int .i64 x333003_2]) ?_ 2 _ rfl; (with_reducible repeat (first | refine blk_drewN ?_ _ | refine blk_drew ?_ | refine blk_alloc ?_ _)); refine blk_put (cs := #[.int .i64 t339, .int .i64 x333001_2, .int .i64 x333002_2, .int .i64 x333003_2]) ?_ 1 _ rfl; (with_reducible repeat (first | refine blk_drewN ?_ _ | refine blk_drew ?_ | refine blk_alloc ?_ _)); refine blk_put (cs := #[.int .i64 x333000_2, .int .i64 x333001_2, .int .i64 x333002_2, .int .i64 x333003_2]) ?_ 0 _ rfl; (with_reducible repeat (first | refine blk_drewN ?_ _ | refine blk_drew ?_ | refine blk_alloc ?_ _)); refine blk_far ?_ NB332_345.out _; (with_reducible repeat (first | refine blk_drewN ?_ _ | refine blk_drew ?_ | refine blk_alloc ?_ _)); refine blk_far ?_ NB332_345.out _; (with_reducible repeat (first | refine blk_drewN ?_ _ | refine blk_drew ?_ | refine blk_alloc ?_ _)); refine blk_far ?_ NB332_345.out _; (with_reducible repeat (first | refine blk_drewN ?_ _ | refine blk_drew ?_ | refine blk_alloc ?_ _)); refine blk_far ?_ NB332_345.out _; (with_reducible repeat (first | refine blk_drewN ?_ _ | refine blk_drew ?_ | refine blk_alloc ?_ _)); exact BK332.out⟩, ⟨by repeat (first | (with_reducible first | exact HB.out | apply below_alloc | apply pw_below_drewN | apply below_drew1 | refine below_set ?_ GE332.out | refine below_set ?_ GE345.out) | exact HB.out)⟩⟩
                      · rw [if_neg c22] at H
                        have c22b0 : (t344 == 0) = false := beq_eq_false_iff_ne.mpr c22
                        have c22b1 : (t344 != 0) = true := bne_iff_ne.mpr c22
                        obtain rfl := Option.some.inj H
                        have p338 : 0 ≤ (x40_2 : Int) := of_decide_eq_true (by first | (with_reducible assumption) | assumption)
                        have q338 : x40_2 < (y334.length : Int) := of_decide_eq_true (by first | (with_reducible assumption) | assumption)
                        obtain ⟨ad338, e338, hx338_0⟩ := Kd.at_int HR337.out x40_2 p338 q338
                        cases e338
                        replace hx338_0 := (HB.out.cell (World.block_lt_of_cell? w _ hx338_0)).trans hx338_0
                        replace p338 := eq_true p338
                        replace q338 := eq_true q338
                        have hcz38_0 : wr.cell? ⟨gb332, 0, none⟩ = some (.int .i64 x333000_2) := (blk_cell BK332.out 0).trans rfl
                        have hcz38_1 : wr.cell? ⟨gb332, 1, none⟩ = some (.int .i64 x333001_2) := (blk_cell BK332.out 1).trans rfl
                        have hcz38_2 : wr.cell? ⟨gb332, 2, none⟩ = some (.int .i64 x333002_2) := (blk_cell BK332.out 2).trans rfl
                        have hcz38_3 : wr.cell? ⟨gb332, 3, none⟩ = some (.int .i64 x333003_2) := (blk_cell BK332.out 3).trans rfl
                        have hfz38_0 := blk_frozen BK332.out 0
                        have hfz38_1 := blk_frozen BK332.out 1
                        have hfz38_2 := blk_frozen BK332.out 2
                        have hfz38_3 := blk_frozen BK332.out 3
                        go_wp2_with (first | (go_at_call 26; (with_reducible refine (bucket_Take.calls x333000_2 x333001_2 x333002_2 x333003_2 (wrap64 (x11_2 + (Int.tmod (wrap64 ((Int.tmod (rd y334 x40_2) 9) + 9)) 9))) t339 t340 t341 t342 t343 t344 _ A21.out).mono ?_); rintro e w39 ⟨rfl, hb⟩; have n0_ := Aside0.mk (Kd.R_below (by (with_reducible repeat (first | apply Kd.R_alloc | apply Kd.R_drewN | apply Kd.R_drew)); exact HO_12.out) hb); have n1_ := Aside0.mk (blk_below (g := gb332) (o := .cells #[.int .i64 x333000_2, .int .i64 x333001_2, .int .i64 x333002_2, .int .i64 x333003_2] 37 (0, 0)) (by (with_reducible repeat (first | refine blk_drewN ?_ _ | refine blk_drew ?_ | refine blk_alloc ?_ _)); exact BK332.out) hb); have n2_ := Aside0.mk (below_step (by repeat (first | (with_reducible first | exact HB.out | apply below_alloc | apply pw_below_drewN | apply below_drew1 | refine below_set ?_ GE332.out) | exact HB.out)) hb); clear HO_12; clear BK332; clear HB; have HO_12 := n0_; have BK332 := n1_; have HB := n2_; clear n0_ n1_ n2_; (try clear hb); (try clear hb2); (try clear hk); (try clear hi)) | ((with_reducible refine gate_dst (N := 15) rfl ?_); refine box_event ?hg (N := 15) ?hd (cs := #[.int .i64 0, .int .i64 0, .int .i64 0, .int .i64 0]) (t := 37) ?hr ?_; (case hd => rfl); (case hg => rfl); (case hr => first | (go_simp; done) | (go_simp; rfl)); intro gb345 hg w40 hbox hb; have n0_ := Aside0.mk (Kd.R_below (by (with_reducible repeat (first | apply Kd.R_alloc | apply Kd.R_drewN | apply Kd.R_drew)); exact HO_12.out) hb); have n1_ := Aside0.mk (blk_below (g := gb332) (o := .cells #[.int .i64 x333000_2, .int .i64 x333001_2, .int .i64 x333002_2, .int .i64 x333003_2] 37 (0, 0)) (by (with_reducible repeat (first | refine blk_drewN ?_ _ | refine blk_drew ?_ | refine blk_alloc ?_ _)); exact BK332.out) hb); have n2_ := Aside0.mk (below_step (by repeat (first | (with_reducible first | exact HB.out | apply below_alloc | apply pw_below_drewN | apply below_drew1 | refine below_set ?_ GE332.out) | exact HB.out)) hb); have n3_ := Aside0.mk (hbox); have n4_ := Aside0.mk ((by rw [hg]; exact (below_size (by repeat (first | (with_reducible first | exact HB.out | apply below_alloc | apply pw_below_drewN | apply below_drew1 | refine below_set ?_ GE332.out) | exact HB.out))) : w.heap.size ≤ gb345)); have n5_ := Aside0.mk ((by rw [hg]; exact (below_size (by repeat (first | (with_reducible first | exact HB.out | apply below_alloc | apply pw_below_drewN | apply below_drew1 | refine below_set ?_ GE332.out) | exact HB.out))) : w.heap.size ≤ gb345)); have n6_ := Aside0.mk ((by rw [hg]; exact Nat.ne_of_lt (blk_lt (g := gb332) (o := .cells #[.int .i64 x333000_2, .int .i64 x333001_2, .int .i64 x333002_2, .int .i64 x333003_2] 37 (0, 0)) (by (with_reducible repeat (first | refine blk_drewN ?_ _ | refine blk_drew ?_ | refine blk_alloc ?_ _)); exact BK332.out)) : gb332 ≠ gb345)); have n7_ := Aside0.mk ((by rw [hg]; exact Nat.ne_of_gt (blk_lt (g := gb332) (o := .cells #[.int .i64 x333000_2, .int .i64 x333001_2, .int .i64 x333002_2, .int .i64 x333003_2] 37 (0, 0)) (by (with_reducible repeat (first | refine blk_drewN ?_ _ | refine blk_drew ?_ | refine blk_alloc ?_ _)); exact BK332.out)) : gb345 ≠ gb332)); clear HO_12; clear BK332; clear HB; have HO_12 := n0_; have BK332 := n1_; have HB := n2_; have BK345 := n3_; have GW345 := n4_; have GE345 := n5_; have NB332_345 := n6_; have NB345_332 := n7_; clear n0_ n1_ n2_ n3_ n4_ n5_ n6_ n7_; clear hb hbox hg; have hnb41 := NB345_332.out; have hnc41 := NB332_345.out; have hcz42_0 : w40.cell? ⟨gb345, 0, none⟩ = some (.int .i64 0) := (blk_cell BK345.out 0).trans rfl; have hcz42_1 : w40.cell? ⟨gb345, 1, none⟩ = some (.int .i64 0) := (blk_cell BK345.out 1).trans rfl; have hcz42_2 : w40.cell? ⟨gb345, 2, none⟩ = some (.int .i64 0) := (blk_cell BK345.out 2).trans rfl; have hcz42_3 : w40.cell? ⟨gb345, 3, none⟩ = some (.int .i64 0) := (blk_cell BK345.out 3).trans rfl; have hfz42_0 := blk_frozen BK345.out 0; have hfz42_1 := blk_frozen BK345.out 1; have hfz42_2 := blk_frozen BK345.out 2; have hfz42_3 := blk_frozen BK345.out 3))
                        repeat (go_quiet (first | (go_at_call 26; (with_reducible refine (bucket_Take.calls x333000_2 x333001_2 x333002_2 x333003_2 (wrap64 (x11_2 + (Int.tmod (wrap64 ((Int.tmod (rd y334 x40_2) 9) + 9)) 9))) t339 t340 t341 t342 t343 t344 _ A21.out).mono ?_); rintro e w39 ⟨rfl, hb⟩; have n0_ := Aside0.mk (Kd.R_below (by (with_reducible repeat (first | apply Kd.R_alloc | apply Kd.R_drewN | apply Kd.R_drew)); exact HO_12.out) hb); have n1_ := Aside0.mk (blk_below (g := gb332) (o := .cells #[.int .i64 x333000_2, .int .i64 x333001_2, .int .i64 x333002_2, .int .i64 x333003_2] 37 (0, 0)) (by (with_reducible repeat (first | refine blk_drewN ?_ _ | refine blk_drew ?_ | refine blk_alloc ?_ _)); exact BK332.out) hb); have n2_ := Aside0.mk (below_step (by repeat (first | (with_reducible first | exact HB.out | apply below_alloc | apply pw_below_drewN | apply below_drew1 | refine below_set ?_ GE332.out) | exact HB.out)) hb); clear HO_12; clear BK332; clear HB; have HO_12 := n0_; have BK332 := n1_; have HB := n2_; clear n0_ n1_ n2_; (try clear hb); (try clear hb2); (try clear hk); (try clear hi)) | ((with_reducible refine gate_dst (N := 15) rfl ?_); refine box_event ?hg (N := 15) ?hd (cs := #[.int .i64 0, .int .i64 0, .int .i64 0, .int .i64 0]) (t := 37) ?hr ?_; (case hd => rfl); (case hg => rfl); (case hr => first | (go_simp; done) | (go_simp; rfl)); intro gb345 hg w40 hbox hb; have n0_ := Aside0.mk (Kd.R_below (by (with_reducible repeat (first | apply Kd.R_alloc | apply Kd.R_drewN | apply Kd.R_drew)); exact HO_12.out) hb); have n1_ := Aside0.mk (blk_below (g := gb332) (o := .cells #[.int .i64 x333000_2, .int .i64 x333001_2, .int .i64 x333002_2, .int .i64 x333003_2] 37 (0, 0)) (by (with_reducible repeat (first | refine blk_drewN ?_ _ | refine blk_drew ?_ | refine blk_alloc ?_ _)); exact BK332.out) hb); have n2_ := Aside0.mk (below_step (by repeat (first | (with_reducible first | exact HB.out | apply below_alloc | apply pw_below_drewN | apply below_drew1 | refine below_set ?_ GE332.out) | exact HB.out)) hb); have n3_ := Aside0.mk (hbox); have n4_ := Aside0.mk ((by rw [hg]; exact (below_size (by repeat (first | (with_reducible first | exact HB.out | apply below_alloc | apply pw_below_drewN | apply below_drew1 | refine below_set ?_ GE332.out) | exact HB.out))) : w.heap.size ≤ gb345)); have n5_ := Aside0.mk ((by rw [hg]; exact (below_size (by repeat (first | (with_reducible first | exact HB.out | apply below_alloc | apply pw_below_drewN | apply below_drew1 | refine below_set ?_ GE332.out) | exact HB.out))) : w.heap.size ≤ gb345)); have n6_ := Aside0.mk ((by rw [hg]; exact Nat.ne_of_lt (blk_lt (g := gb332) (o := .cells #[.int .i64 x333000_2, .int .i64 x333001_2, .int .i64 x333002_2, .int .i64 x333003_2] 37 (0, 0)) (by (with_reducible repeat (first | refine blk_drewN ?_ _ | refine blk_drew ?_ | refine blk_alloc ?_ _)); exact BK332.out)) : gb332 ≠ gb345)); have n7_ := Aside0.mk ((by rw [hg]; exact Nat.ne_of_gt (blk_lt (g := gb332) (o := .cells #[.int .i64 x333000_2, .int .i64 x333001_2, .int .i64 x333002_2, .int .i64 x333003_2] 37 (0, 0)) (by (with_reducible repeat (first | refine blk_drewN ?_ _ | refine blk_drew ?_ | refine blk_alloc ?_ _)); exact BK332.out)) : gb345 ≠ gb332)); clear HO_12; clear BK332; clear HB; have HO_12 := n0_; have BK332 := n1_; have HB := n2_; have BK345 := n3_; have GW345 := n4_; have GE345 := n5_; have NB332_345 := n6_; have NB345_332 := n7_; clear n0_ n1_ n2_ n3_ n4_ n5_ n6_ n7_; clear hb hbox hg; have hnb41 := NB345_332.out; have hnc41 := NB332_345.out; have hcz42_0 : w40.cell? ⟨gb345, 0, none⟩ = some (.int .i64 0) := (blk_cell BK345.out 0).trans rfl; have hcz42_1 : w40.cell? ⟨gb345, 1, none⟩ = some (.int .i64 0) := (blk_cell BK345.out 1).trans rfl; have hcz42_2 : w40.cell? ⟨gb345, 2, none⟩ = some (.int .i64 0) := (blk_cell BK345.out 2).trans rfl; have hcz42_3 : w40.cell? ⟨gb345, 3, none⟩ = some (.int .i64 0) := (blk_cell BK345.out 3).trans rfl; have hfz42_0 := blk_frozen BK345.out 0; have hfz42_1 := blk_frozen BK345.out 1; have hfz42_2 := blk_frozen BK345.out 2; have hfz42_3 := blk_frozen BK345.out 3)); try go_wp2_with (first | (go_at_call 26; (with_reducible refine (bucket_Take.calls x333000_2 x333001_2 x333002_2 x333003_2 (wrap64 (x11_2 + (Int.tmod (wrap64 ((Int.tmod (rd y334 x40_2) 9) + 9)) 9))) t339 t340 t341 t342 t343 t344 _ A21.out).mono ?_); rintro e w39 ⟨rfl, hb⟩; have n0_ := Aside0.mk (Kd.R_below (by (with_reducible repeat (first | apply Kd.R_alloc | apply Kd.R_drewN | apply Kd.R_drew)); exact HO_12.out) hb); have n1_ := Aside0.mk (blk_below (g := gb332) (o := .cells #[.int .i64 x333000_2, .int .i64 x333001_2, .int .i64 x333002_2, .int .i64 x333003_2] 37 (0, 0)) (by (with_reducible repeat (first | refine blk_drewN ?_ _ | refine blk_drew ?_ | refine blk_alloc ?_ _)); exact BK332.out) hb); have n2_ := Aside0.mk (below_step (by repeat (first | (with_reducible first | exact HB.out | apply below_alloc | apply pw_below_drewN | apply below_drew1 | refine below_set ?_ GE332.out) | exact HB.out)) hb); clear HO_12; clear BK332; clear HB; have HO_12 := n0_; have BK332 := n1_; have HB := n2_; clear n0_ n1_ n2_; (try clear hb); (try clear hb2); (try clear hk); (try clear hi)) | ((with_reducible refine gate_dst (N := 15) rfl ?_); refine box_event ?hg (N := 15) ?hd (cs := #[.int .i64 0, .int .i64 0, .int .i64 0, .int .i64 0]) (t := 37) ?hr ?_; (case hd => rfl); (case hg => rfl); (case hr => first | (go_simp; done) | (go_simp; rfl)); intro gb345 hg w40 hbox hb; have n0_ := Aside0.mk (Kd.R_below (by (with_reducible repeat (first | apply Kd.R_alloc | apply Kd.R_drewN | apply Kd.R_drew)); exact HO_12.out) hb); have n1_ := Aside0.mk (blk_below (g := gb332) (o := .cells #[.int .i64 x333000_2, .int .i64 x333001_2, .int .i64 x333002_2, .int .i64 x333003_2] 37 (0, 0)) (by (with_reducible repeat (first | refine blk_drewN ?_ _ | refine blk_drew ?_ | refine blk_alloc ?_ _)); exact BK332.out) hb); have n2_ := Aside0.mk (below_step (by repeat (first | (with_reducible first | exact HB.out | apply below_alloc | apply pw_below_drewN | apply below_drew1 | refine below_set ?_ GE332.out) | exact HB.out)) hb); have n3_ := Aside0.mk (hbox); have n4_ := Aside0.mk ((by rw [hg]; exact (below_size (by repeat (first | (with_reducible first | exact HB.out | apply below_alloc | apply pw_below_drewN | apply below_drew1 | refine below_set ?_ GE332.out) | exact HB.out))) : w.heap.size ≤ gb345)); have n5_ := Aside0.mk ((by rw [hg]; exact (below_size (by repeat (first | (with_reducible first | exact HB.out | apply below_alloc | apply pw_below_drewN | apply below_drew1 | refine below_set ?_ GE332.out) | exact HB.out))) : w.heap.size ≤ gb345)); have n6_ := Aside0.mk ((by rw [hg]; exact Nat.ne_of_lt (blk_lt (g := gb332) (o := .cells #[.int .i64 x333000_2, .int .i64 x333001_2, .int .i64 x333002_2, .int .i64 x333003_2] 37 (0, 0)) (by (with_reducible repeat (first | refine blk_drewN ?_ _ | refine blk_drew ?_ | refine blk_alloc ?_ _)); exact BK332.out)) : gb332 ≠ gb345)); have n7_ := Aside0.mk ((by rw [hg]; exact Nat.ne_of_gt (blk_lt (g := gb332) (o := .cells #[.int .i64 x333000_2, .int .i64 x333001_2, .int .i64 x333002_2, .int .i64 x333003_2] 37 (0, 0)) (by (with_reducible repeat (first | refine blk_drewN ?_ _ | refine blk_drew ?_ | refine blk_alloc ?_ _)); exact BK332.out)) : gb345 ≠ gb332)); clear HO_12; clear BK332; clear HB; have HO_12 := n0_; have BK332 := n1_; have HB := n2_; have BK345 := n3_; have GW345 := n4_; have GE345 := n5_; have NB332_345 := n6_; have NB345_332 := n7_; clear n0_ n1_ n2_ n3_ n4_ n5_ n6_ n7_; clear hb hbox hg; have hnb41 := NB345_332.out; have hnc41 := NB332_345.out; have hcz42_0 : w40.cell? ⟨gb345, 0, none⟩ = some (.int .i64 0) := (blk_cell BK345.out 0).trans rfl; have hcz42_1 : w40.cell? ⟨gb345, 1, none⟩ = some (.int .i64 0) := (blk_cell BK345.out 1).trans rfl; have hcz42_2 : w40.cell? ⟨gb345, 2, none⟩ = some (.int .i64 0) := (blk_cell BK345.out 2).trans rfl; have hcz42_3 : w40.cell? ⟨gb345, 3, none⟩ = some (.int .i64 0) := (blk_cell BK345.out 3).trans rfl; have hfz42_0 := blk_frozen BK345.out 0; have hfz42_1 := blk_frozen BK345.out 1; have hfz42_2 := blk_frozen BK345.out 2; have hfz42_3 := blk_frozen BK345.out 3)))
                        go_ret
                        exact ⟨by first | rfl | (simp [errW_none, errW_some] <;> rfl) | (simp only [← hji14]; first | rfl | (simp [errW_none, errW_some] <;> rfl)) | (simp [*, errW_none, errW_some] <;> rfl), by repeat (first | (with_reducible first | exact HB.out | apply below_alloc | apply pw_below_drewN | apply below_drew1 | refine below_set ?_ GE332.out | refine below_set ?_ GE345.out) | exact HB.out)⟩
                    · rw [if_neg c20] at H
                      exact absurd H (by simp)
                  · rw [if_neg c19] at H
                    exact absurd H (by simp)
                · rw [if_neg c18] at H
                  have c18b0 : decide (x40_2 < (y334.length : Int)) = false := decide_eq_false c18
                  clear c18
                  have H' := Aside0.mk H
                  clear H
                  obtain ⟨Ao43, co43, eo43⟩ := Kd.R_slice HO_12.out
                  subst eo43
                  go_wp2
                  repeat (go_quiet (fail); try go_wp2)
                  go_loopg [68] k2 (fun kq v68 w' => ∃ (x68_3 : Int), v68 = .int .i64 x68_3 ∧ Aside0 (foghornlaw08_BucketBounds.l1 kq x12_2 x12_2 (x12_2.length : Int) x68_3 x333000_2 x333001_2 x333002_2 x333003_2 = some r) ∧ Aside0 (kq ≤ k2) ∧ Aside0 (Kd.R (Kd.int .i64) 3 w' w.heap.size (fun _ => True) (.slice Ao43 x12_2.length co43) x12_2) ∧ Aside0 (Kd.R (Kd.int .i64) 3 w' w.heap.size (fun _ => True) (.slice Ao43 x12_2.length co43) x12_2) ∧ Aside0 (w'.heap[gb332]? = some (.cells #[.int .i64 x333000_2, .int .i64 x333001_2, .int .i64 x333002_2, .int .i64 x333003_2] 37 (0, 0))) ∧ Aside0 (Below w.heap.size w w'))
                  case atStart => exact ⟨(0), (by first | rfl | (simp; done) | (simp [*]; done)), H', ⟨Nat.le_refl _⟩, ⟨by (with_reducible repeat (first | apply Kd.R_alloc | apply Kd.R_drewN | apply Kd.R_drew)); exact HO_12.out⟩, ⟨by (with_reducible repeat (first | apply Kd.R_alloc | apply Kd.R_drewN | apply Kd.R_drew)); exact HO_12.out⟩, ⟨by (with_reducible repeat (first | refine blk_drewN ?_ _ | refine blk_drew ?_ | refine blk_alloc ?_ _)); exact BK332.out⟩, ⟨by repeat (first | (with_reducible first | exact HB.out | apply below_alloc | apply pw_below_drewN | apply below_drew1 | refine below_set ?_ GE332.out) | exact HB.out)⟩⟩
                  case round =>
                    clear H'
                    try clear c1
                    try clear q1
                    try clear c2
                    try clear p2
                    try clear c3
                    try clear p3
                    try clear q3
                    try clear hx3
                    try clear c4
                    try clear c5
                    try clear p6
                    try clear c10
                    try clear c13
                    try clear c15
                    try clear c15b0
                    try clear c15b1
                    try clear c16
                    try clear c16b0
                    try clear c16b1
                    try clear q17
                    try clear c18
                    try clear c18b0
                    try clear c19
                    try clear c19b0
                    try clear c20
                    try clear c20b0
                    try clear c22
                    try clear c22b0
                    try clear c22b1
                    try clear c23
                    try clear c24
                    try clear c28
                    try clear p33
                    try clear q33
                    try clear hx33
                    try clear c35
                    try clear c41
                    try clear hcz25_0
                    try clear hcz25_1
                    try clear hcz25_2
                    try clear hcz25_3
                    try clear hcz29_0
                    try clear hcz29_1
                    try clear hcz29_2
                    try clear hcz29_3
                    try clear hcz30_0
                    try clear hcz30_1
                    try clear hcz30_2
                    try clear hcz30_3
                    try clear hcz32_0
                    try clear hcz32_1
                    try clear hcz32_2
                    try clear hcz32_3
                    try clear hcz36_0
                    try clear hcz36_1
                    try clear hcz36_2
                    try clear hcz36_3
                    try clear hcz37_0
                    try clear hcz37_1
                    try clear hcz37_2
                    try clear hcz37_3
                    try clear hcz38_0
                    try clear hcz38_1
                    try clear hcz38_2
                    try clear hcz38_3
                    try clear hcz42_0
                    try clear hcz42_1
                    try clear hcz42_2
                    try clear hcz42_3
                    try clear hcz9_0
                    try clear hcz9_1
                    try clear hcz9_2
                    try clear hcz9_3
                    try clear hfz25_0
                    try clear hfz25_1
                    try clear hfz25_2
                    try clear hfz25_3
                    try clear hfz29_0
                    try clear hfz29_1
                    try clear hfz29_2
                    try clear hfz29_3
                    try clear hfz30_0
                    try clear hfz30_1
                    try clear hfz30_2
                    try clear hfz30_3
                    try clear hfz32_0
                    try clear hfz32_1
                    try clear hfz32_2
                    try clear hfz32_3
                    try clear hfz36_0
                    try clear hfz36_1
                    try clear hfz36_2
                    try clear hfz36_3
                    try clear hfz37_0
                    try clear hfz37_1
                    try clear hfz37_2
                    try clear hfz37_3
                    try clear hfz38_0
                    try clear hfz38_1
                    try clear hfz38_2
                    try clear hfz38_3
                    try clear hfz42_0
                    try clear hfz42_1
                    try clear hfz42_2
                    try clear hfz42_3
                    try clear hfz9_0
                    try clear hfz9_1
                    try clear hfz9_2
                    try clear hfz9_3
                    try clear hx338_0
                    try clear p2
                    try clear p338
                    try clear q1
                    try clear q17
                    try clear q338
                    obtain ⟨x68_3, rfl, HA, HK3, HO_12, HO_66, BK332, HB⟩ := hrel
                    cases gk with
                    | zero => exact absurd HA.out (by simp [foghornlaw08_BucketBounds.l1])
                    | succ k3 =>
                      have H := HA.out
                      clear HA
                      simp only [foghornlaw08_BucketBounds.l1] at H
                      by_cases c44 : x68_3 < (x12_2.length : Int)
                      · rw [if_pos c44] at H
                        have c44b0 : decide (x68_3 < (x12_2.length : Int)) = true := decide_eq_true c44
                        clear c44
                        by_cases c45 : 0 ≤ x68_3
                        · rw [if_pos c45] at H
                          have c45b0 : decide (0 ≤ x68_3) = true := decide_eq_true c45
                          clear c45
                          by_cases c46 : x68_3 < (x12_2.length : Int)
                          · rw [if_pos c46] at H
                            have c46b0 : decide (x68_3 < (x12_2.length : Int)) = true := decide_eq_true c46
                            clear c46
                            have H' := Aside0.mk H
                            clear H
                            have p349 : 0 ≤ (x68_3 : Int) := of_decide_eq_true (by first | (with_reducible assumption) | assumption)
                            have q349 : x68_3 < (x12_2.length : Int) := of_decide_eq_true (by first | (with_reducible assumption) | assumption)
                            obtain ⟨ad349, e349, hx349_0⟩ := Kd.at_int (Kd.R_reads' HO_66.out).2.2 x68_3 p349 q349
                            cases e349
                            replace p349 := eq_true p349
                            replace q349 := eq_true q349
                            go_wp2
                            repeat (go_quiet (fail); try go_wp2)
                            go_loopg [20] k3 (fun kq v20 w' => ∃ (x20_4 : Int), v20 = .int .i64 x20_4 ∧ Aside0 (foghornlaw08_BucketBounds.l2 kq x12_2 x68_3 (rd x12_2 x68_3) x20_4 x12_2 (x12_2.length : Int) x68_3 x333000_2 x333001_2 x333002_2 x333003_2 = some r) ∧ Aside0 (kq ≤ k3) ∧ Aside0 (Kd.R (Kd.int .i64) 3 w' w.heap.size (fun _ => True) (.slice (some ad349) x12_2.length co43) x12_2) ∧ Aside0 (Kd.R (Kd.int .i64) 3 w' w.heap.size (fun _ => True) (.slice (some ad349) x12_2.length co43) x12_2) ∧ Aside0 (w'.heap[gb332]? = some (.cells #[.int .i64 x333000_2, .int .i64 x333001_2, .int .i64 x333002_2, .int .i64 x333003_2] 37 (0, 0))) ∧ Aside0 (Below w.heap.size w w'))
                            case atStart => exact ⟨(x68_3), (by first | rfl | (simp; done) | (simp [*]; done)), H', ⟨Nat.le_refl _⟩, ⟨by (with_reducible repeat (first | apply Kd.R_alloc | apply Kd.R_drewN | apply Kd.R_drew)); exact HO_12.out⟩, ⟨by (with_reducible repeat (first | apply Kd.R_alloc | apply Kd.R_drewN | apply Kd.R_drew)); exact HO_66.out⟩, ⟨by (with_reducible repeat (first | refine blk_drewN ?_ _ | refine blk_drew ?_ | refine blk_alloc ?_ _)); exact BK332.out⟩, ⟨by repeat (first | (with_reducible first | exact HB.out | apply below_alloc | apply pw_below_drewN | apply below_drew1 | refine below_set ?_ GE332.out) | exact HB.out)⟩⟩
                            case round =>
                              clear H'
                              try clear c1
                              try clear q1
                              try clear c2
                              try clear p2
                              try clear c3
                              try clear p3
                              try clear q3
                              try clear hx3
                              try clear c4
                              try clear c5
                              try clear p6
                              try clear c10
                              try clear c13
                              try clear c15
                              try clear c15b0
                              try clear c15b1
                              try clear c16
                              try clear c16b0
                              try clear c16b1
                              try clear q17
                              try clear c18
                              try clear c18b0
                              try clear c19
                              try clear c19b0
                              try clear c20
                              try clear c20b0
                              try clear c22
                              try clear c22b0
                              try clear c22b1
                              try clear c23
                              try clear c24
                              try clear c28
                              try clear p33
                              try clear q33
                              try clear hx33
                              try clear p34
                              try clear q34
                              try clear hx34
                              try clear c35
                              try clear c41
                              try clear c44
                              try clear c44b0
                              try clear c45
                              try clear c45b0
                              try clear c46
                              try clear c46b0
                              try clear hcz25_0
                              try clear hcz25_1
                              try clear hcz25_2
                              try clear hcz25_3
                              try clear hcz29_0
                              try clear hcz29_1
                              try clear hcz29_2
                              try clear hcz29_3
                              try clear hcz30_0
                              try clear hcz30_1
                              try clear hcz30_2
                              try clear hcz30_3
                              try clear hcz32_0
                              try clear hcz32_1
                              try clear hcz32_2
                              try clear hcz32_3
                              try clear hcz36_0
                              try clear hcz36_1
                              try clear hcz36_2
                              try clear hcz36_3
                              try clear hcz37_0
                              try clear hcz37_1
                              try clear hcz37_2
                              try clear hcz37_3
                              try clear hcz38_0
                              try clear hcz38_1
                              try clear hcz38_2
                              try clear hcz38_3
                              try clear hcz42_0
                              try clear hcz42_1
                              try clear hcz42_2
                              try clear hcz42_3
                              try clear hcz9_0
                              try clear hcz9_1
                              try clear hcz9_2
                              try clear hcz9_3
                              try clear hfz25_0
                              try clear hfz25_1
                              try clear hfz25_2
                              try clear hfz25_3
                              try clear hfz29_0
                              try clear hfz29_1
                              try clear hfz29_2
                              try clear hfz29_3
                              try clear hfz30_0
                              try clear hfz30_1
                              try clear hfz30_2
                              try clear hfz30_3
                              try clear hfz32_0
                              try clear hfz32_1
                              try clear hfz32_2
                              try clear hfz32_3
                              try clear hfz36_0
                              try clear hfz36_1
                              try clear hfz36_2
                              try clear hfz36_3
                              try clear hfz37_0
                              try clear hfz37_1
                              try clear hfz37_2
                              try clear hfz37_3
                              try clear hfz38_0
                              try clear hfz38_1
                              try clear hfz38_2
                              try clear hfz38_3
                              try clear hfz42_0
                              try clear hfz42_1
                              try clear hfz42_2
                              try clear hfz42_3
                              try clear hfz9_0
                              try clear hfz9_1
                              try clear hfz9_2
                              try clear hfz9_3
                              try clear hx338_0
                              try clear hx349_0
                              try clear p2
                              try clear p3
                              try clear p33
                              try clear p338
                              try clear p349
                              try clear p6
                              try clear q1
                              try clear q17
                              try clear q3
                              try clear q33
                              try clear q338
                              try clear q349
                              obtain ⟨x20_4, rfl, HA, HK4, HO_12, HO_66, BK332, HB⟩ := hrel
                              cases gk with
                              | zero => exact absurd HA.out (by simp [foghornlaw08_BucketBounds.l2])
                              | succ k4 =>
                                have H := HA.out
                                clear HA
                                simp only [foghornlaw08_BucketBounds.l2] at H
                                by_cases c47 : x20_4 < (x12_2.length : Int)
                                · rw [if_pos c47] at H
                                  have c47b0 : decide (x20_4 < (x12_2.length : Int)) = true := decide_eq_true c47
                                  clear c47
                                  by_cases c48 : 0 ≤ x20_4
                                  · rw [if_pos c48] at H
                                    have c48b0 : decide (0 ≤ x20_4) = true := decide_eq_true c48
                                    clear c48
                                    by_cases c49 : x333001_2 = 0
                                    · rw [if_pos c49] at H
                                      exact absurd H (by simp)
                                    · rw [if_neg c49] at H
                                      have c49b0 : (x333001_2 == 0) = false := beq_eq_false_iff_ne.mpr c49
                                      have c49b1 : (x333001_2 != 0) = true := bne_iff_ne.mpr c49
                                      by_cases c50 : (wrap64 ((wrap64 (x20_4 - x68_3)) + 1)) > (wrap64 (x333000_2 + (wrap64 (Int.tdiv (wrap64 ((rd x12_2 x20_4) - (rd x12_2 x68_3))) x333001_2))))
                                      · rw [if_pos c50] at H
                                        have c50b0 : decide ((wrap64 (x333000_2 + (wrap64 (Int.tdiv (wrap64 ((rd x12_2 x20_4) - (rd x12_2 x68_3))) x333001_2)))) < (wrap64 ((wrap64 (x20_4 - x68_3)) + 1))) = true := decide_eq_true c50
                                        clear c50
                                        obtain rfl := Option.some.inj H
                                        have hcz51_0 : wr.cell? ⟨gb332, 0, none⟩ = some (.int .i64 x333000_2) := (blk_cell BK332.out 0).trans rfl
                                        have hcz51_1 : wr.cell? ⟨gb332, 1, none⟩ = some (.int .i64 x333001_2) := (blk_cell BK332.out 1).trans rfl
                                        have hcz51_2 : wr.cell? ⟨gb332, 2, none⟩ = some (.int .i64 x333002_2) := (blk_cell BK332.out 2).trans rfl
                                        have hcz51_3 : wr.cell? ⟨gb332, 3, none⟩ = some (.int .i64 x333003_2) := (blk_cell BK332.out 3).trans rfl
                                        have hfz51_0 := blk_frozen BK332.out 0
                                        have hfz51_1 := blk_frozen BK332.out 1
                                        have hfz51_2 := blk_frozen BK332.out 2
                                        have hfz51_3 := blk_frozen BK332.out 3
                                        have p350 : 0 ≤ (x20_4 : Int) := of_decide_eq_true (by first | (with_reducible assumption) | assumption)
                                        have q350 : x20_4 < (x12_2.length : Int) := of_decide_eq_true (by first | (with_reducible assumption) | assumption)
                                        obtain ⟨ad350, e350, hx350_0⟩ := Kd.at_int (Kd.R_reads' HO_12.out).2.2 x20_4 p350 q350
                                        obtain rfl : ad349 = ad350 := (by injection e350)
                                        replace p350 := eq_true p350
                                        replace q350 := eq_true q350
                                        go_wp2
                                        repeat (go_quiet (fail); try go_wp2)
                                        go_ret
                                        exact ⟨by first | rfl | (simp [errW_none, errW_some] <;> rfl) | (simp only [← hji14]; first | rfl | (simp [errW_none, errW_some] <;> rfl)) | (simp [*, errW_none, errW_some] <;> rfl), by repeat (first | (with_reducible first | exact HB.out | apply below_alloc | apply pw_below_drewN | apply below_drew1 | refine below_set ?_ GE332.out) | exact HB.out)⟩
                                      · rw [if_neg c50] at H
                                        have c50b0 : decide ((wrap64 (x333000_2 + (wrap64 (Int.tdiv (wrap64 ((rd x12_2 x20_4) - (rd x12_2 x68_3))) x333001_2)))) < (wrap64 ((wrap64 (x20_4 - x68_3)) + 1))) = false := decide_eq_false c50
                                        clear c50
                                        have H' := Aside0.mk H
                                        clear H
                                        have hcz52_0 : wr.cell? ⟨gb332, 0, none⟩ = some (.int .i64 x333000_2) := (blk_cell BK332.out 0).trans rfl
                                        have hcz52_1 : wr.cell? ⟨gb332, 1, none⟩ = some (.int .i64 x333001_2) := (blk_cell BK332.out 1).trans rfl
                                        have hcz52_2 : wr.cell? ⟨gb332, 2, none⟩ = some (.int .i64 x333002_2) := (blk_cell BK332.out 2).trans rfl
                                        have hcz52_3 : wr.cell? ⟨gb332, 3, none⟩ = some (.int .i64 x333003_2) := (blk_cell BK332.out 3).trans rfl
                                        have hfz52_0 := blk_frozen BK332.out 0
                                        have hfz52_1 := blk_frozen BK332.out 1
                                        have hfz52_2 := blk_frozen BK332.out 2
                                        have hfz52_3 := blk_frozen BK332.out 3
                                        have p350 : 0 ≤ (x20_4 : Int) := of_decide_eq_true (by first | (with_reducible assumption) | assumption)
                                        have q350 : x20_4 < (x12_2.length : Int) := of_decide_eq_true (by first | (with_reducible assumption) | assumption)
                                        obtain ⟨ad350, e350, hx350_0⟩ := Kd.at_int (Kd.R_reads' HO_12.out).2.2 x20_4 p350 q350
                                        obtain rfl : ad349 = ad350 := (by injection e350)
                                        replace p350 := eq_true p350
                                        replace q350 := eq_true q350
                                        go_wp2
                                        repeat (go_quiet (fail); try go_wp2)
                                        go_roundg k4
                                        case measure => have := HJ5.out; have := HK2.out; have := HK3.out; have := HK4.out; omega
                                        case rel => exact ⟨(wrap64 (x20_4 + 1)), (by first | rfl | (simp; done) | (simp [*]; done)), H', ⟨by have := HJ5.out; have := HK2.out; have := HK3.out; have := HK4.out; omega⟩, ⟨by (with_reducible repeat (first | apply Kd.R_alloc | apply Kd.R_drewN | apply Kd.R_drew)); exact HO_12.out⟩, ⟨by (with_reducible repeat (first | apply Kd.R_alloc | apply Kd.R_drewN | apply Kd.R_drew)); exact HO_66.out⟩, ⟨by (with_reducible repeat (first | refine blk_drewN ?_ _ | refine blk_drew ?_ | refine blk_alloc ?_ _)); exact BK332.out⟩, ⟨by repeat (first | (with_reducible first | exact HB.out | apply below_alloc | apply pw_below_drewN | apply below_drew1 | refine below_set ?_ GE332.out) | exact HB.out)⟩⟩
                                  · rw [if_neg c48] at H
                                    exact absurd H (by simp)
                                · rw [if_neg c47] at H
                                  have c47b0 : decide (x20_4 < (x12_2.length : Int)) = false := decide_eq_false c47
                                  clear c47
                                  have H' := Aside0.mk H
                                  clear H
                                  go_wp2
                                  repeat (go_quiet (fail); try go_wp2)
                                  go_roundg k4
                                  case measure => have := HJ5.out; have := HK2.out; have := HK3.out; have := HK4.out; omega
                                  case rel => exact ⟨(wrap64 (x68_3 + 1)), (by first | rfl | (simp; done) | (simp [*]; done)), H', ⟨by have := HJ5.out; have := HK2.out; have := HK3.out; have := HK4.out; omega⟩, ⟨by (with_reducible repeat (first | apply Kd.R_alloc | apply Kd.R_drewN | apply Kd.R_drew)); exact HO_12.out⟩, ⟨by (with_reducible repeat (first | apply Kd.R_alloc | apply Kd.R_drewN | apply Kd.R_drew)); exact HO_66.out⟩, ⟨by (with_reducible repeat (first | refine blk_drewN ?_ _ | refine blk_drew ?_ | refine blk_alloc ?_ _)); exact BK332.out⟩, ⟨by repeat (first | (with_reducible first | exact HB.out | apply below_alloc | apply pw_below_drewN | apply below_drew1 | refine below_set ?_ GE332.out) | exact HB.out)⟩⟩
                          · rw [if_neg c46] at H
                            exact absurd H (by simp)
                        · rw [if_neg c45] at H
                          exact absurd H (by simp)
                      · rw [if_neg c44] at H
                        have c44b0 : decide (x68_3 < (x12_2.length : Int)) = false := decide_eq_false c44
                        clear c44
                        obtain rfl := Option.some.inj H
                        go_wp2
                        repeat (go_quiet (fail); try go_wp2)
                        go_ret
                        exact ⟨by first | rfl | (simp [errW_none, errW_some] <;> rfl) | (simp only [← hji14]; first | rfl | (simp [errW_none, errW_some] <;> rfl)) | (simp [*, errW_none, errW_some] <;> rfl), by repeat (first | (with_reducible first | exact HB.out | apply below_alloc | apply pw_below_drewN | apply below_drew1 | refine below_set ?_ GE332.out) | exact HB.out)⟩
          · rw [if_neg c16] at H
            exact absurd H (by simp)
        · rw [if_neg c15] at H
          exact absurd H (by simp)

/-- THE ONE PURE STATEMENT of foghornlaw08_BucketBounds: yours. -/
def foghornlaw08_BucketBounds.Pure : Prop := ∀ (a0 : Int) (a1 : Int) (a2 : Int) (l3 : List Int), (Lit.int .i64 a0).wf = true → (Lit.int .i64 a1).wf = true → (Lit.int .i64 a2).wf = true → l3.length ≤ maxLen → l3.length * 8 ≤ 140737488351232 → (∀ x ∈ l3, (Lit.int .i64 x).wf = true) → ∃ k, foghornlaw08_BucketBounds.f k a0 a1 a2 l3 = some true
theorem foghornlaw08_BucketBounds.walk (P : foghornlaw08_BucketBounds.Pure) (a0 : Int) (a1 : Int) (a2 : Int) (a3 : Option Addr) (len3 cap3 : Nat) (z3 : List Int) (w : World) (w0 : (Lit.int .i64 a0).wf = true) (w1 : (Lit.int .i64 a1).wf = true) (w2 : (Lit.int .i64 a2).wf = true) (w3 : (a3 = none ∧ len3 = 0 ∧ cap3 = 0 ∧ z3 = []) ∨ ∃ x, a3 = some x ∧ len3 ≤ cap3 ∧ cap3 ≤ maxLen ∧ z3.length = cap3 ∧ (∀ i, i < z3.length → w.cell? (x.add i) = some (.int .i64 (z3.getD i 0))) ∧ ∀ n ∈ z3, (Lit.int .i64 n).wf = true) (y3 : len3 * 8 ≤ 140737488351232) :
    Calls Try.prog 5 #[.int .i64 a0, .int .i64 a1, .int .i64 a2, .slice a3 len3 cap3] w fun e w' => e = .returned (.bool true) ∧ Below w.heap.size w w' := by
  obtain ⟨l3, rfl, hr3, hm3, hw3, hc3⟩ := ReadsInt.ofRowC w3
  obtain ⟨k, h⟩ := P a0 a1 a2 l3 w0 w1 w2 hm3 y3 hw3
  refine (foghornlaw08_BucketBounds.calls k a0 a1 a2 _ _ l3 true w (Kd.C_of_reads (d := (0 : Int)) (h1 := fun _ => rfl) hr3) hc3 h).mono ?_
  rintro e w' ⟨rfl, hd⟩
  exact ⟨rfl, hd⟩

end Go.Proofs.Ytkkopknlhijgiaa.G
