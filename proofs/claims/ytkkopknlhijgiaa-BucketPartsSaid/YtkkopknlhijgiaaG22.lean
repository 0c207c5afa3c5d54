/- Contracts of functions of the given program, each proved by a walk of its code: written by gprint.py, this session's program round the kit's print; texts of our own stand among the printed ones. No condition beyond each theorem's own premises. -/
import Derived.Test.YtkkopknlhijgiaaG0
import Derived.Test.YtkkopknlhijgiaaG1
import Derived.Test.YtkkopknlhijgiaaG17
import Derived.Test.YtkkopknlhijgiaaG18
import Derived.Test.YtkkopknlhijgiaaG19
import Derived.Test.YtkkopknlhijgiaaG21
namespace Go.Proofs.Ytkkopknlhijgiaa.G
open Go.RowKit Go.Proofs.YtkkopknlhijgiaaW.PrintWords Go.Proofs.YtkkopknlhijgiaaW.PrintLast Go.Proofs.YtkkopknlhijgiaaW.PrintMore
attribute [local go_sem] max2_int min2_int max_two min_two max_three min_three max_four min_four   -- for this text's walks alone
set_option linter.unusedVariables false
set_option linter.unusedSimpArgs false

attribute [local go_sem high] eqA37
/-! ### foghornlaw08_BucketParts: function 10 -/
mutual
def foghornlaw08_BucketParts.j0 : Nat → Int → Int → Bool → Int → Int → Int → Int → Option (Bool)
  | 0, _, _, _, _, _, _, _ => none
  | k + 1, x3, x4, x12, x365000, x365001, x365002, x365003 => (bucket_Fill.f x365000 x365001 x365002 x365003 x3).bind fun bt365 => ((bucket_Fill.f bt365.1 bt365.2.1 bt365.2.2.1 bt365.2.2.2.1 x4).bind fun bt371 => ((bucket_Fill.f x365000 x365001 x365002 x365003 x4).bind fun bt377 => ((bucket_Next.f bt365.1 bt365.2.1 bt365.2.2.1 bt365.2.2.2.1 x3).bind fun bt383 => (if x12 = true then (if bt365.2.2.2.2 = 0 then (if bt371.2.2.2.2 = 0 then (if bt377.2.2.2.2 = 0 then (if bt383.2 = 0 then (if (!(bt371.1 == bt377.1) || (!(bt371.2.1 == bt377.2.1) || (!(bt371.2.2.1 == bt377.2.2.1) || (!(bt371.2.2.2.1 == bt377.2.2.2.1))))) = true then (foghornlaw08_BucketParts.j1 k x3 x4 bt383.1 true bt365.1 bt365.2.1 bt365.2.2.1 bt365.2.2.2.1 bt371.1 bt371.2.1 bt371.2.2.1 bt371.2.2.2.1) else (if bt383.1 < x3 then (foghornlaw08_BucketParts.j1 k x3 x4 bt383.1 true bt365.1 bt365.2.1 bt365.2.2.1 bt365.2.2.2.1 bt371.1 bt371.2.1 bt371.2.2.1 bt371.2.2.2.1) else ((foghornlaw08_alive.f).bind fun t385 => (foghornlaw08_BucketParts.j1 k x3 x4 bt383.1 (!t385) bt365.1 bt365.2.1 bt365.2.2.1 bt365.2.2.2.1 bt371.1 bt371.2.1 bt371.2.2.1 bt371.2.2.2.1)))) else (foghornlaw08_BucketParts.j1 k x3 x4 bt383.1 true bt365.1 bt365.2.1 bt365.2.2.1 bt365.2.2.2.1 bt371.1 bt371.2.1 bt371.2.2.1 bt371.2.2.2.1)) else (foghornlaw08_BucketParts.j1 k x3 x4 bt383.1 true bt365.1 bt365.2.1 bt365.2.2.1 bt365.2.2.2.1 bt371.1 bt371.2.1 bt371.2.2.1 bt371.2.2.2.1)) else (foghornlaw08_BucketParts.j1 k x3 x4 bt383.1 true bt365.1 bt365.2.1 bt365.2.2.1 bt365.2.2.2.1 bt371.1 bt371.2.1 bt371.2.2.1 bt371.2.2.2.1)) else (foghornlaw08_BucketParts.j1 k x3 x4 bt383.1 true bt365.1 bt365.2.1 bt365.2.2.1 bt365.2.2.2.1 bt371.1 bt371.2.1 bt371.2.2.1 bt371.2.2.2.1)) else (foghornlaw08_BucketParts.j1 k x3 x4 bt383.1 true bt365.1 bt365.2.1 bt365.2.2.1 bt365.2.2.2.1 bt371.1 bt371.2.1 bt371.2.2.1 bt371.2.2.2.1)))))
def foghornlaw08_BucketParts.j1 : Nat → Int → Int → Int → Bool → Int → Int → Int → Int → Int → Int → Int → Int → Option (Bool)
  | 0, _, _, _, _, _, _, _, _, _, _, _, _ => none
  | k + 1, x3, x4, x19, x106, x371000, x371001, x371002, x371003, x377000, x377001, x377002, x377003 => if x106 = true then (some false) else ((bucket_Take.f x371000 x371001 x371002 x371003 x19).bind fun bt386 => (if bt386.2.2.2.2.2 = 0 then (foghornlaw08_BucketParts.j2 k x3 x4 x19 (!bt386.2.2.2.2.1) x371000 x371001 x371002 x371003 x377000 x377001 x377002 x377003) else (foghornlaw08_BucketParts.j2 k x3 x4 x19 true x371000 x371001 x371002 x371003 x377000 x377001 x377002 x377003)))
def foghornlaw08_BucketParts.j2 : Nat → Int → Int → Int → Bool → Int → Int → Int → Int → Int → Int → Int → Int → Option (Bool)
  | 0, _, _, _, _, _, _, _, _, _, _, _, _ => none
  | k + 1, x3, x4, x19, x119, x371000, x371001, x371002, x371003, x377000, x377001, x377002, x377003 => if x119 = true then (some false) else (foghornlaw08_BucketParts.l0 k x4 x19 x3 x371000 x371001 x371002 x371003 x377000 x377001 x377002 x377003)
def foghornlaw08_BucketParts.l0 : Nat → Int → Int → Int → Int → Int → Int → Int → Int → Int → Int → Int → Option (Bool)
  | 0, _, _, _, _, _, _, _, _, _, _, _ => none
  | k + 1, x4, x19, x24, x371000, x371001, x371002, x371003, x377000, x377001, x377002, x377003 => if x24 < x19 then ((bucket_Take.f x371000 x371001 x371002 x371003 x24).bind fun bt393 => (if bt393.2.2.2.2.2 = 0 then (if bt393.2.2.2.2.1 = true then (some false) else (foghornlaw08_BucketParts.l0 k x4 x19 (wrap64 (x24 + 1)) x371000 x371001 x371002 x371003 x377000 x377001 x377002 x377003)) else (some false))) else ((bucket_Take.f x377000 x377001 x377002 x377003 x4).bind fun bt400 => (if bt400.2.2.2.2.2 = 0 then (some (bt400.2.2.2.2.1 == (decide (x4 ≥ x19)))) else (some false)))
end
def foghornlaw08_BucketParts.f (k : Nat) (a0 : Int) (a1 : Int) (a2 : Int) (a3 : Int) (a4 : Int) : Option (Bool) := (foghornlaw08_some.f a0 a1 a2).bind fun bt359 => (if (Int.tmod (wrap64 ((Int.tmod a3 200) + 200)) 200) > (Int.tmod (wrap64 ((Int.tmod a4 200) + 200)) 200) then (foghornlaw08_BucketParts.j0 k (Int.tmod (wrap64 ((Int.tmod a4 200) + 200)) 200) (Int.tmod (wrap64 ((Int.tmod a3 200) + 200)) 200) bt359.2.2.2.2 bt359.1 bt359.2.1 bt359.2.2.1 bt359.2.2.2.1) else (foghornlaw08_BucketParts.j0 k (Int.tmod (wrap64 ((Int.tmod a3 200) + 200)) 200) (Int.tmod (wrap64 ((Int.tmod a4 200) + 200)) 200) bt359.2.2.2.2 bt359.1 bt359.2.1 bt359.2.2.1 bt359.2.2.2.1))
theorem foghornlaw08_BucketParts.mono_l : ∀ k, (∀ y0 y1 y2 y3 y4 y5 y6, LeO (foghornlaw08_BucketParts.j0 k y0 y1 y2 y3 y4 y5 y6) (foghornlaw08_BucketParts.j0 (k + 1) y0 y1 y2 y3 y4 y5 y6)) ∧ (∀ y0 y1 y2 y3 y4 y5 y6 y7 y8 y9 y10 y11, LeO (foghornlaw08_BucketParts.j1 k y0 y1 y2 y3 y4 y5 y6 y7 y8 y9 y10 y11) (foghornlaw08_BucketParts.j1 (k + 1) y0 y1 y2 y3 y4 y5 y6 y7 y8 y9 y10 y11)) ∧ (∀ y0 y1 y2 y3 y4 y5 y6 y7 y8 y9 y10 y11, LeO (foghornlaw08_BucketParts.j2 k y0 y1 y2 y3 y4 y5 y6 y7 y8 y9 y10 y11) (foghornlaw08_BucketParts.j2 (k + 1) y0 y1 y2 y3 y4 y5 y6 y7 y8 y9 y10 y11)) ∧ (∀ y0 y1 y2 y3 y4 y5 y6 y7 y8 y9 y10, LeO (foghornlaw08_BucketParts.l0 k y0 y1 y2 y3 y4 y5 y6 y7 y8 y9 y10) (foghornlaw08_BucketParts.l0 (k + 1) y0 y1 y2 y3 y4 y5 y6 y7 y8 y9 y10))
  | 0 => ⟨fun _ _ _ _ _ _ _ r h => by simp [foghornlaw08_BucketParts.j0] at h, fun _ _ _ _ _ _ _ _ _ _ _ _ r h => by simp [foghornlaw08_BucketParts.j1] at h, fun _ _ _ _ _ _ _ _ _ _ _ _ r h => by simp [foghornlaw08_BucketParts.j2] at h, fun _ _ _ _ _ _ _ _ _ _ _ r h => by simp [foghornlaw08_BucketParts.l0] at h⟩
  | k + 1 => by
    obtain ⟨ih0, ih1, ih2, ih3⟩ := foghornlaw08_BucketParts.mono_l k
    refine ⟨?_, ?_, ?_, ?_⟩
    · intro y0 y1 y2 y3 y4 y5 y6
      unfold foghornlaw08_BucketParts.j0
      repeat' first
      | (with_reducible exact ih0 _ _ _ _ _ _ _)
      | (with_reducible exact ih1 _ _ _ _ _ _ _ _ _ _ _ _)
      | (with_reducible exact ih2 _ _ _ _ _ _ _ _ _ _ _ _)
      | (with_reducible exact ih3 _ _ _ _ _ _ _ _ _ _ _)
      | (with_reducible exact LeO.refl _)
      | (with_reducible exact LeO.none _)
      | (with_reducible refine LeO.ite ?_ ?_)
      | (with_reducible refine LeO.bind ?_ (fun _ => ?_))
      | exact ih0 _ _ _ _ _ _ _
      | exact ih1 _ _ _ _ _ _ _ _ _ _ _ _
      | exact ih2 _ _ _ _ _ _ _ _ _ _ _ _
      | exact ih3 _ _ _ _ _ _ _ _ _ _ _
      | exact LeO.none _
      | refine LeO.ite ?_ ?_
      | refine LeO.bind ?_ (fun _ => ?_)
    · intro y0 y1 y2 y3 y4 y5 y6 y7 y8 y9 y10 y11
      unfold foghornlaw08_BucketParts.j1
      repeat' first
      | (with_reducible exact ih0 _ _ _ _ _ _ _)
      | (with_reducible exact ih1 _ _ _ _ _ _ _ _ _ _ _ _)
      | (with_reducible exact ih2 _ _ _ _ _ _ _ _ _ _ _ _)
      | (with_reducible exact ih3 _ _ _ _ _ _ _ _ _ _ _)
      | (with_reducible exact LeO.refl _)
      | (with_reducible exact LeO.none _)
      | (with_reducible refine LeO.ite ?_ ?_)
      | (with_reducible refine LeO.bind ?_ (fun _ => ?_))
      | exact ih0 _ _ _ _ _ _ _
      | exact ih1 _ _ _ _ _ _ _ _ _ _ _ _
      | exact ih2 _ _ _ _ _ _ _ _ _ _ _ _
      | exact ih3 _ _ _ _ _ _ _ _ _ _ _
      | exact LeO.none _
      | refine LeO.ite ?_ ?_
      | refine LeO.bind ?_ (fun _ => ?_)
    · intro y0 y1 y2 y3 y4 y5 y6 y7 y8 y9 y10 y11
      unfold foghornlaw08_BucketParts.j2
      repeat' first
      | (with_reducible exact ih0 _ _ _ _ _ _ _)
      | (with_reducible exact ih1 _ _ _ _ _ _ _ _ _ _ _ _)
      | (with_reducible exact ih2 _ _ _ _ _ _ _ _ _ _ _ _)
      | (with_reducible exact ih3 _ _ _ _ _ _ _ _ _ _ _)
      | (with_reducible exact LeO.refl _)
      | (with_reducible exact LeO.none _)
      | (with_reducible refine LeO.ite ?_ ?_)
      | (with_reducible refine LeO.bind ?_ (fun _ => ?_))
      | exact ih0 _ _ _ _ _ _ _
      | exact ih1 _ _ _ _ _ _ _ _ _ _ _ _
      | exact ih2 _ _ _ _ _ _ _ _ _ _ _ _
      | exact ih3 _ _ _ _ _ _ _ _ _ _ _
      | exact LeO.none _
      | refine LeO.ite ?_ ?_
      | refine LeO.bind ?_ (fun _ => ?_)
    · intro y0 y1 y2 y3 y4 y5 y6 y7 y8 y9 y10
      unfold foghornlaw08_BucketParts.l0
      repeat' first
      | (with_reducible exact ih0 _ _ _ _ _ _ _)
      | (with_reducible exact ih1 _ _ _ _ _ _ _ _ _ _ _ _)
      | (with_reducible exact ih2 _ _ _ _ _ _ _ _ _ _ _ _)
      | (with_reducible exact ih3 _ _ _ _ _ _ _ _ _ _ _)
      | (with_reducible exact LeO.refl _)
      | (with_reducible exact LeO.none _)
      | (with_reducible refine LeO.ite ?_ ?_)
      | (with_reducible refine LeO.bind ?_ (fun _ => ?_))
      | exact ih0 _ _ _ _ _ _ _
      | exact ih1 _ _ _ _ _ _ _ _ _ _ _ _
      | exact ih2 _ _ _ _ _ _ _ _ _ _ _ _
      | exact ih3 _ _ _ _ _ _ _ _ _ _ _
      | exact LeO.none _
      | refine LeO.ite ?_ ?_
      | refine LeO.bind ?_ (fun _ => ?_)
theorem foghornlaw08_BucketParts.mono : ∀ a0 a1 a2 a3 a4 k, LeO (foghornlaw08_BucketParts.f k a0 a1 a2 a3 a4) (foghornlaw08_BucketParts.f (k + 1) a0 a1 a2 a3 a4) := by
  intro a0 a1 a2 a3 a4 k
  obtain ⟨ih0, ih1, ih2, ih3⟩ := foghornlaw08_BucketParts.mono_l k
  unfold foghornlaw08_BucketParts.f
  repeat' first
      | (with_reducible exact ih0 _ _ _ _ _ _ _)
      | (with_reducible exact ih1 _ _ _ _ _ _ _ _ _ _ _ _)
      | (with_reducible exact ih2 _ _ _ _ _ _ _ _ _ _ _ _)
      | (with_reducible exact ih3 _ _ _ _ _ _ _ _ _ _ _)
      | (with_reducible exact LeO.refl _)
      | (with_reducible exact LeO.none _)
      | (with_reducible refine LeO.ite ?_ ?_)
      | (with_reducible refine LeO.bind ?_ (fun _ => ?_))
      | exact ih0 _ _ _ _ _ _ _
      | exact ih1 _ _ _ _ _ _ _ _ _ _ _ _
      | exact ih2 _ _ _ _ _ _ _ _ _ _ _ _
      | exact ih3 _ _ _ _ _ _ _ _ _ _ _
      | exact LeO.none _
      | refine LeO.ite ?_ ?_
      | refine LeO.bind ?_ (fun _ => ?_)
set_option maxHeartbeats 8000000 in
set_option maxRecDepth 100000 in
theorem foghornlaw08_BucketParts.calls (k : Nat) (a0 : Int) (a1 : Int) (a2 : Int) (a3 : Int) (a4 : Int) (r : Bool) (w : World) (h : foghornlaw08_BucketParts.f k a0 a1 a2 a3 a4 = some r) :
    Calls Try.prog 10 #[.int .i64 a0, .int .i64 a1, .int .i64 a2, .int .i64 a3, .int .i64 a4] w fun e w' => e = .returned (.bool r) ∧ Below w.heap.size w w' := by
  have hu37 := Try.underlying37
  have HB := Aside0.mk (Below.refl w.heap.size w)
  have H : ((foghornlaw08_some.f a0 a1 a2).bind fun bt359 => (if (Int.tmod (wrap64 ((Int.tmod a3 200) + 200)) 200) > (Int.tmod (wrap64 ((Int.tmod a4 200) + 200)) 200) then (foghornlaw08_BucketParts.j0 k (Int.tmod (wrap64 ((Int.tmod a4 200) + 200)) 200) (Int.tmod (wrap64 ((Int.tmod a3 200) + 200)) 200) bt359.2.2.2.2 bt359.1 bt359.2.1 bt359.2.2.1 bt359.2.2.2.1) else (foghornlaw08_BucketParts.j0 k (Int.tmod (wrap64 ((Int.tmod a3 200) + 200)) 200) (Int.tmod (wrap64 ((Int.tmod a4 200) + 200)) 200) bt359.2.2.2.2 bt359.1 bt359.2.1 bt359.2.2.1 bt359.2.2.2.1))) = some r := h
  clear h
  replace H := Option.bind_eq_some_iff.mp H
  obtain ⟨⟨t359, t360, t361, t362, t363⟩, A60, H⟩ := H
  replace H : (if (Int.tmod (wrap64 ((Int.tmod a3 200) + 200)) 200) > (Int.tmod (wrap64 ((Int.tmod a4 200) + 200)) 200) then (foghornlaw08_BucketParts.j0 k (Int.tmod (wrap64 ((Int.tmod a4 200) + 200)) 200) (Int.tmod (wrap64 ((Int.tmod a3 200) + 200)) 200) t363 t359 t360 t361 t362) else (foghornlaw08_BucketParts.j0 k (Int.tmod (wrap64 ((Int.tmod a3 200) + 200)) 200) (Int.tmod (wrap64 ((Int.tmod a4 200) + 200)) 200) t363 t359 t360 t361 t362)) = some r := H
  have A6 := Aside0.mk A60
  clear A60
  have HC7 := Aside0.mk H
  clear H
  go_enter Try.func10, Try.ntmps10
  go_upto_if 48 with (first | ((with_reducible refine gate_callee (f := 24) rfl ?_); refine goesL_ (some 35) rfl rfl Try.func24 (by kernel_rfl) rfl #[.int .i64 a0, .int .i64 a1, .int .i64 a2] rfl (by (try simp only [List.map_toArray, List.map_cons, List.map_nil]); first | done | rfl | (simp only [List.length_drop, List.length_take]; rfl)) ?_; (with_reducible refine (foghornlaw08_some.calls a0 a1 a2 t359 t360 t361 t362 t363 _ A6.out).mono ?_); rintro e w8 ⟨rfl, hb⟩; refine ⟨_, rfl, ?_⟩; have n0_ := Aside0.mk (below_step (by repeat (first | (with_reducible first | exact HB.out | apply below_alloc | apply pw_below_drewN | apply below_drew1) | exact HB.out)) hb); clear HB; have HB := n0_; clear n0_; (try clear hb); (try clear hb2); (try clear hk); (try clear hi)) | ((with_reducible refine gate_dst (N := 11) rfl ?_); refine box_event ?hg (N := 11) ?hd (cs := #[.int .i64 0, .int .i64 0, .int .i64 0, .int .i64 0]) (t := 37) ?hr ?_; (case hd => rfl); (case hg => rfl); (case hr => first | (go_simp; done) | (go_simp; rfl)); intro gb364 hg w9 hbox hb; have n0_ := Aside0.mk (below_step (by repeat (first | (with_reducible first | exact HB.out | apply below_alloc | apply pw_below_drewN | apply below_drew1) | exact HB.out)) hb); have n1_ := Aside0.mk (hbox); have n2_ := Aside0.mk ((by rw [hg]; exact (below_size (by repeat (first | (with_reducible first | exact HB.out | apply below_alloc | apply pw_below_drewN | apply below_drew1) | exact HB.out))) : w.heap.size ≤ gb364)); have n3_ := Aside0.mk ((by rw [hg]; exact (below_size (by repeat (first | (with_reducible first | exact HB.out | apply below_alloc | apply pw_below_drewN | apply below_drew1) | exact HB.out))) : w.heap.size ≤ gb364)); clear HB; have HB := n0_; have BK364 := n1_; have GW364 := n2_; have GE364 := n3_; clear n0_ n1_ n2_ n3_; clear hb hbox hg; have hcz10_0 : w9.cell? ⟨gb364, 0, none⟩ = some (.int .i64 0) := (blk_cell BK364.out 0).trans rfl; have hcz10_1 : w9.cell? ⟨gb364, 1, none⟩ = some (.int .i64 0) := (blk_cell BK364.out 1).trans rfl; have hcz10_2 : w9.cell? ⟨gb364, 2, none⟩ = some (.int .i64 0) := (blk_cell BK364.out 2).trans rfl; have hcz10_3 : w9.cell? ⟨gb364, 3, none⟩ = some (.int .i64 0) := (blk_cell BK364.out 3).trans rfl; have hfz10_0 := blk_frozen BK364.out 0; have hfz10_1 := blk_frozen BK364.out 1; have hfz10_2 := blk_frozen BK364.out 2; have hfz10_3 := blk_frozen BK364.out 3))
  (try simp only [Act.put, List.setIfInBounds_toArray, List.set_cons_zero, List.set_cons_succ])
  go_cut [3, 4] (fun v3 v4 wc => ∃ (kq : Nat) (x3_6 : Int) (x4_6 : Int), v3 = .int .i64 x3_6 ∧ v4 = .int .i64 x4_6 ∧ Aside0 (foghornlaw08_BucketParts.j0 kq x3_6 x4_6 t363 t359 t360 t361 t362 = some r) ∧ Aside0 (kq ≤ k) ∧ Aside0 (wc.heap[gb364]? = some (.cells #[.int .i64 t359, .int .i64 t360, .int .i64 t361, .int .i64 t362] 37 (0, 0))) ∧ Aside0 (Below w.heap.size w wc))
  case first =>
    have H := HC7.out
    clear HC7
    by_cases c11 : (Int.tmod (wrap64 ((Int.tmod a3 200) + 200)) 200) > (Int.tmod (wrap64 ((Int.tmod a4 200) + 200)) 200)
    · rw [if_pos c11] at H
      have c11b0 : decide ((Int.tmod (wrap64 ((Int.tmod a4 200) + 200)) 200) < (Int.tmod (wrap64 ((Int.tmod a3 200) + 200)) 200)) = true := decide_eq_true c11
      clear c11
      (first | rw [c11b0] | (simp only [i64_w, i32_w]; rw [c11b0]) | skip)
      have H' := Aside0.mk H
      clear H
      go_wp2
      go_meet
      case rel => exact ⟨_, (Int.tmod (wrap64 ((Int.tmod a4 200) + 200)) 200), (Int.tmod (wrap64 ((Int.tmod a3 200) + 200)) 200), (by first | rfl | (simp; done) | (simp [*]; done)), (by first | rfl | (simp; done) | (simp [*]; done)), H', ⟨by first | omega | exact Nat.le_refl _⟩, ⟨by (with_reducible repeat (first | refine blk_drewN ?_ _ | refine blk_drew ?_ | refine blk_alloc ?_ _)); refine blk_put (cs := #[.int .i64 t359, .int .i64 t360, .int .i64 t361, .int .i64 0]) ?_ 3 _ rfl; (with_reducible repeat (first | refine blk_drewN ?_ _ | refine blk_drew ?_ | refine blk_alloc ?_ _)); refine blk_put (cs := #[.int .i64 t359, .int .i64 t360, .int .i64 0, .int .i64 0]) ?_ 2 _ rfl; (with_reducible repeat (first | refine blk_drewN ?_ _ | refine blk_drew ?_ | refine blk_alloc ?_ _)); refine blk_put (cs := #[.int .i64 t359, .int .i64 0, .int .i64 0, .int .i64 0]) ?_ 1 _ rfl; (with_reducible repeat (first | refine blk_drewN ?_ _ | refine blk_drew ?_ | refine blk_alloc ?_ _)); refine blk_put (cs := #[.int .i64 0, .int .i64 0, .int .i64 0, .int .i64 0]) ?_ 0 _ rfl; (with_reducible repeat (first | refine blk_drewN ?_ _ | refine blk_drew ?_ | refine blk_alloc ?_ _)); exact BK364.out⟩, ⟨by repeat (first | (with_reducible first | exact HB.out | apply below_alloc | apply pw_below_drewN | apply below_drew1 | refine below_set ?_ GE364.out) | exact HB.out)⟩⟩
    · rw [if_neg c11] at H
      have c11b0 : decide ((Int.tmod (wrap64 ((Int.tmod a4 200) + 200)) 200) < (Int.tmod (wrap64 ((Int.tmod a3 200) + 200)) 200)) = false := decide_eq_false c11
      clear c11
      (first | rw [c11b0] | (simp only [i64_w, i32_w]; rw [c11b0]) | skip)
      have H' := Aside0.mk H
      clear H
      go_wp2
      go_meet
      case rel => exact ⟨_, (Int.tmod (wrap64 ((Int.tmod a3 200) + 200)) 200), (Int.tmod (wrap64 ((Int.tmod a4 200) + 200)) 200), (by first | rfl | (simp; done) | (simp [*]; done)), (by first | rfl | (simp; done) | (simp [*]; done)), H', ⟨by first | omega | exact Nat.le_refl _⟩, ⟨by (with_reducible repeat (first | refine blk_drewN ?_ _ | refine blk_drew ?_ | refine blk_alloc ?_ _)); refine blk_put (cs := #[.int .i64 t359, .int .i64 t360, .int .i64 t361, .int .i64 0]) ?_ 3 _ rfl; (with_reducible repeat (first | refine blk_drewN ?_ _ | refine blk_drew ?_ | refine blk_alloc ?_ _)); refine blk_put (cs := #[.int .i64 t359, .int .i64 t360, .int .i64 0, .int .i64 0]) ?_ 2 _ rfl; (with_reducible repeat (first | refine blk_drewN ?_ _ | refine blk_drew ?_ | refine blk_alloc ?_ _)); refine blk_put (cs := #[.int .i64 t359, .int .i64 0, .int .i64 0, .int .i64 0]) ?_ 1 _ rfl; (with_reducible repeat (first | refine blk_drewN ?_ _ | refine blk_drew ?_ | refine blk_alloc ?_ _)); refine blk_put (cs := #[.int .i64 0, .int .i64 0, .int .i64 0, .int .i64 0]) ?_ 0 _ rfl; (with_reducible repeat (first | refine blk_drewN ?_ _ | refine blk_drew ?_ | refine blk_alloc ?_ _)); exact BK364.out⟩, ⟨by repeat (first | (with_reducible first | exact HB.out | apply below_alloc | apply pw_below_drewN | apply below_drew1 | refine below_set ?_ GE364.out) | exact HB.out)⟩⟩
  case rest =>
    clear HC7
    try clear c1
    try clear c2
    try clear p2
    try clear p6
    try clear c10
    try clear c11
    try clear c11b0
    try clear hcz10_0
    try clear hcz10_1
    try clear hcz10_2
    try clear hcz10_3
    try clear hfz10_0
    try clear hfz10_1
    try clear hfz10_2
    try clear hfz10_3
    obtain ⟨kq, x3_6, x4_6, rfl, rfl, HA, HJ6, BK364, HB⟩ := hcut
    cases kq with
    | zero => exact absurd HA.out (by simp [foghornlaw08_BucketParts.j0])
    | succ kj6 =>
      have H := HA.out
      clear HA
      simp only [foghornlaw08_BucketParts.j0] at H
      replace H := Option.bind_eq_some_iff.mp H
      obtain ⟨⟨t365, t366, t367, t368, t369⟩, A120, H⟩ := H
      replace H : ((bucket_Fill.f t365 t366 t367 t368 x4_6).bind fun bt371 => ((bucket_Fill.f t359 t360 t361 t362 x4_6).bind fun bt377 => ((bucket_Next.f t365 t366 t367 t368 x3_6).bind fun bt383 => (if t363 = true then (if t369 = 0 then (if bt371.2.2.2.2 = 0 then (if bt377.2.2.2.2 = 0 then (if bt383.2 = 0 then (if (!(bt371.1 == bt377.1) || (!(bt371.2.1 == bt377.2.1) || (!(bt371.2.2.1 == bt377.2.2.1) || (!(bt371.2.2.2.1 == bt377.2.2.2.1))))) = true then (foghornlaw08_BucketParts.j1 kj6 x3_6 x4_6 bt383.1 true t365 t366 t367 t368 bt371.1 bt371.2.1 bt371.2.2.1 bt371.2.2.2.1) else (if bt383.1 < x3_6 then (foghornlaw08_BucketParts.j1 kj6 x3_6 x4_6 bt383.1 true t365 t366 t367 t368 bt371.1 bt371.2.1 bt371.2.2.1 bt371.2.2.2.1) else ((foghornlaw08_alive.f).bind fun t385 => (foghornlaw08_BucketParts.j1 kj6 x3_6 x4_6 bt383.1 (!t385) t365 t366 t367 t368 bt371.1 bt371.2.1 bt371.2.2.1 bt371.2.2.2.1)))) else (foghornlaw08_BucketParts.j1 kj6 x3_6 x4_6 bt383.1 true t365 t366 t367 t368 bt371.1 bt371.2.1 bt371.2.2.1 bt371.2.2.2.1)) else (foghornlaw08_BucketParts.j1 kj6 x3_6 x4_6 bt383.1 true t365 t366 t367 t368 bt371.1 bt371.2.1 bt371.2.2.1 bt371.2.2.2.1)) else (foghornlaw08_BucketParts.j1 kj6 x3_6 x4_6 bt383.1 true t365 t366 t367 t368 bt371.1 bt371.2.1 bt371.2.2.1 bt371.2.2.2.1)) else (foghornlaw08_BucketParts.j1 kj6 x3_6 x4_6 bt383.1 true t365 t366 t367 t368 bt371.1 bt371.2.1 bt371.2.2.1 bt371.2.2.2.1)) else (foghornlaw08_BucketParts.j1 kj6 x3_6 x4_6 bt383.1 true t365 t366 t367 t368 bt371.1 bt371.2.1 bt371.2.2.1 bt371.2.2.2.1))))) = some r := H
      have A12 := Aside0.mk A120
      clear A120
      replace H := Option.bind_eq_some_iff.mp H
      obtain ⟨⟨t371, t372, t373, t374, t375⟩, A130, H⟩ := H
      replace H : ((bucket_Fill.f t359 t360 t361 t362 x4_6).bind fun bt377 => ((bucket_Next.f t365 t366 t367 t368 x3_6).bind fun bt383 => (if t363 = true then (if t369 = 0 then (if t375 = 0 then (if bt377.2.2.2.2 = 0 then (if bt383.2 = 0 then (if (!(t371 == bt377.1) || (!(t372 == bt377.2.1) || (!(t373 == bt377.2.2.1) || (!(t374 == bt377.2.2.2.1))))) = true then (foghornlaw08_BucketParts.j1 kj6 x3_6 x4_6 bt383.1 true t365 t366 t367 t368 t371 t372 t373 t374) else (if bt383.1 < x3_6 then (foghornlaw08_BucketParts.j1 kj6 x3_6 x4_6 bt383.1 true t365 t366 t367 t368 t371 t372 t373 t374) else ((foghornlaw08_alive.f).bind fun t385 => (foghornlaw08_BucketParts.j1 kj6 x3_6 x4_6 bt383.1 (!t385) t365 t366 t367 t368 t371 t372 t373 t374)))) else (foghornlaw08_BucketParts.j1 kj6 x3_6 x4_6 bt383.1 true t365 t366 t367 t368 t371 t372 t373 t374)) else (foghornlaw08_BucketParts.j1 kj6 x3_6 x4_6 bt383.1 true t365 t366 t367 t368 t371 t372 t373 t374)) else (foghornlaw08_BucketParts.j1 kj6 x3_6 x4_6 bt383.1 true t365 t366 t367 t368 t371 t372 t373 t374)) else (foghornlaw08_BucketParts.j1 kj6 x3_6 x4_6 bt383.1 true t365 t366 t367 t368 t371 t372 t373 t374)) else (foghornlaw08_BucketParts.j1 kj6 x3_6 x4_6 bt383.1 true t365 t366 t367 t368 t371 t372 t373 t374)))) = some r := H
      have A13 := Aside0.mk A130
      clear A130
      replace H := Option.bind_eq_some_iff.mp H
      obtain ⟨⟨t377, t378, t379, t380, t381⟩, A140, H⟩ := H
      replace H : ((bucket_Next.f t365 t366 t367 t368 x3_6).bind fun bt383 => (if t363 = true then (if t369 = 0 then (if t375 = 0 then (if t381 = 0 then (if bt383.2 = 0 then (if (!(t371 == t377) || (!(t372 == t378) || (!(t373 == t379) || (!(t374 == t380))))) = true then (foghornlaw08_BucketParts.j1 kj6 x3_6 x4_6 bt383.1 true t365 t366 t367 t368 t371 t372 t373 t374) else (if bt383.1 < x3_6 then (foghornlaw08_BucketParts.j1 kj6 x3_6 x4_6 bt383.1 true t365 t366 t367 t368 t371 t372 t373 t374) else ((foghornlaw08_alive.f).bind fun t385 => (foghornlaw08_BucketParts.j1 kj6 x3_6 x4_6 bt383.1 (!t385) t365 t366 t367 t368 t371 t372 t373 t374)))) else (foghornlaw08_BucketParts.j1 kj6 x3_6 x4_6 bt383.1 true t365 t366 t367 t368 t371 t372 t373 t374)) else (foghornlaw08_BucketParts.j1 kj6 x3_6 x4_6 bt383.1 true t365 t366 t367 t368 t371 t372 t373 t374)) else (foghornlaw08_BucketParts.j1 kj6 x3_6 x4_6 bt383.1 true t365 t366 t367 t368 t371 t372 t373 t374)) else (foghornlaw08_BucketParts.j1 kj6 x3_6 x4_6 bt383.1 true t365 t366 t367 t368 t371 t372 t373 t374)) else (foghornlaw08_BucketParts.j1 kj6 x3_6 x4_6 bt383.1 true t365 t366 t367 t368 t371 t372 t373 t374))) = some r := H
      have A14 := Aside0.mk A140
      clear A140
      replace H := Option.bind_eq_some_iff.mp H
      obtain ⟨⟨t383, t384⟩, A150, H⟩ := H
      replace H : (if t363 = true then (if t369 = 0 then (if t375 = 0 then (if t381 = 0 then (if t384 = 0 then (if (!(t371 == t377) || (!(t372 == t378) || (!(t373 == t379) || (!(t374 == t380))))) = true then (foghornlaw08_BucketParts.j1 kj6 x3_6 x4_6 t383 true t365 t366 t367 t368 t371 t372 t373 t374) else (if t383 < x3_6 then (foghornlaw08_BucketParts.j1 kj6 x3_6 x4_6 t383 true t365 t366 t367 t368 t371 t372 t373 t374) else ((foghornlaw08_alive.f).bind fun t385 => (foghornlaw08_BucketParts.j1 kj6 x3_6 x4_6 t383 (!t385) t365 t366 t367 t368 t371 t372 t373 t374)))) else (foghornlaw08_BucketParts.j1 kj6 x3_6 x4_6 t383 true t365 t366 t367 t368 t371 t372 t373 t374)) else (foghornlaw08_BucketParts.j1 kj6 x3_6 x4_6 t383 true t365 t366 t367 t368 t371 t372 t373 t374)) else (foghornlaw08_BucketParts.j1 kj6 x3_6 x4_6 t383 true t365 t366 t367 t368 t371 t372 t373 t374)) else (foghornlaw08_BucketParts.j1 kj6 x3_6 x4_6 t383 true t365 t366 t367 t368 t371 t372 t373 t374)) else (foghornlaw08_BucketParts.j1 kj6 x3_6 x4_6 t383 true t365 t366 t367 t368 t371 t372 t373 t374)) = some r := H
      have A15 := Aside0.mk A150
      clear A150
      have HC16 := Aside0.mk H
      clear H
      have hcz17_0 : wc.cell? ⟨gb364, 0, none⟩ = some (.int .i64 t359) := (blk_cell BK364.out 0).trans rfl
      have hcz17_1 : wc.cell? ⟨gb364, 1, none⟩ = some (.int .i64 t360) := (blk_cell BK364.out 1).trans rfl
      have hcz17_2 : wc.cell? ⟨gb364, 2, none⟩ = some (.int .i64 t361) := (blk_cell BK364.out 2).trans rfl
      have hcz17_3 : wc.cell? ⟨gb364, 3, none⟩ = some (.int .i64 t362) := (blk_cell BK364.out 3).trans rfl
      have hfz17_0 := blk_frozen BK364.out 0
      have hfz17_1 := blk_frozen BK364.out 1
      have hfz17_2 := blk_frozen BK364.out 2
      have hfz17_3 := blk_frozen BK364.out 3
      go_upto_region 9 with (first | ((with_reducible refine gate_callee (f := 38) rfl ?_); refine goesL_ (some 54) rfl rfl Try.func38 (by kernel_rfl) rfl #[.agg #[.int .i64 t359, .int .i64 t360, .int .i64 t361, .int .i64 t362], .int .i64 x3_6] rfl (by (try simp only [List.map_toArray, List.map_cons, List.map_nil]); first | done | rfl | (simp only [List.length_drop, List.length_take]; rfl)) ?_; (with_reducible refine (bucket_Fill.calls t359 t360 t361 t362 x3_6 t365 t366 t367 t368 t369 _ A12.out).mono ?_); rintro e w18 ⟨rfl, hb⟩; refine ⟨_, rfl, ?_⟩; have n0_ := Aside0.mk (blk_below (g := gb364) (o := .cells #[.int .i64 t359, .int .i64 t360, .int .i64 t361, .int .i64 t362] 37 (0, 0)) (by (with_reducible repeat (first | refine blk_drewN ?_ _ | refine blk_drew ?_ | refine blk_alloc ?_ _)); exact BK364.out) hb); have n1_ := Aside0.mk (below_step (by repeat (first | (with_reducible first | exact HB.out | apply below_alloc | apply pw_below_drewN | apply below_drew1 | refine below_set ?_ GE364.out) | exact HB.out)) hb); clear BK364; clear HB; have BK364 := n0_; have HB := n1_; clear n0_ n1_; (try clear hb); (try clear hb2); (try clear hk); (try clear hi)) | ((with_reducible refine gate_dst (N := 13) rfl ?_); refine box_event ?hg (N := 13) ?hd (cs := #[.int .i64 0, .int .i64 0, .int .i64 0, .int .i64 0]) (t := 37) ?hr ?_; (case hd => rfl); (case hg => rfl); (case hr => first | (go_simp; done) | (go_simp; rfl)); intro gb370 hg w19 hbox hb; have n0_ := Aside0.mk (blk_below (g := gb364) (o := .cells #[.int .i64 t359, .int .i64 t360, .int .i64 t361, .int .i64 t362] 37 (0, 0)) (by (with_reducible repeat (first | refine blk_drewN ?_ _ | refine blk_drew ?_ | refine blk_alloc ?_ _)); exact BK364.out) hb); have n1_ := Aside0.mk (below_step (by repeat (first | (with_reducible first | exact HB.out | apply below_alloc | apply pw_below_drewN | apply below_drew1 | refine below_set ?_ GE364.out) | exact HB.out)) hb); have n2_ := Aside0.mk (hbox); have n3_ := Aside0.mk ((by rw [hg]; exact (below_size (by repeat (first | (with_reducible first | exact HB.out | apply below_alloc | apply pw_below_drewN | apply below_drew1 | refine below_set ?_ GE364.out) | exact HB.out))) : w.heap.size ≤ gb370)); have n4_ := Aside0.mk ((by rw [hg]; exact (below_size (by repeat (first | (with_reducible first | exact HB.out | apply below_alloc | apply pw_below_drewN | apply below_drew1 | refine below_set ?_ GE364.out) | exact HB.out))) : w.heap.size ≤ gb370)); have n5_ := Aside0.mk ((by rw [hg]; exact Nat.ne_of_lt (blk_lt (g := gb364) (o := .cells #[.int .i64 t359, .int .i64 t360, .int .i64 t361, .int .i64 t362] 37 (0, 0)) (by (with_reducible repeat (first | refine blk_drewN ?_ _ | refine blk_drew ?_ | refine blk_alloc ?_ _)); exact BK364.out)) : gb364 ≠ gb370)); have n6_ := Aside0.mk ((by rw [hg]; exact Nat.ne_of_gt (blk_lt (g := gb364) (o := .cells #[.int .i64 t359, .int .i64 t360, .int .i64 t361, .int .i64 t362] 37 (0, 0)) (by (with_reducible repeat (first | refine blk_drewN ?_ _ | refine blk_drew ?_ | refine blk_alloc ?_ _)); exact BK364.out)) : gb370 ≠ gb364)); clear BK364; clear HB; have BK364 := n0_; have HB := n1_; have BK370 := n2_; have GW370 := n3_; have GE370 := n4_; have NB364_370 := n5_; have NB370_364 := n6_; clear n0_ n1_ n2_ n3_ n4_ n5_ n6_; clear hb hbox hg; have hnb20 := NB370_364.out; have hnc20 := NB364_370.out; have hcz21_0 : w19.cell? ⟨gb370, 0, none⟩ = some (.int .i64 0) := (blk_cell BK370.out 0).trans rfl; have hcz21_1 : w19.cell? ⟨gb370, 1, none⟩ = some (.int .i64 0) := (blk_cell BK370.out 1).trans rfl; have hcz21_2 : w19.cell? ⟨gb370, 2, none⟩ = some (.int .i64 0) := (blk_cell BK370.out 2).trans rfl; have hcz21_3 : w19.cell? ⟨gb370, 3, none⟩ = some (.int .i64 0) := (blk_cell BK370.out 3).trans rfl; have hfz21_0 := blk_frozen BK370.out 0; have hfz21_1 := blk_frozen BK370.out 1; have hfz21_2 := blk_frozen BK370.out 2; have hfz21_3 := blk_frozen BK370.out 3) | ((with_reducible refine gate_callee (f := 38) rfl ?_); refine goesL_ (some 60) rfl rfl Try.func38 (by kernel_rfl) rfl #[.agg #[.int .i64 t365, .int .i64 t366, .int .i64 t367, .int .i64 t368], .int .i64 x4_6] rfl (by (try simp only [List.map_toArray, List.map_cons, List.map_nil]); first | done | rfl | (simp only [List.length_drop, List.length_take]; rfl)) ?_; (with_reducible refine (bucket_Fill.calls t365 t366 t367 t368 x4_6 t371 t372 t373 t374 t375 _ A13.out).mono ?_); rintro e w22 ⟨rfl, hb⟩; refine ⟨_, rfl, ?_⟩; have n0_ := Aside0.mk (blk_below (g := gb364) (o := .cells #[.int .i64 t359, .int .i64 t360, .int .i64 t361, .int .i64 t362] 37 (0, 0)) (by (with_reducible repeat (first | refine blk_drewN ?_ _ | refine blk_drew ?_ | refine blk_alloc ?_ _)); refine blk_far ?_ NB364_370.out _; (with_reducible repeat (first | refine blk_drewN ?_ _ | refine blk_drew ?_ | refine blk_alloc ?_ _)); refine blk_far ?_ NB364_370.out _; (with_reducible repeat (first | refine blk_drewN ?_ _ | refine blk_drew ?_ | refine blk_alloc ?_ _)); refine blk_far ?_ NB364_370.out _; (with_reducible repeat (first | refine blk_drewN ?_ _ | refine blk_drew ?_ | refine blk_alloc ?_ _)); refine blk_far ?_ NB364_370.out _; (with_reducible repeat (first | refine blk_drewN ?_ _ | refine blk_drew ?_ | refine blk_alloc ?_ _)); exact BK364.out) hb); have n1_ := Aside0.mk (blk_below (g := gb370) (o := .cells #[.int .i64 t365, .int .i64 t366, .int .i64 t367, .int .i64 t368] 37 (0, 0)) (by (with_reducible repeat (first | refine blk_drewN ?_ _ | refine blk_drew ?_ | refine blk_alloc ?_ _)); refine blk_put (cs := #[.int .i64 t365, .int .i64 t366, .int .i64 t367, .int .i64 0]) ?_ 3 _ rfl; (with_reducible repeat (first | refine blk_drewN ?_ _ | refine blk_drew ?_ | refine blk_alloc ?_ _)); refine blk_put (cs := #[.int .i64 t365, .int .i64 t366, .int .i64 0, .int .i64 0]) ?_ 2 _ rfl; (with_reducible repeat (first | refine blk_drewN ?_ _ | refine blk_drew ?_ | refine blk_alloc ?_ _)); refine blk_put (cs := #[.int .i64 t365, .int .i64 0, .int .i64 0, .int .i64 0]) ?_ 1 _ rfl; (with_reducible repeat (first | refine blk_drewN ?_ _ | refine blk_drew ?_ | refine blk_alloc ?_ _)); refine blk_put (cs := #[.int .i64 0, .int .i64 0, .int .i64 0, .int .i64 0]) ?_ 0 _ rfl; (with_reducible repeat (first | refine blk_drewN ?_ _ | refine blk_drew ?_ | refine blk_alloc ?_ _)); exact BK370.out) hb); have n2_ := Aside0.mk (below_step (by repeat (first | (with_reducible first | exact HB.out | apply below_alloc | apply pw_below_drewN | apply below_drew1 | refine below_set ?_ GE364.out | refine below_set ?_ GE370.out) | exact HB.out)) hb); clear BK364; clear BK370; clear HB; have BK364 := n0_; have BK370 := n1_; have HB := n2_; clear n0_ n1_ n2_; (try clear hb); (try clear hb2); (try clear hk); (try clear hi)) | ((with_reducible refine gate_dst (N := 15) rfl ?_); refine box_event ?hg (N := 15) ?hd (cs := #[.int .i64 0, .int .i64 0, .int .i64 0, .int .i64 0]) (t := 37) ?hr ?_; (case hd => rfl); (case hg => rfl); (case hr => first | (go_simp; done) | (go_simp; rfl)); intro gb376 hg w23 hbox hb; have n0_ := Aside0.mk (blk_below (g := gb364) (o := .cells #[.int .i64 t359, .int .i64 t360, .int .i64 t361, .int .i64 t362] 37 (0, 0)) (by (with_reducible repeat (first | refine blk_drewN ?_ _ | refine blk_drew ?_ | refine blk_alloc ?_ _)); exact BK364.out) hb); have n1_ := Aside0.mk (blk_below (g := gb370) (o := .cells #[.int .i64 t365, .int .i64 t366, .int .i64 t367, .int .i64 t368] 37 (0, 0)) (by (with_reducible repeat (first | refine blk_drewN ?_ _ | refine blk_drew ?_ | refine blk_alloc ?_ _)); exact BK370.out) hb); have n2_ := Aside0.mk (below_step (by repeat (first | (with_reducible first | exact HB.out | apply below_alloc | apply pw_below_drewN | apply below_drew1 | refine below_set ?_ GE364.out | refine below_set ?_ GE370.out) | exact HB.out)) hb); have n3_ := Aside0.mk (hbox); have n4_ := Aside0.mk ((by rw [hg]; exact (below_size (by repeat (first | (with_reducible first | exact HB.out | apply below_alloc | apply pw_below_drewN | apply below_drew1 | refine below_set ?_ GE364.out | refine below_set ?_ GE370.out) | exact HB.out))) : w.heap.size ≤ gb376)); have n5_ := Aside0.mk ((by rw [hg]; exact (below_size (by repeat (first | (with_reducible first | exact HB.out | apply below_alloc | apply pw_below_drewN | apply below_drew1 | refine below_set ?_ GE364.out | refine below_set ?_ GE370.out) | exact HB.out))) : w.heap.size ≤ gb376)); have n6_ := Aside0.mk ((by rw [hg]; exact Nat.ne_of_lt (blk_lt (g := gb364) (o := .cells #[.int .i64 t359, .int .i64 t360, .int .i64 t361, .int .i64 t362] 37 (0, 0)) (by (with_reducible repeat (first | refine blk_drewN ?_ _ | refine blk_drew ?_ | refine blk_alloc ?_ _)); exact BK364.out)) : gb364 ≠ gb376)); have n7_ := Aside0.mk ((by rw [hg]; exact Nat.ne_of_gt (blk_lt (g := gb364) (o := .cells #[.int .i64 t359, .int .i64 t360, .int .i64 t361, .int .i64 t362] 37 (0, 0)) (by (with_reducible repeat (first | refine blk_drewN ?_ _ | refine blk_drew ?_ | refine blk_alloc ?_ _)); exact BK364.out)) : gb376 ≠ gb364)); have n8_ := Aside0.mk ((by rw [hg]; exact Nat.ne_of_lt (blk_lt (g := gb370) (o := .cells #[.int .i64 t365, .int .i64 t366, .int .i64 t367, .int .i64 t368] 37 (0, 0)) (by (with_reducible repeat (first | refine blk_drewN ?_ _ | refine blk_drew ?_ | refine blk_alloc ?_ _)); exact BK370.out)) : gb370 ≠ gb376)); have n9_ := Aside0.mk ((by rw [hg]; exact Nat.ne_of_gt (blk_lt (g := gb370) (o := .cells #[.int .i64 t365, .int .i64 t366, .int .i64 t367, .int .i64 t368] 37 (0, 0)) (by (with_reducible repeat (first | refine blk_drewN ?_ _ | refine blk_drew ?_ | refine blk_alloc ?_ _)); exact BK370.out)) : gb376 ≠ gb370)); clear BK364; clear BK370; clear HB; have BK364 := n0_; have BK370 := n1_; have HB := n2_; have BK376 := n3_; have GW376 := n4_; have GE376 := n5_; have NB364_376 := n6_; have NB376_364 := n7_; have NB370_376 := n8_; have NB376_370 := n9_; clear n0_ n1_ n2_ n3_ n4_ n5_ n6_ n7_ n8_ n9_; clear hb hbox hg; have hnb24 := NB376_364.out; have hnc24 := NB364_376.out; have hnb25 := NB376_370.out; have hnc25 := NB370_376.out; have hcz26_0 : w23.cell? ⟨gb376, 0, none⟩ = some (.int .i64 0) := (blk_cell BK376.out 0).trans rfl; have hcz26_1 : w23.cell? ⟨gb376, 1, none⟩ = some (.int .i64 0) := (blk_cell BK376.out 1).trans rfl; have hcz26_2 : w23.cell? ⟨gb376, 2, none⟩ = some (.int .i64 0) := (blk_cell BK376.out 2).trans rfl; have hcz26_3 : w23.cell? ⟨gb376, 3, none⟩ = some (.int .i64 0) := (blk_cell BK376.out 3).trans rfl; have hfz26_0 := blk_frozen BK376.out 0; have hfz26_1 := blk_frozen BK376.out 1; have hfz26_2 := blk_frozen BK376.out 2; have hfz26_3 := blk_frozen BK376.out 3; have hcz27_0 : w23.cell? ⟨gb364, 0, none⟩ = some (.int .i64 t359) := (blk_cell BK364.out 0).trans rfl; have hcz27_1 : w23.cell? ⟨gb364, 1, none⟩ = some (.int .i64 t360) := (blk_cell BK364.out 1).trans rfl; have hcz27_2 : w23.cell? ⟨gb364, 2, none⟩ = some (.int .i64 t361) := (blk_cell BK364.out 2).trans rfl; have hcz27_3 : w23.cell? ⟨gb364, 3, none⟩ = some (.int .i64 t362) := (blk_cell BK364.out 3).trans rfl; have hfz27_0 := blk_frozen BK364.out 0; have hfz27_1 := blk_frozen BK364.out 1; have hfz27_2 := blk_frozen BK364.out 2; have hfz27_3 := blk_frozen BK364.out 3) | ((with_reducible refine gate_callee (f := 38) rfl ?_); refine goesL_ (some 66) rfl rfl Try.func38 (by kernel_rfl) rfl #[.agg #[.int .i64 t359, .int .i64 t360, .int .i64 t361, .int .i64 t362], .int .i64 x4_6] rfl (by (try simp only [List.map_toArray, List.map_cons, List.map_nil]); first | done | rfl | (simp only [List.length_drop, List.length_take]; rfl)) ?_; (with_reducible refine (bucket_Fill.calls t359 t360 t361 t362 x4_6 t377 t378 t379 t380 t381 _ A14.out).mono ?_); rintro e w28 ⟨rfl, hb⟩; refine ⟨_, rfl, ?_⟩; have n0_ := Aside0.mk (blk_below (g := gb364) (o := .cells #[.int .i64 t359, .int .i64 t360, .int .i64 t361, .int .i64 t362] 37 (0, 0)) (by (with_reducible repeat (first | refine blk_drewN ?_ _ | refine blk_drew ?_ | refine blk_alloc ?_ _)); refine blk_far ?_ NB364_376.out _; (with_reducible repeat (first | refine blk_drewN ?_ _ | refine blk_drew ?_ | refine blk_alloc ?_ _)); refine blk_far ?_ NB364_376.out _; (with_reducible repeat (first | refine blk_drewN ?_ _ | refine blk_drew ?_ | refine blk_alloc ?_ _)); refine blk_far ?_ NB364_376.out _; (with_reducible repeat (first | refine blk_drewN ?_ _ | refine blk_drew ?_ | refine blk_alloc ?_ _)); refine blk_far ?_ NB364_376.out _; (with_reducible repeat (first | refine blk_drewN ?_ _ | refine blk_drew ?_ | refine blk_alloc ?_ _)); exact BK364.out) hb); have n1_ := Aside0.mk (blk_below (g := gb370) (o := .cells #[.int .i64 t365, .int .i64 t366, .int .i64 t367, .int .i64 t368] 37 (0, 0)) (by (with_reducible repeat (first | refine blk_drewN ?_ _ | refine blk_drew ?_ | refine blk_alloc ?_ _)); refine blk_far ?_ NB370_376.out _; (with_reducible repeat (first | refine blk_drewN ?_ _ | refine blk_drew ?_ | refine blk_alloc ?_ _)); refine blk_far ?_ NB370_376.out _; (with_reducible repeat (first | refine blk_drewN ?_ _ | refine blk_drew ?_ | refine blk_alloc ?_ _)); refine blk_far ?_ NB370_376.out _; (with_reducible repeat (first | refine blk_drewN ?_ _ | refine blk_drew ?_ | refine blk_alloc ?_ _)); refine blk_far ?_ NB370_376.out _; (with_reducible repeat (first | refine blk_drewN ?_ _ | refine blk_drew ?_ | refine blk_alloc ?_ _)); exact BK370.out) hb); have n2_ := Aside0.mk (blk_below (g := gb376) (o := .cells #[.int .i64 t371, .int .i64 t372, .int .i64 t373, .int .i64 t374] 37 (0, 0)) (by (with_reducible repeat (first | refine blk_drewN ?_ _ | refine blk_drew ?_ | refine blk_alloc ?_ _)); refine blk_put (cs := #[.int .i64 t371, .int .i64 t372, .int .i64 t373, .int .i64 0]) ?_ 3 _ rfl; (with_reducible repeat (first | refine blk_drewN ?_ _ | refine blk_drew ?_ | refine blk_alloc ?_ _)); refine blk_put (cs := #[.int .i64 t371, .int .i64 t372, .int .i64 0, .int .i64 0]) ?_ 2 _ rfl; (with_reducible repeat (first | refine blk_drewN ?_ _ | refine blk_drew ?_ | refine blk_alloc ?_ _)); refine blk_put (cs := #[.int .i64 t371, .int .i64 0, .int .i64 0, .int .i64 0]) ?_ 1 _ rfl; (with_reducible repeat (first | refine blk_drewN ?_ _ | refine blk_drew ?_ | refine blk_alloc ?_ _)); refine blk_put (cs := #[.int .i64 0, .int .i64 0, .int .i64 0, .int .i64 0]) ?_ 0 _ rfl; (with_reducible repeat (first | refine blk_drewN ?_ _ | refine blk_drew ?_ | refine blk_alloc ?_ _)); exact BK376.out) hb); have n3_ := Aside0.mk (below_step (by repeat (first | (with_reducible first | exact HB.out | apply below_alloc | apply pw_below_drewN | apply below_drew1 | refine below_set ?_ GE364.out | refine below_set ?_ GE370.out | refine below_set ?_ GE376.out) | exact HB.out)) hb); clear BK364; clear BK370; clear BK376; clear HB; have BK364 := n0_; have BK370 := n1_; have BK376 := n2_; have HB := n3_; clear n0_ n1_ n2_ n3_; (try clear hb); (try clear hb2); (try clear hk); (try clear hi)) | ((with_reducible refine gate_dst (N := 17) rfl ?_); refine box_event ?hg (N := 17) ?hd (cs := #[.int .i64 0, .int .i64 0, .int .i64 0, .int .i64 0]) (t := 37) ?hr ?_; (case hd => rfl); (case hg => rfl); (case hr => first | (go_simp; done) | (go_simp; rfl)); intro gb382 hg w29 hbox hb; have n0_ := Aside0.mk (blk_below (g := gb364) (o := .cells #[.int .i64 t359, .int .i64 t360, .int .i64 t361, .int .i64 t362] 37 (0, 0)) (by (with_reducible repeat (first | refine blk_drewN ?_ _ | refine blk_drew ?_ | refine blk_alloc ?_ _)); exact BK364.out) hb); have n1_ := Aside0.mk (blk_below (g := gb370) (o := .cells #[.int .i64 t365, .int .i64 t366, .int .i64 t367, .int .i64 t368] 37 (0, 0)) (by (with_reducible repeat (first | refine blk_drewN ?_ _ | refine blk_drew ?_ | refine blk_alloc ?_ _)); exact BK370.out) hb); have n2_ := Aside0.mk (blk_below (g := gb376) (o := .cells #[.int .i64 t371, .int .i64 t372, .int .i64 t373, .int .i64 t374] 37 (0, 0)) (by (with_reducible repeat (first | refine blk_drewN ?_ _ | refine blk_drew ?_ | refine blk_alloc ?_ _)); exact BK376.out) hb); have n3_ := Aside0.mk (below_step (by repeat (first | (with_reducible first | exact HB.out | apply below_alloc | apply pw_below_drewN | apply below_drew1 | refine below_set ?_ GE364.out | refine below_set ?_ GE370.out | refine below_set ?_ GE376.out) | exact HB.out)) hb); have n4_ := Aside0.mk (hbox); have n5_ := Aside0.mk ((by rw [hg]; exact (below_size (by repeat (first | (with_reducible first | exact HB.out | apply below_alloc | apply pw_below_drewN | apply below_drew1 | refine below_set ?_ GE364.out | refine below_set ?_ GE370.out | refine below_set ?_ GE376.out) | exact HB.out))) : w.heap.size ≤ gb382)); have n6_ := Aside0.mk ((by rw [hg]; exact (below_size (by repeat (first | (with_reducible first | exact HB.out | apply below_alloc | apply pw_below_drewN | apply below_drew1 | refine below_set ?_ GE364.out | refine below_set ?_ GE370.out | refine below_set ?_ GE376.out) | exact HB.out))) : w.heap.size ≤ gb382)); have n7_ := Aside0.mk ((by rw [hg]; exact Nat.ne_of_lt (blk_lt (g := gb364) (o := .cells #[.int .i64 t359, .int .i64 t360, .int .i64 t361, .int .i64 t362] 37 (0, 0)) (by (with_reducible repeat (first | refine blk_drewN ?_ _ | refine blk_drew ?_ | refine blk_alloc ?_ _)); exact BK364.out)) : gb364 ≠ gb382)); have n8_ := Aside0.mk ((by rw [hg]; exact Nat.ne_of_gt (blk_lt (g := gb364) (o := .cells #[.int .i64 t359, .int .i64 t360, .int .i64 t361, .int .i64 t362] 37 (0, 0)) (by (with_reducible repeat (first | refine blk_drewN ?_ _ | refine blk_drew ?_ | refine blk_alloc ?_ _)); exact BK364.out)) : gb382 ≠ gb364)); have n9_ := Aside0.mk ((by rw [hg]; exact Nat.ne_of_lt (blk_lt (g := gb370) (o := .cells #[.int .i64 t365, .int .i64 t366, .int .i64 t367, .int .i64 t368] 37 (0, 0)) (by (with_reducible repeat (first | refine blk_drewN ?_ _ | refine blk_drew ?_ | refine blk_alloc ?_ _)); exact BK370.out)) : gb370 ≠ gb382)); have n10_ := Aside0.mk ((by rw [hg]; exact Nat.ne_of_gt (blk_lt (g := gb370) (o := .cells #[.int .i64 t365, .int .i64 t366, .int .i64 t367, .int .i64 t368] 37 (0, 0)) (by (with_reducible repeat (first | refine blk_drewN ?_ _ | refine blk_drew ?_ | refine blk_alloc ?_ _)); exact BK370.out)) : gb382 ≠ gb370)); have n11_ := Aside0.mk ((by rw [hg]; exact Nat.ne_of_lt (blk_lt (g := gb376) (o := .cells #[.int .i64 t371, .int .i64 t372, .int .i64 t373, .int .i64 t374] 37 (0, 0)) (by (with_reducible repeat (first | refine blk_drewN ?_ _ | refine blk_drew ?_ | refine blk_alloc ?_ _)); exact BK376.out)) : gb376 ≠ gb382)); have n12_ := Aside0.mk ((by rw [hg]; exact Nat.ne_of_gt (blk_lt (g := gb376) (o := .cells #[.int .i64 t371, .int .i64 t372, .int .i64 t373, .int .i64 t374] 37 (0, 0)) (by (with_reducible repeat (first | refine blk_drewN ?_ _ | refine blk_drew ?_ | refine blk_alloc ?_ _)); exact BK376.out)) : gb382 ≠ gb376)); clear BK364; clear BK370; clear BK376; clear HB; have BK364 := n0_; have BK370 := n1_; have BK376 := n2_; have HB := n3_; have BK382 := n4_; have GW382 := n5_; have GE382 := n6_; have NB364_382 := n7_; have NB382_364 := n8_; have NB370_382 := n9_; have NB382_370 := n10_; have NB376_382 := n11_; have NB382_376 := n12_; clear n0_ n1_ n2_ n3_ n4_ n5_ n6_ n7_ n8_ n9_ n10_ n11_ n12_; clear hb hbox hg; have hnb30 := NB382_364.out; have hnc30 := NB364_382.out; have hnb31 := NB382_370.out; have hnc31 := NB370_382.out; have hnb32 := NB382_376.out; have hnc32 := NB376_382.out; have hcz33_0 : w29.cell? ⟨gb382, 0, none⟩ = some (.int .i64 0) := (blk_cell BK382.out 0).trans rfl; have hcz33_1 : w29.cell? ⟨gb382, 1, none⟩ = some (.int .i64 0) := (blk_cell BK382.out 1).trans rfl; have hcz33_2 : w29.cell? ⟨gb382, 2, none⟩ = some (.int .i64 0) := (blk_cell BK382.out 2).trans rfl; have hcz33_3 : w29.cell? ⟨gb382, 3, none⟩ = some (.int .i64 0) := (blk_cell BK382.out 3).trans rfl; have hfz33_0 := blk_frozen BK382.out 0; have hfz33_1 := blk_frozen BK382.out 1; have hfz33_2 := blk_frozen BK382.out 2; have hfz33_3 := blk_frozen BK382.out 3; have hcz34_0 : w29.cell? ⟨gb370, 0, none⟩ = some (.int .i64 t365) := (blk_cell BK370.out 0).trans rfl; have hcz34_1 : w29.cell? ⟨gb370, 1, none⟩ = some (.int .i64 t366) := (blk_cell BK370.out 1).trans rfl; have hcz34_2 : w29.cell? ⟨gb370, 2, none⟩ = some (.int .i64 t367) := (blk_cell BK370.out 2).trans rfl; have hcz34_3 : w29.cell? ⟨gb370, 3, none⟩ = some (.int .i64 t368) := (blk_cell BK370.out 3).trans rfl; have hfz34_0 := blk_frozen BK370.out 0; have hfz34_1 := blk_frozen BK370.out 1; have hfz34_2 := blk_frozen BK370.out 2; have hfz34_3 := blk_frozen BK370.out 3) | ((with_reducible refine gate_callee (f := 39) rfl ?_); refine goesL_ (some 72) rfl rfl Try.func39 (by kernel_rfl) rfl #[.agg #[.int .i64 t365, .int .i64 t366, .int .i64 t367, .int .i64 t368], .int .i64 x3_6] rfl (by (try simp only [List.map_toArray, List.map_cons, List.map_nil]); first | done | rfl | (simp only [List.length_drop, List.length_take]; rfl)) ?_; (with_reducible refine (bucket_Next.calls t365 t366 t367 t368 x3_6 t383 t384 _ A15.out).mono ?_); rintro e w35 ⟨rfl, hb⟩; refine ⟨_, rfl, ?_⟩; have n0_ := Aside0.mk (blk_below (g := gb364) (o := .cells #[.int .i64 t359, .int .i64 t360, .int .i64 t361, .int .i64 t362] 37 (0, 0)) (by (with_reducible repeat (first | refine blk_drewN ?_ _ | refine blk_drew ?_ | refine blk_alloc ?_ _)); refine blk_far ?_ NB364_382.out _; (with_reducible repeat (first | refine blk_drewN ?_ _ | refine blk_drew ?_ | refine blk_alloc ?_ _)); refine blk_far ?_ NB364_382.out _; (with_reducible repeat (first | refine blk_drewN ?_ _ | refine blk_drew ?_ | refine blk_alloc ?_ _)); refine blk_far ?_ NB364_382.out _; (with_reducible repeat (first | refine blk_drewN ?_ _ | refine blk_drew ?_ | refine blk_alloc ?_ _)); refine blk_far ?_ NB364_382.out _; (with_reducible repeat (first | refine blk_drewN ?_ _ | refine blk_drew ?_ | refine blk_alloc ?_ _)); exact BK364.out) hb); have n1_ := Aside0.mk (blk_below (g := gb370) (o := .cells #[.int .i64 t365, .int .i64 t366, .int .i64 t367, .int .i64 t368] 37 (0, 0)) (by (with_reducible repeat (first | refine blk_drewN ?_ _ | refine blk_drew ?_ | refine blk_alloc ?_ _)); refine blk_far ?_ NB370_382.out _; (with_reducible repeat (first | refine blk_drewN ?_ _ | refine blk_drew ?_ | refine blk_alloc ?_ _)); refine blk_far ?_ NB370_382.out _; (with_reducible repeat (first | refine blk_drewN ?_ _ | refine blk_drew ?_ | refine blk_alloc ?_ _)); refine blk_far ?_ NB370_382.out _; (with_reducible repeat (first | refine blk_drewN ?_ _ | refine blk_drew ?_ | refine blk_alloc ?_ _)); refine blk_far ?_ NB370_382.out _; (with_reducible repeat (first | refine blk_drewN ?_ _ | refine blk_drew ?_ | refine blk_alloc ?_ _)); exact BK370.out) hb); have n2_ := Aside0.mk (blk_below (g := gb376) (o := .cells #[.int .i64 t371, .int .i64 t372, .int .i64 t373, .int .i64 t374] 37 (0, 0)) (by (with_reducible repeat (first | refine blk_drewN ?_ _ | refine blk_drew ?_ | refine blk_alloc ?_ _)); refine blk_far ?_ NB376_382.out _; (with_reducible repeat (first | refine blk_drewN ?_ _ | refine blk_drew ?_ | refine blk_alloc ?_ _)); refine blk_far ?_ NB376_382.out _; (with_reducible repeat (first | refine blk_drewN ?_ _ | refine blk_drew ?_ | refine blk_alloc ?_ _)); refine blk_far ?_ NB376_382.out _; (with_reducible repeat (first | refine blk_drewN ?_ _ | refine blk_drew ?_ | refine blk_alloc ?_ _)); refine blk_far ?_ NB376_382.out _; (with_reducible repeat (first | refine blk_drewN ?_ _ | refine blk_drew ?_ | refine blk_alloc ?_ _)); exact BK376.out) hb); have n3_ := Aside0.mk (blk_below (g := gb382) (o := .cells #[.int .i64 t377, .int .i64 t378, .int .i64 t379, .int .i64 t380] 37 (0, 0)) (by (with_reducible repeat (first | refine blk_drewN ?_ _ | refine blk_drew ?_ | refine blk_alloc ?_ _)); refine blk_put (cs := #[.int .i64 t377, .int .i64 t378, .int .i64 t379, .int .i64 0]) ?_ 3 _ rfl; (with_reducible repeat (first | refine blk_drewN ?_ _ | refine blk_drew ?_ | refine blk_alloc ?_ _)); refine blk_put (cs := #[.int .i64 t377, .int .i64 t378, .int .i64 0, .int .i64 0]) ?_ 2 _ rfl; (with_reducible repeat (first | refine blk_drewN ?_ _ | refine blk_drew ?_ | refine blk_alloc ?_ _)); refine blk_put (cs := #[.int .i64 t377, .int .i64 0, .int .i64 0, .int .i64 0]) ?_ 1 _ rfl; (with_reducible repeat (first | refine blk_drewN ?_ _ | refine blk_drew ?_ | refine blk_alloc ?_ _)); refine blk_put (cs := #[.int .i64 0, .int .i64 0, .int .i64 0, .int .i64 0]) ?_ 0 _ rfl; (with_reducible repeat (first | refine blk_drewN ?_ _ | refine blk_drew ?_ | refine blk_alloc ?_ _)); exact BK382.out) hb); have n4_ := Aside0.mk (below_step (by repeat (first | (with_reducible first | exact HB.out | apply below_alloc | apply pw_below_drewN | apply below_drew1 | refine below_set ?_ GE364.out | refine below_set ?_ GE370.out | refine below_set ?_ GE376.out | refine below_set ?_ GE382.out) | exact HB.out)) hb); clear BK364; clear BK370; clear BK376; clear BK382; clear HB; have BK364 := n0_; have BK370 := n1_; have BK376 := n2_; have BK382 := n3_; have HB := n4_; clear n0_ n1_ n2_ n3_ n4_; (try clear hb); (try clear hb2); (try clear hk); (try clear hi)))
      (try simp only [Act.put, List.setIfInBounds_toArray, List.set_cons_zero, List.set_cons_succ])
      go_cut [106] (fun v106 wc => ∃ (kq : Nat) (x106_15 : Bool), v106 = .bool x106_15 ∧ Aside0 (foghornlaw08_BucketParts.j1 kq x3_6 x4_6 t383 x106_15 t365 t366 t367 t368 t371 t372 t373 t374 = some r) ∧ Aside0 (kq ≤ kj6) ∧ Aside0 (wc.heap[gb364]? = some (.cells #[.int .i64 t359, .int .i64 t360, .int .i64 t361, .int .i64 t362] 37 (0, 0))) ∧ Aside0 (wc.heap[gb370]? = some (.cells #[.int .i64 t365, .int .i64 t366, .int .i64 t367, .int .i64 t368] 37 (0, 0))) ∧ Aside0 (wc.heap[gb376]? = some (.cells #[.int .i64 t371, .int .i64 t372, .int .i64 t373, .int .i64 t374] 37 (0, 0))) ∧ Aside0 (wc.heap[gb382]? = some (.cells #[.int .i64 t377, .int .i64 t378, .int .i64 t379, .int .i64 t380] 37 (0, 0))) ∧ Aside0 (Below w.heap.size w wc))
      case first =>
        have H := HC16.out
        clear HC16
        by_cases c36 : t363 = true
        · subst c36
          have H1 : (if t369 = 0 then (if t375 = 0 then (if t381 = 0 then (if t384 = 0 then (if (!(t371 == t377) || (!(t372 == t378) || (!(t373 == t379) || (!(t374 == t380))))) = true then (foghornlaw08_BucketParts.j1 kj6 x3_6 x4_6 t383 true t365 t366 t367 t368 t371 t372 t373 t374) else (if t383 < x3_6 then (foghornlaw08_BucketParts.j1 kj6 x3_6 x4_6 t383 true t365 t366 t367 t368 t371 t372 t373 t374) else ((foghornlaw08_alive.f).bind fun t385 => (foghornlaw08_BucketParts.j1 kj6 x3_6 x4_6 t383 (!t385) t365 t366 t367 t368 t371 t372 t373 t374)))) else (foghornlaw08_BucketParts.j1 kj6 x3_6 x4_6 t383 true t365 t366 t367 t368 t371 t372 t373 t374)) else (foghornlaw08_BucketParts.j1 kj6 x3_6 x4_6 t383 true t365 t366 t367 t368 t371 t372 t373 t374)) else (foghornlaw08_BucketParts.j1 kj6 x3_6 x4_6 t383 true t365 t366 t367 t368 t371 t372 t373 t374)) else (foghornlaw08_BucketParts.j1 kj6 x3_6 x4_6 t383 true t365 t366 t367 t368 t371 t372 t373 t374)) = some r := by rw [if_pos rfl] at H; exact H
          clear H
          have H := H1
          clear H1
          by_cases c37 : t369 = 0
          · rw [if_pos c37] at H
            have c37b0 : (t369 == 0) = true := beq_iff_eq.mpr c37
            have c37b1 : (t369 != 0) = false := bne_eq_false_iff_eq.mpr c37
            clear c37
            (first | rw [c37b0] | (simp only [i64_w, i32_w]; rw [c37b0]) | skip)
            by_cases c38 : t375 = 0
            · rw [if_pos c38] at H
              have c38b0 : (t375 == 0) = true := beq_iff_eq.mpr c38
              have c38b1 : (t375 != 0) = false := bne_eq_false_iff_eq.mpr c38
              clear c38
              by_cases c39 : t381 = 0
              · rw [if_pos c39] at H
                have c39b0 : (t381 == 0) = true := beq_iff_eq.mpr c39
                have c39b1 : (t381 != 0) = false := bne_eq_false_iff_eq.mpr c39
                clear c39
                by_cases c40 : t384 = 0
                · rw [if_pos c40] at H
                  have c40b0 : (t384 == 0) = true := beq_iff_eq.mpr c40
                  have c40b1 : (t384 != 0) = false := bne_eq_false_iff_eq.mpr c40
                  clear c40
                  by_cases c41 : (!(t371 == t377) || (!(t372 == t378) || (!(t373 == t379) || (!(t374 == t380))))) = true
                  · rw [if_pos c41] at H
                    have c41b0 : (!(t371 == t377) || (!(t372 == t378) || (!(t373 == t379) || (!(t374 == t380))))) = true := c41
                    clear c41
                    have H' := Aside0.mk H
                    clear H
                    have hnb42 := NB376_364.out
                    have hnc42 := NB364_376.out
                    have hnb43 := NB376_370.out
                    have hnc43 := NB370_376.out
                    have hnb44 := NB376_382.out
                    have hnc44 := NB382_376.out
                    have hcz45_0 : w35.cell? ⟨gb376, 0, none⟩ = some (.int .i64 t371) := (blk_cell BK376.out 0).trans rfl
                    have hcz45_1 : w35.cell? ⟨gb376, 1, none⟩ = some (.int .i64 t372) := (blk_cell BK376.out 1).trans rfl
                    have hcz45_2 : w35.cell? ⟨gb376, 2, none⟩ = some (.int .i64 t373) := (blk_cell BK376.out 2).trans rfl
                    have hcz45_3 : w35.cell? ⟨gb376, 3, none⟩ = some (.int .i64 t374) := (blk_cell BK376.out 3).trans rfl
                    have hfz45_0 := blk_frozen BK376.out 0
                    have hfz45_1 := blk_frozen BK376.out 1
                    have hfz45_2 := blk_frozen BK376.out 2
                    have hfz45_3 := blk_frozen BK376.out 3
                    have hnb46 := NB382_364.out
                    have hnc46 := NB364_382.out
                    have hnb47 := NB382_370.out
                    have hnc47 := NB370_382.out
                    have hcz48_0 : w35.cell? ⟨gb382, 0, none⟩ = some (.int .i64 t377) := (blk_cell BK382.out 0).trans rfl
                    have hcz48_1 : w35.cell? ⟨gb382, 1, none⟩ = some (.int .i64 t378) := (blk_cell BK382.out 1).trans rfl
                    have hcz48_2 : w35.cell? ⟨gb382, 2, none⟩ = some (.int .i64 t379) := (blk_cell BK382.out 2).trans rfl
                    have hcz48_3 : w35.cell? ⟨gb382, 3, none⟩ = some (.int .i64 t380) := (blk_cell BK382.out 3).trans rfl
                    have hfz48_0 := blk_frozen BK382.out 0
                    have hfz48_1 := blk_frozen BK382.out 1
                    have hfz48_2 := blk_frozen BK382.out 2
                    have hfz48_3 := blk_frozen BK382.out 3
                    go_wp2
                    go_meet
                    case rel => exact ⟨_, (true), (by first | rfl | (simp; done) | (simp [*]; done)), H', ⟨by have := HJ6.out; first | omega | exact Nat.le_refl _⟩, ⟨by (with_reducible repeat (first | refine blk_drewN ?_ _ | refine blk_drew ?_ | refine blk_alloc ?_ _)); exact BK364.out⟩, ⟨by (with_reducible repeat (first | refine blk_drewN ?_ _ | refine blk_drew ?_ | refine blk_alloc ?_ _)); exact BK370.out⟩, ⟨by (with_reducible repeat (first | refine blk_drewN ?_ _ | refine blk_drew ?_ | refine blk_alloc ?_ _)); exact BK376.out⟩, ⟨by (with_reducible repeat (first | refine blk_drewN ?_ _ | refine blk_drew ?_ | refine blk_alloc ?_ _)); exact BK382.out⟩, ⟨by repeat (first | (with_reducible first | exact HB.out | apply below_alloc | apply pw_below_drewN | apply below_drew1 | refine below_set ?_ GE364.out | refine below_set ?_ GE370.out | refine below_set ?_ GE376.out | refine below_set ?_ GE382.out) | exact HB.out)⟩⟩
                  · rw [if_neg c41] at H
                    have c41b0 : (!(t371 == t377) || (!(t372 == t378) || (!(t373 == t379) || (!(t374 == t380))))) = false := by simpa using c41
                    clear c41
                    by_cases c49 : t383 < x3_6
                    · rw [if_pos c49] at H
                      have c49b0 : decide (t383 < x3_6) = true := decide_eq_true c49
                      clear c49
                      have H' := Aside0.mk H
                      clear H
                      have hnb50 := NB376_364.out
                      have hnc50 := NB364_376.out
                      have hnb51 := NB376_370.out
                      have hnc51 := NB370_376.out
                      have hnb52 := NB376_382.out
                      have hnc52 := NB382_376.out
                      have hcz53_0 : w35.cell? ⟨gb376, 0, none⟩ = some (.int .i64 t371) := (blk_cell BK376.out 0).trans rfl
                      have hcz53_1 : w35.cell? ⟨gb376, 1, none⟩ = some (.int .i64 t372) := (blk_cell BK376.out 1).trans rfl
                      have hcz53_2 : w35.cell? ⟨gb376, 2, none⟩ = some (.int .i64 t373) := (blk_cell BK376.out 2).trans rfl
                      have hcz53_3 : w35.cell? ⟨gb376, 3, none⟩ = some (.int .i64 t374) := (blk_cell BK376.out 3).trans rfl
                      have hfz53_0 := blk_frozen BK376.out 0
                      have hfz53_1 := blk_frozen BK376.out 1
                      have hfz53_2 := blk_frozen BK376.out 2
                      have hfz53_3 := blk_frozen BK376.out 3
                      have hnb54 := NB382_364.out
                      have hnc54 := NB364_382.out
                      have hnb55 := NB382_370.out
                      have hnc55 := NB370_382.out
                      have hcz56_0 : w35.cell? ⟨gb382, 0, none⟩ = some (.int .i64 t377) := (blk_cell BK382.out 0).trans rfl
                      have hcz56_1 : w35.cell? ⟨gb382, 1, none⟩ = some (.int .i64 t378) := (blk_cell BK382.out 1).trans rfl
                      have hcz56_2 : w35.cell? ⟨gb382, 2, none⟩ = some (.int .i64 t379) := (blk_cell BK382.out 2).trans rfl
                      have hcz56_3 : w35.cell? ⟨gb382, 3, none⟩ = some (.int .i64 t380) := (blk_cell BK382.out 3).trans rfl
                      have hfz56_0 := blk_frozen BK382.out 0
                      have hfz56_1 := blk_frozen BK382.out 1
                      have hfz56_2 := blk_frozen BK382.out 2
                      have hfz56_3 := blk_frozen BK382.out 3
                      go_wp2
                      go_meet
                      case rel => exact ⟨_, (true), (by first | rfl | (simp; done) | (simp [*]; done)), H', ⟨by have := HJ6.out; first | omega | exact Nat.le_refl _⟩, ⟨by (with_reducible repeat (first | refine blk_drewN ?_ _ | refine blk_drew ?_ | refine blk_alloc ?_ _)); exact BK364.out⟩, ⟨by (with_reducible repeat (first | refine blk_drewN ?_ _ | refine blk_drew ?_ | refine blk_alloc ?_ _)); exact BK370.out⟩, ⟨by (with_reducible repeat (first | refine blk_drewN ?_ _ | refine blk_drew ?_ | refine blk_alloc ?_ _)); exact BK376.out⟩, ⟨by (with_reducible repeat (first | refine blk_drewN ?_ _ | refine blk_drew ?_ | refine blk_alloc ?_ _)); exact BK382.out⟩, ⟨by repeat (first | (with_reducible first | exact HB.out | apply below_alloc | apply pw_below_drewN | apply below_drew1 | refine below_set ?_ GE364.out | refine below_set ?_ GE370.out | refine below_set ?_ GE376.out | refine below_set ?_ GE382.out) | exact HB.out)⟩⟩
                    · rw [if_neg c49] at H
                      have c49b0 : decide (t383 < x3_6) = false := decide_eq_false c49
                      clear c49
                      replace H := Option.bind_eq_some_iff.mp H
                      obtain ⟨t385, A570, H⟩ := H
                      replace H : (foghornlaw08_BucketParts.j1 kj6 x3_6 x4_6 t383 (!t385) t365 t366 t367 t368 t371 t372 t373 t374) = some r := H
                      have A57 := Aside0.mk A570
                      clear A570
                      have H' := Aside0.mk H
                      clear H
                      have hnb58 := NB376_364.out
                      have hnc58 := NB364_376.out
                      have hnb59 := NB376_370.out
                      have hnc59 := NB370_376.out
                      have hnb60 := NB376_382.out
                      have hnc60 := NB382_376.out
                      have hcz61_0 : w35.cell? ⟨gb376, 0, none⟩ = some (.int .i64 t371) := (blk_cell BK376.out 0).trans rfl
                      have hcz61_1 : w35.cell? ⟨gb376, 1, none⟩ = some (.int .i64 t372) := (blk_cell BK376.out 1).trans rfl
                      have hcz61_2 : w35.cell? ⟨gb376, 2, none⟩ = some (.int .i64 t373) := (blk_cell BK376.out 2).trans rfl
                      have hcz61_3 : w35.cell? ⟨gb376, 3, none⟩ = some (.int .i64 t374) := (blk_cell BK376.out 3).trans rfl
                      have hfz61_0 := blk_frozen BK376.out 0
                      have hfz61_1 := blk_frozen BK376.out 1
                      have hfz61_2 := blk_frozen BK376.out 2
                      have hfz61_3 := blk_frozen BK376.out 3
                      have hnb62 := NB382_364.out
                      have hnc62 := NB364_382.out
                      have hnb63 := NB382_370.out
                      have hnc63 := NB370_382.out
                      have hcz64_0 : w35.cell? ⟨gb382, 0, none⟩ = some (.int .i64 t377) := (blk_cell BK382.out 0).trans rfl
                      have hcz64_1 : w35.cell? ⟨gb382, 1, none⟩ = some (.int .i64 t378) := (blk_cell BK382.out 1).trans rfl
                      have hcz64_2 : w35.cell? ⟨gb382, 2, none⟩ = some (.int .i64 t379) := (blk_cell BK382.out 2).trans rfl
                      have hcz64_3 : w35.cell? ⟨gb382, 3, none⟩ = some (.int .i64 t380) := (blk_cell BK382.out 3).trans rfl
                      have hfz64_0 := blk_frozen BK382.out 0
                      have hfz64_1 := blk_frozen BK382.out 1
                      have hfz64_2 := blk_frozen BK382.out 2
                      have hfz64_3 := blk_frozen BK382.out 3
                      go_wp2_with (first | (go_at_call 25; (with_reducible refine (foghornlaw08_alive.calls  t385 _ A57.out).mono ?_); rintro e w65 ⟨rfl, hb⟩; have n0_ := Aside0.mk (blk_below (g := gb364) (o := .cells #[.int .i64 t359, .int .i64 t360, .int .i64 t361, .int .i64 t362] 37 (0, 0)) (by (with_reducible repeat (first | refine blk_drewN ?_ _ | refine blk_drew ?_ | refine blk_alloc ?_ _)); exact BK364.out) hb); have n1_ := Aside0.mk (blk_below (g := gb370) (o := .cells #[.int .i64 t365, .int .i64 t366, .int .i64 t367, .int .i64 t368] 37 (0, 0)) (by (with_reducible repeat (first | refine blk_drewN ?_ _ | refine blk_drew ?_ | refine blk_alloc ?_ _)); exact BK370.out) hb); have n2_ := Aside0.mk (blk_below (g := gb376) (o := .cells #[.int .i64 t371, .int .i64 t372, .int .i64 t373, .int .i64 t374] 37 (0, 0)) (by (with_reducible repeat (first | refine blk_drewN ?_ _ | refine blk_drew ?_ | refine blk_alloc ?_ _)); exact BK376.out) hb); have n3_ := Aside0.mk (blk_below (g := gb382) (o := .cells #[.int .i64 t377, .int .i64 t378, .int .i64 t379, .int .i64 t380] 37 (0, 0)) (by (with_reducible repeat (first | refine blk_drewN ?_ _ | refine blk_drew ?_ | refine blk_alloc ?_ _)); exact BK382.out) hb); have n4_ := Aside0.mk (below_step (by repeat (first | (with_reducible first | exact HB.out | apply below_alloc | apply pw_below_drewN | apply below_drew1 | refine below_set ?_ GE364.out | refine below_set ?_ GE370.out | refine below_set ?_ GE376.out | refine below_set ?_ GE382.out) | exact HB.out)) hb); clear BK364; clear BK370; clear BK376; clear BK382; clear HB; have BK364 := n0_; have BK370 := n1_; have BK376 := n2_; have BK382 := n3_; have HB := n4_; clear n0_ n1_ n2_ n3_ n4_; (try clear hb); (try clear hb2); (try clear hk); (try clear hi)))
                      go_meet
                      case rel => exact ⟨_, (!t385), (by first | rfl | (simp; done) | (simp [*]; done)), H', ⟨by have := HJ6.out; first | omega | exact Nat.le_refl _⟩, ⟨by (with_reducible repeat (first | refine blk_drewN ?_ _ | refine blk_drew ?_ | refine blk_alloc ?_ _)); exact BK364.out⟩, ⟨by (with_reducible repeat (first | refine blk_drewN ?_ _ | refine blk_drew ?_ | refine blk_alloc ?_ _)); exact BK370.out⟩, ⟨by (with_reducible repeat (first | refine blk_drewN ?_ _ | refine blk_drew ?_ | refine blk_alloc ?_ _)); exact BK376.out⟩, ⟨by (with_reducible repeat (first | refine blk_drewN ?_ _ | refine blk_drew ?_ | refine blk_alloc ?_ _)); exact BK382.out⟩, ⟨by repeat (first | (with_reducible first | exact HB.out | apply below_alloc | apply pw_below_drewN | apply below_drew1 | refine below_set ?_ GE364.out | refine below_set ?_ GE370.out | refine below_set ?_ GE376.out | refine below_set ?_ GE382.out) | exact HB.out)⟩⟩
                · rw [if_neg c40] at H
                  have c40b0 : (t384 == 0) = false := beq_eq_false_iff_ne.mpr c40
                  have c40b1 : (t384 != 0) = true := bne_iff_ne.mpr c40
                  have H' := Aside0.mk H
                  clear H
                  go_wp2
                  go_meet
                  case rel => exact ⟨_, (true), (by first | rfl | (simp; done) | (simp [*]; done)), H', ⟨by have := HJ6.out; first | omega | exact Nat.le_refl _⟩, ⟨by (with_reducible repeat (first | refine blk_drewN ?_ _ | refine blk_drew ?_ | refine blk_alloc ?_ _)); exact BK364.out⟩, ⟨by (with_reducible repeat (first | refine blk_drewN ?_ _ | refine blk_drew ?_ | refine blk_alloc ?_ _)); exact BK370.out⟩, ⟨by (with_reducible repeat (first | refine blk_drewN ?_ _ | refine blk_drew ?_ | refine blk_alloc ?_ _)); exact BK376.out⟩, ⟨by (with_reducible repeat (first | refine blk_drewN ?_ _ | refine blk_drew ?_ | refine blk_alloc ?_ _)); exact BK382.out⟩, ⟨by repeat (first | (with_reducible first | exact HB.out | apply below_alloc | apply pw_below_drewN | apply below_drew1 | refine below_set ?_ GE364.out | refine below_set ?_ GE370.out | refine below_set ?_ GE376.out | refine below_set ?_ GE382.out) | exact HB.out)⟩⟩
              · rw [if_neg c39] at H
                have c39b0 : (t381 == 0) = false := beq_eq_false_iff_ne.mpr c39
                have c39b1 : (t381 != 0) = true := bne_iff_ne.mpr c39
                have H' := Aside0.mk H
                clear H
                go_wp2
                go_meet
                case rel => exact ⟨_, (true), (by first | rfl | (simp; done) | (simp [*]; done)), H', ⟨by have := HJ6.out; first | omega | exact Nat.le_refl _⟩, ⟨by (with_reducible repeat (first | refine blk_drewN ?_ _ | refine blk_drew ?_ | refine blk_alloc ?_ _)); exact BK364.out⟩, ⟨by (with_reducible repeat (first | refine blk_drewN ?_ _ | refine blk_drew ?_ | refine blk_alloc ?_ _)); exact BK370.out⟩, ⟨by (with_reducible repeat (first | refine blk_drewN ?_ _ | refine blk_drew ?_ | refine blk_alloc ?_ _)); exact BK376.out⟩, ⟨by (with_reducible repeat (first | refine blk_drewN ?_ _ | refine blk_drew ?_ | refine blk_alloc ?_ _)); exact BK382.out⟩, ⟨by repeat (first | (with_reducible first | exact HB.out | apply below_alloc | apply pw_below_drewN | apply below_drew1 | refine below_set ?_ GE364.out | refine below_set ?_ GE370.out | refine below_set ?_ GE376.out | refine below_set ?_ GE382.out) | exact HB.out)⟩⟩
            · rw [if_neg c38] at H
              have c38b0 : (t375 == 0) = false := beq_eq_false_iff_ne.mpr c38
              have c38b1 : (t375 != 0) = true := bne_iff_ne.mpr c38
              have H' := Aside0.mk H
              clear H
              go_wp2
              go_meet
              case rel => exact ⟨_, (true), (by first | rfl | (simp; done) | (simp [*]; done)), H', ⟨by have := HJ6.out; first | omega | exact Nat.le_refl _⟩, ⟨by (with_reducible repeat (first | refine blk_drewN ?_ _ | refine blk_drew ?_ | refine blk_alloc ?_ _)); exact BK364.out⟩, ⟨by (with_reducible repeat (first | refine blk_drewN ?_ _ | refine blk_drew ?_ | refine blk_alloc ?_ _)); exact BK370.out⟩, ⟨by (with_reducible repeat (first | refine blk_drewN ?_ _ | refine blk_drew ?_ | refine blk_alloc ?_ _)); exact BK376.out⟩, ⟨by (with_reducible repeat (first | refine blk_drewN ?_ _ | refine blk_drew ?_ | refine blk_alloc ?_ _)); exact BK382.out⟩, ⟨by repeat (first | (with_reducible first | exact HB.out | apply below_alloc | apply pw_below_drewN | apply below_drew1 | refine below_set ?_ GE364.out | refine below_set ?_ GE370.out | refine below_set ?_ GE376.out | refine below_set ?_ GE382.out) | exact HB.out)⟩⟩
          · rw [if_neg c37] at H
            have c37b0 : (t369 == 0) = false := beq_eq_false_iff_ne.mpr c37
            have c37b1 : (t369 != 0) = true := bne_iff_ne.mpr c37
            (first | rw [c37b0] | (simp only [i64_w, i32_w]; rw [c37b0]) | skip)
            have H' := Aside0.mk H
            clear H
            go_wp2
            go_meet
            case rel => exact ⟨_, (true), (by first | rfl | (simp; done) | (simp [*]; done)), H', ⟨by have := HJ6.out; first | omega | exact Nat.le_refl _⟩, ⟨by (with_reducible repeat (first | refine blk_drewN ?_ _ | refine blk_drew ?_ | refine blk_alloc ?_ _)); exact BK364.out⟩, ⟨by (with_reducible repeat (first | refine blk_drewN ?_ _ | refine blk_drew ?_ | refine blk_alloc ?_ _)); exact BK370.out⟩, ⟨by (with_reducible repeat (first | refine blk_drewN ?_ _ | refine blk_drew ?_ | refine blk_alloc ?_ _)); exact BK376.out⟩, ⟨by (with_reducible repeat (first | refine blk_drewN ?_ _ | refine blk_drew ?_ | refine blk_alloc ?_ _)); exact BK382.out⟩, ⟨by repeat (first | (with_reducible first | exact HB.out | apply below_alloc | apply pw_below_drewN | apply below_drew1 | refine below_set ?_ GE364.out | refine below_set ?_ GE370.out | refine below_set ?_ GE376.out | refine below_set ?_ GE382.out) | exact HB.out)⟩⟩
        · replace c36 := Bool.eq_false_iff.mpr c36
          subst c36
          have H1 : (foghornlaw08_BucketParts.j1 kj6 x3_6 x4_6 t383 true t365 t366 t367 t368 t371 t372 t373 t374) = some r := by rw [if_neg (show ¬ (false = true) by decide)] at H; exact H
          clear H
          have H := H1
          clear H1
          have H' := Aside0.mk H
          clear H
          go_wp2
          go_meet
          case rel => exact ⟨_, (true), (by first | rfl | (simp; done) | (simp [*]; done)), H', ⟨by have := HJ6.out; first | omega | exact Nat.le_refl _⟩, ⟨by (with_reducible repeat (first | refine blk_drewN ?_ _ | refine blk_drew ?_ | refine blk_alloc ?_ _)); exact BK364.out⟩, ⟨by (with_reducible repeat (first | refine blk_drewN ?_ _ | refine blk_drew ?_ | refine blk_alloc ?_ _)); exact BK370.out⟩, ⟨by (with_reducible repeat (first | refine blk_drewN ?_ _ | refine blk_drew ?_ | refine blk_alloc ?_ _)); exact BK376.out⟩, ⟨by (with_reducible repeat (first | refine blk_drewN ?_ _ | refine blk_drew ?_ | refine blk_alloc ?_ _)); exact BK382.out⟩, ⟨by repeat (first | (with_reducible first | exact HB.out | apply below_alloc | apply pw_below_drewN | apply below_drew1 | refine below_set ?_ GE364.out | refine below_set ?_ GE370.out | refine below_set ?_ GE376.out | refine below_set ?_ GE382.out) | exact HB.out)⟩⟩
      case rest =>
        clear HC16
        try clear c1
        try clear c2
        try clear p2
        try clear c3
        try clear c4
        try clear c5
        try clear c6
        try clear p6
        try clear c10
        try clear c11
        try clear c11b0
        try clear c20
        try clear c24
        try clear c25
        try clear c30
        try clear c31
        try clear c32
        try clear c36
        try clear c37
        try clear c37b0
        try clear c37b1
        try clear c38
        try clear c38b0
        try clear c38b1
        try clear c39
        try clear c39b0
        try clear c39b1
        try clear c40
        try clear c40b0
        try clear c40b1
        try clear c41
        try clear c41b0
        try clear c42
        try clear c43
        try clear c44
        try clear c46
        try clear c47
        try clear c49
        try clear c49b0
        try clear c50
        try clear c51
        try clear c52
        try clear c54
        try clear c55
        try clear c58
        try clear c59
        try clear c60
        try clear c62
        try clear c63
        try clear p64
        try clear hcz10_0
        try clear hcz10_1
        try clear hcz10_2
        try clear hcz10_3
        try clear hcz17_0
        try clear hcz17_1
        try clear hcz17_2
        try clear hcz17_3
        try clear hcz21_0
        try clear hcz21_1
        try clear hcz21_2
        try clear hcz21_3
        try clear hcz26_0
        try clear hcz26_1
        try clear hcz26_2
        try clear hcz26_3
        try clear hcz27_0
        try clear hcz27_1
        try clear hcz27_2
        try clear hcz27_3
        try clear hcz33_0
        try clear hcz33_1
        try clear hcz33_2
        try clear hcz33_3
        try clear hcz34_0
        try clear hcz34_1
        try clear hcz34_2
        try clear hcz34_3
        try clear hcz45_0
        try clear hcz45_1
        try clear hcz45_2
        try clear hcz45_3
        try clear hcz48_0
        try clear hcz48_1
        try clear hcz48_2
        try clear hcz48_3
        try clear hcz53_0
        try clear hcz53_1
        try clear hcz53_2
        try clear hcz53_3
        try clear hcz56_0
        try clear hcz56_1
        try clear hcz56_2
        try clear hcz56_3
        try clear hcz61_0
        try clear hcz61_1
        try clear hcz61_2
        try clear hcz61_3
        try clear hcz64_0
        try clear hcz64_1
        try clear hcz64_2
        try clear hcz64_3
        try clear hfz10_0
        try clear hfz10_1
        try clear hfz10_2
        try clear hfz10_3
        try clear hfz17_0
        try clear hfz17_1
        try clear hfz17_2
        try clear hfz17_3
        try clear hfz21_0
        try clear hfz21_1
        try clear hfz21_2
        try clear hfz21_3
        try clear hfz26_0
        try clear hfz26_1
        try clear hfz26_2
        try clear hfz26_3
        try clear hfz27_0
        try clear hfz27_1
        try clear hfz27_2
        try clear hfz27_3
        try clear hfz33_0
        try clear hfz33_1
        try clear hfz33_2
        try clear hfz33_3
        try clear hfz34_0
        try clear hfz34_1
        try clear hfz34_2
        try clear hfz34_3
        try clear hfz45_0
        try clear hfz45_1
        try clear hfz45_2
        try clear hfz45_3
        try clear hfz48_0
        try clear hfz48_1
        try clear hfz48_2
        try clear hfz48_3
        try clear hfz53_0
        try clear hfz53_1
        try clear hfz53_2
        try clear hfz53_3
        try clear hfz56_0
        try clear hfz56_1
        try clear hfz56_2
        try clear hfz56_3
        try clear hfz61_0
        try clear hfz61_1
        try clear hfz61_2
        try clear hfz61_3
        try clear hfz64_0
        try clear hfz64_1
        try clear hfz64_2
        try clear hfz64_3
        try clear p2
        try clear p6
        obtain ⟨kq, x106_15, rfl, HA, HJ15, BK364, BK370, BK376, BK382, HB⟩ := hcut
        cases kq with
        | zero => exact absurd HA.out (by simp [foghornlaw08_BucketParts.j1])
        | succ kj15 =>
          have H := HA.out
          clear HA
          simp only [foghornlaw08_BucketParts.j1] at H
          by_cases c66 : x106_15 = true
          · subst c66
            have H1 : (some false) = some r := by rw [if_pos rfl] at H; exact H
            clear H
            have H := H1
            clear H1
            obtain rfl := Option.some.inj H
            go_wp2
            go_ret
            exact ⟨by first | rfl | (simp [errW_none, errW_some] <;> rfl) | (simp [*, errW_none, errW_some] <;> rfl), by repeat (first | (with_reducible first | exact HB.out | apply below_alloc | apply pw_below_drewN | apply below_drew1 | refine below_set ?_ GE364.out | refine below_set ?_ GE370.out | refine below_set ?_ GE376.out | refine below_set ?_ GE382.out) | exact HB.out)⟩
          · replace c66 := Bool.eq_false_iff.mpr c66
            subst c66
            have H1 : ((bucket_Take.f t365 t366 t367 t368 t383).bind fun bt386 => (if bt386.2.2.2.2.2 = 0 then (foghornlaw08_BucketParts.j2 kj15 x3_6 x4_6 t383 (!bt386.2.2.2.2.1) t365 t366 t367 t368 t371 t372 t373 t374) else (foghornlaw08_BucketParts.j2 kj15 x3_6 x4_6 t383 true t365 t366 t367 t368 t371 t372 t373 t374))) = some r := by rw [if_neg (show ¬ (false = true) by decide)] at H; exact H
            clear H
            have H := H1
            clear H1
            replace H := Option.bind_eq_some_iff.mp H
            obtain ⟨⟨t386, t387, t388, t389, t390, t391⟩, A670, H⟩ := H
            replace H : (if t391 = 0 then (foghornlaw08_BucketParts.j2 kj15 x3_6 x4_6 t383 (!t390) t365 t366 t367 t368 t371 t372 t373 t374) else (foghornlaw08_BucketParts.j2 kj15 x3_6 x4_6 t383 true t365 t366 t367 t368 t371 t372 t373 t374)) = some r := H
            have A67 := Aside0.mk A670
            clear A670
            have HC68 := Aside0.mk H
            clear H
            have hnb69 := NB370_364.out
            have hnc69 := NB364_370.out
            have hnb70 := NB370_376.out
            have hnc70 := NB376_370.out
            have hnb71 := NB370_382.out
            have hnc71 := NB382_370.out
            have hcz72_0 : wc.cell? ⟨gb370, 0, none⟩ = some (.int .i64 t365) := (blk_cell BK370.out 0).trans rfl
            have hcz72_1 : wc.cell? ⟨gb370, 1, none⟩ = some (.int .i64 t366) := (blk_cell BK370.out 1).trans rfl
            have hcz72_2 : wc.cell? ⟨gb370, 2, none⟩ = some (.int .i64 t367) := (blk_cell BK370.out 2).trans rfl
            have hcz72_3 : wc.cell? ⟨gb370, 3, none⟩ = some (.int .i64 t368) := (blk_cell BK370.out 3).trans rfl
            have hfz72_0 := blk_frozen BK370.out 0
            have hfz72_1 := blk_frozen BK370.out 1
            have hfz72_2 := blk_frozen BK370.out 2
            have hfz72_3 := blk_frozen BK370.out 3
            go_upto_region 12 with (first | ((with_reducible refine gate_callee (f := 26) rfl ?_); refine goesL_ (some 110) rfl rfl Try.func26 (by kernel_rfl) rfl #[.agg #[.int .i64 t365, .int .i64 t366, .int .i64 t367, .int .i64 t368], .int .i64 t383] rfl (by (try simp only [List.map_toArray, List.map_cons, List.map_nil]); first | done | rfl | (simp only [List.length_drop, List.length_take]; rfl)) ?_; (with_reducible refine (bucket_Take.calls t365 t366 t367 t368 t383 t386 t387 t388 t389 t390 t391 _ A67.out).mono ?_); rintro e w73 ⟨rfl, hb⟩; refine ⟨_, rfl, ?_⟩; have n0_ := Aside0.mk (blk_below (g := gb364) (o := .cells #[.int .i64 t359, .int .i64 t360, .int .i64 t361, .int .i64 t362] 37 (0, 0)) (by (with_reducible repeat (first | refine blk_drewN ?_ _ | refine blk_drew ?_ | refine blk_alloc ?_ _)); exact BK364.out) hb); have n1_ := Aside0.mk (blk_below (g := gb370) (o := .cells #[.int .i64 t365, .int .i64 t366, .int .i64 t367, .int .i64 t368] 37 (0, 0)) (by (with_reducible repeat (first | refine blk_drewN ?_ _ | refine blk_drew ?_ | refine blk_alloc ?_ _)); exact BK370.out) hb); have n2_ := Aside0.mk (blk_below (g := gb376) (o := .cells #[.int .i64 t371, .int .i64 t372, .int .i64 t373, .int .i64 t374] 37 (0, 0)) (by (with_reducible repeat (first | refine blk_drewN ?_ _ | refine blk_drew ?_ | refine blk_alloc ?_ _)); exact BK376.out) hb); have n3_ := Aside0.mk (blk_below (g := gb382) (o := .cells #[.int .i64 t377, .int .i64 t378, .int .i64 t379, .int .i64 t380] 37 (0, 0)) (by (with_reducible repeat (first | refine blk_drewN ?_ _ | refine blk_drew ?_ | refine blk_alloc ?_ _)); exact BK382.out) hb); have n4_ := Aside0.mk (below_step (by repeat (first | (with_reducible first | exact HB.out | apply below_alloc | apply pw_below_drewN | apply below_drew1 | refine below_set ?_ GE364.out | refine below_set ?_ GE370.out | refine below_set ?_ GE376.out | refine below_set ?_ GE382.out) | exact HB.out)) hb); clear BK364; clear BK370; clear BK376; clear BK382; clear HB; have BK364 := n0_; have BK370 := n1_; have BK376 := n2_; have BK382 := n3_; have HB := n4_; clear n0_ n1_ n2_ n3_ n4_; (try clear hb); (try clear hb2); (try clear hk); (try clear hi)) | ((with_reducible refine gate_dst (N := 21) rfl ?_); refine box_event ?hg (N := 21) ?hd (cs := #[.int .i64 0, .int .i64 0, .int .i64 0, .int .i64 0]) (t := 37) ?hr ?_; (case hd => rfl); (case hg => rfl); (case hr => first | (go_simp; done) | (go_simp; rfl)); intro gb392 hg w74 hbox hb; have n0_ := Aside0.mk (blk_below (g := gb364) (o := .cells #[.int .i64 t359, .int .i64 t360, .int .i64 t361, .int .i64 t362] 37 (0, 0)) (by (with_reducible repeat (first | refine blk_drewN ?_ _ | refine blk_drew ?_ | refine blk_alloc ?_ _)); exact BK364.out) hb); have n1_ := Aside0.mk (blk_below (g := gb370) (o := .cells #[.int .i64 t365, .int .i64 t366, .int .i64 t367, .int .i64 t368] 37 (0, 0)) (by (with_reducible repeat (first | refine blk_drewN ?_ _ | refine blk_drew ?_ | refine blk_alloc ?_ _)); exact BK370.out) hb); have n2_ := Aside0.mk (blk_below (g := gb376) (o := .cells #[.int .i64 t371, .int .i64 t372, .int .i64 t373, .int .i64 t374] 37 (0, 0)) (by (with_reducible repeat (first | refine blk_drewN ?_ _ | refine blk_drew ?_ | refine blk_alloc ?_ _)); exact BK376.out) hb); have n3_ := Aside0.mk (blk_below (g := gb382) (o := .cells #[.int .i64 t377, .int .i64 t378, .int .i64 t379, .int .i64 t380] 37 (0, 0)) (by (with_reducible repeat (first | refine blk_drewN ?_ _ | refine blk_drew ?_ | refine blk_alloc ?_ _)); exact BK382.out) hb); have n4_ := Aside0.mk (below_step (by repeat (first | (with_reducible first | exact HB.out | apply below_alloc | apply pw_below_drewN | apply below_drew1 | refine below_set ?_ GE364.out | refine below_set ?_ GE370.out | refine below_set ?_ GE376.out | refine below_set ?_ GE382.out) | exact HB.out)) hb); have n5_ := Aside0.mk (hbox); have n6_ := Aside0.mk ((by rw [hg]; exact (below_size (by repeat (first | (with_reducible first | exact HB.out | apply below_alloc | apply pw_below_drewN | apply below_drew1 | refine below_set ?_ GE364.out | refine below_set ?_ GE370.out | refine below_set ?_ GE376.out | refine below_set ?_ GE382.out) | exact HB.out))) : w.heap.size ≤ gb392)); have n7_ := Aside0.mk ((by rw [hg]; exact (below_size (by repeat (first | (with_reducible first | exact HB.out | apply below_alloc | apply pw_below_drewN | apply below_drew1 | refine below_set ?_ GE364.out | refine below_set ?_ GE370.out | refine below_set ?_ GE376.out | refine below_set ?_ GE382.out) | exact HB.out))) : w.heap.size ≤ gb392)); have n8_ := Aside0.mk ((by rw [hg]; exact Nat.ne_of_lt (blk_lt (g := gb364) (o := .cells #[.int .i64 t359, .int .i64 t360, .int .i64 t361, .int .i64 t362] 37 (0, 0)) (by (with_reducible repeat (first | refine blk_drewN ?_ _ | refine blk_drew ?_ | refine blk_alloc ?_ _)); exact BK364.out)) : gb364 ≠ gb392)); have n9_ := Aside0.mk ((by rw [hg]; exact Nat.ne_of_gt (blk_lt (g := gb364) (o := .cells #[.int .i64 t359, .int .i64 t360, .int .i64 t361, .int .i64 t362] 37 (0, 0)) (by (with_reducible repeat (first | refine blk_drewN ?_ _ | refine blk_drew ?_ | refine blk_alloc ?_ _)); exact BK364.out)) : gb392 ≠ gb364)); have n10_ := Aside0.mk ((by rw [hg]; exact Nat.ne_of_lt (blk_lt (g := gb370) (o := .cells #[.int .i64 t365, .int .i64 t366, .int .i64 t367, .int .i64 t368] 37 (0, 0)) (by (with_reducible repeat (first | refine blk_drewN ?_ _ | refine blk_drew ?_ | refine blk_alloc ?_ _)); exact BK370.out)) : gb370 ≠ gb392)); have n11_ := Aside0.mk ((by rw [hg]; exact Nat.ne_of_gt (blk_lt (g := gb370) (o := .cells #[.int .i64 t365, .int .i64 t366, .int .i64 t367, .int .i64 t368] 37 (0, 0)) (by (with_reducible repeat (first | refine blk_drewN ?_ _ | refine blk_drew ?_ | refine blk_alloc ?_ _)); exact BK370.out)) : gb392 ≠ gb370)); have n12_ := Aside0.mk ((by rw [hg]; exact Nat.ne_of_lt (blk_lt (g := gb376) (o := .cells #[.int .i64 t371, .int .i64 t372, .int .i64 t373, .int .i64 t374] 37 (0, 0)) (by (with_reducible repeat (first | refine blk_drewN ?_ _ | refine blk_drew ?_ | refine blk_alloc ?_ _)); exact BK376.out)) : gb376 ≠ gb392)); have n13_ := Aside0.mk ((by rw [hg]; exact Nat.ne_of_gt (blk_lt (g := gb376) (o := .cells #[.int .i64 t371, .int .i64 t372, .int .i64 t373, .int .i64 t374] 37 (0, 0)) (by (with_reducible repeat (first | refine blk_drewN ?_ _ | refine blk_drew ?_ | refine blk_alloc ?_ _)); exact BK376.out)) : gb392 ≠ gb376)); have n14_ := Aside0.mk ((by rw [hg]; exact Nat.ne_of_lt (blk_lt (g := gb382) (o := .cells #[.int .i64 t377, .int .i64 t378, .int .i64 t379, .int .i64 t380] 37 (0, 0)) (by (with_reducible repeat (first | refine blk_drewN ?_ _ | refine blk_drew ?_ | refine blk_alloc ?_ _)); exact BK382.out)) : gb382 ≠ gb392)); have n15_ := Aside0.mk ((by rw [hg]; exact Nat.ne_of_gt (blk_lt (g := gb382) (o := .cells #[.int .i64 t377, .int .i64 t378, .int .i64 t379, .int .i64 t380] 37 (0, 0)) (by (with_reducible repeat (first | refine blk_drewN ?_ _ | refine blk_drew ?_ | refine blk_alloc ?_ _)); exact BK382.out)) : gb392 ≠ gb382)); clear BK364; clear BK370; clear BK376; clear BK382; clear HB; have BK364 := n0_; have BK370 := n1_; have BK376 := n2_; have BK382 := n3_; have HB := n4_; have BK392 := n5_; have GW392 := n6_; have GE392 := n7_; have NB364_392 := n8_; have NB392_364 := n9_; have NB370_392 := n10_; have NB392_370 := n11_; have NB376_392 := n12_; have NB392_376 := n13_; have NB382_392 := n14_; have NB392_382 := n15_; clear n0_ n1_ n2_ n3_ n4_ n5_ n6_ n7_ n8_ n9_ n10_ n11_ n12_ n13_ n14_ n15_; clear hb hbox hg; have hnb75 := NB392_364.out; have hnc75 := NB364_392.out; have hnb76 := NB392_370.out; have hnc76 := NB370_392.out; have hnb77 := NB392_376.out; have hnc77 := NB376_392.out; have hnb78 := NB392_382.out; have hnc78 := NB382_392.out; have hcz79_0 : w74.cell? ⟨gb392, 0, none⟩ = some (.int .i64 0) := (blk_cell BK392.out 0).trans rfl; have hcz79_1 : w74.cell? ⟨gb392, 1, none⟩ = some (.int .i64 0) := (blk_cell BK392.out 1).trans rfl; have hcz79_2 : w74.cell? ⟨gb392, 2, none⟩ = some (.int .i64 0) := (blk_cell BK392.out 2).trans rfl; have hcz79_3 : w74.cell? ⟨gb392, 3, none⟩ = some (.int .i64 0) := (blk_cell BK392.out 3).trans rfl; have hfz79_0 := blk_frozen BK392.out 0; have hfz79_1 := blk_frozen BK392.out 1; have hfz79_2 := blk_frozen BK392.out 2; have hfz79_3 := blk_frozen BK392.out 3))
            (try simp only [Act.put, List.setIfInBounds_toArray, List.set_cons_zero, List.set_cons_succ])
            go_cut [119] (fun v119 wc => ∃ (kq : Nat) (x119_67 : Bool), v119 = .bool x119_67 ∧ Aside0 (foghornlaw08_BucketParts.j2 kq x3_6 x4_6 t383 x119_67 t365 t366 t367 t368 t371 t372 t373 t374 = some r) ∧ Aside0 (kq ≤ kj15) ∧ Aside0 (wc.heap[gb364]? = some (.cells #[.int .i64 t359, .int .i64 t360, .int .i64 t361, .int .i64 t362] 37 (0, 0))) ∧ Aside0 (wc.heap[gb370]? = some (.cells #[.int .i64 t365, .int .i64 t366, .int .i64 t367, .int .i64 t368] 37 (0, 0))) ∧ Aside0 (wc.heap[gb376]? = some (.cells #[.int .i64 t371, .int .i64 t372, .int .i64 t373, .int .i64 t374] 37 (0, 0))) ∧ Aside0 (wc.heap[gb382]? = some (.cells #[.int .i64 t377, .int .i64 t378, .int .i64 t379, .int .i64 t380] 37 (0, 0))) ∧ Aside0 (wc.heap[gb392]? = some (.cells #[.int .i64 t386, .int .i64 t387, .int .i64 t388, .int .i64 t389] 37 (0, 0))) ∧ Aside0 (Below w.heap.size w wc))
            case first =>
              have H := HC68.out
              clear HC68
              by_cases c80 : t391 = 0
              · rw [if_pos c80] at H
                have c80b0 : (t391 == 0) = true := beq_iff_eq.mpr c80
                have c80b1 : (t391 != 0) = false := bne_eq_false_iff_eq.mpr c80
                clear c80
                (first | rw [c80b0] | (simp only [i64_w, i32_w]; rw [c80b0]) | skip)
                have H' := Aside0.mk H
                clear H
                go_wp2
                go_meet
                case rel => exact ⟨_, (!t390), (by first | rfl | (simp; done) | (simp [*]; done)), H', ⟨by have := HJ6.out; have := HJ15.out; first | omega | exact Nat.le_refl _⟩, ⟨by (with_reducible repeat (first | refine blk_drewN ?_ _ | refine blk_drew ?_ | refine blk_alloc ?_ _)); refine blk_far ?_ NB364_392.out _; (with_reducible repeat (first | refine blk_drewN ?_ _ | refine blk_drew ?_ | refine blk_alloc ?_ _)); refine blk_far ?_ NB364_392.out _; (with_reducible repeat (first | refine blk_drewN ?_ _ | refine blk_drew ?_ | refine blk_alloc ?_ _)); refine blk_far ?_ NB364_392.out _; (with_reducible repeat (first | refine blk_drewN ?_ _ | refine blk_drew ?_ | refine blk_alloc ?_ _)); refine blk_far ?_ NB364_392.out _; (with_reducible repeat (first | refine blk_drewN ?_ _ | refine blk_drew ?_ | refine blk_alloc ?_ _)); exact BK364.out⟩, ⟨by (with_reducible repeat (first | refine blk_drewN ?_ _ | refine blk_drew ?_ | refine blk_alloc ?_ _)); refine blk_far ?_ NB370_392.out _; (with_reducible repeat (first | refine blk_drewN ?_ _ | refine blk_drew ?_ | refine blk_alloc ?_ _)); refine blk_far ?_ NB370_392.out _; (with_reducible repeat (first | refine blk_drewN ?_ _ | refine blk_drew ?_ | refine blk_alloc ?_ _)); refine blk_far ?_ NB370_392.out _; (with_reducible repeat (first | refine blk_drewN ?_ _ | refine blk_drew ?_ | refine blk_alloc ?_ _)); refine blk_far ?_ NB370_392.out _; (with_reducible repeat (first | refine blk_drewN ?_ _ | refine blk_drew ?_ | refine blk_alloc ?_ _)); exact BK370.out⟩, ⟨by (with_reducible repeat (first | refine blk_drewN ?_ _ | refine blk_drew ?_ | refine blk_alloc ?_ _)); refine blk_far ?_ NB376_392.out _; (with_reducible repeat (first | refine blk_drewN ?_ _ | refine blk_drew ?_ | refine blk_alloc ?_ _)); refine blk_far ?_ NB376_392.out _; (with_reducible repeat (first | refine blk_drewN ?_ _ | refine blk_drew ?_ | refine blk_alloc ?_ _)); refine blk_far ?_ NB376_392.out _; (with_reducible repeat (first | refine blk_drewN ?_ _ | refine blk_drew ?_ | refine blk_alloc ?_ _)); refine blk_far ?_ NB376_392.out _; (with_reducible repeat (first | refine blk_drewN ?_ _ | refine blk_drew ?_ | refine blk_alloc ?_ _)); exact BK376.out⟩, ⟨by (with_reducible repeat (first | refine blk_drewN ?_ _ | refine blk_drew ?_ | refine blk_alloc ?_ _)); refine blk_far ?_ NB382_392.out _; (with_reducible repeat (first | refine blk_drewN ?_ _ | refine blk_drew ?_ | refine blk_alloc ?_ _)); refine blk_far ?_ NB382_392.out _; (with_reducible repeat (first | refine blk_drewN ?_ _ | refine blk_drew ?_ | refine blk_alloc ?_ _)); refine blk_far ?_ NB382_392.out _; (with_reducible repeat (first | refine blk_drewN ?_ _ | refine blk_drew ?_ | refine blk_alloc ?_ _)); refine blk_far ?_ NB382_392.out _; (with_reducible repeat (first | refine blk_drewN ?_ _ | refine blk_drew ?_ | refine blk_alloc ?_ _)); exact BK382.out⟩, ⟨by (with_reducible repeat (first | refine blk_drewN ?_ _ | refine blk_drew ?_ | refine blk_alloc ?_ _)); refine blk_put (cs := #[.int .i64 t386, .int .i64 t387, .int .i64 t388, .int .i64 0]) ?_ 3 _ rfl; (with_reducible repeat (first | refine blk_drewN ?_ _ | refine blk_drew ?_ | refine blk_alloc ?_ _)); refine blk_put (cs := #[.int .i64 t386, .int .i64 t387, .int .i64 0, .int .i64 0]) ?_ 2 _ rfl; (with_reducible repeat (first | refine blk_drewN ?_ _ | refine blk_drew ?_ | refine blk_alloc ?_ _)); refine blk_put (cs := #[.int .i64 t386, .int .i64 0, .int .i64 0, .int .i64 0]) ?_ 1 _ rfl; (with_reducible repeat (first | refine blk_drewN ?_ _ | refine blk_drew ?_ | refine blk_alloc ?_ _)); refine blk_put (cs := #[.int .i64 0, .int .i64 0, .int .i64 0, .int .i64 0]) ?_ 0 _ rfl; (with_reducible repeat (first | refine blk_drewN ?_ _ | refine blk_drew ?_ | refine blk_alloc ?_ _)); exact BK392.out⟩, ⟨by repeat (first | (with_reducible first | exact HB.out | apply below_alloc | apply pw_below_drewN | apply below_drew1 | refine below_set ?_ GE364.out | refine below_set ?_ GE370.out | refine below_set ?_ GE376.out | refine below_set ?_ GE382.out | refine below_set ?_ GE392.out) | exact HB.out)⟩⟩
              · rw [if_neg c80] at H
                have c80b0 : (t391 == 0) = false := beq_eq_false_iff_ne.mpr c80
                have c80b1 : (t391 != 0) = true := bne_iff_ne.mpr c80
                (first | rw [c80b0] | (simp only [i64_w, i32_w]; rw [c80b0]) | skip)
                have H' := Aside0.mk H
                clear H
                go_wp2
                go_meet
                case rel => exact ⟨_, (true), (by first | rfl | (simp; done) | (simp [*]; done)), H', ⟨by have := HJ6.out; have := HJ15.out; first | omega | exact Nat.le_refl _⟩, ⟨by (with_reducible repeat (first | refine blk_drewN ?_ _ | refine blk_drew ?_ | refine blk_alloc ?_ _)); refine blk_far ?_ NB364_392.out _; (with_reducible repeat (first | refine blk_drewN ?_ _ | refine blk_drew ?_ | refine blk_alloc ?_ _)); refine blk_far ?_ NB364_392.out _; (with_reducible repeat (first | refine blk_drewN ?_ _ | refine blk_drew ?_ | refine blk_alloc ?_ _)); refine blk_far ?_ NB364_392.out _; (with_reducible repeat (first | refine blk_drewN ?_ _ | refine blk_drew ?_ | refine blk_alloc ?_ _)); refine blk_far ?_ NB364_392.out _; (with_reducible repeat (first | refine blk_drewN ?_ _ | refine blk_drew ?_ | refine blk_alloc ?_ _)); exact BK364.out⟩, ⟨by (with_reducible repeat (first | refine blk_drewN ?_ _ | refine blk_drew ?_ | refine blk_alloc ?_ _)); refine blk_far ?_ NB370_392.out _; (with_reducible repeat (first | refine blk_drewN ?_ _ | refine blk_drew ?_ | refine blk_alloc ?_ _)); refine blk_far ?_ NB370_392.out _; (with_reducible repeat (first | refine blk_drewN ?_ _ | refine blk_drew ?_ | refine blk_alloc ?_ _)); refine blk_far ?_ NB370_392.out _; (with_reducible repeat (first | refine blk_drewN ?_ _ | refine blk_drew ?_ | refine blk_alloc ?_ _)); refine blk_far ?_ NB370_392.out _; (with_reducible repeat (first | refine blk_drewN ?_ _ | refine blk_drew ?_ | refine blk_alloc ?_ _)); exact BK370.out⟩, ⟨by (with_reducible repeat (first | refine blk_drewN ?_ _ | refine blk_drew ?_ | refine blk_alloc ?_ _)); refine blk_far ?_ NB376_392.out _; (with_reducible repeat (first | refine blk_drewN ?_ _ | refine blk_drew ?_ | refine blk_alloc ?_ _)); refine blk_far ?_ NB376_392.out _; (with_reducible repeat (first | refine blk_drewN ?_ _ | refine blk_drew ?_ | refine blk_alloc ?_ _)); refine blk_far ?_ NB376_392.out _; (with_reducible repeat (first | refine blk_drewN ?_ _ | refine blk_drew ?_ | refine blk_alloc ?_ _)); refine blk_far ?_ NB376_392.out _; (with_reducible repeat (first | refine blk_drewN ?_ _ | refine blk_drew ?_ | refine blk_alloc ?_ _)); exact BK376.out⟩, ⟨by (with_reducible repeat (first | refine blk_drewN ?_ _ | refine blk_drew ?_ | refine blk_alloc ?_ _)); refine blk_far ?_ NB382_392.out _; (with_reducible repeat (first | refine blk_drewN ?_ _ | refine blk_drew ?_ | refine blk_alloc ?_ _)); refine blk_far ?_ NB382_392.out _; (with_reducible repeat (first | refine blk_drewN ?_ _ | refine blk_drew ?_ | refine blk_alloc ?_ _)); refine blk_far ?_ NB382_392.out _; (with_reducible repeat (first | refine blk_drewN ?_ _ | refine blk_drew ?_ | refine blk_alloc ?_ _)); refine blk_far ?_ NB382_392.out _; (with_reducible repeat (first | refine blk_drewN ?_ _ | refine blk_drew ?_ | refine blk_alloc ?_ _)); exact BK382.out⟩, ⟨by (with_reducible repeat (first | refine blk_drewN ?_ _ | refine blk_drew ?_ | refine blk_alloc ?_ _)); refine blk_put (cs := #[.int .i64 t386, .int .i64 t387, .int .i64 t388, .int .i64 0]) ?_ 3 _ rfl; (with_reducible repeat (first | refine blk_drewN ?_ _ | refine blk_drew ?_ | refine blk_alloc ?_ _)); refine blk_put (cs := #[.int .i64 t386, .int .i64 t387, .int .i64 0, .int .i64 0]) ?_ 2 _ rfl; (with_reducible repeat (first | refine blk_drewN ?_ _ | refine blk_drew ?_ | refine blk_alloc ?_ _)); refine blk_put (cs := #[.int .i64 t386, .int .i64 0, .int .i64 0, .int .i64 0]) ?_ 1 _ rfl; (with_reducible repeat (first | refine blk_drewN ?_ _ | refine blk_drew ?_ | refine blk_alloc ?_ _)); refine blk_put (cs := #[.int .i64 0, .int .i64 0, .int .i64 0, .int .i64 0]) ?_ 0 _ rfl; (with_reducible repeat (first | refine blk_drewN ?_ _ | refine blk_drew ?_ | refine blk_alloc ?_ _)); exact BK392.out⟩, ⟨by repeat (first | (with_reducible first | exact HB.out | apply below_alloc | apply pw_below_drewN | apply below_drew1 | refine below_set ?_ GE364.out | refine below_set ?_ GE370.out | refine below_set ?_ GE376.out | refine below_set ?_ GE382.out | refine below_set ?_ GE392.out) | exact HB.out)⟩⟩
            case rest =>
              clear HC68
              try clear c1
              try clear c2
              try clear p2
              try clear c3
              try clear c4
              try clear c5
              try clear c6
              try clear p6
              try clear c7
              try clear c8
              try clear c10
              try clear c11
              try clear c11b0
              try clear c20
              try clear c24
              try clear c25
              try clear c26
              try clear c30
              try clear c31
              try clear c32
              try clear c36
              try clear c37
              try clear c37b0
              try clear c37b1
              try clear c38
              try clear c38b0
              try clear c38b1
              try clear c39
              try clear c39b0
              try clear c39b1
              try clear c40
              try clear c40b0
              try clear c40b1
              try clear c41
              try clear c41b0
              try clear c42
              try clear c43
              try clear c44
              try clear c46
              try clear c47
              try clear c49
              try clear c49b0
              try clear c50
              try clear c51
              try clear c52
              try clear c54
              try clear c55
              try clear c58
              try clear c59
              try clear c60
              try clear c62
              try clear c63
              try clear p64
              try clear c66
              try clear c69
              try clear c70
              try clear c71
              try clear c75
              try clear c76
              try clear c77
              try clear c78
              try clear c80
              try clear c80b0
              try clear c80b1
              try clear hcz10_0
              try clear hcz10_1
              try clear hcz10_2
              try clear hcz10_3
              try clear hcz17_0
              try clear hcz17_1
              try clear hcz17_2
              try clear hcz17_3
              try clear hcz21_0
              try clear hcz21_1
              try clear hcz21_2
              try clear hcz21_3
              try clear hcz26_0
              try clear hcz26_1
              try clear hcz26_2
              try clear hcz26_3
              try clear hcz27_0
              try clear hcz27_1
              try clear hcz27_2
              try clear hcz27_3
              try clear hcz33_0
              try clear hcz33_1
              try clear hcz33_2
              try clear hcz33_3
              try clear hcz34_0
              try clear hcz34_1
              try clear hcz34_2
              try clear hcz34_3
              try clear hcz45_0
              try clear hcz45_1
              try clear hcz45_2
              try clear hcz45_3
              try clear hcz48_0
              try clear hcz48_1
              try clear hcz48_2
              try clear hcz48_3
              try clear hcz53_0
              try clear hcz53_1
              try clear hcz53_2
              try clear hcz53_3
              try clear hcz56_0
              try clear hcz56_1
              try clear hcz56_2
              try clear hcz56_3
              try clear hcz61_0
              try clear hcz61_1
              try clear hcz61_2
              try clear hcz61_3
              try clear hcz64_0
              try clear hcz64_1
              try clear hcz64_2
              try clear hcz64_3
              try clear hcz72_0
              try clear hcz72_1
              try clear hcz72_2
              try clear hcz72_3
              try clear hcz79_0
              try clear hcz79_1
              try clear hcz79_2
              try clear hcz79_3
              try clear hfz10_0
              try clear hfz10_1
              try clear hfz10_2
              try clear hfz10_3
              try clear hfz17_0
              try clear hfz17_1
              try clear hfz17_2
              try clear hfz17_3
              try clear hfz21_0
              try clear hfz21_1
              try clear hfz21_2
              try clear hfz21_3
              try clear hfz26_0
              try clear hfz26_1
              try clear hfz26_2
              try clear hfz26_3
              try clear hfz27_0
              try clear hfz27_1
              try clear hfz27_2
              try clear hfz27_3
              try clear hfz33_0
              try clear hfz33_1
              try clear hfz33_2
              try clear hfz33_3
              try clear hfz34_0
              try clear hfz34_1
              try clear hfz34_2
              try clear hfz34_3
              try clear hfz45_0
              try clear hfz45_1
              try clear hfz45_2
              try clear hfz45_3
              try clear hfz48_0
              try clear hfz48_1
              try clear hfz48_2
              try clear hfz48_3
              try clear hfz53_0
              try clear hfz53_1
              try clear hfz53_2
              try clear hfz53_3
              try clear hfz56_0
              try clear hfz56_1
              try clear hfz56_2
              try clear hfz56_3
              try clear hfz61_0
              try clear hfz61_1
              try clear hfz61_2
              try clear hfz61_3
              try clear hfz64_0
              try clear hfz64_1
              try clear hfz64_2
              try clear hfz64_3
              try clear hfz72_0
              try clear hfz72_1
              try clear hfz72_2
              try clear hfz72_3
              try clear hfz79_0
              try clear hfz79_1
              try clear hfz79_2
              try clear hfz79_3
              try clear p2
              try clear p6
              try clear p64
              obtain ⟨kq, x119_67, rfl, HA, HJ67, BK364, BK370, BK376, BK382, BK392, HB⟩ := hcut
              cases kq with
              | zero => exact absurd HA.out (by simp [foghornlaw08_BucketParts.j2])
              | succ kj67 =>
                have H := HA.out
                clear HA
                simp only [foghornlaw08_BucketParts.j2] at H
                by_cases c81 : x119_67 = true
                · subst c81
                  have H1 : (some false) = some r := by rw [if_pos rfl] at H; exact H
                  clear H
                  have H := H1
                  clear H1
                  obtain rfl := Option.some.inj H
                  go_wp2
                  go_ret
                  exact ⟨by first | rfl | (simp [errW_none, errW_some] <;> rfl) | (simp [*, errW_none, errW_some] <;> rfl), by repeat (first | (with_reducible first | exact HB.out | apply below_alloc | apply pw_below_drewN | apply below_drew1 | refine below_set ?_ GE364.out | refine below_set ?_ GE370.out | refine below_set ?_ GE376.out | refine below_set ?_ GE382.out | refine below_set ?_ GE392.out) | exact HB.out)⟩
                · replace c81 := Bool.eq_false_iff.mpr c81
                  subst c81
                  have H1 : (foghornlaw08_BucketParts.l0 kj67 x4_6 t383 x3_6 t365 t366 t367 t368 t371 t372 t373 t374) = some r := by rw [if_neg (show ¬ (false = true) by decide)] at H; exact H
                  clear H
                  have H := H1
                  clear H1
                  have H' := Aside0.mk H
                  clear H
                  go_wp2
                  go_loopg [24] kj67 (fun kq v24 w' => ∃ (x24_4 : Int), v24 = .int .i64 x24_4 ∧ Aside0 (foghornlaw08_BucketParts.l0 kq x4_6 t383 x24_4 t365 t366 t367 t368 t371 t372 t373 t374 = some r) ∧ Aside0 (kq ≤ kj67) ∧ Aside0 (w'.heap[gb364]? = some (.cells #[.int .i64 t359, .int .i64 t360, .int .i64 t361, .int .i64 t362] 37 (0, 0))) ∧ Aside0 (w'.heap[gb370]? = some (.cells #[.int .i64 t365, .int .i64 t366, .int .i64 t367, .int .i64 t368] 37 (0, 0))) ∧ Aside0 (w'.heap[gb376]? = some (.cells #[.int .i64 t371, .int .i64 t372, .int .i64 t373, .int .i64 t374] 37 (0, 0))) ∧ Aside0 (w'.heap[gb382]? = some (.cells #[.int .i64 t377, .int .i64 t378, .int .i64 t379, .int .i64 t380] 37 (0, 0))) ∧ Aside0 (w'.heap[gb392]? = some (.cells #[.int .i64 t386, .int .i64 t387, .int .i64 t388, .int .i64 t389] 37 (0, 0))) ∧ Aside0 (Below w.heap.size w w'))
                  case atStart => exact ⟨(x3_6), (by first | rfl | (simp; done) | (simp [*]; done)), H', ⟨Nat.le_refl _⟩, ⟨by (with_reducible repeat (first | refine blk_drewN ?_ _ | refine blk_drew ?_ | refine blk_alloc ?_ _)); exact BK364.out⟩, ⟨by (with_reducible repeat (first | refine blk_drewN ?_ _ | refine blk_drew ?_ | refine blk_alloc ?_ _)); exact BK370.out⟩, ⟨by (with_reducible repeat (first | refine blk_drewN ?_ _ | refine blk_drew ?_ | refine blk_alloc ?_ _)); exact BK376.out⟩, ⟨by (with_reducible repeat (first | refine blk_drewN ?_ _ | refine blk_drew ?_ | refine blk_alloc ?_ _)); exact BK382.out⟩, ⟨by (with_reducible repeat (first | refine blk_drewN ?_ _ | refine blk_drew ?_ | refine blk_alloc ?_ _)); exact BK392.out⟩, ⟨by repeat (first | (with_reducible first | exact HB.out | apply below_alloc | apply pw_below_drewN | apply below_drew1 | refine below_set ?_ GE364.out | refine below_set ?_ GE370.out | refine below_set ?_ GE376.out | refine below_set ?_ GE382.out | refine below_set ?_ GE392.out) | exact HB.out)⟩⟩
                  case round =>
                    clear H'
                    try clear c1
                    try clear c2
                    try clear p2
                    try clear c3
                    try clear c4
                    try clear c5
                    try clear c6
                    try clear p6
                    try clear c7
                    try clear c8
                    try clear c10
                    try clear c11
                    try clear c11b0
                    try clear c20
                    try clear c24
                    try clear c25
                    try clear c26
                    try clear c30
                    try clear c31
                    try clear c32
                    try clear c36
                    try clear c37
                    try clear c37b0
                    try clear c37b1
                    try clear c38
                    try clear c38b0
                    try clear c38b1
                    try clear c39
                    try clear c39b0
                    try clear c39b1
                    try clear c40
                    try clear c40b0
                    try clear c40b1
                    try clear c41
                    try clear c41b0
                    try clear c42
                    try clear c43
                    try clear c44
                    try clear c46
                    try clear c47
                    try clear c49
                    try clear c49b0
                    try clear c50
                    try clear c51
                    try clear c52
                    try clear c54
                    try clear c55
                    try clear c58
                    try clear c59
                    try clear c60
                    try clear c62
                    try clear c63
                    try clear p64
                    try clear c66
                    try clear c69
                    try clear c70
                    try clear c71
                    try clear c75
                    try clear c76
                    try clear c77
                    try clear c78
                    try clear c80
                    try clear c80b0
                    try clear c80b1
                    try clear c81
                    try clear hcz10_0
                    try clear hcz10_1
                    try clear hcz10_2
                    try clear hcz10_3
                    try clear hcz17_0
                    try clear hcz17_1
                    try clear hcz17_2
                    try clear hcz17_3
                    try clear hcz21_0
                    try clear hcz21_1
                    try clear hcz21_2
                    try clear hcz21_3
                    try clear hcz26_0
                    try clear hcz26_1
                    try clear hcz26_2
                    try clear hcz26_3
                    try clear hcz27_0
                    try clear hcz27_1
                    try clear hcz27_2
                    try clear hcz27_3
                    try clear hcz33_0
                    try clear hcz33_1
                    try clear hcz33_2
                    try clear hcz33_3
                    try clear hcz34_0
                    try clear hcz34_1
                    try clear hcz34_2
                    try clear hcz34_3
                    try clear hcz45_0
                    try clear hcz45_1
                    try clear hcz45_2
                    try clear hcz45_3
                    try clear hcz48_0
                    try clear hcz48_1
                    try clear hcz48_2
                    try clear hcz48_3
                    try clear hcz53_0
                    try clear hcz53_1
                    try clear hcz53_2
                    try clear hcz53_3
                    try clear hcz56_0
                    try clear hcz56_1
                    try clear hcz56_2
                    try clear hcz56_3
                    try clear hcz61_0
                    try clear hcz61_1
                    try clear hcz61_2
                    try clear hcz61_3
                    try clear hcz64_0
                    try clear hcz64_1
                    try clear hcz64_2
                    try clear hcz64_3
                    try clear hcz72_0
                    try clear hcz72_1
                    try clear hcz72_2
                    try clear hcz72_3
                    try clear hcz79_0
                    try clear hcz79_1
                    try clear hcz79_2
                    try clear hcz79_3
                    try clear hfz10_0
                    try clear hfz10_1
                    try clear hfz10_2
                    try clear hfz10_3
                    try clear hfz17_0
                    try clear hfz17_1
                    try clear hfz17_2
                    try clear hfz17_3
                    try clear hfz21_0
                    try clear hfz21_1
                    try clear hfz21_2
                    try clear hfz21_3
                    try clear hfz26_0
                    try clear hfz26_1
                    try clear hfz26_2
                    try clear hfz26_3
                    try clear hfz27_0
                    try clear hfz27_1
                    try clear hfz27_2
                    try clear hfz27_3
                    try clear hfz33_0
                    try clear hfz33_1
                    try clear hfz33_2
                    try clear hfz33_3
                    try clear hfz34_0
                    try clear hfz34_1
                    try clear hfz34_2
                    try clear hfz34_3
                    try clear hfz45_0
                    try clear hfz45_1
                    try clear hfz45_2
                    try clear hfz45_3
                    try clear hfz48_0
                    try clear hfz48_1
                    try clear hfz48_2
                    try clear hfz48_3
                    try clear hfz53_0
                    try clear hfz53_1
                    try clear hfz53_2
                    try clear hfz53_3
                    try clear hfz56_0
                    try clear hfz56_1
                    try clear hfz56_2
                    try clear hfz56_3
                    try clear hfz61_0
                    try clear hfz61_1
                    try clear hfz61_2
                    try clear hfz61_3
                    try clear hfz64_0
                    try clear hfz64_1
                    try clear hfz64_2
                    try clear hfz64_3
                    try clear hfz72_0
                    try clear hfz72_1
                    try clear hfz72_2
                    try clear hfz72_3
                    try clear hfz79_0
                    try clear hfz79_1
                    try clear hfz79_2
                    try clear hfz79_3
                    try clear p2
                    try clear p6
                    try clear p64
                    obtain ⟨x24_4, rfl, HA, HK4, BK364, BK370, BK376, BK382, BK392, HB⟩ := hrel
                    cases gk with
                    | zero => exact absurd HA.out (by simp [foghornlaw08_BucketParts.l0])
                    | succ k4 =>
                      have H := HA.out
                      clear HA
                      simp only [foghornlaw08_BucketParts.l0] at H
                      by_cases c82 : x24_4 < t383
                      · rw [if_pos c82] at H
                        have c82b0 : decide (x24_4 < t383) = true := decide_eq_true c82
                        clear c82
                        replace H := Option.bind_eq_some_iff.mp H
                        obtain ⟨⟨t393, t394, t395, t396, t397, t398⟩, A830, H⟩ := H
                        replace H : (if t398 = 0 then (if t397 = true then (some false) else (foghornlaw08_BucketParts.l0 k4 x4_6 t383 (wrap64 (x24_4 + 1)) t365 t366 t367 t368 t371 t372 t373 t374)) else (some false)) = some r := H
                        have A83 := Aside0.mk A830
                        clear A830
                        by_cases c84 : t398 = 0
                        · rw [if_pos c84] at H
                          have c84b0 : (t398 == 0) = true := beq_iff_eq.mpr c84
                          have c84b1 : (t398 != 0) = false := bne_eq_false_iff_eq.mpr c84
                          clear c84
                          by_cases c85 : t397 = true
                          · subst c85
                            have H1 : (some false) = some r := by rw [if_pos rfl] at H; exact H
                            clear H
                            have H := H1
                            clear H1
                            obtain rfl := Option.some.inj H
                            have hnb86 := NB370_364.out
                            have hnc86 := NB364_370.out
                            have hnb87 := NB370_376.out
                            have hnc87 := NB376_370.out
                            have hnb88 := NB370_382.out
                            have hnc88 := NB382_370.out
                            have hnb89 := NB370_392.out
                            have hnc89 := NB392_370.out
                            have hcz90_0 : wr.cell? ⟨gb370, 0, none⟩ = some (.int .i64 t365) := (blk_cell BK370.out 0).trans rfl
                            have hcz90_1 : wr.cell? ⟨gb370, 1, none⟩ = some (.int .i64 t366) := (blk_cell BK370.out 1).trans rfl
                            have hcz90_2 : wr.cell? ⟨gb370, 2, none⟩ = some (.int .i64 t367) := (blk_cell BK370.out 2).trans rfl
                            have hcz90_3 : wr.cell? ⟨gb370, 3, none⟩ = some (.int .i64 t368) := (blk_cell BK370.out 3).trans rfl
                            have hfz90_0 := blk_frozen BK370.out 0
                            have hfz90_1 := blk_frozen BK370.out 1
                            have hfz90_2 := blk_frozen BK370.out 2
                            have hfz90_3 := blk_frozen BK370.out 3
                            go_wp2_with (first | ((with_reducible refine gate_callee (f := 26) rfl ?_); refine goesL_ (some 129) rfl rfl Try.func26 (by kernel_rfl) rfl #[.agg #[.int .i64 t365, .int .i64 t366, .int .i64 t367, .int .i64 t368], .int .i64 x24_4] rfl (by (try simp only [List.map_toArray, List.map_cons, List.map_nil]); first | done | rfl | (simp only [List.length_drop, List.length_take]; rfl)) ?_; (with_reducible refine (bucket_Take.calls t365 t366 t367 t368 x24_4 t393 t394 t395 t396 true t398 _ A83.out).mono ?_); rintro e w91 ⟨rfl, hb⟩; refine ⟨_, rfl, ?_⟩; have n0_ := Aside0.mk (blk_below (g := gb364) (o := .cells #[.int .i64 t359, .int .i64 t360, .int .i64 t361, .int .i64 t362] 37 (0, 0)) (by (with_reducible repeat (first | refine blk_drewN ?_ _ | refine blk_drew ?_ | refine blk_alloc ?_ _)); exact BK364.out) hb); have n1_ := Aside0.mk (blk_below (g := gb370) (o := .cells #[.int .i64 t365, .int .i64 t366, .int .i64 t367, .int .i64 t368] 37 (0, 0)) (by (with_reducible repeat (first | refine blk_drewN ?_ _ | refine blk_drew ?_ | refine blk_alloc ?_ _)); exact BK370.out) hb); have n2_ := Aside0.mk (blk_below (g := gb376) (o := .cells #[.int .i64 t371, .int .i64 t372, .int .i64 t373, .int .i64 t374] 37 (0, 0)) (by (with_reducible repeat (first | refine blk_drewN ?_ _ | refine blk_drew ?_ | refine blk_alloc ?_ _)); exact BK376.out) hb); have n3_ := Aside0.mk (blk_below (g := gb382) (o := .cells #[.int .i64 t377, .int .i64 t378, .int .i64 t379, .int .i64 t380] 37 (0, 0)) (by (with_reducible repeat (first | refine blk_drewN ?_ _ | refine blk_drew ?_ | refine blk_alloc ?_ _)); exact BK382.out) hb); have n4_ := Aside0.mk (blk_below (g := gb392) (o := .cells #[.int .i64 t386, .int .i64 t387, .int .i64 t388, .int .i64 t389] 37 (0, 0)) (by (with_reducible repeat (first | refine blk_drewN ?_ _ | refine blk_drew ?_ | refine blk_alloc ?_ _)); exact BK392.out) hb); have n5_ := Aside0.mk (below_step (by repeat (first | (with_reducible first | exact HB.out | apply below_alloc | apply pw_below_drewN | apply below_drew1 | refine below_set ?_ GE364.out | refine below_set ?_ GE370.out | refine below_set ?_ GE376.out | refine below_set ?_ GE382.out | refine below_set ?_ GE392.out) | exact HB.out)) hb); clear BK364; clear BK370; clear BK376; clear BK382; clear BK392; clear HB; have BK364 := n0_; have BK370 := n1_; have BK376 := n2_; have BK382 := n3_; have BK392 := n4_; have HB := n5_; clear n0_ n1_ n2_ n3_ n4_ n5_; (try clear hb); (try clear hb2); (try clear hk); (try clear hi)) | ((with_reducible refine gate_dst (N := 25) rfl ?_); refine box_event ?hg (N := 25) ?hd (cs := #[.int .i64 0, .int .i64 0, .int .i64 0, .int .i64 0]) (t := 37) ?hr ?_; (case hd => rfl); (case hg => rfl); (case hr => first | (go_simp; done) | (go_simp; rfl)); intro gb399 hg w92 hbox hb; have n0_ := Aside0.mk (blk_below (g := gb364) (o := .cells #[.int .i64 t359, .int .i64 t360, .int .i64 t361, .int .i64 t362] 37 (0, 0)) (by (with_reducible repeat (first | refine blk_drewN ?_ _ | refine blk_drew ?_ | refine blk_alloc ?_ _)); exact BK364.out) hb); have n1_ := Aside0.mk (blk_below (g := gb370) (o := .cells #[.int .i64 t365, .int .i64 t366, .int .i64 t367, .int .i64 t368] 37 (0, 0)) (by (with_reducible repeat (first | refine blk_drewN ?_ _ | refine blk_drew ?_ | refine blk_alloc ?_ _)); exact BK370.out) hb); have n2_ := Aside0.mk (blk_below (g := gb376) (o := .cells #[.int .i64 t371, .int .i64 t372, .int .i64 t373, .int .i64 t374] 37 (0, 0)) (by (with_reducible repeat (first | refine blk_drewN ?_ _ | refine blk_drew ?_ | refine blk_alloc ?_ _)); exact BK376.out) hb); have n3_ := Aside0.mk (blk_below (g := gb382) (o := .cells #[.int .i64 t377, .int .i64 t378, .int .i64 t379, .int .i64 t380] 37 (0, 0)) (by (with_reducible repeat (first | refine blk_drewN ?_ _ | refine blk_drew ?_ | refine blk_alloc ?_ _)); exact BK382.out) hb); have n4_ := Aside0.mk (blk_below (g := gb392) (o := .cells #[.int .i64 t386, .int .i64 t387, .int .i64 t388, .int .i64 t389] 37 (0, 0)) (by (with_reducible repeat (first | refine blk_drewN ?_ _ | refine blk_drew ?_ | refine blk_alloc ?_ _)); exact BK392.out) hb); have n5_ := Aside0.mk (below_step (by repeat (first | (with_reducible first | exact HB.out | apply below_alloc | apply pw_below_drewN | apply below_drew1 | refine below_set ?_ GE364.out | refine below_set ?_ GE370.out | refine below_set ?_ GE376.out | refine below_set ?_ GE382.out | refine below_set ?_ GE392.out) | exact HB.out)) hb); have n6_ := Aside0.mk (hbox); have n7_ := Aside0.mk ((by rw [hg]; exact (below_size (by repeat (first | (with_reducible first | exact HB.out | apply below_alloc | apply pw_below_drewN | apply below_drew1 | refine below_set ?_ GE364.out | refine below_set ?_ GE370.out | refine below_set ?_ GE376.out | refine below_set ?_ GE382.out | refine below_set ?_ GE392.out) | exact HB.out))) : w.heap.size ≤ gb399)); have n8_ := Aside0.mk ((by rw [hg]; exact (below_size (by repeat (first | (with_reducible first | exact HB.out | apply below_alloc | apply pw_below_drewN | apply below_drew1 | refine below_set ?_ GE364.out | refine below_set ?_ GE370.out | refine below_set ?_ GE376.out | refine below_set ?_ GE382.out | refine below_set ?_ GE392.out) | exact HB.out))) : w.heap.size ≤ gb399)); have n9_ := Aside0.mk ((by rw [hg]; exact Nat.ne_of_lt (blk_lt (g := gb364) (o := .cells #[.int .i64 t359, .int .i64 t360, .int .i64 t361, .int .i64 t362] 37 (0, 0)) (by (with_reducible repeat (first | refine blk_drewN ?_ _ | refine blk_drew ?_ | refine blk_alloc ?_ _)); exact BK364.out)) : gb364 ≠ gb399)); have n10_ := Aside0.mk ((by rw [hg]; exact Nat.ne_of_gt (blk_lt (g := gb364) (o := .cells #[.int .i64 t359, .int .i64 t360, .int .i64 t361, .int .i64 t362] 37 (0, 0)) (by (with_reducible repeat (first | refine blk_drewN ?_ _ | refine blk_drew ?_ | refine blk_alloc ?_ _)); exact BK364.out)) : gb399 ≠ gb364)); have n11_ := Aside0.mk ((by rw [hg]; exact Nat.ne_of_lt (blk_lt (g := gb370) (o := .cells #[.int .i64 t365, .int .i64 t366, .int .i64 t367, .int .i64 t368] 37 (0, 0)) (by (with_reducible repeat (first | refine blk_drewN ?_ _ | refine blk_drew ?_ | refine blk_alloc ?_ _)); exact BK370.out)) : gb370 ≠ gb399)); have n12_ := Aside0.mk ((by rw [hg]; exact Nat.ne_of_gt (blk_lt (g := gb370) (o := .cells #[.int .i64 t365, .int .i64 t366, .int .i64 t367, .int .i64 t368] 37 (0, 0)) (by (with_reducible repeat (first | refine blk_drewN ?_ _ | refine blk_drew ?_ | refine blk_alloc ?_ _)); exact BK370.out)) : gb399 ≠ gb370)); have n13_ := Aside0.mk ((by rw [hg]; exact Nat.ne_of_lt (blk_lt (g := gb376) (o := .cells #[.int .i64 t371, .int .i64 t372, .int .i64 t373, .int .i64 t374] 37 (0, 0)) (by (with_reducible repeat (first | refine blk_drewN ?_ _ | refine blk_drew ?_ | refine blk_alloc ?_ _)); exact BK376.out)) : gb376 ≠ gb399)); have n14_ := Aside0.mk ((by rw [hg]; exact Nat.ne_of_gt (blk_lt (g := gb376) (o := .cells #[.int .i64 t371, .int .i64 t372, .int .i64 t373, .int .i64 t374] 37 (0, 0)) (by (with_reducible repeat (first | refine blk_drewN ?_ _ | refine blk_drew ?_ | refine blk_alloc ?_ _)); exact BK376.out)) : gb399 ≠ gb376)); have n15_ := Aside0.mk ((by rw [hg]; exact Nat.ne_of_lt (blk_lt (g := gb382) (o := .cells #[.int .i64 t377, .int .i64 t378, .int .i64 t379, .int .i64 t380] 37 (0, 0)) (by (with_reducible repeat (first | refine blk_drewN ?_ _ | refine blk_drew ?_ | refine blk_alloc ?_ _)); exact BK382.out)) : gb382 ≠ gb399)); have n16_ := Aside0.mk ((by rw [hg]; exact Nat.ne_of_gt (blk_lt (g := gb382) (o := .cells #[.int .i64 t377, .int .i64 t378, .int .i64 t379, .int .i64 t380] 37 (0, 0)) (by (with_reducible repeat (first | refine blk_drewN ?_ _ | refine blk_drew ?_ | refine blk_alloc ?_ _)); exact BK382.out)) : gb399 ≠ gb382)); have n17_ := Aside0.mk ((by rw [hg]; exact Nat.ne_of_lt (blk_lt (g := gb392) (o := .cells #[.int .i64 t386, .int .i64 t387, .int .i64 t388, .int .i64 t389] 37 (0, 0)) (by (with_reducible repeat (first | refine blk_drewN ?_ _ | refine blk_drew ?_ | refine blk_alloc ?_ _)); exact BK392.out)) : gb392 ≠ gb399)); have n18_ := Aside0.mk ((by rw [hg]; exact Nat.ne_of_gt (blk_lt (g := gb392) (o := .cells #[.int .i64 t386, .int .i64 t387, .int .i64 t388, .int .i64 t389] 37 (0, 0)) (by (with_reducible repeat (first | refine blk_drewN ?_ _ | refine blk_drew ?_ | refine blk_alloc ?_ _)); exact BK392.out)) : gb399 ≠ gb392)); clear BK364; clear BK370; clear BK376; clear BK382; clear BK392; clear HB; have BK364 := n0_; have BK370 := n1_; have BK376 := n2_; have BK382 := n3_; have BK392 := n4_; have HB := n5_; have BK399 := n6_; have GW399 := n7_; have GE399 := n8_; have NB364_399 := n9_; have NB399_364 := n10_; have NB370_399 := n11_; have NB399_370 := n12_; have NB376_399 := n13_; have NB399_376 := n14_; have NB382_399 := n15_; have NB399_382 := n16_; have NB392_399 := n17_; have NB399_392 := n18_; clear n0_ n1_ n2_ n3_ n4_ n5_ n6_ n7_ n8_ n9_ n10_ n11_ n12_ n13_ n14_ n15_ n16_ n17_ n18_; clear hb hbox hg; have hnb93 := NB399_364.out; have hnc93 := NB364_399.out; have hnb94 := NB399_370.out; have hnc94 := NB370_399.out; have hnb95 := NB399_376.out; have hnc95 := NB376_399.out; have hnb96 := NB399_382.out; have hnc96 := NB382_399.out; have hnb97 := NB399_392.out; have hnc97 := NB392_399.out; have hcz98_0 : w92.cell? ⟨gb399, 0, none⟩ = some (.int .i64 0) := (blk_cell BK399.out 0).trans rfl; have hcz98_1 : w92.cell? ⟨gb399, 1, none⟩ = some (.int .i64 0) := (blk_cell BK399.out 1).trans rfl; have hcz98_2 : w92.cell? ⟨gb399, 2, none⟩ = some (.int .i64 0) := (blk_cell BK399.out 2).trans rfl; have hcz98_3 : w92.cell? ⟨gb399, 3, none⟩ = some (.int .i64 0) := (blk_cell BK399.out 3).trans rfl; have hfz98_0 := blk_frozen BK399.out 0; have hfz98_1 := blk_frozen BK399.out 1; have hfz98_2 := blk_frozen BK399.out 2; have hfz98_3 := blk_frozen BK399.out 3))
                            go_ret
                            exact ⟨by first | rfl | (simp [errW_none, errW_some] <;> rfl) | (simp [*, errW_none, errW_some] <;> rfl), by repeat (first | (with_reducible first | exact HB.out | apply below_alloc | apply pw_below_drewN | apply below_drew1 | refine below_set ?_ GE364.out | refine below_set ?_ GE370.out | refine below_set ?_ GE376.out | refine below_set ?_ GE382.out | refine below_set ?_ GE392.out | refine below_set ?_ GE399.out) | exact HB.out)⟩
                          · replace c85 := Bool.eq_false_iff.mpr c85
                            subst c85
                            have H1 : (foghornlaw08_BucketParts.l0 k4 x4_6 t383 (wrap64 (x24_4 + 1)) t365 t366 t367 t368 t371 t372 t373 t374) = some r := by rw [if_neg (show ¬ (false = true) by decide)] at H; exact H
                            clear H
                            have H := H1
                            clear H1
                            have H' := Aside0.mk H
                            clear H
                            have hnb99 := NB370_364.out
                            have hnc99 := NB364_370.out
                            have hnb100 := NB370_376.out
                            have hnc100 := NB376_370.out
                            have hnb101 := NB370_382.out
                            have hnc101 := NB382_370.out
                            have hnb102 := NB370_392.out
                            have hnc102 := NB392_370.out
                            have hcz103_0 : wr.cell? ⟨gb370, 0, none⟩ = some (.int .i64 t365) := (blk_cell BK370.out 0).trans rfl
                            have hcz103_1 : wr.cell? ⟨gb370, 1, none⟩ = some (.int .i64 t366) := (blk_cell BK370.out 1).trans rfl
                            have hcz103_2 : wr.cell? ⟨gb370, 2, none⟩ = some (.int .i64 t367) := (blk_cell BK370.out 2).trans rfl
                            have hcz103_3 : wr.cell? ⟨gb370, 3, none⟩ = some (.int .i64 t368) := (blk_cell BK370.out 3).trans rfl
                            have hfz103_0 := blk_frozen BK370.out 0
                            have hfz103_1 := blk_frozen BK370.out 1
                            have hfz103_2 := blk_frozen BK370.out 2
                            have hfz103_3 := blk_frozen BK370.out 3
                            go_wp2_with (first | ((with_reducible refine gate_callee (f := 26) rfl ?_); refine goesL_ (some 129) rfl rfl Try.func26 (by kernel_rfl) rfl #[.agg #[.int .i64 t365, .int .i64 t366, .int .i64 t367, .int .i64 t368], .int .i64 x24_4] rfl (by (try simp only [List.map_toArray, List.map_cons, List.map_nil]); first | done | rfl | (simp only [List.length_drop, List.length_take]; rfl)) ?_; (with_reducible refine (bucket_Take.calls t365 t366 t367 t368 x24_4 t393 t394 t395 t396 false t398 _ A83.out).mono ?_); rintro e w104 ⟨rfl, hb⟩; refine ⟨_, rfl, ?_⟩; have n0_ := Aside0.mk (blk_below (g := gb364) (o := .cells #[.int .i64 t359, .int .i64 t360, .int .i64 t361, .int .i64 t362] 37 (0, 0)) (by (with_reducible repeat (first | refine blk_drewN ?_ _ | refine blk_drew ?_ | refine blk_alloc ?_ _)); exact BK364.out) hb); have n1_ := Aside0.mk (blk_below (g := gb370) (o := .cells #[.int .i64 t365, .int .i64 t366, .int .i64 t367, .int .i64 t368] 37 (0, 0)) (by (with_reducible repeat (first | refine blk_drewN ?_ _ | refine blk_drew ?_ | refine blk_alloc ?_ _)); exact BK370.out) hb); have n2_ := Aside0.mk (blk_below (g := gb376) (o := .cells #[.int .i64 t371, .int .i64 t372, .int .i64 t373, .int .i64 t374] 37 (0, 0)) (by (with_reducible repeat (first | refine blk_drewN ?_ _ | refine blk_drew ?_ | refine blk_alloc ?_ _)); exact BK376.out) hb); have n3_ := Aside0.mk (blk_below (g := gb382) (o := .cells #[.int .i64 t377, .int .i64 t378, .int .i64 t379, .int .i64 t380] 37 (0, 0)) (by (with_reducible repeat (first | refine blk_drewN ?_ _ | refine blk_drew ?_ | refine blk_alloc ?_ _)); exact BK382.out) hb); have n4_ := Aside0.mk (blk_below (g := gb392) (o := .cells #[.int .i64 t386, .int .i64 t387, .int .i64 t388, .int .i64 t389] 37 (0, 0)) (by (with_reducible repeat (first | refine blk_drewN ?_ _ | refine blk_drew ?_ | refine blk_alloc ?_ _)); exact BK392.out) hb); have n5_ := Aside0.mk (below_step (by repeat (first | (with_reducible first | exact HB.out | apply below_alloc | apply pw_below_drewN | apply below_drew1 | refine below_set ?_ GE364.out | refine below_set ?_ GE370.out | refine below_set ?_ GE376.out | refine below_set ?_ GE382.out | refine below_set ?_ GE392.out) | exact HB.out)) hb); clear BK364; clear BK370; clear BK376; clear BK382; clear BK392; clear HB; have BK364 := n0_; have BK370 := n1_; have BK376 := n2_; have BK382 := n3_; have BK392 := n4_; have HB := n5_; clear n0_ n1_ n2_ n3_ n4_ n5_; (try clear hb); (try clear hb2); (try clear hk); (try clear hi)) | ((with_reducible refine gate_dst (N := 25) rfl ?_); refine box_event ?hg (N := 25) ?hd (cs := #[.int .i64 0, .int .i64 0, .int .i64 0, .int .i64 0]) (t := 37) ?hr ?_; (case hd => rfl); (case hg => rfl); (case hr => first | (go_simp; done) | (go_simp; rfl)); intro gb399 hg w105 hbox hb; have n0_ := Aside0.mk (blk_below (g := gb364) (o := .cells #[.int .i64 t359, .int .i64 t360, .int .i64 t361, .int .i64 t362] 37 (0, 0)) (by (with_reducible repeat (first | refine blk_drewN ?_ _ | refine blk_drew ?_ | refine blk_alloc ?_ _)); exact BK364.out) hb); have n1_ := Aside0.mk (blk_below (g := gb370) (o := .cells #[.int .i64 t365, .int .i64 t366, .int .i64 t367, .int .i64 t368] 37 (0, 0)) (by (with_reducible repeat (first | refine blk_drewN ?_ _ | refine blk_drew ?_ | refine blk_alloc ?_ _)); exact BK370.out) hb); have n2_ := Aside0.mk (blk_below (g := gb376) (o := .cells #[.int .i64 t371, .int .i64 t372, .int .i64 t373, .int .i64 t374] 37 (0, 0)) (by (with_reducible repeat (first | refine blk_drewN ?_ _ | refine blk_drew ?_ | refine blk_alloc ?_ _)); exact BK376.out) hb); have n3_ := Aside0.mk (blk_below (g := gb382) (o := .cells #[.int .i64 t377, .int .i64 t378, .int .i64 t379, .int .i64 t380] 37 (0, 0)) (by (with_reducible repeat (first | refine blk_drewN ?_ _ | refine blk_drew ?_ | refine blk_alloc ?_ _)); exact BK382.out) hb); have n4_ := Aside0.mk (blk_below (g := gb392) (o := .cells #[.int .i64 t386, .int .i64 t387, .int .i64 t388, .int .i64 t389] 37 (0, 0)) (by (with_reducible repeat (first | refine blk_drewN ?_ _ | refine blk_drew ?_ | refine blk_alloc ?_ _)); exact BK392.out) hb); have n5_ := Aside0.mk (below_step (by repeat (first | (with_reducible first | exact HB.out | apply below_alloc | apply pw_below_drewN | apply below_drew1 | refine below_set ?_ GE364.out | refine below_set ?_ GE370.out | refine below_set ?_ GE376.out | refine below_set ?_ GE382.out | refine below_set ?_ GE392.out) | exact HB.out)) hb); have n6_ := Aside0.mk (hbox); have n7_ := Aside0.mk ((by rw [hg]; exact (below_size (by repeat (first | (with_reducible first | exact HB.out | apply below_alloc | apply pw_below_drewN | apply below_drew1 | refine below_set ?_ GE364.out | refine below_set ?_ GE370.out | refine below_set ?_ GE376.out | refine below_set ?_ GE382.out | refine below_set ?_ GE392.out) | exact HB.out))) : w.heap.size ≤ gb399)); have n8_ := Aside0.mk ((by rw [hg]; exact (below_size (by repeat (first | (with_reducible first | exact HB.out | apply below_alloc | apply pw_below_drewN | apply below_drew1 | refine below_set ?_ GE364.out | refine below_set ?_ GE370.out | refine below_set ?_ GE376.out | refine below_set ?_ GE382.out | refine below_set ?_ GE392.out) | exact HB.out))) : w.heap.size ≤ gb399)); have n9_ := Aside0.mk ((by rw [hg]; exact Nat.ne_of_lt (blk_lt (g := gb364) (o := .cells #[.int .i64 t359, .int .i64 t360, .int .i64 t361, .int .i64 t362] 37 (0, 0)) (by (with_reducible repeat (first | refine blk_drewN ?_ _ | refine blk_drew ?_ | refine blk_alloc ?_ _)); exact BK364.out)) : gb364 ≠ gb399)); have n10_ := Aside0.mk ((by rw [hg]; exact Nat.ne_of_gt (blk_lt (g := gb364) (o := .cells #[.int .i64 t359, .int .i64 t360, .int .i64 t361, .int .i64 t362] 37 (0, 0)) (by (with_reducible repeat (first | refine blk_drewN ?_ _ | refine blk_drew ?_ | refine blk_alloc ?_ _)); exact BK364.out)) : gb399 ≠ gb364)); have n11_ := Aside0.mk ((by rw [hg]; exact Nat.ne_of_lt (blk_lt (g := gb370) (o := .cells #[.int .i64 t365, .int .i64 t366, .int .i64 t367, .int .i64 t368] 37 (0, 0)) (by (with_reducible repeat (first | refine blk_drewN ?_ _ | refine blk_drew ?_ | refine blk_alloc ?_ _)); exact BK370.out)) : gb370 ≠ gb399)); have n12_ := Aside0.mk ((by rw [hg]; exact Nat.ne_of_gt (blk_lt (g := gb370) (o := .cells #[.int .i64 t365, .int .i64 t366, .int .i64 t367, .int .i64 t368] 37 (0, 0)) (by (with_reducible repeat (first | refine blk_drewN ?_ _ | refine blk_drew ?_ | refine blk_alloc ?_ _)); exact BK370.out)) : gb399 ≠ gb370)); have n13_ := Aside0.mk ((by rw [hg]; exact Nat.ne_of_lt (blk_lt (g := gb376) (o := .cells #[.int .i64 t371, .int .i64 t372, .int .i64 t373, .int .i64 t374] 37 (0, 0)) (by (with_reducible repeat (first | refine blk_drewN ?_ _ | refine blk_drew ?_ | refine blk_alloc ?_ _)); exact BK376.out)) : gb376 ≠ gb399)); have n14_ := Aside0.mk ((by rw [hg]; exact Nat.ne_of_gt (blk_lt (g := gb376) (o := .cells #[.int .i64 t371, .int .i64 t372, .int .i64 t373, .int .i64 t374] 37 (0, 0)) (by (with_reducible repeat (first | refine blk_drewN ?_ _ | refine blk_drew ?_ | refine blk_alloc ?_ _)); exact BK376.out)) : gb399 ≠ gb376)); have n15_ := Aside0.mk ((by rw [hg]; exact Nat.ne_of_lt (blk_lt (g := gb382) (o := .cells #[.int .i64 t377, .int .i64 t378, .int .i64 t379, .int .i64 t380] 37 (0, 0)) (by (with_reducible repeat (first | refine blk_drewN ?_ _ | refine blk_drew ?_ | refine blk_alloc ?_ _)); exact BK382.out)) : gb382 ≠ gb399)); have n16_ := Aside0.mk ((by rw [hg]; exact Nat.ne_of_gt (blk_lt (g := gb382) (o := .cells #[.int .i64 t377, .int .i64 t378, .int .i64 t379, .int .i64 t380] 37 (0, 0)) (by (with_reducible repeat (first | refine blk_drewN ?_ _ | refine blk_drew ?_ | refine blk_alloc ?_ _)); exact BK382.out)) : gb399 ≠ gb382)); have n17_ := Aside0.mk ((by rw [hg]; exact Nat.ne_of_lt (blk_lt (g := gb392) (o := .cells #[.int .i64 t386, .int .i64 t387, .int .i64 t388, .int .i64 t389] 37 (0, 0)) (by (with_reducible repeat (first | refine blk_drewN ?_ _ | refine blk_drew ?_ | refine blk_alloc ?_ _)); exact BK392.out)) : gb392 ≠ gb399)); have n18_ := Aside0.mk ((by rw [hg]; exact Nat.ne_of_gt (blk_lt (g := gb392) (o := .cells #[.int .i64 t386, .int .i64 t387, .int .i64 t388, .int .i64 t389] 37 (0, 0)) (by (with_reducible repeat (first | refine blk_drewN ?_ _ | refine blk_drew ?_ | refine blk_alloc ?_ _)); exact BK392.out)) : gb399 ≠ gb392)); clear BK364; clear BK370; clear BK376; clear BK382; clear BK392; clear HB; have BK364 := n0_; have BK370 := n1_; have BK376 := n2_; have BK382 := n3_; have BK392 := n4_; have HB := n5_; have BK399 := n6_; have GW399 := n7_; have GE399 := n8_; have NB364_399 := n9_; have NB399_364 := n10_; have NB370_399 := n11_; have NB399_370 := n12_; have NB376_399 := n13_; have NB399_376 := n14_; have NB382_399 := n15_; have NB399_382 := n16_; have NB392_399 := n17_; have NB399_392 := n18_; clear n0_ n1_ n2_ n3_ n4_ n5_ n6_ n7_ n8_ n9_ n10_ n11_ n12_ n13_ n14_ n15_ n16_ n17_ n18_; clear hb hbox hg; have hnb106 := NB399_364.out; have hnc106 := NB364_399.out; have hnb107 := NB399_370.out; have hnc107 := NB370_399.out; have hnb108 := NB399_376.out; have hnc108 := NB376_399.out; have hnb109 := NB399_382.out; have hnc109 := NB382_399.out; have hnb110 := NB399_392.out; have hnc110 := NB392_399.out; have hcz111_0 : w105.cell? ⟨gb399, 0, none⟩ = some (.int .i64 0) := (blk_cell BK399.out 0).trans rfl; have hcz111_1 : w105.cell? ⟨gb399, 1, none⟩ = some (.int .i64 0) := (blk_cell BK399.out 1).trans rfl; have hcz111_2 : w105.cell? ⟨gb399, 2, none⟩ = some (.int .i64 0) := (blk_cell BK399.out 2).trans rfl; have hcz111_3 : w105.cell? ⟨gb399, 3, none⟩ = some (.int .i64 0) := (blk_cell BK399.out 3).trans rfl; have hfz111_0 := blk_frozen BK399.out 0; have hfz111_1 := blk_frozen BK399.out 1; have hfz111_2 := blk_frozen BK399.out 2; have hfz111_3 := blk_frozen BK399.out 3))
                            go_roundg k4
                            case measure => have := HJ6.out; have := HJ15.out; have := HJ67.out; have := HK4.out; omega
                            case rel => exact ⟨(wrap64 (x24_4 + 1)), (by first | rfl | (simp; done) | (simp [*]; done)), H', ⟨by have := HJ6.out; have := HJ15.out; have := HJ67.out; have := HK4.out; omega⟩, ⟨by (with_reducible repeat (first | refine blk_drewN ?_ _ | refine blk_drew ?_ | refine blk_alloc ?_ _)); refine blk_far ?_ NB364_399.out _; (with_reducible repeat (first | refine blk_drewN ?_ _ | refine blk_drew ?_ | refine blk_alloc ?_ _)); refine blk_far ?_ NB364_399.out _; (with_reducible repeat (first | refine blk_drewN ?_ _ | refine blk_drew ?_ | refine blk_alloc ?_ _)); refine blk_far ?_ NB364_399.out _; (with_reducible repeat (first | refine blk_drewN ?_ _ | refine blk_drew ?_ | refine blk_alloc ?_ _)); refine blk_far ?_ NB364_399.out _; (with_reducible repeat (first | refine blk_drewN ?_ _ | refine blk_drew ?_ | refine blk_alloc ?_ _)); exact BK364.out⟩, ⟨by (with_reducible repeat (first | refine blk_drewN ?_ _ | refine blk_drew ?_ | refine blk_alloc ?_ _)); refine blk_far ?_ NB370_399.out _; (with_reducible repeat (first | refine blk_drewN ?_ _ | refine blk_drew ?_ | refine blk_alloc ?_ _)); refine blk_far ?_ NB370_399.out _; (with_reducible repeat (first | refine blk_drewN ?_ _ | refine blk_drew ?_ | refine blk_alloc ?_ _)); refine blk_far ?_ NB370_399.out _; (with_reducible repeat (first | refine blk_drewN ?_ _ | refine blk_drew ?_ | refine blk_alloc ?_ _)); refine blk_far ?_ NB370_399.out _; (with_reducible repeat (first | refine blk_drewN ?_ _ | refine blk_drew ?_ | refine blk_alloc ?_ _)); exact BK370.out⟩, ⟨by (with_reducible repeat (first | refine blk_drewN ?_ _ | refine blk_drew ?_ | refine blk_alloc ?_ _)); refine blk_far ?_ NB376_399.out _; (with_reducible repeat (first | refine blk_drewN ?_ _ | refine blk_drew ?_ | refine blk_alloc ?_ _)); refine blk_far ?_ NB376_399.out _; (with_reducible repeat (first | refine blk_drewN ?_ _ | refine blk_drew ?_ | refine blk_alloc ?_ _)); refine blk_far ?_ NB376_399.out _; (with_reducible repeat (first | refine blk_drewN ?_ _ | refine blk_drew ?_ | refine blk_alloc ?_ _)); refine blk_far ?_ NB376_399.out _; (with_reducible repeat (first | refine blk_drewN ?_ _ | refine blk_drew ?_ | refine blk_alloc ?_ _)); exact BK376.out⟩, ⟨by (with_reducible repeat (first | refine blk_drewN ?_ _ | refine blk_drew ?_ | refine blk_alloc ?_ _)); refine blk_far ?_ NB382_399.out _; (with_reducible repeat (first | refine blk_drewN ?_ _ | refine blk_drew ?_ | refine blk_alloc ?_ _)); refine blk_far ?_ NB382_399.out _; (with_reducible repeat (first | refine blk_drewN ?_ _ | refine blk_drew ?_ | refine blk_alloc ?_ _)); refine blk_far ?_ NB382_399.out _; (with_reducible repeat (first | refine blk_drewN ?_ _ | refine blk_drew ?_ | refine blk_alloc ?_ _)); refine blk_far ?_ NB382_399.out _; (with_reducible repeat (first | refine blk_drewN ?_ _ | refine blk_drew ?_ | refine blk_alloc ?_ _)); exact BK382.out⟩, ⟨by (with_reducible repeat (first | refine blk_drewN ?_ _ | refine blk_drew ?_ | refine blk_alloc ?_ _)); refine blk_far ?_ NB392_399.out _; (with_reducible repeat (first | refine blk_drewN ?_ _ | refine blk_drew ?_ | refine blk_alloc ?_ _)); refine blk_far ?_ NB392_399.out _; (with_reducible repeat (first | refine blk_drewN ?_ _ | refine blk_drew ?_ | refine blk_alloc ?_ _)); refine blk_far ?_ NB392_399.out _; (with_reducible repeat (first | refine blk_drewN ?_ _ | refine blk_drew ?_ | refine blk_alloc ?_ _)); refine blk_far ?_ NB392_399.out _; (with_reducible repeat (first | refine blk_drewN ?_ _ | refine blk_drew ?_ | refine blk_alloc ?_ _)); exact BK392.out⟩, ⟨by repeat (first | (with_reducible first | exact HB.out | apply below_alloc | apply pw_below_drewN | apply below_drew1 | refine below_set ?_ GE364.out | refine below_set ?_ GE370.out | refine below_set ?_ GE376.out | refine below_set ?_ GE382.out | refine below_set ?_ GE392.out | refine below_set ?_ GE399.out) | exact HB.out)⟩⟩
                        · rw [if_neg c84] at H
                          have c84b0 : (t398 == 0) = false := beq_eq_false_iff_ne.mpr c84
                          have c84b1 : (t398 != 0) = true := bne_iff_ne.mpr c84
                          obtain rfl := Option.some.inj H
                          have hnb112 := NB370_364.out
                          have hnc112 := NB364_370.out
                          have hnb113 := NB370_376.out
                          have hnc113 := NB376_370.out
                          have hnb114 := NB370_382.out
                          have hnc114 := NB382_370.out
                          have hnb115 := NB370_392.out
                          have hnc115 := NB392_370.out
                          have hcz116_0 : wr.cell? ⟨gb370, 0, none⟩ = some (.int .i64 t365) := (blk_cell BK370.out 0).trans rfl
                          have hcz116_1 : wr.cell? ⟨gb370, 1, none⟩ = some (.int .i64 t366) := (blk_cell BK370.out 1).trans rfl
                          have hcz116_2 : wr.cell? ⟨gb370, 2, none⟩ = some (.int .i64 t367) := (blk_cell BK370.out 2).trans rfl
                          have hcz116_3 : wr.cell? ⟨gb370, 3, none⟩ = some (.int .i64 t368) := (blk_cell BK370.out 3).trans rfl
                          have hfz116_0 := blk_frozen BK370.out 0
                          have hfz116_1 := blk_frozen BK370.out 1
                          have hfz116_2 := blk_frozen BK370.out 2
                          have hfz116_3 := blk_frozen BK370.out 3
                          go_wp2_with (first | ((with_reducible refine gate_callee (f := 26) rfl ?_); refine goesL_ (some 129) rfl rfl Try.func26 (by kernel_rfl) rfl #[.agg #[.int .i64 t365, .int .i64 t366, .int .i64 t367, .int .i64 t368], .int .i64 x24_4] rfl (by (try simp only [List.map_toArray, List.map_cons, List.map_nil]); first | done | rfl | (simp only [List.length_drop, List.length_take]; rfl)) ?_; (with_reducible refine (bucket_Take.calls t365 t366 t367 t368 x24_4 t393 t394 t395 t396 t397 t398 _ A83.out).mono ?_); rintro e w117 ⟨rfl, hb⟩; refine ⟨_, rfl, ?_⟩; have n0_ := Aside0.mk (blk_below (g := gb364) (o := .cells #[.int .i64 t359, .int .i64 t360, .int .i64 t361, .int .i64 t362] 37 (0, 0)) (by (with_reducible repeat (first | refine blk_drewN ?_ _ | refine blk_drew ?_ | refine blk_alloc ?_ _)); exact BK364.out) hb); have n1_ := Aside0.mk (blk_below (g := gb370) (o := .cells #[.int .i64 t365, .int .i64 t366, .int .i64 t367, .int .i64 t368] 37 (0, 0)) (by (with_reducible repeat (first | refine blk_drewN ?_ _ | refine blk_drew ?_ | refine blk_alloc ?_ _)); exact BK370.out) hb); have n2_ := Aside0.mk (blk_below (g := gb376) (o := .cells #[.int .i64 t371, .int .i64 t372, .int .i64 t373, .int .i64 t374] 37 (0, 0)) (by (with_reducible repeat (first | refine blk_drewN ?_ _ | refine blk_drew ?_ | refine blk_alloc ?_ _)); exact BK376.out) hb); have n3_ := Aside0.mk (blk_below (g := gb382) (o := .cells #[.int .i64 t377, .int .i64 t378, .int .i64 t379, .int .i64 t380] 37 (0, 0)) (by (with_reducible repeat (first | refine blk_drewN ?_ _ | refine blk_drew ?_ | refine blk_alloc ?_ _)); exact BK382.out) hb); have n4_ := Aside0.mk (blk_below (g := gb392) (o := .cells #[.int .i64 t386, .int .i64 t387, .int .i64 t388, .int .i64 t389] 37 (0, 0)) (by (with_reducible repeat (first | refine blk_drewN ?_ _ | refine blk_drew ?_ | refine blk_alloc ?_ _)); exact BK392.out) hb); have n5_ := Aside0.mk (below_step (by repeat (first | (with_reducible first | exact HB.out | apply below_alloc | apply pw_below_drewN | apply below_drew1 | refine below_set ?_ GE364.out | refine below_set ?_ GE370.out | refine below_set ?_ GE376.out | refine below_set ?_ GE382.out | refine below_set ?_ GE392.out) | exact HB.out)) hb); clear BK364; clear BK370; clear BK376; clear BK382; clear BK392; clear HB; have BK364 := n0_; have BK370 := n1_; have BK376 := n2_; have BK382 := n3_; have BK392 := n4_; have HB := n5_; clear n0_ n1_ n2_ n3_ n4_ n5_; (try clear hb); (try clear hb2); (try clear hk); (try clear hi)) | ((with_reducible refine gate_dst (N := 25) rfl ?_); refine box_event ?hg (N := 25) ?hd (cs := #[.int .i64 0, .int .i64 0, .int .i64 0, .int .i64 0]) (t := 37) ?hr ?_; (case hd => rfl); (case hg => rfl); (case hr => first | (go_simp; done) | (go_simp; rfl)); intro gb399 hg w118 hbox hb; have n0_ := Aside0.mk (blk_below (g := gb364) (o := .cells #[.int .i64 t359, .int .i64 t360, .int .i64 t361, .int .i64 t362] 37 (0, 0)) (by (with_reducible repeat (first | refine blk_drewN ?_ _ | refine blk_drew ?_ | refine blk_alloc ?_ _)); exact BK364.out) hb); have n1_ := Aside0.mk (blk_below (g := gb370) (o := .cells #[.int .i64 t365, .int .i64 t366, .int .i64 t367, .int .i64 t368] 37 (0, 0)) (by (with_reducible repeat (first | refine blk_drewN ?_ _ | refine blk_drew ?_ | refine blk_alloc ?_ _)); exact BK370.out) hb); have n2_ := Aside0.mk (blk_below (g := gb376) (o := .cells #[.int .i64 t371, .int .i64 t372, .int .i64 t373, .int .i64 t374] 37 (0, 0)) (by (with_reducible repeat (first | refine blk_drewN ?_ _ | refine blk_drew ?_ | refine blk_alloc ?_ _)); exact BK376.out) hb); have n3_ := Aside0.mk (blk_below (g := gb382) (o := .cells #[.int .i64 t377, .int .i64 t378, .int .i64 t379, .int .i64 t380] 37 (0, 0)) (by (with_reducible repeat (first | refine blk_drewN ?_ _ | refine blk_drew ?_ | refine blk_alloc ?_ _)); exact BK382.out) hb); have n4_ := Aside0.mk (blk_below (g := gb392) (o := .cells #[.int .i64 t386, .int .i64 t387, .int .i64 t388, .int .i64 t389] 37 (0, 0)) (by (with_reducible repeat (first | refine blk_drewN ?_ _ | refine blk_drew ?_ | refine blk_alloc ?_ _)); exact BK392.out) hb); have n5_ := Aside0.mk (below_step (by repeat (first | (with_reducible first | exact HB.out | apply below_alloc | apply pw_below_drewN | apply below_drew1 | refine below_set ?_ GE364.out | refine below_set ?_ GE370.out | refine below_set ?_ GE376.out | refine below_set ?_ GE382.out | refine below_set ?_ GE392.out) | exact HB.out)) hb); have n6_ := Aside0.mk (hbox); have n7_ := Aside0.mk ((by rw [hg]; exact (below_size (by repeat (first | (with_reducible first | exact HB.out | apply below_alloc | apply pw_below_drewN | apply below_drew1 | refine below_set ?_ GE364.out | refine below_set ?_ GE370.out | refine below_set ?_ GE376.out | refine below_set ?_ GE382.out | refine below_set ?_ GE392.out) | exact HB.out))) : w.heap.size ≤ gb399)); have n8_ := Aside0.mk ((by rw [hg]; exact (below_size (by repeat (first | (with_reducible first | exact HB.out | apply below_alloc | apply pw_below_drewN | apply below_drew1 | refine below_set ?_ GE364.out | refine below_set ?_ GE370.out | refine below_set ?_ GE376.out | refine below_set ?_ GE382.out | refine below_set ?_ GE392.out) | exact HB.out))) : w.heap.size ≤ gb399)); have n9_ := Aside0.mk ((by rw [hg]; exact Nat.ne_of_lt (blk_lt (g := gb364) (o := .cells #[.int .i64 t359, .int .i64 t360, .int .i64 t361, .int .i64 t362] 37 (0, 0)) (by (with_reducible repeat (first | refine blk_drewN ?_ _ | refine blk_drew ?_ | refine blk_alloc ?_ _)); exact BK364.out)) : gb364 ≠ gb399)); have n10_ := Aside0.mk ((by rw [hg]; exact Nat.ne_of_gt (blk_lt (g := gb364) (o := .cells #[.int .i64 t359, .int .i64 t360, .int .i64 t361, .int .i64 t362] 37 (0, 0)) (by (with_reducible repeat (first | refine blk_drewN ?_ _ | refine blk_drew ?_ | refine blk_alloc ?_ _)); exact BK364.out)) : gb399 ≠ gb364)); have n11_ := Aside0.mk ((by rw [hg]; exact Nat.ne_of_lt (blk_lt (g := gb370) (o := .cells #[.int .i64 t365, .int .i64 t366, .int .i64 t367, .int .i64 t368] 37 (0, 0)) (by (with_reducible repeat (first | refine blk_drewN ?_ _ | refine blk_drew ?_ | refine blk_alloc ?_ _)); exact BK370.out)) : gb370 ≠ gb399)); have n12_ := Aside0.mk ((by rw [hg]; exact Nat.ne_of_gt (blk_lt (g := gb370) (o := .cells #[.int .i64 t365, .int .i64 t366, .int .i64 t367, .int .i64 t368] 37 (0, 0)) (by (with_reducible repeat (first | refine blk_drewN ?_ _ | refine blk_drew ?_ | refine blk_alloc ?_ _)); exact BK370.out)) : gb399 ≠ gb370)); have n13_ := Aside0.mk ((by rw [hg]; exact Nat.ne_of_lt (blk_lt (g := gb376) (o := .cells #[.int .i64 t371, .int .i64 t372, .int .i64 t373, .int .i64 t374] 37 (0, 0)) (by (with_reducible repeat (first | refine blk_drewN ?_ _ | refine blk_drew ?_ | refine blk_alloc ?_ _)); exact BK376.out)) : gb376 ≠ gb399)); have n14_ := Aside0.mk ((by rw [hg]; exact Nat.ne_of_gt (blk_lt (g := gb376) (o := .cells #[.int .i64 t371, .int .i64 t372, .int .i64 t373, .int .i64 t374] 37 (0, 0)) (by (with_reducible repeat (first | refine blk_drewN ?_ _ | refine blk_drew ?_ | refine blk_alloc ?_ _)); exact BK376.out)) : gb399 ≠ gb376)); have n15_ := Aside0.mk ((by rw [hg]; exact Nat.ne_of_lt (blk_lt (g := gb382) (o := .cells #[.int .i64 t377, .int .i64 t378, .int .i64 t379, .int .i64 t380] 37 (0, 0)) (by (with_reducible repeat (first | refine blk_drewN ?_ _ | refine blk_drew ?_ | refine blk_alloc ?_ _)); exact BK382.out)) : gb382 ≠ gb399)); have n16_ := Aside0.mk ((by rw [hg]; exact Nat.ne_of_gt (blk_lt (g := gb382) (o := .cells #[.int .i64 t377, .int .i64 t378, .int .i64 t379, .int .i64 t380] 37 (0, 0)) (by (with_reducible repeat (first | refine blk_drewN ?_ _ | refine blk_drew ?_ | refine blk_alloc ?_ _)); exact BK382.out)) : gb399 ≠ gb382)); have n17_ := Aside0.mk ((by rw [hg]; exact Nat.ne_of_lt (blk_lt (g := gb392) (o := .cells #[.int .i64 t386, .int .i64 t387, .int .i64 t388, .int .i64 t389] 37 (0, 0)) (by (with_reducible repeat (first | refine blk_drewN ?_ _ | refine blk_drew ?_ | refine blk_alloc ?_ _)); exact BK392.out)) : gb392 ≠ gb399)); have n18_ := Aside0.mk ((by rw [hg]; exact Nat.ne_of_gt (blk_lt (g := gb392) (o := .cells #[.int .i64 t386, .int .i64 t387, .int .i64 t388, .int .i64 t389] 37 (0, 0)) (by (with_reducible repeat (first | refine blk_drewN ?_ _ | refine blk_drew ?_ | refine blk_alloc ?_ _)); exact BK392.out)) : gb399 ≠ gb392)); clear BK364; clear BK370; clear BK376; clear BK382; clear BK392; clear HB; have BK364 := n0_; have BK370 := n1_; have BK376 := n2_; have BK382 := n3_; have BK392 := n4_; have HB := n5_; have BK399 := n6_; have GW399 := n7_; have GE399 := n8_; have NB364_399 := n9_; have NB399_364 := n10_; have NB370_399 := n11_; have NB399_370 := n12_; have NB376_399 := n13_; have NB399_376 := n14_; have NB382_399 := n15_; have NB399_382 := n16_; have NB392_399 := n17_; have NB399_392 := n18_; clear n0_ n1_ n2_ n3_ n4_ n5_ n6_ n7_ n8_ n9_ n10_ n11_ n12_ n13_ n14_ n15_ n16_ n17_ n18_; clear hb hbox hg; have hnb119 := NB399_364.out; have hnc119 := NB364_399.out; have hnb120 := NB399_370.out; have hnc120 := NB370_399.out; have hnb121 := NB399_376.out; have hnc121 := NB376_399.out; have hnb122 := NB399_382.out; have hnc122 := NB382_399.out; have hnb123 := NB399_392.out; have hnc123 := NB392_399.out; have hcz124_0 : w118.cell? ⟨gb399, 0, none⟩ = some (.int .i64 0) := (blk_cell BK399.out 0).trans rfl; have hcz124_1 : w118.cell? ⟨gb399, 1, none⟩ = some (.int .i64 0) := (blk_cell BK399.out 1).trans rfl; have hcz124_2 : w118.cell? ⟨gb399, 2, none⟩ = some (.int .i64 0) := (blk_cell BK399.out 2).trans rfl; have hcz124_3 : w118.cell? ⟨gb399, 3, none⟩ = some (.int .i64 0) := (blk_cell BK399.out 3).trans rfl; have hfz124_0 := blk_frozen BK399.out 0; have hfz124_1 := blk_frozen BK399.out 1; have hfz124_2 := blk_frozen BK399.out 2; have hfz124_3 := blk_frozen BK399.out 3))
                          go_ret
                          exact ⟨by first | rfl | (simp [errW_none, errW_some] <;> rfl) | (simp [*, errW_none, errW_some] <;> rfl), by repeat (first | (with_reducible first | exact HB.out | apply below_alloc | apply pw_below_drewN | apply below_drew1 | refine below_set ?_ GE364.out | refine below_set ?_ GE370.out | refine below_set ?_ GE376.out | refine below_set ?_ GE382.out | refine below_set ?_ GE392.out | refine below_set ?_ GE399.out) | exact HB.out)⟩
                      · rw [if_neg c82] at H
                        have c82b0 : decide (x24_4 < t383) = false := decide_eq_false c82
                        clear c82
                        replace H := Option.bind_eq_some_iff.mp H
                        obtain ⟨⟨t400, t401, t402, t403, t404, t405⟩, A1250, H⟩ := H
                        replace H : (if t405 = 0 then (some (t404 == (decide (x4_6 ≥ t383)))) else (some false)) = some r := H
                        have A125 := Aside0.mk A1250
                        clear A1250
                        by_cases c126 : t405 = 0
                        · rw [if_pos c126] at H
                          have c126b0 : (t405 == 0) = true := beq_iff_eq.mpr c126
                          have c126b1 : (t405 != 0) = false := bne_eq_false_iff_eq.mpr c126
                          clear c126
                          obtain rfl := Option.some.inj H
                          have hnb127 := NB376_364.out
                          have hnc127 := NB364_376.out
                          have hnb128 := NB376_370.out
                          have hnc128 := NB370_376.out
                          have hnb129 := NB376_382.out
                          have hnc129 := NB382_376.out
                          have hnb130 := NB376_392.out
                          have hnc130 := NB392_376.out
                          have hcz131_0 : wr.cell? ⟨gb376, 0, none⟩ = some (.int .i64 t371) := (blk_cell BK376.out 0).trans rfl
                          have hcz131_1 : wr.cell? ⟨gb376, 1, none⟩ = some (.int .i64 t372) := (blk_cell BK376.out 1).trans rfl
                          have hcz131_2 : wr.cell? ⟨gb376, 2, none⟩ = some (.int .i64 t373) := (blk_cell BK376.out 2).trans rfl
                          have hcz131_3 : wr.cell? ⟨gb376, 3, none⟩ = some (.int .i64 t374) := (blk_cell BK376.out 3).trans rfl
                          have hfz131_0 := blk_frozen BK376.out 0
                          have hfz131_1 := blk_frozen BK376.out 1
                          have hfz131_2 := blk_frozen BK376.out 2
                          have hfz131_3 := blk_frozen BK376.out 3
                          go_wp2_with (first | ((with_reducible refine gate_callee (f := 26) rfl ?_); refine goesL_ (some 141) rfl rfl Try.func26 (by kernel_rfl) rfl #[.agg #[.int .i64 t371, .int .i64 t372, .int .i64 t373, .int .i64 t374], .int .i64 x4_6] rfl (by (try simp only [List.map_toArray, List.map_cons, List.map_nil]); first | done | rfl | (simp only [List.length_drop, List.length_take]; rfl)) ?_; (with_reducible refine (bucket_Take.calls t371 t372 t373 t374 x4_6 t400 t401 t402 t403 t404 t405 _ A125.out).mono ?_); rintro e w132 ⟨rfl, hb⟩; refine ⟨_, rfl, ?_⟩; have n0_ := Aside0.mk (blk_below (g := gb364) (o := .cells #[.int .i64 t359, .int .i64 t360, .int .i64 t361, .int .i64 t362] 37 (0, 0)) (by (with_reducible repeat (first | refine blk_drewN ?_ _ | refine blk_drew ?_ | refine blk_alloc ?_ _)); exact BK364.out) hb); have n1_ := Aside0.mk (blk_below (g := gb370) (o := .cells #[.int .i64 t365, .int .i64 t366, .int .i64 t367, .int .i64 t368] 37 (0, 0)) (by (with_reducible repeat (first | refine blk_drewN ?_ _ | refine blk_drew ?_ | refine blk_alloc ?_ _)); exact BK370.out) hb); have n2_ := Aside0.mk (blk_below (g := gb376) (o := .cells #[.int .i64 t371, .int .i64 t372, .int .i64 t373, .int .i64 t374] 37 (0, 0)) (by (with_reducible repeat (first | refine blk_drewN ?_ _ | refine blk_drew ?_ | refine blk_alloc ?_ _)); exact BK376.out) hb); have n3_ := Aside0.mk (blk_below (g := gb382) (o := .cells #[.int .i64 t377, .int .i64 t378, .int .i64 t379, .int .i64 t380] 37 (0, 0)) (by (with_reducible repeat (first | refine blk_drewN ?_ _ | refine blk_drew ?_ | refine blk_alloc ?_ _)); exact BK382.out) hb); have n4_ := Aside0.mk (blk_below (g := gb392) (o := .cells #[.int .i64 t386, .int .i64 t387, .int .i64 t388, .int .i64 t389] 37 (0, 0)) (by (with_reducible repeat (first | refine blk_drewN ?_ _ | refine blk_drew ?_ | refine blk_alloc ?_ _)); exact BK392.out) hb); have n5_ := Aside0.mk (below_step (by repeat (first | (with_reducible first | exact HB.out | apply below_alloc | apply pw_below_drewN | apply below_drew1 | refine below_set ?_ GE364.out | refine below_set ?_ GE370.out | refine below_set ?_ GE376.out | refine below_set ?_ GE382.out | refine below_set ?_ GE392.out) | exact HB.out)) hb); clear BK364; clear BK370; clear BK376; clear BK382; clear BK392; clear HB; have BK364 := n0_; have BK370 := n1_; have BK376 := n2_; have BK382 := n3_; have BK392 := n4_; have HB := n5_; clear n0_ n1_ n2_ n3_ n4_ n5_; (try clear hb); (try clear hb2); (try clear hk); (try clear hi)) | ((with_reducible refine gate_dst (N := 28) rfl ?_); refine box_event ?hg (N := 28) ?hd (cs := #[.int .i64 0, .int .i64 0, .int .i64 0, .int .i64 0]) (t := 37) ?hr ?_; (case hd => rfl); (case hg => rfl); (case hr => first | (go_simp; done) | (go_simp; rfl)); intro gb406 hg w133 hbox hb; have n0_ := Aside0.mk (blk_below (g := gb364) (o := .cells #[.int .i64 t359, .int .i64 t360, .int .i64 t361, .int .i64 t362] 37 (0, 0)) (by (with_reducible repeat (first | refine blk_drewN ?_ _ | refine blk_drew ?_ | refine blk_alloc ?_ _)); exact BK364.out) hb); have n1_ := Aside0.mk (blk_below (g := gb370) (o := .cells #[.int .i64 t365, .int .i64 t366, .int .i64 t367, .int .i64 t368] 37 (0, 0)) (by (with_reducible repeat (first | refine blk_drewN ?_ _ | refine blk_drew ?_ | refine blk_alloc ?_ _)); exact BK370.out) hb); have n2_ := Aside0.mk (blk_below (g := gb376) (o := .cells #[.int .i64 t371, .int .i64 t372, .int .i64 t373, .int .i64 t374] 37 (0, 0)) (by (with_reducible repeat (first | refine blk_drewN ?_ _ | refine blk_drew ?_ | refine blk_alloc ?_ _)); exact BK376.out) hb); have n3_ := Aside0.mk (blk_below (g := gb382) (o := .cells #[.int .i64 t377, .int .i64 t378, .int .i64 t379, .int .i64 t380] 37 (0, 0)) (by (with_reducible repeat (first | refine blk_drewN ?_ _ | refine blk_drew ?_ | refine blk_alloc ?_ _)); exact BK382.out) hb); have n4_ := Aside0.mk (blk_below (g := gb392) (o := .cells #[.int .i64 t386, .int .i64 t387, .int .i64 t388, .int .i64 t389] 37 (0, 0)) (by (with_reducible repeat (first | refine blk_drewN ?_ _ | refine blk_drew ?_ | refine blk_alloc ?_ _)); exact BK392.out) hb); have n5_ := Aside0.mk (below_step (by repeat (first | (with_reducible first | exact HB.out | apply below_alloc | apply pw_below_drewN | apply below_drew1 | refine below_set ?_ GE364.out | refine below_set ?_ GE370.out | refine below_set ?_ GE376.out | refine below_set ?_ GE382.out | refine below_set ?_ GE392.out) | exact HB.out)) hb); have n6_ := Aside0.mk (hbox); have n7_ := Aside0.mk ((by rw [hg]; exact (below_size (by repeat (first | (with_reducible first | exact HB.out | apply below_alloc | apply pw_below_drewN | apply below_drew1 | refine below_set ?_ GE364.out | refine below_set ?_ GE370.out | refine below_set ?_ GE376.out | refine below_set ?_ GE382.out | refine below_set ?_ GE392.out) | exact HB.out))) : w.heap.size ≤ gb406)); have n8_ := Aside0.mk ((by rw [hg]; exact (below_size (by repeat (first | (with_reducible first | exact HB.out | apply below_alloc | apply pw_below_drewN | apply below_drew1 | refine below_set ?_ GE364.out | refine below_set ?_ GE370.out | refine below_set ?_ GE376.out | refine below_set ?_ GE382.out | refine below_set ?_ GE392.out) | exact HB.out))) : w.heap.size ≤ gb406)); have n9_ := Aside0.mk ((by rw [hg]; exact Nat.ne_of_lt (blk_lt (g := gb364) (o := .cells #[.int .i64 t359, .int .i64 t360, .int .i64 t361, .int .i64 t362] 37 (0, 0)) (by (with_reducible repeat (first | refine blk_drewN ?_ _ | refine blk_drew ?_ | refine blk_alloc ?_ _)); exact BK364.out)) : gb364 ≠ gb406)); have n10_ := Aside0.mk ((by rw [hg]; exact Nat.ne_of_gt (blk_lt (g := gb364) (o := .cells #[.int .i64 t359, .int .i64 t360, .int .i64 t361, .int .i64 t362] 37 (0, 0)) (by (with_reducible repeat (first | refine blk_drewN ?_ _ | refine blk_drew ?_ | refine blk_alloc ?_ _)); exact BK364.out)) : gb406 ≠ gb364)); have n11_ := Aside0.mk ((by rw [hg]; exact Nat.ne_of_lt (blk_lt (g := gb370) (o := .cells #[.int .i64 t365, .int .i64 t366, .int .i64 t367, .int .i64 t368] 37 (0, 0)) (by (with_reducible repeat (first | refine blk_drewN ?_ _ | refine blk_drew ?_ | refine blk_alloc ?_ _)); exact BK370.out)) : gb370 ≠ gb406)); have n12_ := Aside0.mk ((by rw [hg]; exact Nat.ne_of_gt (blk_lt (g := gb370) (o := .cells #[.int .i64 t365, .int .i64 t366, .int .i64 t367, .int .i64 t368] 37 (0, 0)) (by (with_reducible repeat (first | refine blk_drewN ?_ _ | refine blk_drew ?_ | refine blk_alloc ?_ _)); exact BK370.out)) : gb406 ≠ gb370)); have n13_ := Aside0.mk ((by rw [hg]; exact Nat.ne_of_lt (blk_lt (g := gb376) (o := .cells #[.int .i64 t371, .int .i64 t372, .int .i64 t373, .int .i64 t374] 37 (0, 0)) (by (with_reducible repeat (first | refine blk_drewN ?_ _ | refine blk_drew ?_ | refine blk_alloc ?_ _)); exact BK376.out)) : gb376 ≠ gb406)); have n14_ := Aside0.mk ((by rw [hg]; exact Nat.ne_of_gt (blk_lt (g := gb376) (o := .cells #[.int .i64 t371, .int .i64 t372, .int .i64 t373, .int .i64 t374] 37 (0, 0)) (by (with_reducible repeat (first | refine blk_drewN ?_ _ | refine blk_drew ?_ | refine blk_alloc ?_ _)); exact BK376.out)) : gb406 ≠ gb376)); have n15_ := Aside0.mk ((by rw [hg]; exact Nat.ne_of_lt (blk_lt (g := gb382) (o := .cells #[.int .i64 t377, .int .i64 t378, .int .i64 t379, .int .i64 t380] 37 (0, 0)) (by (with_reducible repeat (first | refine blk_drewN ?_ _ | refine blk_drew ?_ | refine blk_alloc ?_ _)); exact BK382.out)) : gb382 ≠ gb406)); have n16_ := Aside0.mk ((by rw [hg]; exact Nat.ne_of_gt (blk_lt (g := gb382) (o := .cells #[.int .i64 t377, .int .i64 t378, .int .i64 t379, .int .i64 t380] 37 (0, 0)) (by (with_reducible repeat (first | refine blk_drewN ?_ _ | refine blk_drew ?_ | refine blk_alloc ?_ _)); exact BK382.out)) : gb406 ≠ gb382)); have n17_ := Aside0.mk ((by rw [hg]; exact Nat.ne_of_lt (blk_lt (g := gb392) (o := .cells #[.int .i64 t386, .int .i64 t387, .int .i64 t388, .int .i64 t389] 37 (0, 0)) (by (with_reducible repeat (first | refine blk_drewN ?_ _ | refine blk_drew ?_ | refine blk_alloc ?_ _)); exact BK392.out)) : gb392 ≠ gb406)); have n18_ := Aside0.mk ((by rw [hg]; exact Nat.ne_of_gt (blk_lt (g := gb392) (o := .cells #[.int .i64 t386, .int .i64 t387, .int .i64 t388, .int .i64 t389] 37 (0, 0)) (by (with_reducible repeat (first | refine blk_drewN ?_ _ | refine blk_drew ?_ | refine blk_alloc ?_ _)); exact BK392.out)) : gb406 ≠ gb392)); clear BK364; clear BK370; clear BK376; clear BK382; clear BK392; clear HB; have BK364 := n0_; have BK370 := n1_; have BK376 := n2_; have BK382 := n3_; have BK392 := n4_; have HB := n5_; have BK406 := n6_; have GW406 := n7_; have GE406 := n8_; have NB364_406 := n9_; have NB406_364 := n10_; have NB370_406 := n11_; have NB406_370 := n12_; have NB376_406 := n13_; have NB406_376 := n14_; have NB382_406 := n15_; have NB406_382 := n16_; have NB392_406 := n17_; have NB406_392 := n18_; clear n0_ n1_ n2_ n3_ n4_ n5_ n6_ n7_ n8_ n9_ n10_ n11_ n12_ n13_ n14_ n15_ n16_ n17_ n18_; clear hb hbox hg; have hnb134 := NB406_364.out; have hnc134 := NB364_406.out; have hnb135 := NB406_370.out; have hnc135 := NB370_406.out; have hnb136 := NB406_376.out; have hnc136 := NB376_406.out; have hnb137 := NB406_382.out; have hnc137 := NB382_406.out; have hnb138 := NB406_392.out; have hnc138 := NB392_406.out; have hcz139_0 : w133.cell? ⟨gb406, 0, none⟩ = some (.int .i64 0) := (blk_cell BK406.out 0).trans rfl; have hcz139_1 : w133.cell? ⟨gb406, 1, none⟩ = some (.int .i64 0) := (blk_cell BK406.out 1).trans rfl; have hcz139_2 : w133.cell? ⟨gb406, 2, none⟩ = some (.int .i64 0) := (blk_cell BK406.out 2).trans rfl; have hcz139_3 : w133.cell? ⟨gb406, 3, none⟩ = some (.int .i64 0) := (blk_cell BK406.out 3).trans rfl; have hfz139_0 := blk_frozen BK406.out 0; have hfz139_1 := blk_frozen BK406.out 1; have hfz139_2 := blk_frozen BK406.out 2; have hfz139_3 := blk_frozen BK406.out 3))
                          go_ret
                          exact ⟨by first | rfl | (simp [errW_none, errW_some] <;> rfl) | (simp [*, errW_none, errW_some] <;> rfl), by repeat (first | (with_reducible first | exact HB.out | apply below_alloc | apply pw_below_drewN | apply below_drew1 | refine below_set ?_ GE364.out | refine below_set ?_ GE370.out | refine below_set ?_ GE376.out | refine below_set ?_ GE382.out | refine below_set ?_ GE392.out | refine below_set ?_ GE406.out) | exact HB.out)⟩
                        · rw [if_neg c126] at H
                          have c126b0 : (t405 == 0) = false := beq_eq_false_iff_ne.mpr c126
                          have c126b1 : (t405 != 0) = true := bne_iff_ne.mpr c126
                          obtain rfl := Option.some.inj H
                          have hnb140 := NB376_364.out
                          have hnc140 := NB364_376.out
                          have hnb141 := NB376_370.out
                          have hnc141 := NB370_376.out
                          have hnb142 := NB376_382.out
                          have hnc142 := NB382_376.out
                          have hnb143 := NB376_392.out
                          have hnc143 := NB392_376.out
                          have hcz144_0 : wr.cell? ⟨gb376, 0, none⟩ = some (.int .i64 t371) := (blk_cell BK376.out 0).trans rfl
                          have hcz144_1 : wr.cell? ⟨gb376, 1, none⟩ = some (.int .i64 t372) := (blk_cell BK376.out 1).trans rfl
                          have hcz144_2 : wr.cell? ⟨gb376, 2, none⟩ = some (.int .i64 t373) := (blk_cell BK376.out 2).trans rfl
                          have hcz144_3 : wr.cell? ⟨gb376, 3, none⟩ = some (.int .i64 t374) := (blk_cell BK376.out 3).trans rfl
                          have hfz144_0 := blk_frozen BK376.out 0
                          have hfz144_1 := blk_frozen BK376.out 1
                          have hfz144_2 := blk_frozen BK376.out 2
                          have hfz144_3 := blk_frozen BK376.out 3
                          go_wp2_with (first | ((with_reducible refine gate_callee (f := 26) rfl ?_); refine goesL_ (some 141) rfl rfl Try.func26 (by kernel_rfl) rfl #[.agg #[.int .i64 t371, .int .i64 t372, .int .i64 t373, .int .i64 t374], .int .i64 x4_6] rfl (by (try simp only [List.map_toArray, List.map_cons, List.map_nil]); first | done | rfl | (simp only [List.length_drop, List.length_take]; rfl)) ?_; (with_reducible refine (bucket_Take.calls t371 t372 t373 t374 x4_6 t400 t401 t402 t403 t404 t405 _ A125.out).mono ?_); rintro e w145 ⟨rfl, hb⟩; refine ⟨_, rfl, ?_⟩; have n0_ := Aside0.mk (blk_below (g := gb364) (o := .cells #[.int .i64 t359, .int .i64 t360, .int .i64 t361, .int .i64 t362] 37 (0, 0)) (by (with_reducible repeat (first | refine blk_drewN ?_ _ | refine blk_drew ?_ | refine blk_alloc ?_ _)); exact BK364.out) hb); have n1_ := Aside0.mk (blk_below (g := gb370) (o := .cells #[.int .i64 t365, .int .i64 t366, .int .i64 t367, .int .i64 t368] 37 (0, 0)) (by (with_reducible repeat (first | refine blk_drewN ?_ _ | refine blk_drew ?_ | refine blk_alloc ?_ _)); exact BK370.out) hb); have n2_ := Aside0.mk (blk_below (g := gb376) (o := .cells #[.int .i64 t371, .int .i64 t372, .int .i64 t373, .int .i64 t374] 37 (0, 0)) (by (with_reducible repeat (first | refine blk_drewN ?_ _ | refine blk_drew ?_ | refine blk_alloc ?_ _)); exact BK376.out) hb); have n3_ := Aside0.mk (blk_below (g := gb382) (o := .cells #[.int .i64 t377, .int .i64 t378, .int .i64 t379, .int .i64 t380] 37 (0, 0)) (by (with_reducible repeat (first | refine blk_drewN ?_ _ | refine blk_drew ?_ | refine blk_alloc ?_ _)); exact BK382.out) hb); have n4_ := Aside0.mk (blk_below (g := gb392) (o := .cells #[.int .i64 t386, .int .i64 t387, .int .i64 t388, .int .i64 t389] 37 (0, 0)) (by (with_reducible repeat (first | refine blk_drewN ?_ _ | refine blk_drew ?_ | refine blk_alloc ?_ _)); exact BK392.out) hb); have n5_ := Aside0.mk (below_step (by repeat (first | (with_reducible first | exact HB.out | apply below_alloc | apply pw_below_drewN | apply below_drew1 | refine below_set ?_ GE364.out | refine below_set ?_ GE370.out | refine below_set ?_ GE376.out | refine below_set ?_ GE382.out | refine below_set ?_ GE392.out) | exact HB.out)) hb); clear BK364; clear BK370; clear BK376; clear BK382; clear BK392; clear HB; have BK364 := n0_; have BK370 := n1_; have BK376 := n2_; have BK382 := n3_; have BK392 := n4_; have HB := n5_; clear n0_ n1_ n2_ n3_ n4_ n5_; (try clear hb); (try clear hb2); (try clear hk); (try clear hi)) | ((with_reducible refine gate_dst (N := 28) rfl ?_); refine box_event ?hg (N := 28) ?hd (cs := #[.int .i64 0, .int .i64 0, .int .i64 0, .int .i64 0]) (t := 37) ?hr ?_; (case hd => rfl); (case hg => rfl); (case hr => first | (go_simp; done) | (go_simp; rfl)); intro gb406 hg w146 hbox hb; have n0_ := Aside0.mk (blk_below (g := gb364) (o := .cells #[.int .i64 t359, .int .i64 t360, .int .i64 t361, .int .i64 t362] 37 (0, 0)) (by (with_reducible repeat (first | refine blk_drewN ?_ _ | refine blk_drew ?_ | refine blk_alloc ?_ _)); exact BK364.out) hb); have n1_ := Aside0.mk (blk_below (g := gb370) (o := .cells #[.int .i64 t365, .int .i64 t366, .int .i64 t367, .int .i64 t368] 37 (0, 0)) (by (with_reducible repeat (first | refine blk_drewN ?_ _ | refine blk_drew ?_ | refine blk_alloc ?_ _)); exact BK370.out) hb); have n2_ := Aside0.mk (blk_below (g := gb376) (o := .cells #[.int .i64 t371, .int .i64 t372, .int .i64 t373, .int .i64 t374] 37 (0, 0)) (by (with_reducible repeat (first | refine blk_drewN ?_ _ | refine blk_drew ?_ | refine blk_alloc ?_ _)); exact BK376.out) hb); have n3_ := Aside0.mk (blk_below (g := gb382) (o := .cells #[.int .i64 t377, .int .i64 t378, .int .i64 t379, .int .i64 t380] 37 (0, 0)) (by (with_reducible repeat (first | refine blk_drewN ?_ _ | refine blk_drew ?_ | refine blk_alloc ?_ _)); exact BK382.out) hb); have n4_ := Aside0.mk (blk_below (g := gb392) (o := .cells #[.int .i64 t386, .int .i64 t387, .int .i64 t388, .int .i64 t389] 37 (0, 0)) (by (with_reducible repeat (first | refine blk_drewN ?_ _ | refine blk_drew ?_ | refine blk_alloc ?_ _)); exact BK392.out) hb); have n5_ := Aside0.mk (below_step (by repeat (first | (with_reducible first | exact HB.out | apply below_alloc | apply pw_below_drewN | apply below_drew1 | refine below_set ?_ GE364.out | refine below_set ?_ GE370.out | refine below_set ?_ GE376.out | refine below_set ?_ GE382.out | refine below_set ?_ GE392.out) | exact HB.out)) hb); have n6_ := Aside0.mk (hbox); have n7_ := Aside0.mk ((by rw [hg]; exact (below_size (by repeat (first | (with_reducible first | exact HB.out | apply below_alloc | apply pw_below_drewN | apply below_drew1 | refine below_set ?_ GE364.out | refine below_set ?_ GE370.out | refine below_set ?_ GE376.out | refine below_set ?_ GE382.out | refine below_set ?_ GE392.out) | exact HB.out))) : w.heap.size ≤ gb406)); have n8_ := Aside0.mk ((by rw [hg]; exact (below_size (by repeat (first | (with_reducible first | exact HB.out | apply below_alloc | apply pw_below_drewN | apply below_drew1 | refine below_set ?_ GE364.out | refine below_set ?_ GE370.out | refine below_set ?_ GE376.out | refine below_set ?_ GE382.out | refine below_set ?_ GE392.out) | exact HB.out))) : w.heap.size ≤ gb406)); have n9_ := Aside0.mk ((by rw [hg]; exact Nat.ne_of_lt (blk_lt (g := gb364) (o := .cells #[.int .i64 t359, .int .i64 t360, .int .i64 t361, .int .i64 t362] 37 (0, 0)) (by (with_reducible repeat (first | refine blk_drewN ?_ _ | refine blk_drew ?_ | refine blk_alloc ?_ _)); exact BK364.out)) : gb364 ≠ gb406)); have n10_ := Aside0.mk ((by rw [hg]; exact Nat.ne_of_gt (blk_lt (g := gb364) (o := .cells #[.int .i64 t359, .int .i64 t360, .int .i64 t361, .int .i64 t362] 37 (0, 0)) (by (with_reducible repeat (first | refine blk_drewN ?_ _ | refine blk_drew ?_ | refine blk_alloc ?_ _)); exact BK364.out)) : gb406 ≠ gb364)); have n11_ := Aside0.mk ((by rw [hg]; exact Nat.ne_of_lt (blk_lt (g := gb370) (o := .cells #[.int .i64 t365, .int .i64 t366, .int .i64 t367, .int .i64 t368] 37 (0, 0)) (by (with_reducible repeat (first | refine blk_drewN ?_ _ | refine blk_drew ?_ | refine blk_alloc ?_ _)); exact BK370.out)) : gb370 ≠ gb406)); have n12_ := Aside0.mk ((by rw [hg]; exact Nat.ne_of_gt (blk_lt (g := gb370) (o := .cells #[.int .i64 t365, .int .i64 t366, .int .i64 t367, .int .i64 t368] 37 (0, 0)) (by (with_reducible repeat (first | refine blk_drewN ?_ _ | refine blk_drew ?_ | refine blk_alloc ?_ _)); exact BK370.out)) : gb406 ≠ gb370)); have n13_ := Aside0.mk ((by rw [hg]; exact Nat.ne_of_lt (blk_lt (g := gb376) (o := .cells #[.int .i64 t371, .int .i64 t372, .int .i64 t373, .int .i64 t374] 37 (0, 0)) (by (with_reducible repeat (first | refine blk_drewN ?_ _ | refine blk_drew ?_ | refine blk_alloc ?_ _)); exact BK376.out)) : gb376 ≠ gb406)); have n14_ := Aside0.mk ((by rw [hg]; exact Nat.ne_of_gt (blk_lt (g := gb376) (o := .cells #[.int .i64 t371, .int .i64 t372, .int .i64 t373, .int .i64 t374] 37 (0, 0)) (by (with_reducible repeat (first | refine blk_drewN ?_ _ | refine blk_drew ?_ | refine blk_alloc ?_ _)); exact BK376.out)) : gb406 ≠ gb376)); have n15_ := Aside0.mk ((by rw [hg]; exact Nat.ne_of_lt (blk_lt (g := gb382) (o := .cells #[.int .i64 t377, .int .i64 t378, .int .i64 t379, .int .i64 t380] 37 (0, 0)) (by (with_reducible repeat (first | refine blk_drewN ?_ _ | refine blk_drew ?_ | refine blk_alloc ?_ _)); exact BK382.out)) : gb382 ≠ gb406)); have n16_ := Aside0.mk ((by rw [hg]; exact Nat.ne_of_gt (blk_lt (g := gb382) (o := .cells #[.int .i64 t377, .int .i64 t378, .int .i64 t379, .int .i64 t380] 37 (0, 0)) (by (with_reducible repeat (first | refine blk_drewN ?_ _ | refine blk_drew ?_ | refine blk_alloc ?_ _)); exact BK382.out)) : gb406 ≠ gb382)); have n17_ := Aside0.mk ((by rw [hg]; exact Nat.ne_of_lt (blk_lt (g := gb392) (o := .cells #[.int .i64 t386, .int .i64 t387, .int .i64 t388, .int .i64 t389] 37 (0, 0)) (by (with_reducible repeat (first | refine blk_drewN ?_ _ | refine blk_drew ?_ | refine blk_alloc ?_ _)); exact BK392.out)) : gb392 ≠ gb406)); have n18_ := Aside0.mk ((by rw [hg]; exact Nat.ne_of_gt (blk_lt (g := gb392) (o := .cells #[.int .i64 t386, .int .i64 t387, .int .i64 t388, .int .i64 t389] 37 (0, 0)) (by (with_reducible repeat (first | refine blk_drewN ?_ _ | refine blk_drew ?_ | refine blk_alloc ?_ _)); exact BK392.out)) : gb406 ≠ gb392)); clear BK364; clear BK370; clear BK376; clear BK382; clear BK392; clear HB; have BK364 := n0_; have BK370 := n1_; have BK376 := n2_; have BK382 := n3_; have BK392 := n4_; have HB := n5_; have BK406 := n6_; have GW406 := n7_; have GE406 := n8_; have NB364_406 := n9_; have NB406_364 := n10_; have NB370_406 := n11_; have NB406_370 := n12_; have NB376_406 := n13_; have NB406_376 := n14_; have NB382_406 := n15_; have NB406_382 := n16_; have NB392_406 := n17_; have NB406_392 := n18_; clear n0_ n1_ n2_ n3_ n4_ n5_ n6_ n7_ n8_ n9_ n10_ n11_ n12_ n13_ n14_ n15_ n16_ n17_ n18_; clear hb hbox hg; have hnb147 := NB406_364.out; have hnc147 := NB364_406.out; have hnb148 := NB406_370.out; have hnc148 := NB370_406.out; have hnb149 := NB406_376.out; have hnc149 := NB376_406.out; have hnb150 := NB406_382.out; have hnc150 := NB382_406.out; have hnb151 := NB406_392.out; have hnc151 := NB392_406.out; have hcz152_0 : w146.cell? ⟨gb406, 0, none⟩ = some (.int .i64 0) := (blk_cell BK406.out 0).trans rfl; have hcz152_1 : w146.cell? ⟨gb406, 1, none⟩ = some (.int .i64 0) := (blk_cell BK406.out 1).trans rfl; have hcz152_2 : w146.cell? ⟨gb406, 2, none⟩ = some (.int .i64 0) := (blk_cell BK406.out 2).trans rfl; have hcz152_3 : w146.cell? ⟨gb406, 3, none⟩ = some (.int .i64 0) := (blk_cell BK406.out 3).trans rfl; have hfz152_0 := blk_frozen BK406.out 0; have hfz152_1 := blk_frozen BK406.out 1; have hfz152_2 := blk_frozen BK406.out 2; have hfz152_3 := blk_frozen BK406.out 3))
                          go_ret
                          exact ⟨by first | rfl | (simp [errW_none, errW_some] <;> rfl) | (simp [*, errW_none, errW_some] <;> rfl), by repeat (first | (with_reducible first | exact HB.out | apply below_alloc | apply pw_below_drewN | apply below_drew1 | refine below_set ?_ GE364.out | refine below_set ?_ GE370.out | refine below_set ?_ GE376.out | refine below_set ?_ GE382.out | refine below_set ?_ GE392.out | refine below_set ?_ GE406.out) | exact HB.out)⟩

/-- THE ONE PURE STATEMENT of foghornlaw08_BucketParts: yours. -/
def foghornlaw08_BucketParts.Pure : Prop := ∀ (a0 : Int) (a1 : Int) (a2 : Int) (a3 : Int) (a4 : Int), (Lit.int .i64 a0).wf = true → (Lit.int .i64 a1).wf = true → (Lit.int .i64 a2).wf = true → (Lit.int .i64 a3).wf = true → (Lit.int .i64 a4).wf = true → ∃ k, foghornlaw08_BucketParts.f k a0 a1 a2 a3 a4 = some true
theorem foghornlaw08_BucketParts.walk (P : foghornlaw08_BucketParts.Pure) (a0 : Int) (a1 : Int) (a2 : Int) (a3 : Int) (a4 : Int) (w : World) (w0 : (Lit.int .i64 a0).wf = true) (w1 : (Lit.int .i64 a1).wf = true) (w2 : (Lit.int .i64 a2).wf = true) (w3 : (Lit.int .i64 a3).wf = true) (w4 : (Lit.int .i64 a4).wf = true) :
    Calls Try.prog 10 #[.int .i64 a0, .int .i64 a1, .int .i64 a2, .int .i64 a3, .int .i64 a4] w fun e w' => e = .returned (.bool true) ∧ Below w.heap.size w w' := by
  obtain ⟨k, h⟩ := P a0 a1 a2 a3 a4 w0 w1 w2 w3 w4
  refine (foghornlaw08_BucketParts.calls k a0 a1 a2 a3 a4 true w h).mono ?_
  rintro e w' ⟨rfl, hd⟩
  exact ⟨rfl, hd⟩

end Go.Proofs.Ytkkopknlhijgiaa.G
