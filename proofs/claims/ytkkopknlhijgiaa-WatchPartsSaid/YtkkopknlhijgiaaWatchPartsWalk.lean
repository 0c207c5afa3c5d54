/- The walk of the statement WatchParts: where its calls answer as is told here, it returns true. -/
import Derived.Test.YtkkopknlhijgiaaG0
import Derived.Test.YtkkopknlhijgiaaG11
import Derived.Test.YtkkopknlhijgiaaG12
import Derived.Test.YtkkopknlhijgiaaG2
import Derived.Test.YtkkopknlhijgiaaG5
import Derived.Test.YtkkopknlhijgiaaG6
import Derived.Test.YtkkopknlhijgiaaG8
import Derived.Test.YtkkopknlhijgiaaFrameMore
namespace Go.Proofs.Ytkkopknlhijgiaa.Pure
open Go.RowKit Go.Proofs.Ytkkopknlhijgiaa.G Go.Proofs.YtkkopknlhijgiaaW.PrintWords Go.Proofs.YtkkopknlhijgiaaW.PrintLast Go.Proofs.YtkkopknlhijgiaaW.PrintMore
set_option linter.unusedVariables false
set_option linter.unusedSimpArgs false
set_option maxHeartbeats 4000000 in
set_option maxRecDepth 100000 in
theorem wparts_e (k : Nat) (A0 : Option Addr) (c0 : Nat) (l0 : List S51) (a1 a2 a3 a4 a5 a6 : Int) (w : World) (hr0 : Kd.C k51 w A0 l0.length l0) (hc0 : l0.length ≤ c0) (q : List S51) (hq : foghornlaw23_some.f k l0 = some q) (hlen : q.length ≤ 60)
    (b e m t : Int) (c : Nat) (hc : c ≤ q.length) (eb : Int.tmod (wrap64 (Int.tmod a2 9 + 9)) 9 = b) (ee : wrap64 (1 + Int.tmod (wrap64 (Int.tmod a3 9 + 9)) 9) = e) (em : Int.tmod (wrap64 (Int.tmod a4 5 + 5)) 5 = m) (et : Int.tmod (wrap64 (Int.tmod a5 9 + 9)) 9 = t)
    (ec : Int.tmod (wrap64 (wrap64 (Int.tmod a6 ((q.length : Int) + 1) + (q.length : Int)) + 1)) ((q.length : Int) + 1) = c)
    (ra rb rd rm : Bool) (h1 : watch_Rate.f q a1 b e m = some (ra, 0)) (h2 : watch_Rate.f q a1 (wrap64 (b + 1)) e m = some (rb, 0)) (h3 : watch_Rate.f q a1 b e (wrap64 (m + 1)) = some (rb, 0)) (h4 : watch_Rate.f (q.take c) a1 b e m = some (rd, 0)) (h5 : watch_Rate.f (q.drop c) a1 b e m = some (rm, 0))
    (h6 : foghornlaw23_alive.f = some true) (hra : ra = true → rb = true ∧ rd = true ∧ rm = true) (h7 : watch_Right.f q = some true) (h8 : ra = true) (h9 : q.length = 0) :
    Calls Try.prog 11 #[.slice A0 l0.length c0, .int .i64 a1, .int .i64 a2, .int .i64 a3, .int .i64 a4, .int .i64 a5, .int .i64 a6] w fun e w' => e = .returned (.bool true) ∧ Below w.heap.size w w' := by
  have H1 := Aside0.mk h1
  have H2 := Aside0.mk h2
  have H3 := Aside0.mk h3
  have H4 := Aside0.mk h4
  have H5 := Aside0.mk h5
  have H6 := Aside0.mk h6
  have H7 := Aside0.mk h7
  have H8 := Aside0.mk h8
  have H9 := Aside0.mk h9
  have HR0 := Aside0.mk hr0
  have HC0 := Aside0.mk hc0
  have HQ := Aside0.mk hq
  have HE := Aside0.mk (And.intro eb (And.intro ee (And.intro em (And.intro et ec))))
  clear h1 h2 h3 h4 h5 h6 h7 h8 h9
  clear hr0 hc0 hq eb ee em et ec
  have hF := Aside0.mk (Fr.Frame.start w)
  go_enter Try.func11, Try.ntmps11
  go_wp2_with fail
  refine (foghornlaw23_some.calls k A0 c0 l0 q _ HR0.out HC0.out HQ.out).mono ?_
  rintro e0 W1 ⟨v0, rfl, hR, hb⟩
  obtain ⟨Ao, co, rfl, hco, hCq⟩ := Kd.R_reads hR
  have hcc : c ≤ co := by omega
  have HCO := Aside0.mk hco
  have HCQ := Aside0.mk hCq
  have HCT := Aside0.mk (Kd.C_take hCq hc)
  have HCD := Aside0.mk (Kd.C_drop (c := co) hCq hc hco)
  have HB0 := Aside0.mk hb
  have HCC := Aside0.mk (show (q.take c).length ≤ co by simp; omega)
  have HCE := Aside0.mk (show (q.drop c).length ≤ co - c by simp; omega)
  have hlt : (q.take c).length = c := by simp; omega
  have hld : (q.drop c).length = q.length - c := by simp
  rw [show k51.sz = 4 from rfl] at HCD
  rw [hlt] at HCT
  have HLT := Aside0.mk hlt
  have HLD := Aside0.mk hld
  clear hF hb hR hco hCq hlt hld
  have hF := Aside0.mk (Fr.Frame.start W1)
  by_cases hcs : c < co
  · skip
    have hne : ¬ co = c := by omega
    rw [if_neg hne] at HCD
    go_wp2_with fail
    simp only [HE.out.1, HE.out.2.1, HE.out.2.2.1, HE.out.2.2.2.1, HE.out.2.2.2.2]
    with_reducible refine (watch_Rate.calls Ao co q a1 b e m ra 0 _ (Kd.C_below HCQ.out hF.out.below) HCO.out H1.out).mono ?_
    rintro e0 W ⟨rfl, hb⟩
    have hF1 := hF.out.call hb
    clear hF hb
    have hF := Aside0.mk hF1
    clear hF1
    go_wp2_with fail
    with_reducible refine (watch_Rate.calls Ao co q a1 (wrap64 (b + 1)) e m rb 0 _ (Kd.C_below HCQ.out hF.out.below) HCO.out H2.out).mono ?_
    rintro e0 W ⟨rfl, hb⟩
    have hF1 := hF.out.call hb
    clear hF hb
    have hF := Aside0.mk hF1
    clear hF1
    go_wp2_with fail
    with_reducible refine (watch_Rate.calls Ao co q a1 b e (wrap64 (m + 1)) rb 0 _ (Kd.C_below HCQ.out hF.out.below) HCO.out H3.out).mono ?_
    rintro e0 W ⟨rfl, hb⟩
    have hF1 := hF.out.call hb
    clear hF hb
    have hF := Aside0.mk hF1
    clear hF1
    go_wp2_with fail
    have hh := watch_Rate.calls Ao co (q.take c) a1 b e m rd 0 _ (by have h1 := Kd.C_below HCT.out hF.out.below; rw [HLT.out]; exact h1) HCC.out H4.out
    rw [HLT.out] at hh
    with_reducible refine hh.mono ?_
    rintro e0 W ⟨rfl, hb⟩
    have hF1 := hF.out.call hb
    clear hF hb hh
    have hF := Aside0.mk hF1
    clear hF1
    go_wp2_with fail
    have hh := watch_Rate.calls (Ao.map (fun x => x.add (c * 4))) (co - c) (q.drop c) a1 b e m rm 0 _ (Kd.C_below HCD.out hF.out.below) HCE.out H5.out
    rw [HLD.out] at hh
    with_reducible refine hh.mono ?_
    rintro e0 W ⟨rfl, hb⟩
    have hF1 := hF.out.call hb
    clear hF hb hh
    have hF := Aside0.mk hF1
    clear hF1
    cases ra with
    | true =>
      obtain ⟨rfl, rfl, rfl⟩ := hra rfl
      clear hra
      go_wp2_with fail
      with_reducible refine (foghornlaw23_alive.calls true _ H6.out).mono ?_
      rintro e0 W ⟨rfl, hb⟩
      have hF1 := hF.out.call hb
      clear hF hb
      have hF := Aside0.mk hF1
      clear hF1
      have hz : ((q.length : Int) == 0) = true := by have := H9.out; simp [this]
      go_wp2_with (fail)
      with_reducible refine (watch_Right.calls Ao co q true _ (Kd.C_below HCQ.out hF.out.below) HCO.out H7.out).mono ?_
      rintro e0 W ⟨rfl, hb⟩
      have hF1 := hF.out.call hb
      clear hF hb
      have hF := Aside0.mk hF1
      clear hF1
      go_wp2
      go_ret
      exact ⟨rfl, HB0.out.trans (hF.out.below.mono HB0.out.size)⟩
    | false =>
      exact absurd H8.out (by decide)
  · skip
    obtain rfl : co = c := by omega
    rw [if_pos rfl] at HCD
    rw [Nat.sub_self] at HCE
    go_wp2_with fail
    simp only [HE.out.1, HE.out.2.1, HE.out.2.2.1, HE.out.2.2.2.1, HE.out.2.2.2.2]
    with_reducible refine (watch_Rate.calls Ao co q a1 b e m ra 0 _ (Kd.C_below HCQ.out hF.out.below) HCO.out H1.out).mono ?_
    rintro e0 W ⟨rfl, hb⟩
    have hF1 := hF.out.call hb
    clear hF hb
    have hF := Aside0.mk hF1
    clear hF1
    go_wp2_with fail
    with_reducible refine (watch_Rate.calls Ao co q a1 (wrap64 (b + 1)) e m rb 0 _ (Kd.C_below HCQ.out hF.out.below) HCO.out H2.out).mono ?_
    rintro e0 W ⟨rfl, hb⟩
    have hF1 := hF.out.call hb
    clear hF hb
    have hF := Aside0.mk hF1
    clear hF1
    go_wp2_with fail
    with_reducible refine (watch_Rate.calls Ao co q a1 b e (wrap64 (m + 1)) rb 0 _ (Kd.C_below HCQ.out hF.out.below) HCO.out H3.out).mono ?_
    rintro e0 W ⟨rfl, hb⟩
    have hF1 := hF.out.call hb
    clear hF hb
    have hF := Aside0.mk hF1
    clear hF1
    go_wp2_with fail
    have hh := watch_Rate.calls Ao co (q.take co) a1 b e m rd 0 _ (by have h1 := Kd.C_below HCT.out hF.out.below; rw [HLT.out]; exact h1) HCC.out H4.out
    rw [HLT.out] at hh
    with_reducible refine hh.mono ?_
    rintro e0 W ⟨rfl, hb⟩
    have hF1 := hF.out.call hb
    clear hF hb hh
    have hF := Aside0.mk hF1
    clear hF1
    go_wp2_with fail
    have hh := watch_Rate.calls Ao 0 (q.drop co) a1 b e m rm 0 _ (Kd.C_below HCD.out hF.out.below) HCE.out H5.out
    rw [HLD.out] at hh
    with_reducible refine hh.mono ?_
    rintro e0 W ⟨rfl, hb⟩
    have hF1 := hF.out.call hb
    clear hF hb hh
    have hF := Aside0.mk hF1
    clear hF1
    cases ra with
    | true =>
      obtain ⟨rfl, rfl, rfl⟩ := hra rfl
      clear hra
      go_wp2_with fail
      with_reducible refine (foghornlaw23_alive.calls true _ H6.out).mono ?_
      rintro e0 W ⟨rfl, hb⟩
      have hF1 := hF.out.call hb
      clear hF hb
      have hF := Aside0.mk hF1
      clear hF1
      have hz : ((q.length : Int) == 0) = true := by have := H9.out; simp [this]
      go_wp2_with (fail)
      with_reducible refine (watch_Right.calls Ao co q true _ (Kd.C_below HCQ.out hF.out.below) HCO.out H7.out).mono ?_
      rintro e0 W ⟨rfl, hb⟩
      have hF1 := hF.out.call hb
      clear hF hb
      have hF := Aside0.mk hF1
      clear hF1
      go_wp2
      go_ret
      exact ⟨rfl, HB0.out.trans (hF.out.below.mono HB0.out.size)⟩
    | false =>
      exact absurd H8.out (by decide)
set_option maxHeartbeats 4000000 in
set_option maxRecDepth 100000 in
theorem wparts_n (k : Nat) (A0 : Option Addr) (c0 : Nat) (l0 : List S51) (a1 a2 a3 a4 a5 a6 : Int) (w : World) (hr0 : Kd.C k51 w A0 l0.length l0) (hc0 : l0.length ≤ c0) (q : List S51) (hq : foghornlaw23_some.f k l0 = some q) (hlen : q.length ≤ 60)
    (b e m t : Int) (c : Nat) (hc : c ≤ q.length) (eb : Int.tmod (wrap64 (Int.tmod a2 9 + 9)) 9 = b) (ee : wrap64 (1 + Int.tmod (wrap64 (Int.tmod a3 9 + 9)) 9) = e) (em : Int.tmod (wrap64 (Int.tmod a4 5 + 5)) 5 = m) (et : Int.tmod (wrap64 (Int.tmod a5 9 + 9)) 9 = t)
    (ec : Int.tmod (wrap64 (wrap64 (Int.tmod a6 ((q.length : Int) + 1) + (q.length : Int)) + 1)) ((q.length : Int) + 1) = c)
    (ra rb rd rm : Bool) (h1 : watch_Rate.f q a1 b e m = some (ra, 0)) (h2 : watch_Rate.f q a1 (wrap64 (b + 1)) e m = some (rb, 0)) (h3 : watch_Rate.f q a1 b e (wrap64 (m + 1)) = some (rb, 0)) (h4 : watch_Rate.f (q.take c) a1 b e m = some (rd, 0)) (h5 : watch_Rate.f (q.drop c) a1 b e m = some (rm, 0))
    (h6 : foghornlaw23_alive.f = some true) (hra : ra = true → rb = true ∧ rd = true ∧ rm = true) (h0 : 0 < q.length) (x y : Bool) (n u v : Int) (h7 : watch_Calm.f q (rd_T51 q 0).f2 (wrap64 (t + 1)) = some (x, 0)) (h8 : watch_Calm.f q (rd_T51 q 0).f2 t = some (y, 0)) (hxy : x = true → y = true)
    (h9 : watch_Twice.f q = some (n, 0)) (h10 : watch_Twice.f (q.take c) = some (u, 0)) (h11 : watch_Twice.f (q.drop c) = some (v, 0)) (hn1 : wrap64 (u + v) ≤ n) (hn2 : n ≤ (q.length : Int)) :
    Calls Try.prog 11 #[.slice A0 l0.length c0, .int .i64 a1, .int .i64 a2, .int .i64 a3, .int .i64 a4, .int .i64 a5, .int .i64 a6] w fun e w' => e = .returned (.bool true) ∧ Below w.heap.size w w' := by
  have H1 := Aside0.mk h1
  have H2 := Aside0.mk h2
  have H3 := Aside0.mk h3
  have H4 := Aside0.mk h4
  have H5 := Aside0.mk h5
  have H6 := Aside0.mk h6
  have H7 := Aside0.mk h7
  have H8 := Aside0.mk h8
  have H9 := Aside0.mk h9
  have H10 := Aside0.mk h10
  have H11 := Aside0.mk h11
  have HR0 := Aside0.mk hr0
  have HC0 := Aside0.mk hc0
  have HQ := Aside0.mk hq
  have HE := Aside0.mk (And.intro eb (And.intro ee (And.intro em (And.intro et ec))))
  clear h1 h2 h3 h4 h5 h6 h7 h8 h9 h10 h11
  clear hr0 hc0 hq eb ee em et ec
  have hF := Aside0.mk (Fr.Frame.start w)
  go_enter Try.func11, Try.ntmps11
  go_wp2_with fail
  refine (foghornlaw23_some.calls k A0 c0 l0 q _ HR0.out HC0.out HQ.out).mono ?_
  rintro e0 W1 ⟨v0, rfl, hR, hb⟩
  obtain ⟨Ao, co, rfl, hco, hCq⟩ := Kd.R_reads hR
  obtain ⟨ad, rfl, x0, x1, x2, x3⟩ := at_T51 hCq 0 (by omega) (by omega)
  have HX2 := Aside0.mk (show W1.cell? ⟨ad.block, ad.off + 2, none⟩ = some (.string (rd_T51 q 0).f2) by simpa [Addr.add] using x2)
  clear x2
  clear x0 x1 x3
  have hcc : c ≤ co := by omega
  have HCO := Aside0.mk hco
  have HCQ := Aside0.mk hCq
  have HCT := Aside0.mk (Kd.C_take hCq hc)
  have HCD := Aside0.mk (Kd.C_drop (c := co) hCq hc hco)
  have HB0 := Aside0.mk hb
  have HCC := Aside0.mk (show (q.take c).length ≤ co by simp; omega)
  have HCE := Aside0.mk (show (q.drop c).length ≤ co - c by simp; omega)
  have hlt : (q.take c).length = c := by simp; omega
  have hld : (q.drop c).length = q.length - c := by simp
  rw [show k51.sz = 4 from rfl] at HCD
  rw [hlt] at HCT
  have HLT := Aside0.mk hlt
  have HLD := Aside0.mk hld
  clear hF hb hR hco hCq hlt hld
  have hF := Aside0.mk (Fr.Frame.start W1)
  by_cases hcs : c < co
  · skip
    have hne : ¬ co = c := by omega
    rw [if_neg hne] at HCD
    simp only [Option.map_some] at HCD
    go_wp2_with fail
    simp only [HE.out.1, HE.out.2.1, HE.out.2.2.1, HE.out.2.2.2.1, HE.out.2.2.2.2]
    with_reducible refine (watch_Rate.calls (some ad) co q a1 b e m ra 0 _ (Kd.C_below HCQ.out hF.out.below) HCO.out H1.out).mono ?_
    rintro e0 W ⟨rfl, hb⟩
    have hF1 := hF.out.call hb
    clear hF hb
    have hF := Aside0.mk hF1
    clear hF1
    go_wp2_with fail
    with_reducible refine (watch_Rate.calls (some ad) co q a1 (wrap64 (b + 1)) e m rb 0 _ (Kd.C_below HCQ.out hF.out.below) HCO.out H2.out).mono ?_
    rintro e0 W ⟨rfl, hb⟩
    have hF1 := hF.out.call hb
    clear hF hb
    have hF := Aside0.mk hF1
    clear hF1
    go_wp2_with fail
    with_reducible refine (watch_Rate.calls (some ad) co q a1 b e (wrap64 (m + 1)) rb 0 _ (Kd.C_below HCQ.out hF.out.below) HCO.out H3.out).mono ?_
    rintro e0 W ⟨rfl, hb⟩
    have hF1 := hF.out.call hb
    clear hF hb
    have hF := Aside0.mk hF1
    clear hF1
    go_wp2_with fail
    have hh := watch_Rate.calls (some ad) co (q.take c) a1 b e m rd 0 _ (by have h1 := Kd.C_below HCT.out hF.out.below; rw [HLT.out]; exact h1) HCC.out H4.out
    rw [HLT.out] at hh
    with_reducible refine hh.mono ?_
    rintro e0 W ⟨rfl, hb⟩
    have hF1 := hF.out.call hb
    clear hF hb hh
    have hF := Aside0.mk hF1
    clear hF1
    go_wp2_with fail
    have hh := watch_Rate.calls (some (ad.add (c * 4))) (co - c) (q.drop c) a1 b e m rm 0 _ (Kd.C_below HCD.out hF.out.below) HCE.out H5.out
    rw [HLD.out] at hh
    with_reducible refine hh.mono ?_
    rintro e0 W ⟨rfl, hb⟩
    have hF1 := hF.out.call hb
    clear hF hb hh
    have hF := Aside0.mk hF1
    clear hF1
    cases ra with
    | true =>
      obtain ⟨rfl, rfl, rfl⟩ := hra rfl
      clear hra
      go_wp2_with fail
      with_reducible refine (foghornlaw23_alive.calls true _ H6.out).mono ?_
      rintro e0 W ⟨rfl, hb⟩
      have hF1 := hF.out.call hb
      clear hF hb
      have hF := Aside0.mk hF1
      clear hF1
      have hz : ((q.length : Int) == 0) = false := by rw [beq_eq_false_iff_ne]; omega
      have hzi : (0 : Int) < (q.length : Int) := by omega
      have d2 := (hF.out.below.cell (World.block_lt_of_cell? _ _ HX2.out)).trans HX2.out
      go_wp2_with fail
      clear d2
      with_reducible refine (watch_Calm.calls (some ad) co q (rd_T51 q 0).f2 (wrap64 (t + 1)) x 0 _ (Kd.C_below HCQ.out hF.out.below) HCO.out H7.out).mono ?_
      rintro e0 W ⟨rfl, hb⟩
      have hF1 := hF.out.call hb
      clear hF hb
      have hF := Aside0.mk hF1
      clear hF1
      have d2 := (hF.out.below.cell (World.block_lt_of_cell? _ _ HX2.out)).trans HX2.out
      go_wp2_with fail
      clear d2
      with_reducible refine (watch_Calm.calls (some ad) co q (rd_T51 q 0).f2 t y 0 _ (Kd.C_below HCQ.out hF.out.below) HCO.out H8.out).mono ?_
      rintro e0 W ⟨rfl, hb⟩
      have hF1 := hF.out.call hb
      clear hF hb
      have hF := Aside0.mk hF1
      clear hF1
      go_wp2_with fail
      with_reducible refine (watch_Twice.calls (some ad) co q n 0 _ (Kd.C_below HCQ.out hF.out.below) HCO.out H9.out).mono ?_
      rintro e0 W ⟨rfl, hb⟩
      have hF1 := hF.out.call hb
      clear hF hb
      have hF := Aside0.mk hF1
      clear hF1
      go_wp2_with fail
      have hh := watch_Twice.calls (some ad) co (q.take c) u 0 _ (by have h1 := Kd.C_below HCT.out hF.out.below; rw [HLT.out]; exact h1) HCC.out H10.out
      rw [HLT.out] at hh
      with_reducible refine hh.mono ?_
      rintro e0 W ⟨rfl, hb⟩
      have hF1 := hF.out.call hb
      clear hF hb hh
      have hF := Aside0.mk hF1
      clear hF1
      go_wp2_with fail
      have hh := watch_Twice.calls (some (ad.add (c * 4))) (co - c) (q.drop c) v 0 _ (Kd.C_below HCD.out hF.out.below) HCE.out H11.out
      rw [HLD.out] at hh
      with_reducible refine hh.mono ?_
      rintro e0 W ⟨rfl, hb⟩
      have hF1 := hF.out.call hb
      clear hF hb hh
      have hF := Aside0.mk hF1
      clear hF1
      have hn3 : decide (wrap64 (u + v) ≤ n) = true := decide_eq_true hn1
      have hn4 : decide (n ≤ (q.length : Int)) = true := decide_eq_true hn2
      cases x with
      | true =>
        obtain rfl := hxy rfl
        go_wp2
        go_ret
        exact ⟨rfl, HB0.out.trans (hF.out.below.mono HB0.out.size)⟩
      | false =>
        clear hxy
        go_wp2
        go_ret
        exact ⟨rfl, HB0.out.trans (hF.out.below.mono HB0.out.size)⟩
    | false =>
      clear hra
      go_wp2_with fail
      with_reducible refine (foghornlaw23_alive.calls true _ H6.out).mono ?_
      rintro e0 W ⟨rfl, hb⟩
      have hF1 := hF.out.call hb
      clear hF hb
      have hF := Aside0.mk hF1
      clear hF1
      have hz : ((q.length : Int) == 0) = false := by rw [beq_eq_false_iff_ne]; omega
      have hzi : (0 : Int) < (q.length : Int) := by omega
      have d2 := (hF.out.below.cell (World.block_lt_of_cell? _ _ HX2.out)).trans HX2.out
      go_wp2_with fail
      clear d2
      with_reducible refine (watch_Calm.calls (some ad) co q (rd_T51 q 0).f2 (wrap64 (t + 1)) x 0 _ (Kd.C_below HCQ.out hF.out.below) HCO.out H7.out).mono ?_
      rintro e0 W ⟨rfl, hb⟩
      have hF1 := hF.out.call hb
      clear hF hb
      have hF := Aside0.mk hF1
      clear hF1
      have d2 := (hF.out.below.cell (World.block_lt_of_cell? _ _ HX2.out)).trans HX2.out
      go_wp2_with fail
      clear d2
      with_reducible refine (watch_Calm.calls (some ad) co q (rd_T51 q 0).f2 t y 0 _ (Kd.C_below HCQ.out hF.out.below) HCO.out H8.out).mono ?_
      rintro e0 W ⟨rfl, hb⟩
      have hF1 := hF.out.call hb
      clear hF hb
      have hF := Aside0.mk hF1
      clear hF1
      go_wp2_with fail
      with_reducible refine (watch_Twice.calls (some ad) co q n 0 _ (Kd.C_below HCQ.out hF.out.below) HCO.out H9.out).mono ?_
      rintro e0 W ⟨rfl, hb⟩
      have hF1 := hF.out.call hb
      clear hF hb
      have hF := Aside0.mk hF1
      clear hF1
      go_wp2_with fail
      have hh := watch_Twice.calls (some ad) co (q.take c) u 0 _ (by have h1 := Kd.C_below HCT.out hF.out.below; rw [HLT.out]; exact h1) HCC.out H10.out
      rw [HLT.out] at hh
      with_reducible refine hh.mono ?_
      rintro e0 W ⟨rfl, hb⟩
      have hF1 := hF.out.call hb
      clear hF hb hh
      have hF := Aside0.mk hF1
      clear hF1
      go_wp2_with fail
      have hh := watch_Twice.calls (some (ad.add (c * 4))) (co - c) (q.drop c) v 0 _ (Kd.C_below HCD.out hF.out.below) HCE.out H11.out
      rw [HLD.out] at hh
      with_reducible refine hh.mono ?_
      rintro e0 W ⟨rfl, hb⟩
      have hF1 := hF.out.call hb
      clear hF hb hh
      have hF := Aside0.mk hF1
      clear hF1
      have hn3 : decide (wrap64 (u + v) ≤ n) = true := decide_eq_true hn1
      have hn4 : decide (n ≤ (q.length : Int)) = true := decide_eq_true hn2
      cases x with
      | true =>
        obtain rfl := hxy rfl
        go_wp2
        go_ret
        exact ⟨rfl, HB0.out.trans (hF.out.below.mono HB0.out.size)⟩
      | false =>
        clear hxy
        go_wp2
        go_ret
        exact ⟨rfl, HB0.out.trans (hF.out.below.mono HB0.out.size)⟩
  · skip
    obtain rfl : co = c := by omega
    rw [if_pos rfl] at HCD
    rw [Nat.sub_self] at HCE
    go_wp2_with fail
    simp only [HE.out.1, HE.out.2.1, HE.out.2.2.1, HE.out.2.2.2.1, HE.out.2.2.2.2]
    with_reducible refine (watch_Rate.calls (some ad) co q a1 b e m ra 0 _ (Kd.C_below HCQ.out hF.out.below) HCO.out H1.out).mono ?_
    rintro e0 W ⟨rfl, hb⟩
    have hF1 := hF.out.call hb
    clear hF hb
    have hF := Aside0.mk hF1
    clear hF1
    go_wp2_with fail
    with_reducible refine (watch_Rate.calls (some ad) co q a1 (wrap64 (b + 1)) e m rb 0 _ (Kd.C_below HCQ.out hF.out.below) HCO.out H2.out).mono ?_
    rintro e0 W ⟨rfl, hb⟩
    have hF1 := hF.out.call hb
    clear hF hb
    have hF := Aside0.mk hF1
    clear hF1
    go_wp2_with fail
    with_reducible refine (watch_Rate.calls (some ad) co q a1 b e (wrap64 (m + 1)) rb 0 _ (Kd.C_below HCQ.out hF.out.below) HCO.out H3.out).mono ?_
    rintro e0 W ⟨rfl, hb⟩
    have hF1 := hF.out.call hb
    clear hF hb
    have hF := Aside0.mk hF1
    clear hF1
    go_wp2_with fail
    have hh := watch_Rate.calls (some ad) co (q.take co) a1 b e m rd 0 _ (by have h1 := Kd.C_below HCT.out hF.out.below; rw [HLT.out]; exact h1) HCC.out H4.out
    rw [HLT.out] at hh
    with_reducible refine hh.mono ?_
    rintro e0 W ⟨rfl, hb⟩
    have hF1 := hF.out.call hb
    clear hF hb hh
    have hF := Aside0.mk hF1
    clear hF1
    go_wp2_with fail
    have hh := watch_Rate.calls (some ad) 0 (q.drop co) a1 b e m rm 0 _ (Kd.C_below HCD.out hF.out.below) HCE.out H5.out
    rw [HLD.out] at hh
    with_reducible refine hh.mono ?_
    rintro e0 W ⟨rfl, hb⟩
    have hF1 := hF.out.call hb
    clear hF hb hh
    have hF := Aside0.mk hF1
    clear hF1
    cases ra with
    | true =>
      obtain ⟨rfl, rfl, rfl⟩ := hra rfl
      clear hra
      go_wp2_with fail
      with_reducible refine (foghornlaw23_alive.calls true _ H6.out).mono ?_
      rintro e0 W ⟨rfl, hb⟩
      have hF1 := hF.out.call hb
      clear hF hb
      have hF := Aside0.mk hF1
      clear hF1
      have hz : ((q.length : Int) == 0) = false := by rw [beq_eq_false_iff_ne]; omega
      have hzi : (0 : Int) < (q.length : Int) := by omega
      have d2 := (hF.out.below.cell (World.block_lt_of_cell? _ _ HX2.out)).trans HX2.out
      go_wp2_with fail
      clear d2
      with_reducible refine (watch_Calm.calls (some ad) co q (rd_T51 q 0).f2 (wrap64 (t + 1)) x 0 _ (Kd.C_below HCQ.out hF.out.below) HCO.out H7.out).mono ?_
      rintro e0 W ⟨rfl, hb⟩
      have hF1 := hF.out.call hb
      clear hF hb
      have hF := Aside0.mk hF1
      clear hF1
      have d2 := (hF.out.below.cell (World.block_lt_of_cell? _ _ HX2.out)).trans HX2.out
      go_wp2_with fail
      clear d2
      with_reducible refine (watch_Calm.calls (some ad) co q (rd_T51 q 0).f2 t y 0 _ (Kd.C_below HCQ.out hF.out.below) HCO.out H8.out).mono ?_
      rintro e0 W ⟨rfl, hb⟩
      have hF1 := hF.out.call hb
      clear hF hb
      have hF := Aside0.mk hF1
      clear hF1
      go_wp2_with fail
      with_reducible refine (watch_Twice.calls (some ad) co q n 0 _ (Kd.C_below HCQ.out hF.out.below) HCO.out H9.out).mono ?_
      rintro e0 W ⟨rfl, hb⟩
      have hF1 := hF.out.call hb
      clear hF hb
      have hF := Aside0.mk hF1
      clear hF1
      go_wp2_with fail
      have hh := watch_Twice.calls (some ad) co (q.take co) u 0 _ (by have h1 := Kd.C_below HCT.out hF.out.below; rw [HLT.out]; exact h1) HCC.out H10.out
      rw [HLT.out] at hh
      with_reducible refine hh.mono ?_
      rintro e0 W ⟨rfl, hb⟩
      have hF1 := hF.out.call hb
      clear hF hb hh
      have hF := Aside0.mk hF1
      clear hF1
      go_wp2_with fail
      have hh := watch_Twice.calls (some ad) 0 (q.drop co) v 0 _ (Kd.C_below HCD.out hF.out.below) HCE.out H11.out
      rw [HLD.out] at hh
      with_reducible refine hh.mono ?_
      rintro e0 W ⟨rfl, hb⟩
      have hF1 := hF.out.call hb
      clear hF hb hh
      have hF := Aside0.mk hF1
      clear hF1
      have hn3 : decide (wrap64 (u + v) ≤ n) = true := decide_eq_true hn1
      have hn4 : decide (n ≤ (q.length : Int)) = true := decide_eq_true hn2
      cases x with
      | true =>
        obtain rfl := hxy rfl
        go_wp2
        go_ret
        exact ⟨rfl, HB0.out.trans (hF.out.below.mono HB0.out.size)⟩
      | false =>
        clear hxy
        go_wp2
        go_ret
        exact ⟨rfl, HB0.out.trans (hF.out.below.mono HB0.out.size)⟩
    | false =>
      clear hra
      go_wp2_with fail
      with_reducible refine (foghornlaw23_alive.calls true _ H6.out).mono ?_
      rintro e0 W ⟨rfl, hb⟩
      have hF1 := hF.out.call hb
      clear hF hb
      have hF := Aside0.mk hF1
      clear hF1
      have hz : ((q.length : Int) == 0) = false := by rw [beq_eq_false_iff_ne]; omega
      have hzi : (0 : Int) < (q.length : Int) := by omega
      have d2 := (hF.out.below.cell (World.block_lt_of_cell? _ _ HX2.out)).trans HX2.out
      go_wp2_with fail
      clear d2
      with_reducible refine (watch_Calm.calls (some ad) co q (rd_T51 q 0).f2 (wrap64 (t + 1)) x 0 _ (Kd.C_below HCQ.out hF.out.below) HCO.out H7.out).mono ?_
      rintro e0 W ⟨rfl, hb⟩
      have hF1 := hF.out.call hb
      clear hF hb
      have hF := Aside0.mk hF1
      clear hF1
      have d2 := (hF.out.below.cell (World.block_lt_of_cell? _ _ HX2.out)).trans HX2.out
      go_wp2_with fail
      clear d2
      with_reducible refine (watch_Calm.calls (some ad) co q (rd_T51 q 0).f2 t y 0 _ (Kd.C_below HCQ.out hF.out.below) HCO.out H8.out).mono ?_
      rintro e0 W ⟨rfl, hb⟩
      have hF1 := hF.out.call hb
      clear hF hb
      have hF := Aside0.mk hF1
      clear hF1
      go_wp2_with fail
      with_reducible refine (watch_Twice.calls (some ad) co q n 0 _ (Kd.C_below HCQ.out hF.out.below) HCO.out H9.out).mono ?_
      rintro e0 W ⟨rfl, hb⟩
      have hF1 := hF.out.call hb
      clear hF hb
      have hF := Aside0.mk hF1
      clear hF1
      go_wp2_with fail
      have hh := watch_Twice.calls (some ad) co (q.take co) u 0 _ (by have h1 := Kd.C_below HCT.out hF.out.below; rw [HLT.out]; exact h1) HCC.out H10.out
      rw [HLT.out] at hh
      with_reducible refine hh.mono ?_
      rintro e0 W ⟨rfl, hb⟩
      have hF1 := hF.out.call hb
      clear hF hb hh
      have hF := Aside0.mk hF1
      clear hF1
      go_wp2_with fail
      have hh := watch_Twice.calls (some ad) 0 (q.drop co) v 0 _ (Kd.C_below HCD.out hF.out.below) HCE.out H11.out
      rw [HLD.out] at hh
      with_reducible refine hh.mono ?_
      rintro e0 W ⟨rfl, hb⟩
      have hF1 := hF.out.call hb
      clear hF hb hh
      have hF := Aside0.mk hF1
      clear hF1
      have hn3 : decide (wrap64 (u + v) ≤ n) = true := decide_eq_true hn1
      have hn4 : decide (n ≤ (q.length : Int)) = true := decide_eq_true hn2
      cases x with
      | true =>
        obtain rfl := hxy rfl
        go_wp2
        go_ret
        exact ⟨rfl, HB0.out.trans (hF.out.below.mono HB0.out.size)⟩
      | false =>
        clear hxy
        go_wp2
        go_ret
        exact ⟨rfl, HB0.out.trans (hF.out.below.mono HB0.out.size)⟩
end Go.Proofs.Ytkkopknlhijgiaa.Pure
