/- The statement GateBounds: for whatever numbers and whatever script a new gate lets through no more than it may. No condition. -/
import Derived.Test.YtanhdljnbaojbaaG13
import Derived.Test.YtanhdljnbaojbaaGbWalk
namespace Go.Proofs.Ytanhdljnbaojbaa.Pure
open Go.RowKit Go.Proofs.Ytanhdljnbaojbaa.G Go.Proofs.YtanhdljnbaojbaaW.PrintWords Go.Proofs.YtanhdljnbaojbaaW.PrintLast Go.Proofs.YtanhdljnbaojbaaW.PrintMore Go.Proofs.Ytanhdljnbaojbaa Go.Proofs.Ytanhdljnbaojbaa.Tick Go.Proofs.Ytanhdljnbaojbaa.Breaker Go.Proofs.Ytanhdljnbaojbaa.Bucket Go.Proofs.Ytanhdljnbaojbaa.Gate Go.Proofs.Ytanhdljnbaojbaa.GateRef Go.Proofs.Ytanhdljnbaojbaa.GateRound
set_option linter.unusedVariables false
theorem one_rng (a m : Int) (hm : 1 ≤ m) (hm' : m ≤ 1000) : 1 ≤ wrap64 (1 + Int.tmod (wrap64 (Int.tmod a m + m)) m) ∧ wrap64 (1 + Int.tmod (wrap64 (Int.tmod a m + m)) m) ≤ m := by
  have k1 : Int.tmod a m < m := Int.tmod_lt_of_pos a (by omega)
  have k2 : -m < Int.tmod a m := by
    have := Int.tmod_lt_of_pos (-a) (show 0 < m by omega)
    rw [Int.neg_tmod] at this
    omega
  rw [w64 (n := Int.tmod a m + m) (by omega) (by omega), Int.tmod_eq_emod_of_nonneg (by omega)]
  have h1 := Int.emod_nonneg (Int.tmod a m + m) (show m ≠ 0 by omega)
  have h2 := Int.emod_lt_of_pos (Int.tmod a m + m) (show 0 < m by omega)
  rw [w64 (by omega) (by omega)]
  omega
theorem alive19'' : foghornlaw19_alive.f 12 = some true := by decide +kernel
theorem GateBounds (a0 a1 a2 a3 : Int) (A4 : Option Addr) (c4 : Nat) (l4 : List Int) (w : World) (hr : Kd.C (Kd.int .i64) w A4 l4.length l4) (hc : l4.length ≤ c4) :
    Calls Try.prog 8 #[.int .i64 a0, .int .i64 a1, .int .i64 a2, .int .i64 a3, .slice A4 l4.length c4] w fun e w' => e = .returned (.bool true) ∧ Below w.heap.size w w' := by
  obtain ⟨B, eB⟩ : ∃ B, wrap64 (1 + Int.tmod (wrap64 (Int.tmod a0 9 + 9)) 9) = B := ⟨_, rfl⟩
  obtain ⟨E, eE⟩ : ∃ E, wrap64 (1 + Int.tmod (wrap64 (Int.tmod a1 9 + 9)) 9) = E := ⟨_, rfl⟩
  obtain ⟨F, eF⟩ : ∃ F, wrap64 (1 + Int.tmod (wrap64 (Int.tmod a2 5 + 5)) 5) = F := ⟨_, rfl⟩
  obtain ⟨O, eO⟩ : ∃ O, wrap64 (1 + Int.tmod (wrap64 (Int.tmod a3 20 + 20)) 20) = O := ⟨_, rfl⟩
  have p : GP B E F O := ⟨by rw [← eB]; exact one_rng a0 9 (by omega) (by omega), by rw [← eE]; exact one_rng a1 9 (by omega) (by omega), by rw [← eF]; exact one_rng a2 5 (by omega) (by omega), by rw [← eO]; exact one_rng a3 20 (by omega) (by omega)⟩
  have hn := g_new ⟨#[]⟩ 0 0 0 0 F O B E 0 11
  rw [if_pos (gb_new p).1] at hn
  exact gb_walk a0 a1 a2 a3 A4 c4 l4 w hr hc (min l4.length 150) (by omega) (by omega) (by split <;> omega) B E F O p eB eE eF eO hn alive19''
end Go.Proofs.Ytanhdljnbaojbaa.Pure
