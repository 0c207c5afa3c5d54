/- The statement BreakerWaits over plain numbers and lists: what the law keeps in mind and the breaker's own state go together, round by round. No condition. -/
import Derived.Test.YtkkopknlhijgiaaG10
import Derived.Test.YtkkopknlhijgiaaG11
import Derived.Test.YtkkopknlhijgiaaG12
import Derived.Test.YtkkopknlhijgiaaG13
import Derived.Test.YtkkopknlhijgiaaG14
import Derived.Test.YtkkopknlhijgiaaG15
import Derived.Test.YtkkopknlhijgiaaG16
import Derived.Test.YtkkopknlhijgiaaG2
import Derived.Test.YtkkopknlhijgiaaG3
import Derived.Test.YtkkopknlhijgiaaTick
namespace Go.Proofs.Ytkkopknlhijgiaa.Pure
open Go.RowKit Go.Proofs.Ytkkopknlhijgiaa.G Go.Proofs.YtkkopknlhijgiaaW.PrintWords Go.Proofs.YtkkopknlhijgiaaW.PrintLast Go.Proofs.YtkkopknlhijgiaaW.PrintMore Go.Proofs.Ytkkopknlhijgiaa.Tick
set_option linter.unusedVariables false
set_option linter.unusedSimpArgs false
theorem bw_mod (a b : Int) (h : 0 < b) (hb : b ≤ 1000) : 0 ≤ Int.tmod (wrap64 (Int.tmod a b + b)) b ∧ Int.tmod (wrap64 (Int.tmod a b + b)) b < b := by
  have h1 := Int.tmod_lt_of_pos a h
  have h2 : -b < Int.tmod a b := by
    have := Int.tmod_lt_of_pos (-a) h
    rw [Int.neg_tmod] at this
    omega
  rw [w64 (by omega) (by omega), Int.tmod_eq_emod_of_nonneg (by omega)]
  exact ⟨Int.emod_nonneg _ (by omega), Int.emod_lt_of_pos _ h⟩
theorem bw_tick {t : Int} (h : Tm t) : tick_Right.f t = some true := by
  unfold tick_Right.f
  rw [if_pos h.1, decide_eq_true h.2]
theorem bw_in {a b c : Int} (h : b ≤ a) (h' : a ≤ c) : breaker_in.f a b c = some true := by
  unfold breaker_in.f
  rw [if_pos (by omega), decide_eq_true h']
/-- What the law knows, and the breaker. -/
def Rel (F row until_ : Int) (probe : Bool) (S C U : Int) : Prop :=
  (0 ≤ until_ ∧ until_ ≤ 100000 ∧ probe = false ∧ row = 0 ∧ S = 1 ∧ C = 0 ∧ U = until_) ∨ (until_ < 0 ∧ probe = true ∧ row = 0 ∧ S = 2 ∧ C = 0 ∧ U = 0) ∨ (until_ < 0 ∧ probe = false ∧ 0 ≤ row ∧ row ≤ F - 1 ∧ S = 0 ∧ C = row ∧ U = 0)
theorem bw_right {F O row until_ : Int} {probe : Bool} {S C U : Int} (hF : 1 ≤ F ∧ F ≤ 9) (hO : 1 ≤ O ∧ O ≤ 30) (h : Rel F row until_ probe S C U) (k : Nat) : breaker_Right.f (k + 1) F O S C U = some true := by
  unfold breaker_Right.f
  rw [bw_in (by omega) (by omega)]
  simp only [Option.bind_some, if_true]
  rw [bw_in (by omega) (by omega)]
  simp only [Option.bind_some, Bool.not_true]
  rw [breaker_Right.j0]
  rw [if_neg (by decide)]
  rcases h with ⟨h1, h2, rfl, rfl, rfl, rfl, rfl⟩ | ⟨h1, rfl, rfl, rfl, rfl, rfl⟩ | ⟨h1, rfl, h2, h3, rfl, rfl, rfl⟩
  · rw [if_pos rfl, if_pos rfl, bw_tick ⟨h1, by omega⟩]; rfl
  · rw [if_neg (by decide), if_pos rfl, if_pos rfl, w64 (by omega) (by omega), bw_in (by omega) (by omega)]; rfl
  · rw [if_neg (by decide), if_neg (by decide), if_pos rfl, w64 (by omega) (by omega), bw_in (by omega) (by omega)]; rfl
theorem bw_ask {F O row until_ : Int} {probe : Bool} {S C U : Int} (hF : 1 ≤ F ∧ F ≤ 9) (hO : 1 ≤ O ∧ O ≤ 30) (h : Rel F row until_ probe S C U) (k : Nat) (now : Int) (hn : Tm now) :
    breaker_Ask.f (k + 2) F O S C U now = some (if S = 1 ∧ U ≤ now then (F, O, 2, 0, 0, true, 0) else (F, O, S, C, U, decide (S = 0), 0)) := by
  unfold breaker_Ask.f
  rw [bw_right hF hO h]
  simp only [Option.bind_some, if_true]
  rw [bw_tick hn]
  simp only [Option.bind_some, Bool.not_true]
  rw [breaker_Ask.j0]
  rw [if_neg (by decide)]
  by_cases c : S = 1
  · subst c
    rw [if_pos rfl]
    rw [breaker_Ask.j1]
    by_cases d : U ≤ now
    · rw [if_pos (decide_eq_true d), if_pos ⟨rfl, d⟩]; rfl
    · rw [if_neg (by simp; omega), if_neg (by decide), if_neg (by omega)]; rfl
  · rw [if_neg c, if_neg (by omega)]
    rw [breaker_Ask.j1]
    rw [if_neg (by decide)]
    by_cases d : S = 0
    · rw [if_pos d, decide_eq_true d]
    · rw [if_neg d, decide_eq_false d]
theorem bw_told {F O row until_ : Int} {probe : Bool} {S C U : Int} (hF : 1 ≤ F ∧ F ≤ 9) (hO : 1 ≤ O ∧ O ≤ 30) (h : Rel F row until_ probe S C U) (k : Nat) (now : Int) (ok : Bool) (hn : 0 ≤ now ∧ now ≤ 2000) :
    breaker_Told.f (k + 2) F O S C U now ok = some (if S = 1 then (0, 0, 0, 0, 0, 6) else if ok = true then (F, O, 0, 0, 0, 0) else if S = 0 ∧ C < F - 1 then (F, O, 0, C + 1, U, 0) else (F, O, 1, 0, now + O, 0)) := by
  unfold breaker_Told.f
  rw [bw_right hF hO h]
  simp only [Option.bind_some, if_true]
  rw [bw_tick ⟨hn.1, by omega⟩]
  simp only [Option.bind_some, Bool.not_true]
  have hadd : tick_Add.f now O = some (now + O, 0) := by
    rw [add_in ⟨by omega, by omega⟩ ⟨by omega, by omega⟩]
    unfold mn
    rw [if_neg (by omega)]
  rw [breaker_Told.j0]
  rw [if_neg (by decide)]
  by_cases c : S = 1
  · rw [if_pos c, if_pos c]
  · rw [if_neg c, if_neg c]
    cases ok with
    | true => rfl
    | false =>
      simp only [Bool.false_eq_true, if_false]
      by_cases d : S = 0
      · subst d
        rw [if_pos rfl]
        rw [breaker_Told.j1]
        have hC : 0 ≤ C ∧ C ≤ 8 := by
          rcases h with h | h | h <;> omega
        by_cases e : C < F - 1
        · rw [if_pos (by rw [w64 (by omega) (by omega)]; exact decide_eq_true e), if_pos ⟨rfl, e⟩, w64 (by omega) (by omega)]
        · rw [if_neg (by rw [w64 (by omega) (by omega)]; simp; omega), if_neg (by omega)]
          simp only [breaker_fresh.f, Option.bind_some, hadd]
      · rw [if_neg d, if_neg (by omega)]
        rw [breaker_Told.j1]
        rw [if_neg (by decide)]
        simp only [breaker_fresh.f, Option.bind_some, hadd]
set_option maxHeartbeats 4000000 in
theorem bw_main (F O : Int) (hF : 1 ≤ F ∧ F ≤ 9) (hO : 1 ≤ O ∧ O ≤ 30) (l : List Int) (hl : l.length ≤ 200) : ∀ (m k i : Nat) (now row until_ : Int) (probe : Bool) (S C U : Int), i + m = l.length → 3 * m + 6 ≤ k → 0 ≤ now → now ≤ 6 * i → Rel F row until_ probe S C U → foghornlaw07_BreakerWaits.l0 k F O now row until_ probe l (l.length : Int) (i : Int) F O S C U = some true := by
  intro m
  induction m with
  | zero =>
    intro k i now row until_ probe S C U hi hk h0 hn hr
    obtain ⟨k, rfl⟩ : ∃ k', k = k' + 1 := ⟨k - 1, by omega⟩
    rw [foghornlaw07_BreakerWaits.l0]
    rw [if_neg (by omega)]
  | succ m ih =>
    intro k i now row until_ probe S C U hi hk h0 hn hr
    obtain ⟨k, rfl⟩ : ∃ k', k = k' + 5 := ⟨k - 5, by omega⟩
    rw [foghornlaw07_BreakerWaits.l0]
    rw [if_pos (by omega), if_pos (by omega), if_pos (by omega)]
    have hs := bw_mod (wrap64 (Int.tdiv (rd l i) 4)) 7 (by decide) (by decide)
    generalize Int.tmod (wrap64 (Int.tmod (wrap64 (Int.tdiv (rd l i) 4)) 7 + 7)) 7 = s at hs ⊢
    rw [w64 (n := now + s) (by omega) (by omega)]
    have hn' : 0 ≤ now + s ∧ now + s ≤ 6 * ((i + 1 : Nat) : Int) := by omega
    generalize now + s = t at hn' ⊢
    have e1 : wrap64 ((i : Int) + 1) = ((i + 1 : Nat) : Int) := by rw [w64 (by omega) (by omega)]; rfl
    have ih' : ∀ k', 3 * m + 6 ≤ k' → ∀ row until_ probe S C U, Rel F row until_ probe S C U → foghornlaw07_BreakerWaits.l0 k' F O t row until_ probe l (l.length : Int) ((i + 1 : Nat) : Int) F O S C U = some true := fun k' hk' row until_ probe S C U h => ih k' (i + 1) t row until_ probe S C U (by omega) hk' hn'.1 hn'.2 h
    have hask : ∀ x, foghornlaw07_BreakerWaits.j2 (k + 4) F O t row until_ probe x l (l.length : Int) i true F O S C U = some true := by
      intro x
      rw [foghornlaw07_BreakerWaits.j2]
      rw [if_pos rfl, bw_ask hF hO hr (k + 1) t ⟨by omega, by omega⟩]
      have hr' := hr
      rcases hr with ⟨h1, h2, rfl, rfl, rfl, rfl, rfl⟩ | ⟨h1, rfl, rfl, rfl, rfl, rfl⟩ | ⟨h1, rfl, h2, h3, rfl, rfl, rfl⟩
      · by_cases c : U ≤ t
        · rw [if_pos ⟨rfl, c⟩]
          simp only [Option.bind_some, if_true]
          rw [if_neg (by omega), if_pos (by omega)]
          rw [foghornlaw07_BreakerWaits.j3]
          rw [if_neg (by simp [c]), if_pos rfl, if_pos (by omega), e1]
          exact ih' _ (by omega) _ _ _ _ _ _ (.inr (.inl ⟨by omega, rfl, rfl, rfl, rfl, rfl⟩))
        · rw [if_neg (by omega)]
          simp only [Option.bind_some, if_true]
          rw [if_neg (by omega), if_pos (by omega)]
          rw [foghornlaw07_BreakerWaits.j3]
          rw [if_neg (by simp [c]), if_neg (by decide), e1]
          exact ih' _ (by omega) _ _ _ _ _ _ hr'
      · rw [if_neg (by omega)]
        simp only [Option.bind_some, if_true]
        rw [if_pos h1, if_neg (by omega)]
        rw [foghornlaw07_BreakerWaits.j3]
        rw [if_neg (by decide), if_neg (by decide), e1]
        exact ih' _ (by omega) _ _ _ _ _ _ hr'
      · rw [if_neg (by omega)]
        simp only [Option.bind_some, if_true]
        rw [if_pos h1, if_neg (by decide)]
        rw [foghornlaw07_BreakerWaits.j3]
        rw [if_neg (by decide), if_pos (by decide), if_neg (by omega), e1]
        exact ih' _ (by omega) _ _ _ _ _ _ hr'
    have htold : ∀ x, foghornlaw07_BreakerWaits.j2 (k + 4) F O t row until_ probe x l (l.length : Int) i false F O S C U = some true := by
      intro x
      rw [foghornlaw07_BreakerWaits.j2]
      rw [if_neg (by decide), bw_told hF hO hr (k + 1) t _ ⟨by omega, by omega⟩]
      generalize Int.tmod (wrap64 (Int.tmod x 4 + 4)) 4 = v
      have hr' := hr
      rcases hr with ⟨h1, h2, rfl, rfl, rfl, rfl, rfl⟩ | ⟨h1, rfl, rfl, rfl, rfl, rfl⟩ | ⟨h1, rfl, h2, h3, rfl, rfl, rfl⟩
      · rw [if_pos rfl]
        simp only [Option.bind_some, if_true]
        rw [if_pos (by omega), e1]
        exact ih' _ (by omega) _ _ _ _ _ _ hr'
      · rw [if_neg (by decide)]
        by_cases c : v = 2
        · rw [if_pos (by simp [c])]
          simp only [Option.bind_some, if_true]
          rw [if_neg (by omega), if_pos c, e1]
          exact ih' _ (by omega) _ _ _ _ _ _ (.inr (.inr ⟨h1, rfl, by omega, by omega, rfl, rfl, rfl⟩))
        · rw [if_neg (by simp [c]), if_neg (by omega)]
          simp only [Option.bind_some, if_true]
          rw [if_neg (by omega), if_neg c, e1, w64 (n := t + O) (by omega) (by omega)]
          exact ih' _ (by omega) _ _ _ _ _ _ (.inl ⟨by omega, by omega, rfl, rfl, rfl, rfl, rfl⟩)
      · rw [if_neg (by decide)]
        by_cases c : v = 2
        · rw [if_pos (by simp [c])]
          simp only [Option.bind_some, if_true]
          rw [if_neg (by omega), if_pos c, e1]
          exact ih' _ (by omega) _ _ _ _ _ _ (.inr (.inr ⟨h1, rfl, by omega, by omega, rfl, rfl, rfl⟩))
        · rw [if_neg (by simp [c])]
          by_cases d : C < F - 1
          · rw [if_pos ⟨rfl, d⟩]
            simp only [Option.bind_some, if_true]
            rw [if_neg (by omega), if_neg c, if_neg (by decide), w64 (n := C + 1) (by omega) (by omega), if_neg (by omega), e1]
            exact ih' _ (by omega) _ _ _ _ _ _ (.inr (.inr ⟨h1, rfl, by omega, by omega, rfl, rfl, rfl⟩))
          · rw [if_neg (by omega)]
            simp only [Option.bind_some, if_true]
            rw [if_neg (by omega), if_neg c, if_neg (by decide), w64 (n := C + 1) (by omega) (by omega), if_pos (by omega), e1, w64 (n := t + O) (by omega) (by omega)]
            exact ih' _ (by omega) _ _ _ _ _ _ (.inl ⟨by omega, by omega, rfl, rfl, rfl, rfl, rfl⟩)
    by_cases c : Int.tmod (wrap64 (Int.tmod (rd l i) 4 + 4)) 4 = 0
    · rw [if_pos c, beq_iff_eq.mpr c]
      exact hask _
    · rw [if_neg c]
      by_cases d : Int.tmod (wrap64 (Int.tmod (rd l i) 4 + 4)) 4 = 1
      · rw [beq_iff_eq.mpr d]; exact hask _
      · rw [beq_eq_false_iff_ne.mpr d]; exact htold _
theorem bw_alive (k : Nat) : foghornlaw07_alive.f (k + 2) = some true := by
  have r0 : Rel 1 0 (-1) false 0 0 0 := .inr (.inr ⟨by omega, rfl, by omega, by omega, rfl, rfl, rfl⟩)
  have r1 : Rel 1 0 7 false 1 0 7 := .inl ⟨by omega, by omega, rfl, rfl, rfl, rfl, rfl⟩
  have e0 : breaker_New.f (k + 2) 1 5 = some (1, 5, 0, 0, 0, 0) := by
    unfold breaker_New.f
    rw [bw_right ⟨by decide, by decide⟩ ⟨by decide, by decide⟩ r0]; rfl
  have e1 : breaker_Told.f (k + 2) 1 5 0 0 0 2 false = some (1, 5, 1, 0, 7, 0) := by
    rw [bw_told ⟨by decide, by decide⟩ ⟨by decide, by decide⟩ r0 k 2 false ⟨by decide, by decide⟩]; rfl
  have e2 : breaker_Ask.f (k + 2) 1 5 1 0 7 6 = some (1, 5, 1, 0, 7, false, 0) := by
    rw [bw_ask ⟨by decide, by decide⟩ ⟨by decide, by decide⟩ r1 k 6 ⟨by decide, by decide⟩]; rfl
  unfold foghornlaw07_alive.f
  rw [e0]; simp only [Option.bind_some]
  rw [e1]; simp only [Option.bind_some]
  rw [e2]; simp
theorem BreakerWaits : foghornlaw07_BreakerWaits.Pure := by
  intro a0 a1 l2 w0 w1 h1 h2 h3
  refine ⟨3 * 200 + 20, ?_⟩
  have hf := bw_mod a0 9 (by decide) (by decide)
  have ho := bw_mod a1 30 (by decide) (by decide)
  unfold foghornlaw07_BreakerWaits.f
  generalize Int.tmod (wrap64 (Int.tmod a0 9 + 9)) 9 = f at hf ⊢
  generalize Int.tmod (wrap64 (Int.tmod a1 30 + 30)) 30 = o at ho ⊢
  rw [w64 (n := 1 + f) (by omega) (by omega), w64 (n := 1 + o) (by omega) (by omega)]
  have hF : 1 ≤ 1 + f ∧ 1 + f ≤ 9 := by omega
  have hO : 1 ≤ 1 + o ∧ 1 + o ≤ 30 := by omega
  generalize 1 + f = F at hF ⊢
  generalize 1 + o = O at hO ⊢
  have r0 : Rel F 0 (-1) false 0 0 0 := .inr (.inr ⟨by omega, rfl, by omega, by omega, rfl, rfl, rfl⟩)
  have e0 : breaker_New.f (3 * 200 + 20) F O = some (F, O, 0, 0, 0, 0) := by
    unfold breaker_New.f
    rw [bw_right hF hO r0]; rfl
  rw [e0]
  simp only [Option.bind_some, if_true]
  rw [bw_alive]
  simp only [Option.bind_some, Bool.not_true]
  rw [foghornlaw07_BreakerWaits.j0]
  have hm : ∃ m : Nat, mn (l2.length : Int) 200 = m ∧ m ≤ l2.length ∧ m ≤ 200 := by
    unfold mn
    split
    · exact ⟨200, rfl, by omega, by omega⟩
    · exact ⟨l2.length, rfl, by omega, by omega⟩
  obtain ⟨m, em, hm1, hm2⟩ := hm
  rw [em, if_neg (by decide), if_pos (by omega), if_pos (by omega), Option.bind_some]
  have hlen : (l2.take (m : Int).toNat).length = m := by rw [List.length_take]; omega
  exact bw_main F O hF hO _ (by omega) (l2.take (m : Int).toNat).length _ 0 0 0 (-1) false 0 0 0 (by omega) (by omega) (by decide) (by decide) r0
end Go.Proofs.Ytkkopknlhijgiaa.Pure
