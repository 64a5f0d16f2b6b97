/- No task touches another one's area: for all whole numbers of 64 bits. No condition. -/
import Derived.Test.YtipflebjooanpaaPGuardApartx3
import Derived.Test.YtipflebjooanpaaGuardTotApart
import Derived.Test.YtipflebjooanpaaArith
namespace Go.Proofs.Ytipflebjooanpaa.Pure
open Go.RowKit Go.Proofs.Ytipflebjooanpaa.PGuardApart Go.Proofs.YtipflebjooanpaaW.PrintWords Go.Proofs.YtipflebjooanpaaW.PrintLast Go.Proofs.YtipflebjooanpaaW.PrintMore Go.Proofs.Ytipflebjooanpaa.GuardMath Go.Proofs.Ytipflebjooanpaa.GuardTotApart
open Go.Proofs.Ytipflebjooanpaa.Arith (and_low and7)

theorem and7b (x : Int) : Go.bits .and .i64 x 127 = x % 128 := and_low x 7 (by decide)

theorem GuardApart : tenterhooklaw12_GuardApart.Pure := by
  intro a b at_ lib ha hb hat
  refine ⟨6001, ?_⟩
  unfold tenterhooklaw12_GuardApart.f
  rw [awake_at 6001 (by omega), and7, and7, and7b, area_is, area_is]
  have hs : 0 ≤ a % 8 ∧ a % 8 < 8 := by omega
  have ht : 0 ≤ b % 8 ∧ b % 8 < 8 := by omega
  have hq : 0 ≤ at_ % 128 ∧ at_ % 128 < 128 := by omega
  generalize a % 8 = s at *
  generalize b % 8 = t at *
  generalize at_ % 128 = q at *
  have es : areaV s = 4096 + 128 * s := by unfold areaV; rw [if_pos hs]
  have et : areaV t = 4096 + 128 * t := by unfold areaV; rw [if_pos ht]
  have bs : areaB s = true := by unfold areaB; exact decide_eq_true hs
  have bt_ : areaB t = true := by unfold areaB; exact decide_eq_true ht
  rw [es, et, bs, bt_]
  simp only [Option.bind_some, if_true]
  have h1 : mayV s lib (4096 + 128 * s) 128 true = true := by
    rw [mayV_true]
    refine ⟨by omega, by omega, by omega, by omega, .inr fun j h0 h2 => ?_⟩
    unfold okB
    rw [if_neg (by omega), if_neg (by omega), beq_iff_eq]; omega
  have h2 : mayV s lib (4096 + 128 * s) 129 true = false := by
    rw [mayV_false]
    rintro ⟨_, _, _, h3, h4⟩
    rcases h4 with h4 | h4
    · omega
    · have := h4 (4096 + 128 * s + 128) (by omega) (by omega)
      unfold okB at this
      rw [if_neg (by omega), if_neg (by omega), beq_iff_eq] at this; omega
  have h3 : mayV s lib (4096 + 128 * s - 1) 2 true = true → lib = true := by
    rw [mayV_true]
    rintro ⟨_, _, _, _, h4⟩
    rcases h4 with h4 | h4
    · omega
    · have := h4 (4096 + 128 * s - 1) (by omega) (by omega)
      unfold okB at this
      rw [if_neg (by omega)] at this
      split at this
      · exact this
      · rw [beq_iff_eq] at this; omega
  rw [may_is 6001 (by omega) _ _ _ _ _ (by omega), h1]
  simp only [Option.bind_some, if_true]
  rw [may_is 6001 (by omega) _ _ _ _ _ (by omega), h2]
  simp only [Option.bind_some]
  rw [if_neg (by decide), wrap64_in (n := 4096 + 128 * s - 1) (by omega) (by omega), may_is 6001 (by omega) _ _ _ _ _ (by omega)]
  simp only [Option.bind_some]
  have hgo : tenterhooklaw12_GuardApart.j0 6001 lib true s t (4096 + 128 * t) q false = some true := by
    simp only [tenterhooklaw12_GuardApart.j0]
    rw [if_neg (by decide), wrap64_in (n := 4096 + 128 * t + q) (by omega) (by omega), may_is 6000 (by omega) _ _ _ _ _ (by omega), region_is 6000 (by omega), mayV_one (by omega) (by omega) (by omega)]
    simp only [Option.bind_some, if_true]
    have k1 : kindV (4096 + 128 * t + q) = 2 := by unfold kindV; rw [if_neg (by omega), if_neg (by omega), if_neg (by omega)]
    have k2 : whoV (4096 + 128 * t + q) = t := by unfold whoV; rw [if_neg (by omega), if_neg (by omega)]; omega
    have k3 : okB s lib false (4096 + 128 * t + q) = (s == t) := by
      unfold okB
      rw [if_neg (by omega), if_neg (by omega), Bool.eq_iff_iff, beq_iff_eq, beq_iff_eq]; omega
    rw [k1, k2, k3]
    simp only [beq_self_eq_true, if_true]
    rw [may_is 6000 (by omega) _ _ _ _ _ (by omega), mayV_true.2 ⟨by omega, by omega, by omega, by omega, .inl rfl⟩]
    rfl
  by_cases h4 : mayV s lib (4096 + 128 * s - 1) 2 true = true
  · have hl := h3 h4
    subst hl
    rw [if_pos h4]; exact hgo
  · rw [if_neg h4, hgo]

end Go.Proofs.Ytipflebjooanpaa.Pure
