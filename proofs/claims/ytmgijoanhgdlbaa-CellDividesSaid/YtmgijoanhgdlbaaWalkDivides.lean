/- What is divided is made again: the walk of CellDivides, for all whole numbers of 64 bits. No condition. -/
import Derived.Test.YtmgijoanhgdlbaaTot
namespace Go.Proofs.Ytmgijoanhgdlbaa.DividesWalk
open Go.RowKit Go.Proofs.Ytmgijoanhgdlbaa.PCellIs Go.Proofs.YtmgijoanhgdlbaaW.PrintWords Go.Proofs.YtmgijoanhgdlbaaW.PrintLast Go.Proofs.YtmgijoanhgdlbaaW.PrintMore Go.Proofs.Ytmgijoanhgdlbaa.Arith Go.Proofs.Ytmgijoanhgdlbaa.Pure.IsLaw Go.Proofs.Ytmgijoanhgdlbaa.Tot
set_option linter.unusedSimpArgs false

set_option maxHeartbeats 2000000 in
set_option maxRecDepth 100000 in
/-- b = 0. -/
theorem walk_zero (a : Int) (w : World) (hF : Aside0 (cell_Floor.f a 0 = some (0, 0, -10))) (hS : Aside0 (cell_Symm.f a 0 = some (0, 0, -10))) :
    Calls Try.prog 3 #[.int .i64 a, .int .i64 0] w fun e w' => e = .returned (.bool true) ∧ Below w.heap.size w w' := by
  go_enter Try.func3, Try.ntmps3
  go_wp2_with (first | (go_at_call 10; (with_reducible refine (awake_call _).mono ?_); rintro e w' ⟨rfl, ⟨nd, rfl⟩⟩) | (go_at_call 11; (with_reducible refine (cell_Floor.calls a 0 0 0 (-10) _ hF.out).mono ?_); rintro e w' ⟨rfl, ⟨nd, rfl⟩⟩) | (go_at_call 12; (with_reducible refine (cell_Symm.calls a 0 0 0 (-10) _ hS.out).mono ?_); rintro e w' ⟨rfl, ⟨nd, rfl⟩⟩))
  go_ret
  exact ⟨by first | rfl | (simp; done) | (simp [*]; done), by repeat (first | exact Below.refl _ _ | apply pw_below_drewN)⟩

set_option maxHeartbeats 2000000 in
set_option maxRecDepth 100000 in
/-- The quotient that is too great. -/
theorem walk_least (w : World) (hF : Aside0 (cell_Floor.f (-9223372036854775808) (-1) = some (0, 0, -11))) (hS : Aside0 (cell_Symm.f (-9223372036854775808) (-1) = some (0, 0, -11))) :
    Calls Try.prog 3 #[.int .i64 (-9223372036854775808), .int .i64 (-1)] w fun e w' => e = .returned (.bool true) ∧ Below w.heap.size w w' := by
  go_enter Try.func3, Try.ntmps3
  go_wp2_with (first | (go_at_call 10; (with_reducible refine (awake_call _).mono ?_); rintro e w' ⟨rfl, ⟨nd, rfl⟩⟩) | (go_at_call 11; (with_reducible refine (cell_Floor.calls _ _ 0 0 (-11) _ hF.out).mono ?_); rintro e w' ⟨rfl, ⟨nd, rfl⟩⟩) | (go_at_call 12; (with_reducible refine (cell_Symm.calls _ _ 0 0 (-11) _ hS.out).mono ?_); rintro e w' ⟨rfl, ⟨nd, rfl⟩⟩))
  go_ret
  exact ⟨by first | rfl | (simp; done) | (simp [*]; done), by repeat (first | exact Below.refl _ _ | apply pw_below_drewN)⟩

set_option maxHeartbeats 8000000 in
set_option maxRecDepth 100000 in
/-- A divisor above 0. -/
theorem walk_up (a b q r s t : Int) (w : World) (ka : Bool) (g : Bool) (hg : (a == -9223372036854775808) = g) (hb0 : (b == 0) = false) (hb1 : (b == -1) = false) (hbp : decide (0 < b) = true) (hbn : decide (b < 0) = false)
    (ha : decide (a < 0) = ka) (kt ku : Bool) (ht : (t == 0) = kt) (htn : decide (t < 0) = ku) (htp : decide (0 ≤ t) = !ku) (hsg : kt = false → ku = ka) (hktu : kt = true → ku = false)
    (hr : decide (0 ≤ r) = true) (hrb : decide (r < b) = true) (ht1 : decide (t < b) = true) (ht2 : decide (-b < t) = true) (hbb : -9223372036854775808 ≤ -b) (hbc : -b ≤ 9223372036854775807)
    (hq : (wrap64 (wrap64 (q * b) + r) == a) = true) (hs : (wrap64 (wrap64 (s * b) + t) == a) = true) (kr : Bool) (hr0 : (r == 0) = kr)
    (hF : Aside0 (cell_Floor.f a b = some (q, r, 0))) (hS : Aside0 (cell_Symm.f a b = some (s, t, 0))) :
    Calls Try.prog 3 #[.int .i64 a, .int .i64 b] w fun e w' => e = .returned (.bool true) ∧ Below w.heap.size w w' := by
  have hb0' : (b != 0) = true := by simp only [bne, hb0]; rfl
  have hb1' : (b != -1) = true := by simp only [bne, hb1]; rfl
  have hg' : (a != -9223372036854775808) = !g := by simp only [bne, hg]
  have ht' : (t != 0) = !kt := by simp only [bne, ht]
  have hr' : (r != 0) = !kr := by simp only [bne, hr0]
  cases kt <;> cases ku <;> cases ka <;> simp only [Bool.not_true, Bool.not_false, forall_const, false_implies, Bool.true_eq_false, Bool.false_eq_true] at hsg hktu ht' htp
  all_goals
    cases kr <;> cases g <;> simp only [Bool.not_true, Bool.not_false] at hr' hg'
  all_goals
    go_enter Try.func3, Try.ntmps3
    go_wp2_with (first | (go_at_call 10; (with_reducible refine (awake_call _).mono ?_); rintro e w' ⟨rfl, ⟨nd, rfl⟩⟩) | (go_at_call 11; (with_reducible refine (cell_Floor.calls a b q r 0 _ hF.out).mono ?_); rintro e w' ⟨rfl, ⟨nd, rfl⟩⟩) | (go_at_call 12; (with_reducible refine (cell_Symm.calls a b s t 0 _ hS.out).mono ?_); rintro e w' ⟨rfl, ⟨nd, rfl⟩⟩))
    go_ret
    exact ⟨by first | rfl | (simp; done) | (simp [*]; done), by repeat (first | exact Below.refl _ _ | apply pw_below_drewN)⟩

set_option maxHeartbeats 8000000 in
set_option maxRecDepth 100000 in
/-- A divisor below 0. -/
theorem walk_down (a b q r s t : Int) (w : World) (ka : Bool) (g kb : Bool) (hg : (a == -9223372036854775808) = g) (hb0 : (b == 0) = false) (hb1 : (b == -1) = kb) (hgb : (g && kb) = false) (hbp : decide (0 < b) = false) (hbn : decide (b < 0) = true)
    (ha : decide (a < 0) = ka) (kt ku : Bool) (ht : (t == 0) = kt) (htn : decide (t < 0) = ku) (htp : decide (0 ≤ t) = !ku) (hsg : kt = false → ku = ka) (hktu : kt = true → ku = false)
    (kr : Bool) (hr0 : (r == 0) = kr) (hr : decide (0 ≤ r) = kr) (hrn : decide (r < 0) = !kr) (hrb : decide (b < r) = true) (ht1 : decide (b < t) = true) (ht2 : decide (b < -t) = true) (hbb : -9223372036854775808 ≤ -t) (hbc : -t ≤ 9223372036854775807)
    (hq : (wrap64 (wrap64 (q * b) + r) == a) = true) (hs : (wrap64 (wrap64 (s * b) + t) == a) = true)
    (hF : Aside0 (cell_Floor.f a b = some (q, r, 0))) (hS : Aside0 (cell_Symm.f a b = some (s, t, 0))) :
    Calls Try.prog 3 #[.int .i64 a, .int .i64 b] w fun e w' => e = .returned (.bool true) ∧ Below w.heap.size w w' := by
  have hb0' : (b != 0) = true := by simp only [bne, hb0]; rfl
  have hb1' : (b != -1) = !kb := by simp only [bne, hb1]
  have hg' : (a != -9223372036854775808) = !g := by simp only [bne, hg]
  have ht' : (t != 0) = !kt := by simp only [bne, ht]
  have hr' : (r != 0) = !kr := by simp only [bne, hr0]
  cases kt <;> cases ku <;> cases ka <;> simp only [Bool.not_true, Bool.not_false, forall_const, false_implies, Bool.true_eq_false, Bool.false_eq_true] at hsg hktu ht' htp
  all_goals
    cases kr <;> cases g <;> cases kb <;> simp only [Bool.not_true, Bool.not_false, Bool.and_true, Bool.and_false, Bool.true_eq_false, Bool.false_eq_true] at hr' hg' hb1' hrn hgb
  all_goals
    go_enter Try.func3, Try.ntmps3
    go_wp2_with (first | (go_at_call 10; (with_reducible refine (awake_call _).mono ?_); rintro e w' ⟨rfl, ⟨nd, rfl⟩⟩) | (go_at_call 11; (with_reducible refine (cell_Floor.calls a b q r 0 _ hF.out).mono ?_); rintro e w' ⟨rfl, ⟨nd, rfl⟩⟩) | (go_at_call 12; (with_reducible refine (cell_Symm.calls a b s t 0 _ hS.out).mono ?_); rintro e w' ⟨rfl, ⟨nd, rfl⟩⟩))
    go_ret
    exact ⟨by first | rfl | (simp; done) | (simp [*]; done), by repeat (first | exact Below.refl _ _ | apply pw_below_drewN)⟩

theorem made (a b q r : Int) (ha : -9223372036854775808 ≤ a ∧ a ≤ 9223372036854775807) (h : b * q + r = a) : (wrap64 (wrap64 (q * b) + r) == a) = true := by
  rw [Int.mul_comm] at h
  rw [beq_iff_eq]
  generalize q * b = x at *
  unfold wrap64; omega
theorem made1 (a b q r : Int) (ha : -9223372036854775808 ≤ a ∧ a ≤ 9223372036854775807) (h : b * q + r = a) : (wrap64 (wrap64 ((q - 1) * b) + (r + b)) == a) = true := by
  have e : b * (q - 1) + (r + b) = a := by rw [Int.mul_sub, Int.mul_one]; omega
  exact made a b (q - 1) (r + b) ha e

/-- The law, walked. -/
theorem walk (a b : Int) (w : World) (h0 : (Lit.int .i64 a).wf = true) (h1 : (Lit.int .i64 b).wf = true) :
    Calls Try.prog 3 #[.int .i64 a, .int .i64 b] w fun e w' => e = .returned (.bool true) ∧ Below w.heap.size w w' := by
  have ha := wf64 h0
  have hb := wf64 h1
  by_cases hz : b = 0
  · subst hz
    exact walk_zero a w ⟨by unfold cell_Floor.f cell_Symm.f; rfl⟩ ⟨by unfold cell_Symm.f; rfl⟩
  · by_cases hm : b = -1 ∧ a = -9223372036854775808
    · obtain ⟨rfl, rfl⟩ := hm
      exact walk_least w ⟨by decide +kernel⟩ ⟨by decide +kernel⟩
    · obtain ⟨hw, hsum, hr0, hr1, hp, hn, ho, hbig⟩ := tdiv_tells a b ha.1 ha.2 hz hm
      have hS := symm_ok a b hz hm
      have hx := xor_neg (Int.tmod a b) b (by omega) (by omega) hb.1 hb.2
      rw [hw] at hS
      have hs := made a b _ _ ha hsum
      have hfl : ∃ q r, cell_Floor.f a b = some (q, r, 0) ∧ (wrap64 (wrap64 (q * b) + r) == a) = true ∧ (0 < b → 0 ≤ r ∧ r < b) ∧ (b < 0 → r ≤ 0 ∧ b < r) := by
        by_cases hk : Int.tmod a b = 0
        · refine ⟨Int.tdiv a b, Int.tmod a b, ?_, hs, by omega, by omega⟩
          unfold cell_Floor.f; rw [hS]; simp only [Option.bind_some]; rw [if_pos hk]
        · by_cases hu : Go.bits .xor .i64 (Int.tmod a b) b < 0
          · have hu' := hx.1 hu
            refine ⟨Int.tdiv a b - 1, Int.tmod a b + b, ?_, made1 a b _ _ ha hsum, by omega, by omega⟩
            unfold cell_Floor.f; rw [hS]; simp only [Option.bind_some]; rw [if_neg hk, if_pos hu, wrap64_in (n := Int.tdiv a b - 1) (by omega) (by omega), wrap64_in (n := Int.tmod a b + b) (by omega) (by omega)]
          · have hu' := fun h => hu (hx.2 h)
            refine ⟨Int.tdiv a b, Int.tmod a b, ?_, hs, by omega, by omega⟩
            unfold cell_Floor.f; rw [hS]; simp only [Option.bind_some]; rw [if_neg hk, if_neg hu]
      obtain ⟨q, r, hF, hq, hup, hdn⟩ := hfl
      clear ho hbig hx hw hsum
      generalize Int.tdiv a b = s at *
      generalize Int.tmod a b = t at *
      by_cases hsg : 0 < b
      · refine walk_up a b q r s t w _ _ rfl (by simpa using hz) ?_ (by simpa using hsg) ?_ rfl _ _ rfl rfl ?_ ?_ ?_ ?_ ?_ ?_ ?_ (by omega) (by omega) hq hs _ rfl ⟨hF⟩ ⟨hS⟩
        · rw [beq_eq_false_iff_ne]; omega
        · rw [decide_eq_false_iff_not]; omega
        · rw [Bool.eq_iff_iff, decide_eq_true_eq, Bool.not_eq_true', decide_eq_false_iff_not]; omega
        · intro h; rw [beq_eq_false_iff_ne] at h; rw [decide_eq_decide]; omega
        · intro h; rw [beq_iff_eq] at h; rw [decide_eq_false_iff_not]; omega
        · rw [decide_eq_true_eq]; omega
        · rw [decide_eq_true_eq]; omega
        · rw [decide_eq_true_eq]; omega
        · rw [decide_eq_true_eq]; omega
      · refine walk_down a b q r s t w _ _ _ rfl (by simpa using hz) rfl ?_ (by simpa using hsg) ?_ rfl _ _ rfl rfl ?_ ?_ ?_ _ rfl ?_ ?_ ?_ ?_ ?_ (by omega) (by omega) hq hs ⟨hF⟩ ⟨hS⟩
        · rw [Bool.and_eq_false_iff, beq_eq_false_iff_ne, beq_eq_false_iff_ne]; omega
        · rw [decide_eq_true_eq]; omega
        · rw [Bool.eq_iff_iff, decide_eq_true_eq, Bool.not_eq_true', decide_eq_false_iff_not]; omega
        · intro h; rw [beq_eq_false_iff_ne] at h; rw [decide_eq_decide]; omega
        · intro h; rw [beq_iff_eq] at h; rw [decide_eq_false_iff_not]; omega
        · rw [Bool.eq_iff_iff, decide_eq_true_eq, beq_iff_eq]; omega
        · rw [Bool.eq_iff_iff, decide_eq_true_eq, Bool.not_eq_true', beq_eq_false_iff_ne]; omega
        · rw [decide_eq_true_eq]; omega
        · rw [decide_eq_true_eq]; omega
        · rw [decide_eq_true_eq]; omega
end Go.Proofs.Ytmgijoanhgdlbaa.DividesWalk
