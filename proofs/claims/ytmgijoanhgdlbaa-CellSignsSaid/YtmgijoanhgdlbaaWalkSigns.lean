/- Signs tell which way it is rounded: the walk of CellSigns, for all whole numbers of 64 bits. No condition. -/
import Derived.Test.YtmgijoanhgdlbaaPCellIsx1
import Derived.Test.YtmgijoanhgdlbaaArith
namespace Go.Proofs.Ytmgijoanhgdlbaa.SignsWalk
open Go.RowKit Go.Proofs.Ytmgijoanhgdlbaa.PCellIs Go.Proofs.YtmgijoanhgdlbaaW.PrintWords Go.Proofs.YtmgijoanhgdlbaaW.PrintLast Go.Proofs.YtmgijoanhgdlbaaW.PrintMore Go.Proofs.Ytmgijoanhgdlbaa.Arith
attribute [local go_sem] max2_int min2_int max_two min_two max_three min_three max_four min_four

theorem awake : tenterhooklaw01_awake.f = some true := by decide +kernel
theorem symm_ok (a b : Int) (hb : b ≠ 0) (hne : ¬ (b = -1 ∧ a = -9223372036854775808)) : cell_Symm.f a b = some (wrap64 (Int.tdiv a b), Int.tmod a b, 0) := by
  unfold cell_Symm.f
  rw [if_neg hb]
  by_cases h1 : b = -1
  · rw [if_pos h1, if_neg (fun h2 => hne ⟨h1, h2⟩)]
  · rw [if_neg h1]

set_option maxHeartbeats 2000000 in
set_option maxRecDepth 100000 in
/-- Where both are refused alike. -/
theorem walk_no (a b c : Int) (w : World) (hc : (c == 0) = false) (hF : Aside0 (cell_Floor.f a b = some (0, 0, c))) (hS : Aside0 (cell_Symm.f a b = some (0, 0, c))) :
    Calls Try.prog 4 #[.int .i64 a, .int .i64 b] w fun e w' => e = .returned (.bool true) ∧ Below w.heap.size w w' := by
  have hc1 : (c != 0) = true := by simp only [bne, hc]; rfl
  go_enter Try.func4, Try.ntmps4
  go_wp2_with (first | (go_at_call 10; (with_reducible refine (tenterhooklaw01_awake.calls true _ awake).mono ?_); rintro e w' ⟨rfl, ⟨nd, rfl⟩⟩) | (go_at_call 11; (with_reducible refine (cell_Floor.calls a b 0 0 c _ hF.out).mono ?_); rintro e w' ⟨rfl, ⟨nd, rfl⟩⟩) | (go_at_call 12; (with_reducible refine (cell_Symm.calls a b 0 0 c _ hS.out).mono ?_); rintro e w' ⟨rfl, ⟨nd, rfl⟩⟩))
  go_ret
  exact ⟨by first | rfl | (simp; done) | (simp [*]; done), by repeat (first | exact Below.refl _ _ | apply pw_below_drewN)⟩

set_option maxHeartbeats 4000000 in
set_option maxRecDepth 100000 in
/-- Where both answer: by the signs, and whether something is left. -/
theorem walk_yes (a b q r s t : Int) (w : World) (ka kb kz : Bool) (ha : decide (a < 0) = ka) (hb : decide (b < 0) = kb) (hr : (r == 0) = kz) (ht : (t == 0) = kz)
    (hq : kz = true → (q == s) = true) (hu : kz = false → ka = kb → (q == s) = true ∧ (r == t) = true) (hv : kz = false → ka ≠ kb → (q == wrap64 (s - 1)) = true)
    (hF : Aside0 (cell_Floor.f a b = some (q, r, 0))) (hS : Aside0 (cell_Symm.f a b = some (s, t, 0))) :
    Calls Try.prog 4 #[.int .i64 a, .int .i64 b] w fun e w' => e = .returned (.bool true) ∧ Below w.heap.size w w' := by
  have hr1 : (r != 0) = !kz := by simp only [bne, hr]
  have ht1 : (t != 0) = !kz := by simp only [bne, ht]
  cases kz <;> cases ka <;> cases kb <;> simp only [Bool.not_true, Bool.not_false] at hr1 ht1
  all_goals first | (have hu1 := (hu rfl rfl).1; have hu2 := (hu rfl rfl).2; clear hu hv hq) | (have hv1 := hv rfl (by decide); clear hu hv hq) | (have hq1 := hq rfl; clear hu hv hq)
  all_goals
    go_enter Try.func4, Try.ntmps4
    go_wp2_with (first | (go_at_call 10; (with_reducible refine (tenterhooklaw01_awake.calls true _ awake).mono ?_); rintro e w' ⟨rfl, ⟨nd, rfl⟩⟩) | (go_at_call 11; (with_reducible refine (cell_Floor.calls a b q r 0 _ hF.out).mono ?_); rintro e w' ⟨rfl, ⟨nd, rfl⟩⟩) | (go_at_call 12; (with_reducible refine (cell_Symm.calls a b s t 0 _ hS.out).mono ?_); rintro e w' ⟨rfl, ⟨nd, rfl⟩⟩))
    go_ret
    exact ⟨by first | rfl | (simp; done) | (simp [*]; done), by repeat (first | exact Below.refl _ _ | apply pw_below_drewN)⟩

/-- The law, walked. -/
theorem walk (a b : Int) (w : World) (h0 : (Lit.int .i64 a).wf = true) (h1 : (Lit.int .i64 b).wf = true) :
    Calls Try.prog 4 #[.int .i64 a, .int .i64 b] w fun e w' => e = .returned (.bool true) ∧ Below w.heap.size w w' := by
  have ha := wf64 h0
  have hb := wf64 h1
  by_cases hz : b = 0
  · subst hz
    exact walk_no a 0 (-10) w rfl ⟨by unfold cell_Floor.f cell_Symm.f; rfl⟩ ⟨by unfold cell_Symm.f; rfl⟩
  · by_cases hm : b = -1 ∧ a = -9223372036854775808
    · obtain ⟨rfl, rfl⟩ := hm
      exact walk_no _ _ (-11) w rfl ⟨by decide +kernel⟩ ⟨by decide +kernel⟩
    · obtain ⟨hw, _, hr0, hr1, hp, hn, ho, hs⟩ := tdiv_tells a b ha.1 ha.2 hz hm
      have hS := symm_ok a b hz hm
      have hx := xor_neg (Int.tmod a b) b (by omega) (by omega) hb.1 hb.2
      rw [hw] at hS
      by_cases hk : Int.tmod a b = 0
      · refine walk_yes a b (Int.tdiv a b) (Int.tmod a b) (Int.tdiv a b) (Int.tmod a b) w _ _ true rfl rfl (by simp [hk]) (by simp [hk]) (fun _ => by simp) (fun h => by cases h) (fun h => by cases h) ⟨?_⟩ ⟨hS⟩
        unfold cell_Floor.f; rw [hS]; simp only [Option.bind_some]; rw [if_pos hk]
      · by_cases hu : Go.bits .xor .i64 (Int.tmod a b) b < 0
        · have hu' := hx.1 hu
          refine walk_yes a b (wrap64 (Int.tdiv a b - 1)) (wrap64 (Int.tmod a b + b)) (Int.tdiv a b) (Int.tmod a b) w _ _ false rfl rfl ?_ (by simp [hk]) (fun h => by cases h) (fun _ h => ?_) (fun _ _ => by simp) ⟨?_⟩ ⟨hS⟩
          · rw [beq_eq_false_iff_ne, wrap64_in (by omega) (by omega)]; omega
          · exact absurd (decide_eq_decide.1 h) (by omega)
          · unfold cell_Floor.f; rw [hS]; simp only [Option.bind_some]; rw [if_neg hk, if_pos hu]
        · have hu' := fun h => hu (hx.2 h)
          refine walk_yes a b (Int.tdiv a b) (Int.tmod a b) (Int.tdiv a b) (Int.tmod a b) w _ _ false rfl rfl (by simp [hk]) (by simp [hk]) (fun h => by cases h) (fun _ _ => ⟨by simp, by simp⟩) (fun _ h => ?_) ⟨?_⟩ ⟨hS⟩
          · exact absurd (decide_eq_decide.2 (by omega)) h
          · unfold cell_Floor.f; rw [hS]; simp only [Option.bind_some]; rw [if_neg hk, if_neg hu]
end Go.Proofs.Ytmgijoanhgdlbaa.SignsWalk
