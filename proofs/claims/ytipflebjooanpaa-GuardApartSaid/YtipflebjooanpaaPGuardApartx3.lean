-- PRINTED BY print.sh 35421559b90ae4d0a3588c463048766b98c2df88dd9212a6774a882060cdf62d: not written by this session
import Derived.Test.YtipflebjooanpaaPGuardApartx0
import Derived.Test.YtipflebjooanpaaPGuardApartx2
namespace Go.Proofs.Ytipflebjooanpaa.PGuardApart
open Go.RowKit Go.Proofs.YtipflebjooanpaaW.PrintWords Go.Proofs.YtipflebjooanpaaW.PrintLast Go.Proofs.YtipflebjooanpaaW.PrintMore
attribute [local go_sem] max2_int min2_int max_two min_two max_three min_three max_four min_four   -- for this text's walks alone
set_option linter.unusedVariables false
set_option linter.unusedSimpArgs false

/-! ### tenterhooklaw12_GuardApart: function 7 -/
def tenterhooklaw12_GuardApart.j0 : Nat → Bool → Bool → Int → Int → Int → Int → Bool → Option (Bool)
  | 0, _, _, _, _, _, _, _ => none
  | k + 1, x3, x9, x10, x11, x14, x16, x69 => if x69 = true then (some false) else ((guard_May.f k x10 x3 (wrap64 (x14 + x16)) 1 false).bind fun t129 => ((guard_Region.f k (wrap64 (x14 + x16))).bind fun bt130 => (if x9 = true then (if (t129 == (x10 == x11)) = true then (if bt130.1 = 2 then (if bt130.2 = x11 then ((guard_May.f k (-1) false (wrap64 (x14 + x16)) 1 true).bind fun t132 => (some t132)) else (some false)) else (some false)) else (some false)) else (some false))))
def tenterhooklaw12_GuardApart.f (k : Nat) (a0 : Int) (a1 : Int) (a2 : Int) (a3 : Bool) : Option (Bool) := (tenterhooklaw12_awake.f k).bind fun t121 => ((guard_UserAt.f (Go.bits .and .i64 a0 7)).bind fun bt122 => ((guard_UserAt.f (Go.bits .and .i64 a1 7)).bind fun bt124 => (if bt122.2 = true then (if bt124.2 = true then ((guard_May.f k (Go.bits .and .i64 a0 7) a3 bt122.1 128 true).bind fun t126 => (if t126 = true then ((guard_May.f k (Go.bits .and .i64 a0 7) a3 bt122.1 129 true).bind fun t127 => (if t127 = true then (tenterhooklaw12_GuardApart.j0 k a3 t121 (Go.bits .and .i64 a0 7) (Go.bits .and .i64 a1 7) bt124.1 (Go.bits .and .i64 a2 127) true) else ((guard_May.f k (Go.bits .and .i64 a0 7) a3 (wrap64 (bt122.1 - 1)) 2 true).bind fun t128 => (if t128 = true then (tenterhooklaw12_GuardApart.j0 k a3 t121 (Go.bits .and .i64 a0 7) (Go.bits .and .i64 a1 7) bt124.1 (Go.bits .and .i64 a2 127) (!a3)) else (tenterhooklaw12_GuardApart.j0 k a3 t121 (Go.bits .and .i64 a0 7) (Go.bits .and .i64 a1 7) bt124.1 (Go.bits .and .i64 a2 127) false))))) else (tenterhooklaw12_GuardApart.j0 k a3 t121 (Go.bits .and .i64 a0 7) (Go.bits .and .i64 a1 7) bt124.1 (Go.bits .and .i64 a2 127) true))) else (tenterhooklaw12_GuardApart.j0 k a3 t121 (Go.bits .and .i64 a0 7) (Go.bits .and .i64 a1 7) bt124.1 (Go.bits .and .i64 a2 127) true)) else (tenterhooklaw12_GuardApart.j0 k a3 t121 (Go.bits .and .i64 a0 7) (Go.bits .and .i64 a1 7) bt124.1 (Go.bits .and .i64 a2 127) true))))
theorem tenterhooklaw12_GuardApart.mono_l : ∀ k, (∀ y0 y1 y2 y3 y4 y5 y6, LeO (tenterhooklaw12_GuardApart.j0 k y0 y1 y2 y3 y4 y5 y6) (tenterhooklaw12_GuardApart.j0 (k + 1) y0 y1 y2 y3 y4 y5 y6))
  | 0 => fun _ _ _ _ _ _ _ r h => by simp [tenterhooklaw12_GuardApart.j0] at h
  | k + 1 => by
    have ih0 := tenterhooklaw12_GuardApart.mono_l k
    · intro y0 y1 y2 y3 y4 y5 y6
      unfold tenterhooklaw12_GuardApart.j0
      repeat' first
      | (with_reducible exact ih0 _ _ _ _ _ _ _)
      | (with_reducible exact guard_May.mono _ _ _ _ _ _)
      | (with_reducible exact guard_Region.mono _ _)
      | (with_reducible exact tenterhooklaw12_awake.mono _)
      | (with_reducible exact LeO.refl _)
      | (with_reducible exact LeO.none _)
      | (with_reducible refine LeO.ite ?_ ?_)
      | (with_reducible refine LeO.bind ?_ (fun _ => ?_))
      | exact ih0 _ _ _ _ _ _ _
      | exact guard_May.mono _ _ _ _ _ _
      | exact guard_Region.mono _ _
      | exact tenterhooklaw12_awake.mono _
      | exact LeO.none _
      | refine LeO.ite ?_ ?_
      | refine LeO.bind ?_ (fun _ => ?_)
theorem tenterhooklaw12_GuardApart.mono : ∀ a0 a1 a2 a3 k, LeO (tenterhooklaw12_GuardApart.f k a0 a1 a2 a3) (tenterhooklaw12_GuardApart.f (k + 1) a0 a1 a2 a3) := by
  intro a0 a1 a2 a3 k
  have ih0 := tenterhooklaw12_GuardApart.mono_l k
  unfold tenterhooklaw12_GuardApart.f
  repeat' first
      | (with_reducible exact ih0 _ _ _ _ _ _ _)
      | (with_reducible exact guard_May.mono _ _ _ _ _ _)
      | (with_reducible exact guard_Region.mono _ _)
      | (with_reducible exact tenterhooklaw12_awake.mono _)
      | (with_reducible exact LeO.refl _)
      | (with_reducible exact LeO.none _)
      | (with_reducible refine LeO.ite ?_ ?_)
      | (with_reducible refine LeO.bind ?_ (fun _ => ?_))
      | exact ih0 _ _ _ _ _ _ _
      | exact guard_May.mono _ _ _ _ _ _
      | exact guard_Region.mono _ _
      | exact tenterhooklaw12_awake.mono _
      | exact LeO.none _
      | refine LeO.ite ?_ ?_
      | refine LeO.bind ?_ (fun _ => ?_)
set_option maxHeartbeats 8000000 in
set_option maxRecDepth 100000 in
theorem tenterhooklaw12_GuardApart.calls (k : Nat) (a0 : Int) (a1 : Int) (a2 : Int) (a3 : Bool) (r : Bool) (w : World) (h : tenterhooklaw12_GuardApart.f k a0 a1 a2 a3 = some r) :
    Calls Try.prog 7 #[.int .i64 a0, .int .i64 a1, .int .i64 a2, .bool a3] w fun e w' => e = .returned (.bool r) ∧ Below w.heap.size w w' := by
  have hu39 := Try.underlying39
  have HB := Aside0.mk (Below.refl w.heap.size w)
  have H : ((tenterhooklaw12_awake.f k).bind fun t121 => ((guard_UserAt.f (Go.bits .and .i64 a0 7)).bind fun bt122 => ((guard_UserAt.f (Go.bits .and .i64 a1 7)).bind fun bt124 => (if bt122.2 = true then (if bt124.2 = true then ((guard_May.f k (Go.bits .and .i64 a0 7) a3 bt122.1 128 true).bind fun t126 => (if t126 = true then ((guard_May.f k (Go.bits .and .i64 a0 7) a3 bt122.1 129 true).bind fun t127 => (if t127 = true then (tenterhooklaw12_GuardApart.j0 k a3 t121 (Go.bits .and .i64 a0 7) (Go.bits .and .i64 a1 7) bt124.1 (Go.bits .and .i64 a2 127) true) else ((guard_May.f k (Go.bits .and .i64 a0 7) a3 (wrap64 (bt122.1 - 1)) 2 true).bind fun t128 => (if t128 = true then (tenterhooklaw12_GuardApart.j0 k a3 t121 (Go.bits .and .i64 a0 7) (Go.bits .and .i64 a1 7) bt124.1 (Go.bits .and .i64 a2 127) (!a3)) else (tenterhooklaw12_GuardApart.j0 k a3 t121 (Go.bits .and .i64 a0 7) (Go.bits .and .i64 a1 7) bt124.1 (Go.bits .and .i64 a2 127) false))))) else (tenterhooklaw12_GuardApart.j0 k a3 t121 (Go.bits .and .i64 a0 7) (Go.bits .and .i64 a1 7) bt124.1 (Go.bits .and .i64 a2 127) true))) else (tenterhooklaw12_GuardApart.j0 k a3 t121 (Go.bits .and .i64 a0 7) (Go.bits .and .i64 a1 7) bt124.1 (Go.bits .and .i64 a2 127) true)) else (tenterhooklaw12_GuardApart.j0 k a3 t121 (Go.bits .and .i64 a0 7) (Go.bits .and .i64 a1 7) bt124.1 (Go.bits .and .i64 a2 127) true))))) = some r := h
  clear h
  replace H := Option.bind_eq_some_iff.mp H
  obtain ⟨t121, A50, H⟩ := H
  replace H : ((guard_UserAt.f (Go.bits .and .i64 a0 7)).bind fun bt122 => ((guard_UserAt.f (Go.bits .and .i64 a1 7)).bind fun bt124 => (if bt122.2 = true then (if bt124.2 = true then ((guard_May.f k (Go.bits .and .i64 a0 7) a3 bt122.1 128 true).bind fun t126 => (if t126 = true then ((guard_May.f k (Go.bits .and .i64 a0 7) a3 bt122.1 129 true).bind fun t127 => (if t127 = true then (tenterhooklaw12_GuardApart.j0 k a3 t121 (Go.bits .and .i64 a0 7) (Go.bits .and .i64 a1 7) bt124.1 (Go.bits .and .i64 a2 127) true) else ((guard_May.f k (Go.bits .and .i64 a0 7) a3 (wrap64 (bt122.1 - 1)) 2 true).bind fun t128 => (if t128 = true then (tenterhooklaw12_GuardApart.j0 k a3 t121 (Go.bits .and .i64 a0 7) (Go.bits .and .i64 a1 7) bt124.1 (Go.bits .and .i64 a2 127) (!a3)) else (tenterhooklaw12_GuardApart.j0 k a3 t121 (Go.bits .and .i64 a0 7) (Go.bits .and .i64 a1 7) bt124.1 (Go.bits .and .i64 a2 127) false))))) else (tenterhooklaw12_GuardApart.j0 k a3 t121 (Go.bits .and .i64 a0 7) (Go.bits .and .i64 a1 7) bt124.1 (Go.bits .and .i64 a2 127) true))) else (tenterhooklaw12_GuardApart.j0 k a3 t121 (Go.bits .and .i64 a0 7) (Go.bits .and .i64 a1 7) bt124.1 (Go.bits .and .i64 a2 127) true)) else (tenterhooklaw12_GuardApart.j0 k a3 t121 (Go.bits .and .i64 a0 7) (Go.bits .and .i64 a1 7) bt124.1 (Go.bits .and .i64 a2 127) true)))) = some r := H
  have A5 := Aside0.mk A50
  clear A50
  replace H := Option.bind_eq_some_iff.mp H
  obtain ⟨⟨t122, t123⟩, A60, H⟩ := H
  replace H : ((guard_UserAt.f (Go.bits .and .i64 a1 7)).bind fun bt124 => (if t123 = true then (if bt124.2 = true then ((guard_May.f k (Go.bits .and .i64 a0 7) a3 t122 128 true).bind fun t126 => (if t126 = true then ((guard_May.f k (Go.bits .and .i64 a0 7) a3 t122 129 true).bind fun t127 => (if t127 = true then (tenterhooklaw12_GuardApart.j0 k a3 t121 (Go.bits .and .i64 a0 7) (Go.bits .and .i64 a1 7) bt124.1 (Go.bits .and .i64 a2 127) true) else ((guard_May.f k (Go.bits .and .i64 a0 7) a3 (wrap64 (t122 - 1)) 2 true).bind fun t128 => (if t128 = true then (tenterhooklaw12_GuardApart.j0 k a3 t121 (Go.bits .and .i64 a0 7) (Go.bits .and .i64 a1 7) bt124.1 (Go.bits .and .i64 a2 127) (!a3)) else (tenterhooklaw12_GuardApart.j0 k a3 t121 (Go.bits .and .i64 a0 7) (Go.bits .and .i64 a1 7) bt124.1 (Go.bits .and .i64 a2 127) false))))) else (tenterhooklaw12_GuardApart.j0 k a3 t121 (Go.bits .and .i64 a0 7) (Go.bits .and .i64 a1 7) bt124.1 (Go.bits .and .i64 a2 127) true))) else (tenterhooklaw12_GuardApart.j0 k a3 t121 (Go.bits .and .i64 a0 7) (Go.bits .and .i64 a1 7) bt124.1 (Go.bits .and .i64 a2 127) true)) else (tenterhooklaw12_GuardApart.j0 k a3 t121 (Go.bits .and .i64 a0 7) (Go.bits .and .i64 a1 7) bt124.1 (Go.bits .and .i64 a2 127) true))) = some r := H
  have A6 := Aside0.mk A60
  clear A60
  replace H := Option.bind_eq_some_iff.mp H
  obtain ⟨⟨t124, t125⟩, A70, H⟩ := H
  replace H : (if t123 = true then (if t125 = true then ((guard_May.f k (Go.bits .and .i64 a0 7) a3 t122 128 true).bind fun t126 => (if t126 = true then ((guard_May.f k (Go.bits .and .i64 a0 7) a3 t122 129 true).bind fun t127 => (if t127 = true then (tenterhooklaw12_GuardApart.j0 k a3 t121 (Go.bits .and .i64 a0 7) (Go.bits .and .i64 a1 7) t124 (Go.bits .and .i64 a2 127) true) else ((guard_May.f k (Go.bits .and .i64 a0 7) a3 (wrap64 (t122 - 1)) 2 true).bind fun t128 => (if t128 = true then (tenterhooklaw12_GuardApart.j0 k a3 t121 (Go.bits .and .i64 a0 7) (Go.bits .and .i64 a1 7) t124 (Go.bits .and .i64 a2 127) (!a3)) else (tenterhooklaw12_GuardApart.j0 k a3 t121 (Go.bits .and .i64 a0 7) (Go.bits .and .i64 a1 7) t124 (Go.bits .and .i64 a2 127) false))))) else (tenterhooklaw12_GuardApart.j0 k a3 t121 (Go.bits .and .i64 a0 7) (Go.bits .and .i64 a1 7) t124 (Go.bits .and .i64 a2 127) true))) else (tenterhooklaw12_GuardApart.j0 k a3 t121 (Go.bits .and .i64 a0 7) (Go.bits .and .i64 a1 7) t124 (Go.bits .and .i64 a2 127) true)) else (tenterhooklaw12_GuardApart.j0 k a3 t121 (Go.bits .and .i64 a0 7) (Go.bits .and .i64 a1 7) t124 (Go.bits .and .i64 a2 127) true)) = some r := H
  have A7 := Aside0.mk A70
  clear A70
  have HC8 := Aside0.mk H
  clear H
  go_enter Try.func7, Try.ntmps7
  go_upto_region 7 with (first | ((with_reducible refine gate_callee (f := 35) rfl ?_); refine goesL_ (some 20) rfl rfl Try.func35 (by kernel_rfl) rfl #[] rfl (by (try simp only [List.map_toArray, List.map_cons, List.map_nil]); first | done | rfl | (simp only [List.length_drop, List.length_take]; rfl)) ?_; (with_reducible refine (tenterhooklaw12_awake.calls k  t121 _ A5.out).mono ?_); rintro e w9 ⟨rfl, hb⟩; refine ⟨_, rfl, ?_⟩; have n0_ := Aside0.mk (below_step (by repeat (first | (with_reducible first | exact HB.out | apply below_alloc | apply pw_below_drewN | apply below_drew1) | exact HB.out)) hb); clear HB; have HB := n0_; clear n0_; (try clear hb); (try clear hb2); (try clear hk); (try clear hi)) | ((with_reducible refine gate_callee (f := 38) rfl ?_); refine goesL_ (some 27) rfl rfl Try.func38 (by kernel_rfl) rfl #[.int .i64 (Go.bits .and .i64 a0 7)] rfl (by (try simp only [List.map_toArray, List.map_cons, List.map_nil]); first | done | rfl | (simp only [List.length_drop, List.length_take]; rfl)) ?_; (with_reducible refine (guard_UserAt.calls (Go.bits .and .i64 a0 7) t122 t123 _ A6.out).mono ?_); rintro e w' ⟨rfl, ⟨nd, rfl⟩⟩; refine ⟨_, rfl, ?_⟩) | ((with_reducible refine gate_callee (f := 38) rfl ?_); refine goesL_ (some 32) rfl rfl Try.func38 (by kernel_rfl) rfl #[.int .i64 (Go.bits .and .i64 a1 7)] rfl (by (try simp only [List.map_toArray, List.map_cons, List.map_nil]); first | done | rfl | (simp only [List.length_drop, List.length_take]; rfl)) ?_; (with_reducible refine (guard_UserAt.calls (Go.bits .and .i64 a1 7) t124 t125 _ A7.out).mono ?_); rintro e w' ⟨rfl, ⟨nd, rfl⟩⟩; refine ⟨_, rfl, ?_⟩))
  (try simp only [Act.put, List.setIfInBounds_toArray, List.set_cons_zero, List.set_cons_succ])
  go_cut [69] (fun v69 wc => ∃ (kq : Nat) (x69_7 : Bool), v69 = .bool x69_7 ∧ Aside0 (tenterhooklaw12_GuardApart.j0 kq a3 t121 (Go.bits .and .i64 a0 7) (Go.bits .and .i64 a1 7) t124 (Go.bits .and .i64 a2 127) x69_7 = some r) ∧ Aside0 (kq ≤ k) ∧ Aside0 (Below w.heap.size w wc))
  case first =>
    have H := HC8.out
    clear HC8
    by_cases c10 : t123 = true
    · subst c10
      have H1 : (if t125 = true then ((guard_May.f k (Go.bits .and .i64 a0 7) a3 t122 128 true).bind fun t126 => (if t126 = true then ((guard_May.f k (Go.bits .and .i64 a0 7) a3 t122 129 true).bind fun t127 => (if t127 = true then (tenterhooklaw12_GuardApart.j0 k a3 t121 (Go.bits .and .i64 a0 7) (Go.bits .and .i64 a1 7) t124 (Go.bits .and .i64 a2 127) true) else ((guard_May.f k (Go.bits .and .i64 a0 7) a3 (wrap64 (t122 - 1)) 2 true).bind fun t128 => (if t128 = true then (tenterhooklaw12_GuardApart.j0 k a3 t121 (Go.bits .and .i64 a0 7) (Go.bits .and .i64 a1 7) t124 (Go.bits .and .i64 a2 127) (!a3)) else (tenterhooklaw12_GuardApart.j0 k a3 t121 (Go.bits .and .i64 a0 7) (Go.bits .and .i64 a1 7) t124 (Go.bits .and .i64 a2 127) false))))) else (tenterhooklaw12_GuardApart.j0 k a3 t121 (Go.bits .and .i64 a0 7) (Go.bits .and .i64 a1 7) t124 (Go.bits .and .i64 a2 127) true))) else (tenterhooklaw12_GuardApart.j0 k a3 t121 (Go.bits .and .i64 a0 7) (Go.bits .and .i64 a1 7) t124 (Go.bits .and .i64 a2 127) true)) = some r := by rw [if_pos rfl] at H; exact H
      clear H
      have H := H1
      clear H1
      by_cases c11 : t125 = true
      · subst c11
        have H1 : ((guard_May.f k (Go.bits .and .i64 a0 7) a3 t122 128 true).bind fun t126 => (if t126 = true then ((guard_May.f k (Go.bits .and .i64 a0 7) a3 t122 129 true).bind fun t127 => (if t127 = true then (tenterhooklaw12_GuardApart.j0 k a3 t121 (Go.bits .and .i64 a0 7) (Go.bits .and .i64 a1 7) t124 (Go.bits .and .i64 a2 127) true) else ((guard_May.f k (Go.bits .and .i64 a0 7) a3 (wrap64 (t122 - 1)) 2 true).bind fun t128 => (if t128 = true then (tenterhooklaw12_GuardApart.j0 k a3 t121 (Go.bits .and .i64 a0 7) (Go.bits .and .i64 a1 7) t124 (Go.bits .and .i64 a2 127) (!a3)) else (tenterhooklaw12_GuardApart.j0 k a3 t121 (Go.bits .and .i64 a0 7) (Go.bits .and .i64 a1 7) t124 (Go.bits .and .i64 a2 127) false))))) else (tenterhooklaw12_GuardApart.j0 k a3 t121 (Go.bits .and .i64 a0 7) (Go.bits .and .i64 a1 7) t124 (Go.bits .and .i64 a2 127) true))) = some r := by rw [if_pos rfl] at H; exact H
        clear H
        have H := H1
        clear H1
        replace H := Option.bind_eq_some_iff.mp H
        obtain ⟨t126, A120, H⟩ := H
        replace H : (if t126 = true then ((guard_May.f k (Go.bits .and .i64 a0 7) a3 t122 129 true).bind fun t127 => (if t127 = true then (tenterhooklaw12_GuardApart.j0 k a3 t121 (Go.bits .and .i64 a0 7) (Go.bits .and .i64 a1 7) t124 (Go.bits .and .i64 a2 127) true) else ((guard_May.f k (Go.bits .and .i64 a0 7) a3 (wrap64 (t122 - 1)) 2 true).bind fun t128 => (if t128 = true then (tenterhooklaw12_GuardApart.j0 k a3 t121 (Go.bits .and .i64 a0 7) (Go.bits .and .i64 a1 7) t124 (Go.bits .and .i64 a2 127) (!a3)) else (tenterhooklaw12_GuardApart.j0 k a3 t121 (Go.bits .and .i64 a0 7) (Go.bits .and .i64 a1 7) t124 (Go.bits .and .i64 a2 127) false))))) else (tenterhooklaw12_GuardApart.j0 k a3 t121 (Go.bits .and .i64 a0 7) (Go.bits .and .i64 a1 7) t124 (Go.bits .and .i64 a2 127) true)) = some r := H
        have A12 := Aside0.mk A120
        clear A120
        by_cases c13 : t126 = true
        · subst c13
          have H1 : ((guard_May.f k (Go.bits .and .i64 a0 7) a3 t122 129 true).bind fun t127 => (if t127 = true then (tenterhooklaw12_GuardApart.j0 k a3 t121 (Go.bits .and .i64 a0 7) (Go.bits .and .i64 a1 7) t124 (Go.bits .and .i64 a2 127) true) else ((guard_May.f k (Go.bits .and .i64 a0 7) a3 (wrap64 (t122 - 1)) 2 true).bind fun t128 => (if t128 = true then (tenterhooklaw12_GuardApart.j0 k a3 t121 (Go.bits .and .i64 a0 7) (Go.bits .and .i64 a1 7) t124 (Go.bits .and .i64 a2 127) (!a3)) else (tenterhooklaw12_GuardApart.j0 k a3 t121 (Go.bits .and .i64 a0 7) (Go.bits .and .i64 a1 7) t124 (Go.bits .and .i64 a2 127) false))))) = some r := by rw [if_pos rfl] at H; exact H
          clear H
          have H := H1
          clear H1
          replace H := Option.bind_eq_some_iff.mp H
          obtain ⟨t127, A140, H⟩ := H
          replace H : (if t127 = true then (tenterhooklaw12_GuardApart.j0 k a3 t121 (Go.bits .and .i64 a0 7) (Go.bits .and .i64 a1 7) t124 (Go.bits .and .i64 a2 127) true) else ((guard_May.f k (Go.bits .and .i64 a0 7) a3 (wrap64 (t122 - 1)) 2 true).bind fun t128 => (if t128 = true then (tenterhooklaw12_GuardApart.j0 k a3 t121 (Go.bits .and .i64 a0 7) (Go.bits .and .i64 a1 7) t124 (Go.bits .and .i64 a2 127) (!a3)) else (tenterhooklaw12_GuardApart.j0 k a3 t121 (Go.bits .and .i64 a0 7) (Go.bits .and .i64 a1 7) t124 (Go.bits .and .i64 a2 127) false)))) = some r := H
          have A14 := Aside0.mk A140
          clear A140
          by_cases c15 : t127 = true
          · subst c15
            have H1 : (tenterhooklaw12_GuardApart.j0 k a3 t121 (Go.bits .and .i64 a0 7) (Go.bits .and .i64 a1 7) t124 (Go.bits .and .i64 a2 127) true) = some r := by rw [if_pos rfl] at H; exact H
            clear H
            have H := H1
            clear H1
            have H' := Aside0.mk H
            clear H
            go_wp2_with (first | (go_at_call 36; (with_reducible refine (guard_May.calls k (Go.bits .and .i64 a0 7) a3 t122 128 true true _ A12.out).mono ?_); rintro e w16 ⟨rfl, hb⟩; have n0_ := Aside0.mk (below_step (by repeat (first | (with_reducible first | exact HB.out | apply below_alloc | apply pw_below_drewN | apply below_drew1) | exact HB.out)) hb); clear HB; have HB := n0_; clear n0_; (try clear hb); (try clear hb2); (try clear hk); (try clear hi)) | (go_at_call 36; (with_reducible refine (guard_May.calls k (Go.bits .and .i64 a0 7) a3 t122 129 true true _ A14.out).mono ?_); rintro e w17 ⟨rfl, hb⟩; have n0_ := Aside0.mk (below_step (by repeat (first | (with_reducible first | exact HB.out | apply below_alloc | apply pw_below_drewN | apply below_drew1) | exact HB.out)) hb); clear HB; have HB := n0_; clear n0_; (try clear hb); (try clear hb2); (try clear hk); (try clear hi)))
            go_meet
            case rel => exact ⟨_, (true), (by first | rfl | (simp; done) | (simp [*]; done)), H', ⟨by first | omega | exact Nat.le_refl _⟩, ⟨by repeat (first | (with_reducible first | exact HB.out | apply below_alloc | apply pw_below_drewN | apply below_drew1) | exact HB.out)⟩⟩
          · replace c15 := Bool.eq_false_iff.mpr c15
            subst c15
            have H1 : ((guard_May.f k (Go.bits .and .i64 a0 7) a3 (wrap64 (t122 - 1)) 2 true).bind fun t128 => (if t128 = true then (tenterhooklaw12_GuardApart.j0 k a3 t121 (Go.bits .and .i64 a0 7) (Go.bits .and .i64 a1 7) t124 (Go.bits .and .i64 a2 127) (!a3)) else (tenterhooklaw12_GuardApart.j0 k a3 t121 (Go.bits .and .i64 a0 7) (Go.bits .and .i64 a1 7) t124 (Go.bits .and .i64 a2 127) false))) = some r := by rw [if_neg (show ¬ (false = true) by decide)] at H; exact H
            clear H
            have H := H1
            clear H1
            replace H := Option.bind_eq_some_iff.mp H
            obtain ⟨t128, A180, H⟩ := H
            replace H : (if t128 = true then (tenterhooklaw12_GuardApart.j0 k a3 t121 (Go.bits .and .i64 a0 7) (Go.bits .and .i64 a1 7) t124 (Go.bits .and .i64 a2 127) (!a3)) else (tenterhooklaw12_GuardApart.j0 k a3 t121 (Go.bits .and .i64 a0 7) (Go.bits .and .i64 a1 7) t124 (Go.bits .and .i64 a2 127) false)) = some r := H
            have A18 := Aside0.mk A180
            clear A180
            by_cases c19 : t128 = true
            · subst c19
              have H1 : (tenterhooklaw12_GuardApart.j0 k a3 t121 (Go.bits .and .i64 a0 7) (Go.bits .and .i64 a1 7) t124 (Go.bits .and .i64 a2 127) (!a3)) = some r := by rw [if_pos rfl] at H; exact H
              clear H
              have H := H1
              clear H1
              have H' := Aside0.mk H
              clear H
              go_wp2_with (first | (go_at_call 36; (with_reducible refine (guard_May.calls k (Go.bits .and .i64 a0 7) a3 t122 128 true true _ A12.out).mono ?_); rintro e w20 ⟨rfl, hb⟩; have n0_ := Aside0.mk (below_step (by repeat (first | (with_reducible first | exact HB.out | apply below_alloc | apply pw_below_drewN | apply below_drew1) | exact HB.out)) hb); clear HB; have HB := n0_; clear n0_; (try clear hb); (try clear hb2); (try clear hk); (try clear hi)) | (go_at_call 36; (with_reducible refine (guard_May.calls k (Go.bits .and .i64 a0 7) a3 t122 129 true false _ A14.out).mono ?_); rintro e w21 ⟨rfl, hb⟩; have n0_ := Aside0.mk (below_step (by repeat (first | (with_reducible first | exact HB.out | apply below_alloc | apply pw_below_drewN | apply below_drew1) | exact HB.out)) hb); clear HB; have HB := n0_; clear n0_; (try clear hb); (try clear hb2); (try clear hk); (try clear hi)) | (go_at_call 36; (with_reducible refine (guard_May.calls k (Go.bits .and .i64 a0 7) a3 (wrap64 (t122 - 1)) 2 true true _ A18.out).mono ?_); rintro e w22 ⟨rfl, hb⟩; have n0_ := Aside0.mk (below_step (by repeat (first | (with_reducible first | exact HB.out | apply below_alloc | apply pw_below_drewN | apply below_drew1) | exact HB.out)) hb); clear HB; have HB := n0_; clear n0_; (try clear hb); (try clear hb2); (try clear hk); (try clear hi)))
              go_meet
              case rel => exact ⟨_, (!a3), (by first | rfl | (simp; done) | (simp [*]; done)), H', ⟨by first | omega | exact Nat.le_refl _⟩, ⟨by repeat (first | (with_reducible first | exact HB.out | apply below_alloc | apply pw_below_drewN | apply below_drew1) | exact HB.out)⟩⟩
            · replace c19 := Bool.eq_false_iff.mpr c19
              subst c19
              have H1 : (tenterhooklaw12_GuardApart.j0 k a3 t121 (Go.bits .and .i64 a0 7) (Go.bits .and .i64 a1 7) t124 (Go.bits .and .i64 a2 127) false) = some r := by rw [if_neg (show ¬ (false = true) by decide)] at H; exact H
              clear H
              have H := H1
              clear H1
              have H' := Aside0.mk H
              clear H
              go_wp2_with (first | (go_at_call 36; (with_reducible refine (guard_May.calls k (Go.bits .and .i64 a0 7) a3 t122 128 true true _ A12.out).mono ?_); rintro e w23 ⟨rfl, hb⟩; have n0_ := Aside0.mk (below_step (by repeat (first | (with_reducible first | exact HB.out | apply below_alloc | apply pw_below_drewN | apply below_drew1) | exact HB.out)) hb); clear HB; have HB := n0_; clear n0_; (try clear hb); (try clear hb2); (try clear hk); (try clear hi)) | (go_at_call 36; (with_reducible refine (guard_May.calls k (Go.bits .and .i64 a0 7) a3 t122 129 true false _ A14.out).mono ?_); rintro e w24 ⟨rfl, hb⟩; have n0_ := Aside0.mk (below_step (by repeat (first | (with_reducible first | exact HB.out | apply below_alloc | apply pw_below_drewN | apply below_drew1) | exact HB.out)) hb); clear HB; have HB := n0_; clear n0_; (try clear hb); (try clear hb2); (try clear hk); (try clear hi)) | (go_at_call 36; (with_reducible refine (guard_May.calls k (Go.bits .and .i64 a0 7) a3 (wrap64 (t122 - 1)) 2 true false _ A18.out).mono ?_); rintro e w25 ⟨rfl, hb⟩; have n0_ := Aside0.mk (below_step (by repeat (first | (with_reducible first | exact HB.out | apply below_alloc | apply pw_below_drewN | apply below_drew1) | exact HB.out)) hb); clear HB; have HB := n0_; clear n0_; (try clear hb); (try clear hb2); (try clear hk); (try clear hi)))
              go_meet
              case rel => exact ⟨_, (false), (by first | rfl | (simp; done) | (simp [*]; done)), H', ⟨by first | omega | exact Nat.le_refl _⟩, ⟨by repeat (first | (with_reducible first | exact HB.out | apply below_alloc | apply pw_below_drewN | apply below_drew1) | exact HB.out)⟩⟩
        · replace c13 := Bool.eq_false_iff.mpr c13
          subst c13
          have H1 : (tenterhooklaw12_GuardApart.j0 k a3 t121 (Go.bits .and .i64 a0 7) (Go.bits .and .i64 a1 7) t124 (Go.bits .and .i64 a2 127) true) = some r := by rw [if_neg (show ¬ (false = true) by decide)] at H; exact H
          clear H
          have H := H1
          clear H1
          have H' := Aside0.mk H
          clear H
          go_wp2_with (first | (go_at_call 36; (with_reducible refine (guard_May.calls k (Go.bits .and .i64 a0 7) a3 t122 128 true false _ A12.out).mono ?_); rintro e w26 ⟨rfl, hb⟩; have n0_ := Aside0.mk (below_step (by repeat (first | (with_reducible first | exact HB.out | apply below_alloc | apply pw_below_drewN | apply below_drew1) | exact HB.out)) hb); clear HB; have HB := n0_; clear n0_; (try clear hb); (try clear hb2); (try clear hk); (try clear hi)))
          go_meet
          case rel => exact ⟨_, (true), (by first | rfl | (simp; done) | (simp [*]; done)), H', ⟨by first | omega | exact Nat.le_refl _⟩, ⟨by repeat (first | (with_reducible first | exact HB.out | apply below_alloc | apply pw_below_drewN | apply below_drew1) | exact HB.out)⟩⟩
      · replace c11 := Bool.eq_false_iff.mpr c11
        subst c11
        have H1 : (tenterhooklaw12_GuardApart.j0 k a3 t121 (Go.bits .and .i64 a0 7) (Go.bits .and .i64 a1 7) t124 (Go.bits .and .i64 a2 127) true) = some r := by rw [if_neg (show ¬ (false = true) by decide)] at H; exact H
        clear H
        have H := H1
        clear H1
        have H' := Aside0.mk H
        clear H
        go_wp2
        go_meet
        case rel => exact ⟨_, (true), (by first | rfl | (simp; done) | (simp [*]; done)), H', ⟨by first | omega | exact Nat.le_refl _⟩, ⟨by repeat (first | (with_reducible first | exact HB.out | apply below_alloc | apply pw_below_drewN | apply below_drew1) | exact HB.out)⟩⟩
    · replace c10 := Bool.eq_false_iff.mpr c10
      subst c10
      have H1 : (tenterhooklaw12_GuardApart.j0 k a3 t121 (Go.bits .and .i64 a0 7) (Go.bits .and .i64 a1 7) t124 (Go.bits .and .i64 a2 127) true) = some r := by rw [if_neg (show ¬ (false = true) by decide)] at H; exact H
      clear H
      have H := H1
      clear H1
      have H' := Aside0.mk H
      clear H
      go_wp2
      go_meet
      case rel => exact ⟨_, (true), (by first | rfl | (simp; done) | (simp [*]; done)), H', ⟨by first | omega | exact Nat.le_refl _⟩, ⟨by repeat (first | (with_reducible first | exact HB.out | apply below_alloc | apply pw_below_drewN | apply below_drew1) | exact HB.out)⟩⟩
  case rest =>
    clear HC8
    try clear c1
    try clear p2
    try clear c3
    try clear p6
    try clear c7
    try clear c10
    try clear c11
    try clear c13
    try clear c15
    try clear c19
    obtain ⟨kq, x69_7, rfl, HA, HJ7, HB⟩ := hcut
    cases kq with
    | zero => exact absurd HA.out (by simp [tenterhooklaw12_GuardApart.j0])
    | succ kj7 =>
      have H := HA.out
      clear HA
      simp only [tenterhooklaw12_GuardApart.j0] at H
      by_cases c27 : x69_7 = true
      · subst c27
        have H1 : (some false) = some r := by rw [if_pos rfl] at H; exact H
        clear H
        have H := H1
        clear H1
        obtain rfl := Option.some.inj H
        go_wp2
        go_ret
        exact ⟨by first | rfl | (simp [errW_none, errW_some] <;> rfl) | (simp [*, errW_none, errW_some] <;> rfl), by repeat (first | (with_reducible first | exact HB.out | apply below_alloc | apply pw_below_drewN | apply below_drew1) | exact HB.out)⟩
      · replace c27 := Bool.eq_false_iff.mpr c27
        subst c27
        have H1 : ((guard_May.f kj7 (Go.bits .and .i64 a0 7) a3 (wrap64 (t124 + (Go.bits .and .i64 a2 127))) 1 false).bind fun t129 => ((guard_Region.f kj7 (wrap64 (t124 + (Go.bits .and .i64 a2 127)))).bind fun bt130 => (if t121 = true then (if (t129 == ((Go.bits .and .i64 a0 7) == (Go.bits .and .i64 a1 7))) = true then (if bt130.1 = 2 then (if bt130.2 = (Go.bits .and .i64 a1 7) then ((guard_May.f kj7 (-1) false (wrap64 (t124 + (Go.bits .and .i64 a2 127))) 1 true).bind fun t132 => (some t132)) else (some false)) else (some false)) else (some false)) else (some false)))) = some r := by rw [if_neg (show ¬ (false = true) by decide)] at H; exact H
        clear H
        have H := H1
        clear H1
        replace H := Option.bind_eq_some_iff.mp H
        obtain ⟨t129, A280, H⟩ := H
        replace H : ((guard_Region.f kj7 (wrap64 (t124 + (Go.bits .and .i64 a2 127)))).bind fun bt130 => (if t121 = true then (if (t129 == ((Go.bits .and .i64 a0 7) == (Go.bits .and .i64 a1 7))) = true then (if bt130.1 = 2 then (if bt130.2 = (Go.bits .and .i64 a1 7) then ((guard_May.f kj7 (-1) false (wrap64 (t124 + (Go.bits .and .i64 a2 127))) 1 true).bind fun t132 => (some t132)) else (some false)) else (some false)) else (some false)) else (some false))) = some r := H
        have A28 := Aside0.mk A280
        clear A280
        replace H := Option.bind_eq_some_iff.mp H
        obtain ⟨⟨t130, t131⟩, A290, H⟩ := H
        replace H : (if t121 = true then (if (t129 == ((Go.bits .and .i64 a0 7) == (Go.bits .and .i64 a1 7))) = true then (if t130 = 2 then (if t131 = (Go.bits .and .i64 a1 7) then ((guard_May.f kj7 (-1) false (wrap64 (t124 + (Go.bits .and .i64 a2 127))) 1 true).bind fun t132 => (some t132)) else (some false)) else (some false)) else (some false)) else (some false)) = some r := H
        have A29 := Aside0.mk A290
        clear A290
        by_cases c30 : t121 = true
        · subst c30
          have H1 : (if (t129 == ((Go.bits .and .i64 a0 7) == (Go.bits .and .i64 a1 7))) = true then (if t130 = 2 then (if t131 = (Go.bits .and .i64 a1 7) then ((guard_May.f kj7 (-1) false (wrap64 (t124 + (Go.bits .and .i64 a2 127))) 1 true).bind fun t132 => (some t132)) else (some false)) else (some false)) else (some false)) = some r := by rw [if_pos rfl] at H; exact H
          clear H
          have H := H1
          clear H1
          by_cases c31 : (t129 == ((Go.bits .and .i64 a0 7) == (Go.bits .and .i64 a1 7))) = true
          · rw [if_pos c31] at H
            have c31b0 : (t129 == ((Go.bits .and .i64 a0 7) == (Go.bits .and .i64 a1 7))) = true := c31
            (try (have c31b1 : decide (t129 = ((Go.bits .and .i64 a0 7) == (Go.bits .and .i64 a1 7))) = true := by simpa using c31))
            (try (have c31b2 : (t129 == ((Go.bits .and .i64 a0 7) == (Go.bits .and .i64 a1 7))) = true := by simpa using c31))
            clear c31
            by_cases c32 : t130 = 2
            · rw [if_pos c32] at H
              have c32b0 : (t130 == 2) = true := beq_iff_eq.mpr c32
              have c32b1 : (t130 != 2) = false := bne_eq_false_iff_eq.mpr c32
              clear c32
              by_cases c33 : t131 = (Go.bits .and .i64 a1 7)
              · rw [if_pos c33] at H
                have c33b0 : (t131 == (Go.bits .and .i64 a1 7)) = true := beq_iff_eq.mpr c33
                have c33b1 : (t131 != (Go.bits .and .i64 a1 7)) = false := bne_eq_false_iff_eq.mpr c33
                clear c33
                replace H := Option.bind_eq_some_iff.mp H
                obtain ⟨t132, A340, H⟩ := H
                replace H : (some t132) = some r := H
                have A34 := Aside0.mk A340
                clear A340
                obtain rfl := Option.some.inj H
                go_wp2_with (first | ((with_reducible refine gate_callee (f := 36) rfl ?_); refine goesL_ (some 76) rfl rfl Try.func36 (by kernel_rfl) rfl #[.agg #[.int .i64 (Go.bits .and .i64 a0 7), .bool a3], .int .i64 (wrap64 (t124 + (Go.bits .and .i64 a2 127))), .int .i64 1, .bool false] rfl (by (try simp only [List.map_toArray, List.map_cons, List.map_nil]); first | done | rfl | (simp only [List.length_drop, List.length_take]; rfl)) ?_; (with_reducible refine (guard_May.calls kj7 (Go.bits .and .i64 a0 7) a3 (wrap64 (t124 + (Go.bits .and .i64 a2 127))) 1 false t129 _ A28.out).mono ?_); rintro e w35 ⟨rfl, hb⟩; refine ⟨_, rfl, ?_⟩; have n0_ := Aside0.mk (below_step (by repeat (first | (with_reducible first | exact HB.out | apply below_alloc | apply pw_below_drewN | apply below_drew1) | exact HB.out)) hb); clear HB; have HB := n0_; clear n0_; (try clear hb); (try clear hb2); (try clear hk); (try clear hi)) | ((with_reducible refine gate_callee (f := 39) rfl ?_); refine goesL_ (some 81) rfl rfl Try.func39 (by kernel_rfl) rfl #[.int .i64 (wrap64 (t124 + (Go.bits .and .i64 a2 127)))] rfl (by (try simp only [List.map_toArray, List.map_cons, List.map_nil]); first | done | rfl | (simp only [List.length_drop, List.length_take]; rfl)) ?_; (with_reducible refine (guard_Region.calls kj7 (wrap64 (t124 + (Go.bits .and .i64 a2 127))) t130 t131 _ A29.out).mono ?_); rintro e w36 ⟨rfl, hb⟩; refine ⟨_, rfl, ?_⟩; have n0_ := Aside0.mk (below_step (by repeat (first | (with_reducible first | exact HB.out | apply below_alloc | apply pw_below_drewN | apply below_drew1) | exact HB.out)) hb); clear HB; have HB := n0_; clear n0_; (try clear hb); (try clear hb2); (try clear hk); (try clear hi)) | (go_at_call 36; (with_reducible refine (guard_May.calls kj7 (-1) false (wrap64 (t124 + (Go.bits .and .i64 a2 127))) 1 true t132 _ A34.out).mono ?_); rintro e w37 ⟨rfl, hb⟩; have n0_ := Aside0.mk (below_step (by repeat (first | (with_reducible first | exact HB.out | apply below_alloc | apply pw_below_drewN | apply below_drew1) | exact HB.out)) hb); clear HB; have HB := n0_; clear n0_; (try clear hb); (try clear hb2); (try clear hk); (try clear hi)))
                go_ret
                exact ⟨by first | rfl | (simp [errW_none, errW_some] <;> rfl) | (simp [*, errW_none, errW_some] <;> rfl), by repeat (first | (with_reducible first | exact HB.out | apply below_alloc | apply pw_below_drewN | apply below_drew1) | exact HB.out)⟩
              · rw [if_neg c33] at H
                have c33b0 : (t131 == (Go.bits .and .i64 a1 7)) = false := beq_eq_false_iff_ne.mpr c33
                have c33b1 : (t131 != (Go.bits .and .i64 a1 7)) = true := bne_iff_ne.mpr c33
                obtain rfl := Option.some.inj H
                go_wp2_with (first | ((with_reducible refine gate_callee (f := 36) rfl ?_); refine goesL_ (some 76) rfl rfl Try.func36 (by kernel_rfl) rfl #[.agg #[.int .i64 (Go.bits .and .i64 a0 7), .bool a3], .int .i64 (wrap64 (t124 + (Go.bits .and .i64 a2 127))), .int .i64 1, .bool false] rfl (by (try simp only [List.map_toArray, List.map_cons, List.map_nil]); first | done | rfl | (simp only [List.length_drop, List.length_take]; rfl)) ?_; (with_reducible refine (guard_May.calls kj7 (Go.bits .and .i64 a0 7) a3 (wrap64 (t124 + (Go.bits .and .i64 a2 127))) 1 false t129 _ A28.out).mono ?_); rintro e w38 ⟨rfl, hb⟩; refine ⟨_, rfl, ?_⟩; have n0_ := Aside0.mk (below_step (by repeat (first | (with_reducible first | exact HB.out | apply below_alloc | apply pw_below_drewN | apply below_drew1) | exact HB.out)) hb); clear HB; have HB := n0_; clear n0_; (try clear hb); (try clear hb2); (try clear hk); (try clear hi)) | ((with_reducible refine gate_callee (f := 39) rfl ?_); refine goesL_ (some 81) rfl rfl Try.func39 (by kernel_rfl) rfl #[.int .i64 (wrap64 (t124 + (Go.bits .and .i64 a2 127)))] rfl (by (try simp only [List.map_toArray, List.map_cons, List.map_nil]); first | done | rfl | (simp only [List.length_drop, List.length_take]; rfl)) ?_; (with_reducible refine (guard_Region.calls kj7 (wrap64 (t124 + (Go.bits .and .i64 a2 127))) t130 t131 _ A29.out).mono ?_); rintro e w39 ⟨rfl, hb⟩; refine ⟨_, rfl, ?_⟩; have n0_ := Aside0.mk (below_step (by repeat (first | (with_reducible first | exact HB.out | apply below_alloc | apply pw_below_drewN | apply below_drew1) | exact HB.out)) hb); clear HB; have HB := n0_; clear n0_; (try clear hb); (try clear hb2); (try clear hk); (try clear hi)))
                go_ret
                exact ⟨by first | rfl | (simp [errW_none, errW_some] <;> rfl) | (simp [*, errW_none, errW_some] <;> rfl), by repeat (first | (with_reducible first | exact HB.out | apply below_alloc | apply pw_below_drewN | apply below_drew1) | exact HB.out)⟩
            · rw [if_neg c32] at H
              have c32b0 : (t130 == 2) = false := beq_eq_false_iff_ne.mpr c32
              have c32b1 : (t130 != 2) = true := bne_iff_ne.mpr c32
              obtain rfl := Option.some.inj H
              go_wp2_with (first | ((with_reducible refine gate_callee (f := 36) rfl ?_); refine goesL_ (some 76) rfl rfl Try.func36 (by kernel_rfl) rfl #[.agg #[.int .i64 (Go.bits .and .i64 a0 7), .bool a3], .int .i64 (wrap64 (t124 + (Go.bits .and .i64 a2 127))), .int .i64 1, .bool false] rfl (by (try simp only [List.map_toArray, List.map_cons, List.map_nil]); first | done | rfl | (simp only [List.length_drop, List.length_take]; rfl)) ?_; (with_reducible refine (guard_May.calls kj7 (Go.bits .and .i64 a0 7) a3 (wrap64 (t124 + (Go.bits .and .i64 a2 127))) 1 false t129 _ A28.out).mono ?_); rintro e w40 ⟨rfl, hb⟩; refine ⟨_, rfl, ?_⟩; have n0_ := Aside0.mk (below_step (by repeat (first | (with_reducible first | exact HB.out | apply below_alloc | apply pw_below_drewN | apply below_drew1) | exact HB.out)) hb); clear HB; have HB := n0_; clear n0_; (try clear hb); (try clear hb2); (try clear hk); (try clear hi)) | ((with_reducible refine gate_callee (f := 39) rfl ?_); refine goesL_ (some 81) rfl rfl Try.func39 (by kernel_rfl) rfl #[.int .i64 (wrap64 (t124 + (Go.bits .and .i64 a2 127)))] rfl (by (try simp only [List.map_toArray, List.map_cons, List.map_nil]); first | done | rfl | (simp only [List.length_drop, List.length_take]; rfl)) ?_; (with_reducible refine (guard_Region.calls kj7 (wrap64 (t124 + (Go.bits .and .i64 a2 127))) t130 t131 _ A29.out).mono ?_); rintro e w41 ⟨rfl, hb⟩; refine ⟨_, rfl, ?_⟩; have n0_ := Aside0.mk (below_step (by repeat (first | (with_reducible first | exact HB.out | apply below_alloc | apply pw_below_drewN | apply below_drew1) | exact HB.out)) hb); clear HB; have HB := n0_; clear n0_; (try clear hb); (try clear hb2); (try clear hk); (try clear hi)))
              go_ret
              exact ⟨by first | rfl | (simp [errW_none, errW_some] <;> rfl) | (simp [*, errW_none, errW_some] <;> rfl), by repeat (first | (with_reducible first | exact HB.out | apply below_alloc | apply pw_below_drewN | apply below_drew1) | exact HB.out)⟩
          · rw [if_neg c31] at H
            have c31b0 : (t129 == ((Go.bits .and .i64 a0 7) == (Go.bits .and .i64 a1 7))) = false := by simpa using c31
            (try (have c31b1 : decide (t129 = ((Go.bits .and .i64 a0 7) == (Go.bits .and .i64 a1 7))) = false := by simpa using c31))
            (try (have c31b2 : (t129 == ((Go.bits .and .i64 a0 7) == (Go.bits .and .i64 a1 7))) = false := by simpa using c31))
            (try (have c31b3 : ¬ (t129 = ((Go.bits .and .i64 a0 7) == (Go.bits .and .i64 a1 7))) := by simpa using c31))
            clear c31
            obtain rfl := Option.some.inj H
            go_wp2_with (first | ((with_reducible refine gate_callee (f := 36) rfl ?_); refine goesL_ (some 76) rfl rfl Try.func36 (by kernel_rfl) rfl #[.agg #[.int .i64 (Go.bits .and .i64 a0 7), .bool a3], .int .i64 (wrap64 (t124 + (Go.bits .and .i64 a2 127))), .int .i64 1, .bool false] rfl (by (try simp only [List.map_toArray, List.map_cons, List.map_nil]); first | done | rfl | (simp only [List.length_drop, List.length_take]; rfl)) ?_; (with_reducible refine (guard_May.calls kj7 (Go.bits .and .i64 a0 7) a3 (wrap64 (t124 + (Go.bits .and .i64 a2 127))) 1 false t129 _ A28.out).mono ?_); rintro e w42 ⟨rfl, hb⟩; refine ⟨_, rfl, ?_⟩; have n0_ := Aside0.mk (below_step (by repeat (first | (with_reducible first | exact HB.out | apply below_alloc | apply pw_below_drewN | apply below_drew1) | exact HB.out)) hb); clear HB; have HB := n0_; clear n0_; (try clear hb); (try clear hb2); (try clear hk); (try clear hi)) | ((with_reducible refine gate_callee (f := 39) rfl ?_); refine goesL_ (some 81) rfl rfl Try.func39 (by kernel_rfl) rfl #[.int .i64 (wrap64 (t124 + (Go.bits .and .i64 a2 127)))] rfl (by (try simp only [List.map_toArray, List.map_cons, List.map_nil]); first | done | rfl | (simp only [List.length_drop, List.length_take]; rfl)) ?_; (with_reducible refine (guard_Region.calls kj7 (wrap64 (t124 + (Go.bits .and .i64 a2 127))) t130 t131 _ A29.out).mono ?_); rintro e w43 ⟨rfl, hb⟩; refine ⟨_, rfl, ?_⟩; have n0_ := Aside0.mk (below_step (by repeat (first | (with_reducible first | exact HB.out | apply below_alloc | apply pw_below_drewN | apply below_drew1) | exact HB.out)) hb); clear HB; have HB := n0_; clear n0_; (try clear hb); (try clear hb2); (try clear hk); (try clear hi)))
            go_ret
            exact ⟨by first | rfl | (simp [errW_none, errW_some] <;> rfl) | (simp [*, errW_none, errW_some] <;> rfl), by repeat (first | (with_reducible first | exact HB.out | apply below_alloc | apply pw_below_drewN | apply below_drew1) | exact HB.out)⟩
        · replace c30 := Bool.eq_false_iff.mpr c30
          subst c30
          have H1 : (some false) = some r := by rw [if_neg (show ¬ (false = true) by decide)] at H; exact H
          clear H
          have H := H1
          clear H1
          obtain rfl := Option.some.inj H
          go_wp2_with (first | ((with_reducible refine gate_callee (f := 36) rfl ?_); refine goesL_ (some 76) rfl rfl Try.func36 (by kernel_rfl) rfl #[.agg #[.int .i64 (Go.bits .and .i64 a0 7), .bool a3], .int .i64 (wrap64 (t124 + (Go.bits .and .i64 a2 127))), .int .i64 1, .bool false] rfl (by (try simp only [List.map_toArray, List.map_cons, List.map_nil]); first | done | rfl | (simp only [List.length_drop, List.length_take]; rfl)) ?_; (with_reducible refine (guard_May.calls kj7 (Go.bits .and .i64 a0 7) a3 (wrap64 (t124 + (Go.bits .and .i64 a2 127))) 1 false t129 _ A28.out).mono ?_); rintro e w44 ⟨rfl, hb⟩; refine ⟨_, rfl, ?_⟩; have n0_ := Aside0.mk (below_step (by repeat (first | (with_reducible first | exact HB.out | apply below_alloc | apply pw_below_drewN | apply below_drew1) | exact HB.out)) hb); clear HB; have HB := n0_; clear n0_; (try clear hb); (try clear hb2); (try clear hk); (try clear hi)) | ((with_reducible refine gate_callee (f := 39) rfl ?_); refine goesL_ (some 81) rfl rfl Try.func39 (by kernel_rfl) rfl #[.int .i64 (wrap64 (t124 + (Go.bits .and .i64 a2 127)))] rfl (by (try simp only [List.map_toArray, List.map_cons, List.map_nil]); first | done | rfl | (simp only [List.length_drop, List.length_take]; rfl)) ?_; (with_reducible refine (guard_Region.calls kj7 (wrap64 (t124 + (Go.bits .and .i64 a2 127))) t130 t131 _ A29.out).mono ?_); rintro e w45 ⟨rfl, hb⟩; refine ⟨_, rfl, ?_⟩; have n0_ := Aside0.mk (below_step (by repeat (first | (with_reducible first | exact HB.out | apply below_alloc | apply pw_below_drewN | apply below_drew1) | exact HB.out)) hb); clear HB; have HB := n0_; clear n0_; (try clear hb); (try clear hb2); (try clear hk); (try clear hi)))
          go_ret
          exact ⟨by first | rfl | (simp [errW_none, errW_some] <;> rfl) | (simp [*, errW_none, errW_some] <;> rfl), by repeat (first | (with_reducible first | exact HB.out | apply below_alloc | apply pw_below_drewN | apply below_drew1) | exact HB.out)⟩

/-- THE ONE PURE STATEMENT of tenterhooklaw12_GuardApart: yours. -/
def tenterhooklaw12_GuardApart.Pure : Prop := ∀ (a0 : Int) (a1 : Int) (a2 : Int) (a3 : Bool), (Lit.int .i64 a0).wf = true → (Lit.int .i64 a1).wf = true → (Lit.int .i64 a2).wf = true → ∃ k, tenterhooklaw12_GuardApart.f k a0 a1 a2 a3 = some true
theorem tenterhooklaw12_GuardApart.walk (P : tenterhooklaw12_GuardApart.Pure) (a0 : Int) (a1 : Int) (a2 : Int) (a3 : Bool) (w : World) (w0 : (Lit.int .i64 a0).wf = true) (w1 : (Lit.int .i64 a1).wf = true) (w2 : (Lit.int .i64 a2).wf = true) :
    Calls Try.prog 7 #[.int .i64 a0, .int .i64 a1, .int .i64 a2, .bool a3] w fun e w' => e = .returned (.bool true) ∧ Below w.heap.size w w' := by
  obtain ⟨k, h⟩ := P a0 a1 a2 a3 w0 w1 w2
  refine (tenterhooklaw12_GuardApart.calls k a0 a1 a2 a3 true w h).mono ?_
  rintro e w' ⟨rfl, hd⟩
  exact ⟨rfl, hd⟩

end Go.Proofs.Ytipflebjooanpaa.PGuardApart
