-- PRINTED BY print.sh 35421559b90ae4d0a3588c463048766b98c2df88dd9212a6774a882060cdf62d: not written by this session
import Derived.Test.YtmgijoanhgdlbaaPCellIsx0
import Derived.Test.YtmgijoanhgdlbaaPCellIsx1
import Derived.Test.YtmgijoanhgdlbaaPCellIsx2
namespace Go.Proofs.Ytmgijoanhgdlbaa.PCellIs
open Go.RowKit Go.Proofs.YtmgijoanhgdlbaaW.PrintWords Go.Proofs.YtmgijoanhgdlbaaW.PrintLast Go.Proofs.YtmgijoanhgdlbaaW.PrintMore
attribute [local go_sem] max2_int min2_int max_two min_two max_three min_three max_four min_four   -- for this text's walks alone
set_option linter.unusedVariables false
set_option linter.unusedSimpArgs false

/-! ### tenterhooklaw01_CellIs: function 9 -/
def tenterhooklaw01_CellIs.j0 : Nat → Int → Int → Int → Bool → Bool → Bool → Option (Bool)
  | 0, _, _, _, _, _, _ => none
  | k + 1, x0, x1, x2, x3, x9, x78 => if x78 = true then (some false) else (if x9 = true then ((cell_Flag.f x3).bind fun t155 => ((tenterhookref01_Flag.f x3).bind fun t156 => (if t155 = t156 then ((cell_Ult.f x0 x1).bind fun t157 => ((tenterhookref01_Ult.f k x0 x1).bind fun t158 => (if (t157 == t158) = true then ((cell_Shl.f x0 x2).bind fun t159 => ((tenterhookref01_Shl.f k x0 x2).bind fun t160 => (if t159 = t160 then ((cell_Shr.f x0 x2).bind fun t161 => ((tenterhookref01_Shr.f k x0 x2).bind fun t162 => (if t161 = t162 then ((cell_Within.f x2 x0 x1).bind fun t163 => ((tenterhookref01_Within.f k x2 x0 x1).bind fun t164 => (if (t163 == t164) = true then ((cell_Aligned.f x0).bind fun t165 => ((tenterhookref01_Aligned.f k x0).bind fun t166 => (some (t165 == t166)))) else (some false)))) else (some false)))) else (some false)))) else (some false)))) else (some false)))) else (some false))
def tenterhooklaw01_CellIs.f (k : Nat) (a0 : Int) (a1 : Int) (a2 : Int) (a3 : Bool) : Option (Bool) := (tenterhooklaw01_awake.f).bind fun t142 => ((cell_Floor.f a0 a1).bind fun bt143 => ((tenterhookref01_Floor.f a0 a1).bind fun bt146 => ((cell_Symm.f a0 a1).bind fun bt149 => ((tenterhookref01_Symm.f a0 a1).bind fun bt152 => (if bt143.1 = bt146.1 then (if bt143.2.1 = bt146.2.1 then (if bt143.2.2 = bt146.2.2 then (if bt149.1 = bt152.1 then (if bt149.2.1 = bt152.2.1 then (tenterhooklaw01_CellIs.j0 k a0 a1 a2 a3 t142 (bt149.2.2 != bt152.2.2)) else (tenterhooklaw01_CellIs.j0 k a0 a1 a2 a3 t142 true)) else (tenterhooklaw01_CellIs.j0 k a0 a1 a2 a3 t142 true)) else (tenterhooklaw01_CellIs.j0 k a0 a1 a2 a3 t142 true)) else (tenterhooklaw01_CellIs.j0 k a0 a1 a2 a3 t142 true)) else (tenterhooklaw01_CellIs.j0 k a0 a1 a2 a3 t142 true))))))
theorem tenterhooklaw01_CellIs.mono_l : ∀ k, (∀ y0 y1 y2 y3 y4 y5, LeO (tenterhooklaw01_CellIs.j0 k y0 y1 y2 y3 y4 y5) (tenterhooklaw01_CellIs.j0 (k + 1) y0 y1 y2 y3 y4 y5))
  | 0 => fun _ _ _ _ _ _ r h => by simp [tenterhooklaw01_CellIs.j0] at h
  | k + 1 => by
    have ih0 := tenterhooklaw01_CellIs.mono_l k
    · intro y0 y1 y2 y3 y4 y5
      unfold tenterhooklaw01_CellIs.j0
      repeat' first
      | (with_reducible exact ih0 _ _ _ _ _ _)
      | (with_reducible exact tenterhookref01_Aligned.mono _ _)
      | (with_reducible exact tenterhookref01_Shl.mono _ _ _)
      | (with_reducible exact tenterhookref01_Shr.mono _ _ _)
      | (with_reducible exact tenterhookref01_Ult.mono _ _ _)
      | (with_reducible exact tenterhookref01_Within.mono _ _ _ _)
      | (with_reducible exact LeO.refl _)
      | (with_reducible exact LeO.none _)
      | (with_reducible refine LeO.ite ?_ ?_)
      | (with_reducible refine LeO.bind ?_ (fun _ => ?_))
      | exact ih0 _ _ _ _ _ _
      | exact tenterhookref01_Aligned.mono _ _
      | exact tenterhookref01_Shl.mono _ _ _
      | exact tenterhookref01_Shr.mono _ _ _
      | exact tenterhookref01_Ult.mono _ _ _
      | exact tenterhookref01_Within.mono _ _ _ _
      | exact LeO.none _
      | refine LeO.ite ?_ ?_
      | refine LeO.bind ?_ (fun _ => ?_)
theorem tenterhooklaw01_CellIs.mono : ∀ a0 a1 a2 a3 k, LeO (tenterhooklaw01_CellIs.f k a0 a1 a2 a3) (tenterhooklaw01_CellIs.f (k + 1) a0 a1 a2 a3) := by
  intro a0 a1 a2 a3 k
  have ih0 := tenterhooklaw01_CellIs.mono_l k
  unfold tenterhooklaw01_CellIs.f
  repeat' first
      | (with_reducible exact ih0 _ _ _ _ _ _)
      | (with_reducible exact tenterhookref01_Aligned.mono _ _)
      | (with_reducible exact tenterhookref01_Shl.mono _ _ _)
      | (with_reducible exact tenterhookref01_Shr.mono _ _ _)
      | (with_reducible exact tenterhookref01_Ult.mono _ _ _)
      | (with_reducible exact tenterhookref01_Within.mono _ _ _ _)
      | (with_reducible exact LeO.refl _)
      | (with_reducible exact LeO.none _)
      | (with_reducible refine LeO.ite ?_ ?_)
      | (with_reducible refine LeO.bind ?_ (fun _ => ?_))
      | exact ih0 _ _ _ _ _ _
      | exact tenterhookref01_Aligned.mono _ _
      | exact tenterhookref01_Shl.mono _ _ _
      | exact tenterhookref01_Shr.mono _ _ _
      | exact tenterhookref01_Ult.mono _ _ _
      | exact tenterhookref01_Within.mono _ _ _ _
      | exact LeO.none _
      | refine LeO.ite ?_ ?_
      | refine LeO.bind ?_ (fun _ => ?_)
set_option maxHeartbeats 8000000 in
set_option maxRecDepth 100000 in
theorem tenterhooklaw01_CellIs.calls (k : Nat) (a0 : Int) (a1 : Int) (a2 : Int) (a3 : Bool) (r : Bool) (w : World) (h : tenterhooklaw01_CellIs.f k a0 a1 a2 a3 = some r) :
    Calls Try.prog 9 #[.int .i64 a0, .int .i64 a1, .int .i64 a2, .bool a3] w fun e w' => e = .returned (.bool r) ∧ Below w.heap.size w w' := by
  have HB := Aside0.mk (Below.refl w.heap.size w)
  have H : ((tenterhooklaw01_awake.f).bind fun t142 => ((cell_Floor.f a0 a1).bind fun bt143 => ((tenterhookref01_Floor.f a0 a1).bind fun bt146 => ((cell_Symm.f a0 a1).bind fun bt149 => ((tenterhookref01_Symm.f a0 a1).bind fun bt152 => (if bt143.1 = bt146.1 then (if bt143.2.1 = bt146.2.1 then (if bt143.2.2 = bt146.2.2 then (if bt149.1 = bt152.1 then (if bt149.2.1 = bt152.2.1 then (tenterhooklaw01_CellIs.j0 k a0 a1 a2 a3 t142 (bt149.2.2 != bt152.2.2)) else (tenterhooklaw01_CellIs.j0 k a0 a1 a2 a3 t142 true)) else (tenterhooklaw01_CellIs.j0 k a0 a1 a2 a3 t142 true)) else (tenterhooklaw01_CellIs.j0 k a0 a1 a2 a3 t142 true)) else (tenterhooklaw01_CellIs.j0 k a0 a1 a2 a3 t142 true)) else (tenterhooklaw01_CellIs.j0 k a0 a1 a2 a3 t142 true))))))) = some r := h
  clear h
  replace H := Option.bind_eq_some_iff.mp H
  obtain ⟨t142, A50, H⟩ := H
  replace H : ((cell_Floor.f a0 a1).bind fun bt143 => ((tenterhookref01_Floor.f a0 a1).bind fun bt146 => ((cell_Symm.f a0 a1).bind fun bt149 => ((tenterhookref01_Symm.f a0 a1).bind fun bt152 => (if bt143.1 = bt146.1 then (if bt143.2.1 = bt146.2.1 then (if bt143.2.2 = bt146.2.2 then (if bt149.1 = bt152.1 then (if bt149.2.1 = bt152.2.1 then (tenterhooklaw01_CellIs.j0 k a0 a1 a2 a3 t142 (bt149.2.2 != bt152.2.2)) else (tenterhooklaw01_CellIs.j0 k a0 a1 a2 a3 t142 true)) else (tenterhooklaw01_CellIs.j0 k a0 a1 a2 a3 t142 true)) else (tenterhooklaw01_CellIs.j0 k a0 a1 a2 a3 t142 true)) else (tenterhooklaw01_CellIs.j0 k a0 a1 a2 a3 t142 true)) else (tenterhooklaw01_CellIs.j0 k a0 a1 a2 a3 t142 true)))))) = some r := H
  have A5 := Aside0.mk A50
  clear A50
  replace H := Option.bind_eq_some_iff.mp H
  obtain ⟨⟨t143, t144, t145⟩, A60, H⟩ := H
  replace H : ((tenterhookref01_Floor.f a0 a1).bind fun bt146 => ((cell_Symm.f a0 a1).bind fun bt149 => ((tenterhookref01_Symm.f a0 a1).bind fun bt152 => (if t143 = bt146.1 then (if t144 = bt146.2.1 then (if t145 = bt146.2.2 then (if bt149.1 = bt152.1 then (if bt149.2.1 = bt152.2.1 then (tenterhooklaw01_CellIs.j0 k a0 a1 a2 a3 t142 (bt149.2.2 != bt152.2.2)) else (tenterhooklaw01_CellIs.j0 k a0 a1 a2 a3 t142 true)) else (tenterhooklaw01_CellIs.j0 k a0 a1 a2 a3 t142 true)) else (tenterhooklaw01_CellIs.j0 k a0 a1 a2 a3 t142 true)) else (tenterhooklaw01_CellIs.j0 k a0 a1 a2 a3 t142 true)) else (tenterhooklaw01_CellIs.j0 k a0 a1 a2 a3 t142 true))))) = some r := H
  have A6 := Aside0.mk A60
  clear A60
  replace H := Option.bind_eq_some_iff.mp H
  obtain ⟨⟨t146, t147, t148⟩, A70, H⟩ := H
  replace H : ((cell_Symm.f a0 a1).bind fun bt149 => ((tenterhookref01_Symm.f a0 a1).bind fun bt152 => (if t143 = t146 then (if t144 = t147 then (if t145 = t148 then (if bt149.1 = bt152.1 then (if bt149.2.1 = bt152.2.1 then (tenterhooklaw01_CellIs.j0 k a0 a1 a2 a3 t142 (bt149.2.2 != bt152.2.2)) else (tenterhooklaw01_CellIs.j0 k a0 a1 a2 a3 t142 true)) else (tenterhooklaw01_CellIs.j0 k a0 a1 a2 a3 t142 true)) else (tenterhooklaw01_CellIs.j0 k a0 a1 a2 a3 t142 true)) else (tenterhooklaw01_CellIs.j0 k a0 a1 a2 a3 t142 true)) else (tenterhooklaw01_CellIs.j0 k a0 a1 a2 a3 t142 true)))) = some r := H
  have A7 := Aside0.mk A70
  clear A70
  replace H := Option.bind_eq_some_iff.mp H
  obtain ⟨⟨t149, t150, t151⟩, A80, H⟩ := H
  replace H : ((tenterhookref01_Symm.f a0 a1).bind fun bt152 => (if t143 = t146 then (if t144 = t147 then (if t145 = t148 then (if t149 = bt152.1 then (if t150 = bt152.2.1 then (tenterhooklaw01_CellIs.j0 k a0 a1 a2 a3 t142 (t151 != bt152.2.2)) else (tenterhooklaw01_CellIs.j0 k a0 a1 a2 a3 t142 true)) else (tenterhooklaw01_CellIs.j0 k a0 a1 a2 a3 t142 true)) else (tenterhooklaw01_CellIs.j0 k a0 a1 a2 a3 t142 true)) else (tenterhooklaw01_CellIs.j0 k a0 a1 a2 a3 t142 true)) else (tenterhooklaw01_CellIs.j0 k a0 a1 a2 a3 t142 true))) = some r := H
  have A8 := Aside0.mk A80
  clear A80
  replace H := Option.bind_eq_some_iff.mp H
  obtain ⟨⟨t152, t153, t154⟩, A90, H⟩ := H
  replace H : (if t143 = t146 then (if t144 = t147 then (if t145 = t148 then (if t149 = t152 then (if t150 = t153 then (tenterhooklaw01_CellIs.j0 k a0 a1 a2 a3 t142 (t151 != t154)) else (tenterhooklaw01_CellIs.j0 k a0 a1 a2 a3 t142 true)) else (tenterhooklaw01_CellIs.j0 k a0 a1 a2 a3 t142 true)) else (tenterhooklaw01_CellIs.j0 k a0 a1 a2 a3 t142 true)) else (tenterhooklaw01_CellIs.j0 k a0 a1 a2 a3 t142 true)) else (tenterhooklaw01_CellIs.j0 k a0 a1 a2 a3 t142 true)) = some r := H
  have A9 := Aside0.mk A90
  clear A90
  have HC10 := Aside0.mk H
  clear H
  go_enter Try.func9, Try.ntmps9
  go_upto_region 6 with (first | ((with_reducible refine gate_callee (f := 10) rfl ?_); refine goesL_ (some 22) rfl rfl Try.func10 (by kernel_rfl) rfl #[] rfl (by (try simp only [List.map_toArray, List.map_cons, List.map_nil]); first | done | rfl | (simp only [List.length_drop, List.length_take]; rfl)) ?_; (with_reducible refine (tenterhooklaw01_awake.calls  t142 _ A5.out).mono ?_); rintro e w' ⟨rfl, ⟨nd, rfl⟩⟩; refine ⟨_, rfl, ?_⟩) | ((with_reducible refine gate_callee (f := 11) rfl ?_); refine goesL_ (some 26) rfl rfl Try.func11 (by kernel_rfl) rfl #[.int .i64 a0, .int .i64 a1] rfl (by (try simp only [List.map_toArray, List.map_cons, List.map_nil]); first | done | rfl | (simp only [List.length_drop, List.length_take]; rfl)) ?_; (with_reducible refine (cell_Floor.calls a0 a1 t143 t144 t145 _ A6.out).mono ?_); rintro e w' ⟨rfl, ⟨nd, rfl⟩⟩; refine ⟨_, rfl, ?_⟩) | ((with_reducible refine gate_callee (f := 18) rfl ?_); refine goesL_ (some 33) rfl rfl Try.func18 (by kernel_rfl) rfl #[.int .i64 a0, .int .i64 a1] rfl (by (try simp only [List.map_toArray, List.map_cons, List.map_nil]); first | done | rfl | (simp only [List.length_drop, List.length_take]; rfl)) ?_; (with_reducible refine (tenterhookref01_Floor.calls a0 a1 t146 t147 t148 _ A7.out).mono ?_); rintro e w' ⟨rfl, ⟨nd, rfl⟩⟩; refine ⟨_, rfl, ?_⟩) | ((with_reducible refine gate_callee (f := 12) rfl ?_); refine goesL_ (some 40) rfl rfl Try.func12 (by kernel_rfl) rfl #[.int .i64 a0, .int .i64 a1] rfl (by (try simp only [List.map_toArray, List.map_cons, List.map_nil]); first | done | rfl | (simp only [List.length_drop, List.length_take]; rfl)) ?_; (with_reducible refine (cell_Symm.calls a0 a1 t149 t150 t151 _ A8.out).mono ?_); rintro e w' ⟨rfl, ⟨nd, rfl⟩⟩; refine ⟨_, rfl, ?_⟩) | ((with_reducible refine gate_callee (f := 19) rfl ?_); refine goesL_ (some 47) rfl rfl Try.func19 (by kernel_rfl) rfl #[.int .i64 a0, .int .i64 a1] rfl (by (try simp only [List.map_toArray, List.map_cons, List.map_nil]); first | done | rfl | (simp only [List.length_drop, List.length_take]; rfl)) ?_; (with_reducible refine (tenterhookref01_Symm.calls a0 a1 t152 t153 t154 _ A9.out).mono ?_); rintro e w' ⟨rfl, ⟨nd, rfl⟩⟩; refine ⟨_, rfl, ?_⟩))
  (try simp only [Act.put, List.setIfInBounds_toArray, List.set_cons_zero, List.set_cons_succ])
  go_cut [78] (fun v78 wc => ∃ (kq : Nat) (x78_9 : Bool), v78 = .bool x78_9 ∧ Aside0 (tenterhooklaw01_CellIs.j0 kq a0 a1 a2 a3 t142 x78_9 = some r) ∧ Aside0 (kq ≤ k) ∧ Aside0 (Below w.heap.size w wc))
  case first =>
    have H := HC10.out
    clear HC10
    by_cases c11 : t143 = t146
    · rw [if_pos c11] at H
      have c11b0 : (t143 == t146) = true := beq_iff_eq.mpr c11
      have c11b1 : (t143 != t146) = false := bne_eq_false_iff_eq.mpr c11
      clear c11
      (first | rw [c11b0] | (simp only [i64_w, i32_w]; rw [c11b0]) | skip)
      by_cases c12 : t144 = t147
      · rw [if_pos c12] at H
        have c12b0 : (t144 == t147) = true := beq_iff_eq.mpr c12
        have c12b1 : (t144 != t147) = false := bne_eq_false_iff_eq.mpr c12
        clear c12
        by_cases c13 : t145 = t148
        · rw [if_pos c13] at H
          have c13b0 : (t145 == t148) = true := beq_iff_eq.mpr c13
          have c13b1 : (t145 != t148) = false := bne_eq_false_iff_eq.mpr c13
          clear c13
          by_cases c14 : t149 = t152
          · rw [if_pos c14] at H
            have c14b0 : (t149 == t152) = true := beq_iff_eq.mpr c14
            have c14b1 : (t149 != t152) = false := bne_eq_false_iff_eq.mpr c14
            clear c14
            by_cases c15 : t150 = t153
            · rw [if_pos c15] at H
              have c15b0 : (t150 == t153) = true := beq_iff_eq.mpr c15
              have c15b1 : (t150 != t153) = false := bne_eq_false_iff_eq.mpr c15
              clear c15
              have H' := Aside0.mk H
              clear H
              go_wp2
              go_meet
              case rel => exact ⟨_, ((t151 != t154)), (by first | rfl | (simp; done) | (simp [*]; done)), H', ⟨by first | omega | exact Nat.le_refl _⟩, ⟨by repeat (first | (with_reducible first | exact HB.out | apply below_alloc | apply pw_below_drewN | apply below_drew1) | exact HB.out)⟩⟩
            · rw [if_neg c15] at H
              have c15b0 : (t150 == t153) = false := beq_eq_false_iff_ne.mpr c15
              have c15b1 : (t150 != t153) = true := bne_iff_ne.mpr c15
              have H' := Aside0.mk H
              clear H
              go_wp2
              go_meet
              case rel => exact ⟨_, (true), (by first | rfl | (simp; done) | (simp [*]; done)), H', ⟨by first | omega | exact Nat.le_refl _⟩, ⟨by repeat (first | (with_reducible first | exact HB.out | apply below_alloc | apply pw_below_drewN | apply below_drew1) | exact HB.out)⟩⟩
          · rw [if_neg c14] at H
            have c14b0 : (t149 == t152) = false := beq_eq_false_iff_ne.mpr c14
            have c14b1 : (t149 != t152) = true := bne_iff_ne.mpr c14
            have H' := Aside0.mk H
            clear H
            go_wp2
            go_meet
            case rel => exact ⟨_, (true), (by first | rfl | (simp; done) | (simp [*]; done)), H', ⟨by first | omega | exact Nat.le_refl _⟩, ⟨by repeat (first | (with_reducible first | exact HB.out | apply below_alloc | apply pw_below_drewN | apply below_drew1) | exact HB.out)⟩⟩
        · rw [if_neg c13] at H
          have c13b0 : (t145 == t148) = false := beq_eq_false_iff_ne.mpr c13
          have c13b1 : (t145 != t148) = true := bne_iff_ne.mpr c13
          have H' := Aside0.mk H
          clear H
          go_wp2
          go_meet
          case rel => exact ⟨_, (true), (by first | rfl | (simp; done) | (simp [*]; done)), H', ⟨by first | omega | exact Nat.le_refl _⟩, ⟨by repeat (first | (with_reducible first | exact HB.out | apply below_alloc | apply pw_below_drewN | apply below_drew1) | exact HB.out)⟩⟩
      · rw [if_neg c12] at H
        have c12b0 : (t144 == t147) = false := beq_eq_false_iff_ne.mpr c12
        have c12b1 : (t144 != t147) = true := bne_iff_ne.mpr c12
        have H' := Aside0.mk H
        clear H
        go_wp2
        go_meet
        case rel => exact ⟨_, (true), (by first | rfl | (simp; done) | (simp [*]; done)), H', ⟨by first | omega | exact Nat.le_refl _⟩, ⟨by repeat (first | (with_reducible first | exact HB.out | apply below_alloc | apply pw_below_drewN | apply below_drew1) | exact HB.out)⟩⟩
    · rw [if_neg c11] at H
      have c11b0 : (t143 == t146) = false := beq_eq_false_iff_ne.mpr c11
      have c11b1 : (t143 != t146) = true := bne_iff_ne.mpr c11
      (first | rw [c11b0] | (simp only [i64_w, i32_w]; rw [c11b0]) | skip)
      have H' := Aside0.mk H
      clear H
      go_wp2
      go_meet
      case rel => exact ⟨_, (true), (by first | rfl | (simp; done) | (simp [*]; done)), H', ⟨by first | omega | exact Nat.le_refl _⟩, ⟨by repeat (first | (with_reducible first | exact HB.out | apply below_alloc | apply pw_below_drewN | apply below_drew1) | exact HB.out)⟩⟩
  case rest =>
    clear HC10
    try clear c1
    try clear p2
    try clear c9
    try clear c10
    try clear c11
    try clear c11b0
    try clear c11b1
    try clear c12
    try clear c12b0
    try clear c12b1
    try clear c13
    try clear c13b0
    try clear c13b1
    try clear c14
    try clear c14b0
    try clear c14b1
    try clear c15
    try clear c15b0
    try clear c15b1
    obtain ⟨kq, x78_9, rfl, HA, HJ9, HB⟩ := hcut
    cases kq with
    | zero => exact absurd HA.out (by simp [tenterhooklaw01_CellIs.j0])
    | succ kj9 =>
      have H := HA.out
      clear HA
      simp only [tenterhooklaw01_CellIs.j0] at H
      by_cases c16 : x78_9 = true
      · subst c16
        have H1 : (some false) = some r := by rw [if_pos rfl] at H; exact H
        clear H
        have H := H1
        clear H1
        obtain rfl := Option.some.inj H
        go_wp2
        go_ret
        exact ⟨by first | rfl | (simp [errW_none, errW_some] <;> rfl) | (simp [*, errW_none, errW_some] <;> rfl), by repeat (first | (with_reducible first | exact HB.out | apply below_alloc | apply pw_below_drewN | apply below_drew1) | exact HB.out)⟩
      · replace c16 := Bool.eq_false_iff.mpr c16
        subst c16
        have H1 : (if t142 = true then ((cell_Flag.f a3).bind fun t155 => ((tenterhookref01_Flag.f a3).bind fun t156 => (if t155 = t156 then ((cell_Ult.f a0 a1).bind fun t157 => ((tenterhookref01_Ult.f kj9 a0 a1).bind fun t158 => (if (t157 == t158) = true then ((cell_Shl.f a0 a2).bind fun t159 => ((tenterhookref01_Shl.f kj9 a0 a2).bind fun t160 => (if t159 = t160 then ((cell_Shr.f a0 a2).bind fun t161 => ((tenterhookref01_Shr.f kj9 a0 a2).bind fun t162 => (if t161 = t162 then ((cell_Within.f a2 a0 a1).bind fun t163 => ((tenterhookref01_Within.f kj9 a2 a0 a1).bind fun t164 => (if (t163 == t164) = true then ((cell_Aligned.f a0).bind fun t165 => ((tenterhookref01_Aligned.f kj9 a0).bind fun t166 => (some (t165 == t166)))) else (some false)))) else (some false)))) else (some false)))) else (some false)))) else (some false)))) else (some false)) = some r := by rw [if_neg (show ¬ (false = true) by decide)] at H; exact H
        clear H
        have H := H1
        clear H1
        by_cases c17 : t142 = true
        · subst c17
          have H1 : ((cell_Flag.f a3).bind fun t155 => ((tenterhookref01_Flag.f a3).bind fun t156 => (if t155 = t156 then ((cell_Ult.f a0 a1).bind fun t157 => ((tenterhookref01_Ult.f kj9 a0 a1).bind fun t158 => (if (t157 == t158) = true then ((cell_Shl.f a0 a2).bind fun t159 => ((tenterhookref01_Shl.f kj9 a0 a2).bind fun t160 => (if t159 = t160 then ((cell_Shr.f a0 a2).bind fun t161 => ((tenterhookref01_Shr.f kj9 a0 a2).bind fun t162 => (if t161 = t162 then ((cell_Within.f a2 a0 a1).bind fun t163 => ((tenterhookref01_Within.f kj9 a2 a0 a1).bind fun t164 => (if (t163 == t164) = true then ((cell_Aligned.f a0).bind fun t165 => ((tenterhookref01_Aligned.f kj9 a0).bind fun t166 => (some (t165 == t166)))) else (some false)))) else (some false)))) else (some false)))) else (some false)))) else (some false)))) = some r := by rw [if_pos rfl] at H; exact H
          clear H
          have H := H1
          clear H1
          replace H := Option.bind_eq_some_iff.mp H
          obtain ⟨t155, A180, H⟩ := H
          replace H : ((tenterhookref01_Flag.f a3).bind fun t156 => (if t155 = t156 then ((cell_Ult.f a0 a1).bind fun t157 => ((tenterhookref01_Ult.f kj9 a0 a1).bind fun t158 => (if (t157 == t158) = true then ((cell_Shl.f a0 a2).bind fun t159 => ((tenterhookref01_Shl.f kj9 a0 a2).bind fun t160 => (if t159 = t160 then ((cell_Shr.f a0 a2).bind fun t161 => ((tenterhookref01_Shr.f kj9 a0 a2).bind fun t162 => (if t161 = t162 then ((cell_Within.f a2 a0 a1).bind fun t163 => ((tenterhookref01_Within.f kj9 a2 a0 a1).bind fun t164 => (if (t163 == t164) = true then ((cell_Aligned.f a0).bind fun t165 => ((tenterhookref01_Aligned.f kj9 a0).bind fun t166 => (some (t165 == t166)))) else (some false)))) else (some false)))) else (some false)))) else (some false)))) else (some false))) = some r := H
          have A18 := Aside0.mk A180
          clear A180
          replace H := Option.bind_eq_some_iff.mp H
          obtain ⟨t156, A190, H⟩ := H
          replace H : (if t155 = t156 then ((cell_Ult.f a0 a1).bind fun t157 => ((tenterhookref01_Ult.f kj9 a0 a1).bind fun t158 => (if (t157 == t158) = true then ((cell_Shl.f a0 a2).bind fun t159 => ((tenterhookref01_Shl.f kj9 a0 a2).bind fun t160 => (if t159 = t160 then ((cell_Shr.f a0 a2).bind fun t161 => ((tenterhookref01_Shr.f kj9 a0 a2).bind fun t162 => (if t161 = t162 then ((cell_Within.f a2 a0 a1).bind fun t163 => ((tenterhookref01_Within.f kj9 a2 a0 a1).bind fun t164 => (if (t163 == t164) = true then ((cell_Aligned.f a0).bind fun t165 => ((tenterhookref01_Aligned.f kj9 a0).bind fun t166 => (some (t165 == t166)))) else (some false)))) else (some false)))) else (some false)))) else (some false)))) else (some false)) = some r := H
          have A19 := Aside0.mk A190
          clear A190
          by_cases c20 : t155 = t156
          · rw [if_pos c20] at H
            have c20b0 : (t155 == t156) = true := beq_iff_eq.mpr c20
            have c20b1 : (t155 != t156) = false := bne_eq_false_iff_eq.mpr c20
            clear c20
            replace H := Option.bind_eq_some_iff.mp H
            obtain ⟨t157, A210, H⟩ := H
            replace H : ((tenterhookref01_Ult.f kj9 a0 a1).bind fun t158 => (if (t157 == t158) = true then ((cell_Shl.f a0 a2).bind fun t159 => ((tenterhookref01_Shl.f kj9 a0 a2).bind fun t160 => (if t159 = t160 then ((cell_Shr.f a0 a2).bind fun t161 => ((tenterhookref01_Shr.f kj9 a0 a2).bind fun t162 => (if t161 = t162 then ((cell_Within.f a2 a0 a1).bind fun t163 => ((tenterhookref01_Within.f kj9 a2 a0 a1).bind fun t164 => (if (t163 == t164) = true then ((cell_Aligned.f a0).bind fun t165 => ((tenterhookref01_Aligned.f kj9 a0).bind fun t166 => (some (t165 == t166)))) else (some false)))) else (some false)))) else (some false)))) else (some false))) = some r := H
            have A21 := Aside0.mk A210
            clear A210
            replace H := Option.bind_eq_some_iff.mp H
            obtain ⟨t158, A220, H⟩ := H
            replace H : (if (t157 == t158) = true then ((cell_Shl.f a0 a2).bind fun t159 => ((tenterhookref01_Shl.f kj9 a0 a2).bind fun t160 => (if t159 = t160 then ((cell_Shr.f a0 a2).bind fun t161 => ((tenterhookref01_Shr.f kj9 a0 a2).bind fun t162 => (if t161 = t162 then ((cell_Within.f a2 a0 a1).bind fun t163 => ((tenterhookref01_Within.f kj9 a2 a0 a1).bind fun t164 => (if (t163 == t164) = true then ((cell_Aligned.f a0).bind fun t165 => ((tenterhookref01_Aligned.f kj9 a0).bind fun t166 => (some (t165 == t166)))) else (some false)))) else (some false)))) else (some false)))) else (some false)) = some r := H
            have A22 := Aside0.mk A220
            clear A220
            by_cases c23 : (t157 == t158) = true
            · rw [if_pos c23] at H
              have c23b0 : (t157 == t158) = true := c23
              (try (have c23b1 : decide (t157 = t158) = true := by simpa using c23))
              (try (have c23b2 : (t157 == t158) = true := by simpa using c23))
              clear c23
              replace H := Option.bind_eq_some_iff.mp H
              obtain ⟨t159, A240, H⟩ := H
              replace H : ((tenterhookref01_Shl.f kj9 a0 a2).bind fun t160 => (if t159 = t160 then ((cell_Shr.f a0 a2).bind fun t161 => ((tenterhookref01_Shr.f kj9 a0 a2).bind fun t162 => (if t161 = t162 then ((cell_Within.f a2 a0 a1).bind fun t163 => ((tenterhookref01_Within.f kj9 a2 a0 a1).bind fun t164 => (if (t163 == t164) = true then ((cell_Aligned.f a0).bind fun t165 => ((tenterhookref01_Aligned.f kj9 a0).bind fun t166 => (some (t165 == t166)))) else (some false)))) else (some false)))) else (some false))) = some r := H
              have A24 := Aside0.mk A240
              clear A240
              replace H := Option.bind_eq_some_iff.mp H
              obtain ⟨t160, A250, H⟩ := H
              replace H : (if t159 = t160 then ((cell_Shr.f a0 a2).bind fun t161 => ((tenterhookref01_Shr.f kj9 a0 a2).bind fun t162 => (if t161 = t162 then ((cell_Within.f a2 a0 a1).bind fun t163 => ((tenterhookref01_Within.f kj9 a2 a0 a1).bind fun t164 => (if (t163 == t164) = true then ((cell_Aligned.f a0).bind fun t165 => ((tenterhookref01_Aligned.f kj9 a0).bind fun t166 => (some (t165 == t166)))) else (some false)))) else (some false)))) else (some false)) = some r := H
              have A25 := Aside0.mk A250
              clear A250
              by_cases c26 : t159 = t160
              · rw [if_pos c26] at H
                have c26b0 : (t159 == t160) = true := beq_iff_eq.mpr c26
                have c26b1 : (t159 != t160) = false := bne_eq_false_iff_eq.mpr c26
                clear c26
                replace H := Option.bind_eq_some_iff.mp H
                obtain ⟨t161, A270, H⟩ := H
                replace H : ((tenterhookref01_Shr.f kj9 a0 a2).bind fun t162 => (if t161 = t162 then ((cell_Within.f a2 a0 a1).bind fun t163 => ((tenterhookref01_Within.f kj9 a2 a0 a1).bind fun t164 => (if (t163 == t164) = true then ((cell_Aligned.f a0).bind fun t165 => ((tenterhookref01_Aligned.f kj9 a0).bind fun t166 => (some (t165 == t166)))) else (some false)))) else (some false))) = some r := H
                have A27 := Aside0.mk A270
                clear A270
                replace H := Option.bind_eq_some_iff.mp H
                obtain ⟨t162, A280, H⟩ := H
                replace H : (if t161 = t162 then ((cell_Within.f a2 a0 a1).bind fun t163 => ((tenterhookref01_Within.f kj9 a2 a0 a1).bind fun t164 => (if (t163 == t164) = true then ((cell_Aligned.f a0).bind fun t165 => ((tenterhookref01_Aligned.f kj9 a0).bind fun t166 => (some (t165 == t166)))) else (some false)))) else (some false)) = some r := H
                have A28 := Aside0.mk A280
                clear A280
                by_cases c29 : t161 = t162
                · rw [if_pos c29] at H
                  have c29b0 : (t161 == t162) = true := beq_iff_eq.mpr c29
                  have c29b1 : (t161 != t162) = false := bne_eq_false_iff_eq.mpr c29
                  clear c29
                  replace H := Option.bind_eq_some_iff.mp H
                  obtain ⟨t163, A300, H⟩ := H
                  replace H : ((tenterhookref01_Within.f kj9 a2 a0 a1).bind fun t164 => (if (t163 == t164) = true then ((cell_Aligned.f a0).bind fun t165 => ((tenterhookref01_Aligned.f kj9 a0).bind fun t166 => (some (t165 == t166)))) else (some false))) = some r := H
                  have A30 := Aside0.mk A300
                  clear A300
                  replace H := Option.bind_eq_some_iff.mp H
                  obtain ⟨t164, A310, H⟩ := H
                  replace H : (if (t163 == t164) = true then ((cell_Aligned.f a0).bind fun t165 => ((tenterhookref01_Aligned.f kj9 a0).bind fun t166 => (some (t165 == t166)))) else (some false)) = some r := H
                  have A31 := Aside0.mk A310
                  clear A310
                  by_cases c32 : (t163 == t164) = true
                  · rw [if_pos c32] at H
                    have c32b0 : (t163 == t164) = true := c32
                    (try (have c32b1 : decide (t163 = t164) = true := by simpa using c32))
                    (try (have c32b2 : (t163 == t164) = true := by simpa using c32))
                    clear c32
                    replace H := Option.bind_eq_some_iff.mp H
                    obtain ⟨t165, A330, H⟩ := H
                    replace H : ((tenterhookref01_Aligned.f kj9 a0).bind fun t166 => (some (t165 == t166))) = some r := H
                    have A33 := Aside0.mk A330
                    clear A330
                    replace H := Option.bind_eq_some_iff.mp H
                    obtain ⟨t166, A340, H⟩ := H
                    replace H : (some (t165 == t166)) = some r := H
                    have A34 := Aside0.mk A340
                    clear A340
                    obtain rfl := Option.some.inj H
                    go_wp2_with (first | (go_at_call 20; (with_reducible refine (cell_Flag.calls a3 t155 _ A18.out).mono ?_); rintro e w' ⟨rfl, ⟨nd, rfl⟩⟩) | (go_at_call 21; (with_reducible refine (tenterhookref01_Flag.calls a3 t156 _ A19.out).mono ?_); rintro e w' ⟨rfl, ⟨nd, rfl⟩⟩) | (go_at_call 14; (with_reducible refine (cell_Ult.calls a0 a1 t157 _ A21.out).mono ?_); rintro e w' ⟨rfl, ⟨nd, rfl⟩⟩) | (go_at_call 22; (with_reducible refine (tenterhookref01_Ult.calls kj9 a0 a1 t158 _ A22.out).mono ?_); rintro e w' ⟨rfl, ⟨nd, rfl⟩⟩) | (go_at_call 17; (with_reducible refine (cell_Shl.calls a0 a2 t159 _ A24.out).mono ?_); rintro e w' ⟨rfl, ⟨nd, rfl⟩⟩) | (go_at_call 23; (with_reducible refine (tenterhookref01_Shl.calls kj9 a0 a2 t160 _ A25.out).mono ?_); rintro e w35 ⟨rfl, hb⟩; have n0_ := Aside0.mk (below_step (by repeat (first | (with_reducible first | exact HB.out | apply below_alloc | apply pw_below_drewN | apply below_drew1) | exact HB.out)) hb); clear HB; have HB := n0_; clear n0_; (try clear hb); (try clear hb2); (try clear hk); (try clear hi)) | (go_at_call 16; (with_reducible refine (cell_Shr.calls a0 a2 t161 _ A27.out).mono ?_); rintro e w' ⟨rfl, ⟨nd, rfl⟩⟩) | (go_at_call 24; (with_reducible refine (tenterhookref01_Shr.calls kj9 a0 a2 t162 _ A28.out).mono ?_); rintro e w36 ⟨rfl, hb⟩; have n0_ := Aside0.mk (below_step (by repeat (first | (with_reducible first | exact HB.out | apply below_alloc | apply pw_below_drewN | apply below_drew1) | exact HB.out)) hb); clear HB; have HB := n0_; clear n0_; (try clear hb); (try clear hb2); (try clear hk); (try clear hi)) | (go_at_call 15; (with_reducible refine (cell_Within.calls a2 a0 a1 t163 _ A30.out).mono ?_); rintro e w' ⟨rfl, ⟨nd, rfl⟩⟩) | (go_at_call 25; (with_reducible refine (tenterhookref01_Within.calls kj9 a2 a0 a1 t164 _ A31.out).mono ?_); rintro e w' ⟨rfl, ⟨nd, rfl⟩⟩) | (go_at_call 13; (with_reducible refine (cell_Aligned.calls a0 t165 _ A33.out).mono ?_); rintro e w' ⟨rfl, ⟨nd, rfl⟩⟩) | (go_at_call 26; (with_reducible refine (tenterhookref01_Aligned.calls kj9 a0 t166 _ A34.out).mono ?_); rintro e w' ⟨rfl, ⟨nd, rfl⟩⟩))
                    go_ret
                    exact ⟨by first | rfl | (simp [errW_none, errW_some] <;> rfl) | (simp [*, errW_none, errW_some] <;> rfl), by repeat (first | (with_reducible first | exact HB.out | apply below_alloc | apply pw_below_drewN | apply below_drew1) | exact HB.out)⟩
                  · rw [if_neg c32] at H
                    have c32b0 : (t163 == t164) = false := by simpa using c32
                    (try (have c32b1 : decide (t163 = t164) = false := by simpa using c32))
                    (try (have c32b2 : (t163 == t164) = false := by simpa using c32))
                    (try (have c32b3 : ¬ (t163 = t164) := by simpa using c32))
                    clear c32
                    obtain rfl := Option.some.inj H
                    go_wp2_with (first | (go_at_call 20; (with_reducible refine (cell_Flag.calls a3 t155 _ A18.out).mono ?_); rintro e w' ⟨rfl, ⟨nd, rfl⟩⟩) | (go_at_call 21; (with_reducible refine (tenterhookref01_Flag.calls a3 t156 _ A19.out).mono ?_); rintro e w' ⟨rfl, ⟨nd, rfl⟩⟩) | (go_at_call 14; (with_reducible refine (cell_Ult.calls a0 a1 t157 _ A21.out).mono ?_); rintro e w' ⟨rfl, ⟨nd, rfl⟩⟩) | (go_at_call 22; (with_reducible refine (tenterhookref01_Ult.calls kj9 a0 a1 t158 _ A22.out).mono ?_); rintro e w' ⟨rfl, ⟨nd, rfl⟩⟩) | (go_at_call 17; (with_reducible refine (cell_Shl.calls a0 a2 t159 _ A24.out).mono ?_); rintro e w' ⟨rfl, ⟨nd, rfl⟩⟩) | (go_at_call 23; (with_reducible refine (tenterhookref01_Shl.calls kj9 a0 a2 t160 _ A25.out).mono ?_); rintro e w37 ⟨rfl, hb⟩; have n0_ := Aside0.mk (below_step (by repeat (first | (with_reducible first | exact HB.out | apply below_alloc | apply pw_below_drewN | apply below_drew1) | exact HB.out)) hb); clear HB; have HB := n0_; clear n0_; (try clear hb); (try clear hb2); (try clear hk); (try clear hi)) | (go_at_call 16; (with_reducible refine (cell_Shr.calls a0 a2 t161 _ A27.out).mono ?_); rintro e w' ⟨rfl, ⟨nd, rfl⟩⟩) | (go_at_call 24; (with_reducible refine (tenterhookref01_Shr.calls kj9 a0 a2 t162 _ A28.out).mono ?_); rintro e w38 ⟨rfl, hb⟩; have n0_ := Aside0.mk (below_step (by repeat (first | (with_reducible first | exact HB.out | apply below_alloc | apply pw_below_drewN | apply below_drew1) | exact HB.out)) hb); clear HB; have HB := n0_; clear n0_; (try clear hb); (try clear hb2); (try clear hk); (try clear hi)) | (go_at_call 15; (with_reducible refine (cell_Within.calls a2 a0 a1 t163 _ A30.out).mono ?_); rintro e w' ⟨rfl, ⟨nd, rfl⟩⟩) | (go_at_call 25; (with_reducible refine (tenterhookref01_Within.calls kj9 a2 a0 a1 t164 _ A31.out).mono ?_); rintro e w' ⟨rfl, ⟨nd, rfl⟩⟩))
                    go_ret
                    exact ⟨by first | rfl | (simp [errW_none, errW_some] <;> rfl) | (simp [*, errW_none, errW_some] <;> rfl), by repeat (first | (with_reducible first | exact HB.out | apply below_alloc | apply pw_below_drewN | apply below_drew1) | exact HB.out)⟩
                · rw [if_neg c29] at H
                  have c29b0 : (t161 == t162) = false := beq_eq_false_iff_ne.mpr c29
                  have c29b1 : (t161 != t162) = true := bne_iff_ne.mpr c29
                  obtain rfl := Option.some.inj H
                  go_wp2_with (first | (go_at_call 20; (with_reducible refine (cell_Flag.calls a3 t155 _ A18.out).mono ?_); rintro e w' ⟨rfl, ⟨nd, rfl⟩⟩) | (go_at_call 21; (with_reducible refine (tenterhookref01_Flag.calls a3 t156 _ A19.out).mono ?_); rintro e w' ⟨rfl, ⟨nd, rfl⟩⟩) | (go_at_call 14; (with_reducible refine (cell_Ult.calls a0 a1 t157 _ A21.out).mono ?_); rintro e w' ⟨rfl, ⟨nd, rfl⟩⟩) | (go_at_call 22; (with_reducible refine (tenterhookref01_Ult.calls kj9 a0 a1 t158 _ A22.out).mono ?_); rintro e w' ⟨rfl, ⟨nd, rfl⟩⟩) | (go_at_call 17; (with_reducible refine (cell_Shl.calls a0 a2 t159 _ A24.out).mono ?_); rintro e w' ⟨rfl, ⟨nd, rfl⟩⟩) | (go_at_call 23; (with_reducible refine (tenterhookref01_Shl.calls kj9 a0 a2 t160 _ A25.out).mono ?_); rintro e w39 ⟨rfl, hb⟩; have n0_ := Aside0.mk (below_step (by repeat (first | (with_reducible first | exact HB.out | apply below_alloc | apply pw_below_drewN | apply below_drew1) | exact HB.out)) hb); clear HB; have HB := n0_; clear n0_; (try clear hb); (try clear hb2); (try clear hk); (try clear hi)) | (go_at_call 16; (with_reducible refine (cell_Shr.calls a0 a2 t161 _ A27.out).mono ?_); rintro e w' ⟨rfl, ⟨nd, rfl⟩⟩) | (go_at_call 24; (with_reducible refine (tenterhookref01_Shr.calls kj9 a0 a2 t162 _ A28.out).mono ?_); rintro e w40 ⟨rfl, hb⟩; have n0_ := Aside0.mk (below_step (by repeat (first | (with_reducible first | exact HB.out | apply below_alloc | apply pw_below_drewN | apply below_drew1) | exact HB.out)) hb); clear HB; have HB := n0_; clear n0_; (try clear hb); (try clear hb2); (try clear hk); (try clear hi)))
                  go_ret
                  exact ⟨by first | rfl | (simp [errW_none, errW_some] <;> rfl) | (simp [*, errW_none, errW_some] <;> rfl), by repeat (first | (with_reducible first | exact HB.out | apply below_alloc | apply pw_below_drewN | apply below_drew1) | exact HB.out)⟩
              · rw [if_neg c26] at H
                have c26b0 : (t159 == t160) = false := beq_eq_false_iff_ne.mpr c26
                have c26b1 : (t159 != t160) = true := bne_iff_ne.mpr c26
                obtain rfl := Option.some.inj H
                go_wp2_with (first | (go_at_call 20; (with_reducible refine (cell_Flag.calls a3 t155 _ A18.out).mono ?_); rintro e w' ⟨rfl, ⟨nd, rfl⟩⟩) | (go_at_call 21; (with_reducible refine (tenterhookref01_Flag.calls a3 t156 _ A19.out).mono ?_); rintro e w' ⟨rfl, ⟨nd, rfl⟩⟩) | (go_at_call 14; (with_reducible refine (cell_Ult.calls a0 a1 t157 _ A21.out).mono ?_); rintro e w' ⟨rfl, ⟨nd, rfl⟩⟩) | (go_at_call 22; (with_reducible refine (tenterhookref01_Ult.calls kj9 a0 a1 t158 _ A22.out).mono ?_); rintro e w' ⟨rfl, ⟨nd, rfl⟩⟩) | (go_at_call 17; (with_reducible refine (cell_Shl.calls a0 a2 t159 _ A24.out).mono ?_); rintro e w' ⟨rfl, ⟨nd, rfl⟩⟩) | (go_at_call 23; (with_reducible refine (tenterhookref01_Shl.calls kj9 a0 a2 t160 _ A25.out).mono ?_); rintro e w41 ⟨rfl, hb⟩; have n0_ := Aside0.mk (below_step (by repeat (first | (with_reducible first | exact HB.out | apply below_alloc | apply pw_below_drewN | apply below_drew1) | exact HB.out)) hb); clear HB; have HB := n0_; clear n0_; (try clear hb); (try clear hb2); (try clear hk); (try clear hi)))
                go_ret
                exact ⟨by first | rfl | (simp [errW_none, errW_some] <;> rfl) | (simp [*, errW_none, errW_some] <;> rfl), by repeat (first | (with_reducible first | exact HB.out | apply below_alloc | apply pw_below_drewN | apply below_drew1) | exact HB.out)⟩
            · rw [if_neg c23] at H
              have c23b0 : (t157 == t158) = false := by simpa using c23
              (try (have c23b1 : decide (t157 = t158) = false := by simpa using c23))
              (try (have c23b2 : (t157 == t158) = false := by simpa using c23))
              (try (have c23b3 : ¬ (t157 = t158) := by simpa using c23))
              clear c23
              obtain rfl := Option.some.inj H
              go_wp2_with (first | (go_at_call 20; (with_reducible refine (cell_Flag.calls a3 t155 _ A18.out).mono ?_); rintro e w' ⟨rfl, ⟨nd, rfl⟩⟩) | (go_at_call 21; (with_reducible refine (tenterhookref01_Flag.calls a3 t156 _ A19.out).mono ?_); rintro e w' ⟨rfl, ⟨nd, rfl⟩⟩) | (go_at_call 14; (with_reducible refine (cell_Ult.calls a0 a1 t157 _ A21.out).mono ?_); rintro e w' ⟨rfl, ⟨nd, rfl⟩⟩) | (go_at_call 22; (with_reducible refine (tenterhookref01_Ult.calls kj9 a0 a1 t158 _ A22.out).mono ?_); rintro e w' ⟨rfl, ⟨nd, rfl⟩⟩))
              go_ret
              exact ⟨by first | rfl | (simp [errW_none, errW_some] <;> rfl) | (simp [*, errW_none, errW_some] <;> rfl), by repeat (first | (with_reducible first | exact HB.out | apply below_alloc | apply pw_below_drewN | apply below_drew1) | exact HB.out)⟩
          · rw [if_neg c20] at H
            have c20b0 : (t155 == t156) = false := beq_eq_false_iff_ne.mpr c20
            have c20b1 : (t155 != t156) = true := bne_iff_ne.mpr c20
            obtain rfl := Option.some.inj H
            go_wp2_with (first | (go_at_call 20; (with_reducible refine (cell_Flag.calls a3 t155 _ A18.out).mono ?_); rintro e w' ⟨rfl, ⟨nd, rfl⟩⟩) | (go_at_call 21; (with_reducible refine (tenterhookref01_Flag.calls a3 t156 _ A19.out).mono ?_); rintro e w' ⟨rfl, ⟨nd, rfl⟩⟩))
            go_ret
            exact ⟨by first | rfl | (simp [errW_none, errW_some] <;> rfl) | (simp [*, errW_none, errW_some] <;> rfl), by repeat (first | (with_reducible first | exact HB.out | apply below_alloc | apply pw_below_drewN | apply below_drew1) | exact HB.out)⟩
        · replace c17 := Bool.eq_false_iff.mpr c17
          subst c17
          have H1 : (some false) = some r := by rw [if_neg (show ¬ (false = true) by decide)] at H; exact H
          clear H
          have H := H1
          clear H1
          obtain rfl := Option.some.inj H
          go_wp2
          go_ret
          exact ⟨by first | rfl | (simp [errW_none, errW_some] <;> rfl) | (simp [*, errW_none, errW_some] <;> rfl), by repeat (first | (with_reducible first | exact HB.out | apply below_alloc | apply pw_below_drewN | apply below_drew1) | exact HB.out)⟩

/-- THE ONE PURE STATEMENT of tenterhooklaw01_CellIs: yours. -/
def tenterhooklaw01_CellIs.Pure : Prop := ∀ (a0 : Int) (a1 : Int) (a2 : Int) (a3 : Bool), (Lit.int .i64 a0).wf = true → (Lit.int .i64 a1).wf = true → (Lit.int .i64 a2).wf = true → ∃ k, tenterhooklaw01_CellIs.f k a0 a1 a2 a3 = some true
theorem tenterhooklaw01_CellIs.walk (P : tenterhooklaw01_CellIs.Pure) (a0 : Int) (a1 : Int) (a2 : Int) (a3 : Bool) (w : World) (w0 : (Lit.int .i64 a0).wf = true) (w1 : (Lit.int .i64 a1).wf = true) (w2 : (Lit.int .i64 a2).wf = true) :
    Calls Try.prog 9 #[.int .i64 a0, .int .i64 a1, .int .i64 a2, .bool a3] w fun e w' => e = .returned (.bool true) ∧ Below w.heap.size w w' := by
  obtain ⟨k, h⟩ := P a0 a1 a2 a3 w0 w1 w2
  refine (tenterhooklaw01_CellIs.calls k a0 a1 a2 a3 true w h).mono ?_
  rintro e w' ⟨rfl, hd⟩
  exact ⟨rfl, hd⟩

end Go.Proofs.Ytmgijoanhgdlbaa.PCellIs
