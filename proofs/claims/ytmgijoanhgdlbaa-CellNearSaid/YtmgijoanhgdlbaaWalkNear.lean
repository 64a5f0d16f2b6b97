/- One more than what is left is within: the walk of CellNear, for all whole numbers of 64 bits. No condition. -/
import Derived.Test.YtmgijoanhgdlbaaTot
namespace Go.Proofs.Ytmgijoanhgdlbaa.NearWalk
open Go.RowKit Go.Proofs.YtmgijoanhgdlbaaW.PrintWords Go.Proofs.YtmgijoanhgdlbaaW.PrintLast Go.Proofs.YtmgijoanhgdlbaaW.PrintMore Go.Proofs.Ytmgijoanhgdlbaa.Arith Go.Proofs.Ytmgijoanhgdlbaa.Pure.IsLaw Go.Proofs.Ytmgijoanhgdlbaa.Tot
set_option linter.unusedSimpArgs false

set_option maxHeartbeats 4000000 in
set_option maxRecDepth 100000 in
theorem walk_by (n m d a s : Int) (w : World) (hd : Go.bits .and .i64 m 16777215 = d) (ha : Go.bits .and .i64 n 1099511627775 = a) (d0 : 0 ≤ d) (d1 : d < 16777216) (a0 : 0 ≤ a) (a1 : a < 1099511627776)
    (hs : wrap64 (n + d) = s) (z : Bool) (hz : (d == 0) = z) (hz' : decide (0 < d) = !z) (h1 : inV n n s = !z) (h2 : inV s n s = false) (h3 : z = false → inV (wrap64 (s - 1)) n s = true) (h4 : decide (alV a ≤ alV (a + d)) = true) (h5 : (alV (a + 8) == wrap64 (alV a + 8)) = true) :
    Calls Try.prog 8 #[.int .i64 n, .int .i64 m] w fun e w' => e = .returned (.bool true) ∧ Below w.heap.size w w' := by
  have hz2 : (d != 0) = !z := by simp only [bne, hz]
  cases z <;> simp only [Bool.not_true, Bool.not_false, forall_const, false_implies, Bool.true_eq_false] at hz' h1 h3 hz2
  all_goals
    go_enter Try.func8, Try.ntmps8
    go_wp2_with (first | (go_at_call 10; (with_reducible refine (awake_call _).mono ?_); rintro e w' ⟨rfl, ⟨nd, rfl⟩⟩) | (go_at_call 13; (with_reducible refine (aligned_call _ _).mono ?_); rintro e w' ⟨rfl, ⟨nd, rfl⟩⟩) | (go_at_call 15; (with_reducible refine (within_call _ _ _ _).mono ?_); rintro e w' ⟨rfl, ⟨nd, rfl⟩⟩))
    go_ret
    exact ⟨by first | rfl | (simp; done) | (simp [*]; done), by repeat (first | exact Below.refl _ _ | apply pw_below_drewN)⟩

theorem un_wrap (n : Int) : ((un (wrap64 n) : Nat) : Int) = n % 18446744073709551616 := by rw [un_cast]; unfold wrap64; omega
/-- The law, walked. -/
theorem walk (n m : Int) (w : World) (h0 : (Lit.int .i64 n).wf = true) (h1 : (Lit.int .i64 m).wf = true) :
    Calls Try.prog 8 #[.int .i64 n, .int .i64 m] w fun e w' => e = .returned (.bool true) ∧ Below w.heap.size w w' := by
  have hn := wf64 h0
  have hm := wf64 h1
  have hd := and24 m
  have ha := and40 n
  generalize m % 16777216 = d at *
  generalize n % 1099511627776 = a at *
  have d0 : 0 ≤ d ∧ d < 16777216 := by rw [← hd, and24]; omega
  have a0 : 0 ≤ a ∧ a < 1099511627776 := by rw [← ha, and40]; omega
  have sr := wrap64_range (n + d)
  refine walk_by n m d a _ w hd ha d0.1 d0.2 a0.1 a0.2 rfl _ rfl ?_ ?_ ?_ ?_ ?_ ?_
  · rw [Bool.eq_iff_iff, decide_eq_true_eq, Bool.not_eq_true', beq_eq_false_iff_ne]; omega
  · unfold inV ultV
    have e1 := un_wrap (n - n)
    have e2 := un_wrap (wrap64 (n + d) - n)
    rw [Bool.eq_iff_iff, decide_eq_true_eq, Bool.not_eq_true', beq_eq_false_iff_ne]
    unfold wrap64 at e1 e2 ⊢
    omega
  · unfold inV ultV
    exact decide_eq_false (by omega)
  · intro h
    have hz : d ≠ 0 := by simpa using h
    unfold inV ultV
    have e1 := un_wrap (wrap64 (wrap64 (n + d) - 1) - n)
    have e2 := un_wrap (wrap64 (n + d) - n)
    rw [decide_eq_true_eq]
    unfold wrap64 at e1 e2 ⊢
    omega
  · unfold alV; rw [decide_eq_true_eq]; unfold wrap64; omega
  · unfold alV; rw [beq_iff_eq]; unfold wrap64; omega
end Go.Proofs.Ytmgijoanhgdlbaa.NearWalk
