/- Of two cells one is below, or they are one: the walk of CellOrder, for all whole numbers of 64 bits. No condition. -/
import Derived.Test.YtmgijoanhgdlbaaTot
namespace Go.Proofs.Ytmgijoanhgdlbaa.OrderWalk
open Go.RowKit Go.Proofs.YtmgijoanhgdlbaaW.PrintWords Go.Proofs.YtmgijoanhgdlbaaW.PrintLast Go.Proofs.YtmgijoanhgdlbaaW.PrintMore Go.Proofs.Ytmgijoanhgdlbaa.Arith Go.Proofs.Ytmgijoanhgdlbaa.Pure.IsLaw Go.Proofs.Ytmgijoanhgdlbaa.Tot
set_option linter.unusedSimpArgs false

set_option maxHeartbeats 8000000 in
set_option maxRecDepth 100000 in
theorem walk_by (a b c : Int) (w : World) (x y u v i o z : Bool) (hx : ultV a b = x) (hy : ultV b a = y) (hu : ultV b c = u) (hv : ultV a c = v) (hi : inV a b c = i) (ho : inV a c b = o) (hz : (b == c) = z)
    (h1 : inV a b b = false) (h2 : z = false → inV b b c = true) (h3 : inV c b c = false) (hxy : (x && y) = false) (he : (a == b) = (!x && !y)) (ht : (x && u && !v) = false) (hio : z = false → i = !o) :
    Calls Try.prog 6 #[.int .i64 a, .int .i64 b, .int .i64 c] w fun e w' => e = .returned (.bool true) ∧ Below w.heap.size w w' := by
  have hz' : (b != c) = !z := by simp only [bne, hz]
  have he' : (a != b) = !(!x && !y) := by simp only [bne, he]
  cases x <;> cases y <;> cases u <;> cases v <;> cases z <;> cases i <;> cases o <;> simp only [Bool.not_true, Bool.not_false, Bool.and_true, Bool.and_false, Bool.true_and, Bool.false_and, reduceCtorEq, forall_const, false_implies, Bool.true_eq_false, Bool.false_eq_true] at hxy he ht hio hz' he' h2
  all_goals
    go_enter Try.func6, Try.ntmps6
    go_wp2_with (first | (go_at_call 10; (with_reducible refine (awake_call _).mono ?_); rintro e w' ⟨rfl, ⟨nd, rfl⟩⟩) | (go_at_call 14; (with_reducible refine (ult_call _ _ _).mono ?_); rintro e w' ⟨rfl, ⟨nd, rfl⟩⟩) | (go_at_call 15; (with_reducible refine (within_call _ _ _ _).mono ?_); rintro e w' ⟨rfl, ⟨nd, rfl⟩⟩))
    go_ret
    exact ⟨by first | rfl | (simp; done) | (simp [*]; done), by repeat (first | exact Below.refl _ _ | apply pw_below_drewN)⟩

theorem rel (A B C : Int) (hA : 0 ≤ A ∧ A < 18446744073709551616) (hB : 0 ≤ B ∧ B < 18446744073709551616) (hC : 0 ≤ C ∧ C < 18446744073709551616) (hn : B ≠ C) :
    ((A - B) % 18446744073709551616 < (C - B) % 18446744073709551616 ↔ ¬ (A - C) % 18446744073709551616 < (B - C) % 18446744073709551616) := by
  have m : ∀ X Y : Int, 0 ≤ X ∧ X < 18446744073709551616 → 0 ≤ Y ∧ Y < 18446744073709551616 → (X - Y) % 18446744073709551616 = if Y ≤ X then X - Y else X - Y + 18446744073709551616 := by
    intro X Y hX hY; split <;> omega
  rw [m A B hA hB, m C B hC hB, m A C hA hC, m B C hB hC]
  repeat' split
  all_goals omega
theorem un_wrap (n : Int) : ((un (wrap64 n) : Nat) : Int) = n % 18446744073709551616 := by rw [un_cast]; unfold wrap64; omega
/-- The law, walked. -/
theorem walk (a b c : Int) (w : World) (h0 : (Lit.int .i64 a).wf = true) (h1 : (Lit.int .i64 b).wf = true) (h2 : (Lit.int .i64 c).wf = true) :
    Calls Try.prog 6 #[.int .i64 a, .int .i64 b, .int .i64 c] w fun e w' => e = .returned (.bool true) ∧ Below w.heap.size w w' := by
  have ha := wf64 h0
  have hb := wf64 h1
  have hc := wf64 h2
  have ua := un_cast a
  have ub := un_cast b
  have uc := un_cast c
  refine walk_by a b c w _ _ _ _ _ _ _ rfl rfl rfl rfl rfl rfl rfl ?_ ?_ ?_ ?_ ?_ ?_ ?_
  · unfold inV ultV
    have e1 := un_wrap (a - b)
    have e2 := un_wrap (b - b)
    exact decide_eq_false (by omega)
  · intro h
    have hn : b ≠ c := by simpa using h
    unfold inV ultV
    have e1 := un_wrap (b - b)
    have e2 := un_wrap (c - b)
    exact decide_eq_true (by omega)
  · unfold inV ultV
    exact decide_eq_false (by omega)
  · unfold ultV
    rw [Bool.and_eq_false_iff, decide_eq_false_iff_not, decide_eq_false_iff_not]
    omega
  · unfold ultV
    rw [Bool.eq_iff_iff, beq_iff_eq, Bool.and_eq_true, Bool.not_eq_true', Bool.not_eq_true', decide_eq_false_iff_not, decide_eq_false_iff_not]
    omega
  · unfold ultV
    by_cases p : un a < un b <;> by_cases q : un b < un c <;> by_cases r : un a < un c <;> simp [p, q, r] <;> omega
  · intro h
    have hn : b ≠ c := by simpa using h
    have hr := rel (un a : Int) (un b : Int) (un c : Int) ⟨by omega, by omega⟩ ⟨by omega, by omega⟩ ⟨by omega, by omega⟩ (by omega)
    have sub : ∀ x y : Int, ((un (wrap64 (x - y)) : Nat) : Int) = ((un x : Int) - (un y : Int)) % 18446744073709551616 := by
      intro x y; rw [un_wrap, un_cast, un_cast]; omega
    rw [← sub, ← sub, ← sub, ← sub] at hr
    unfold inV ultV
    rw [Bool.eq_iff_iff, Bool.not_eq_true', decide_eq_true_eq, decide_eq_false_iff_not]
    exact ⟨fun h1 h2 => hr.1 (by omega) (by omega), fun h1 => by have := hr.2 (fun h2 => h1 (by omega)); omega⟩
end Go.Proofs.Ytmgijoanhgdlbaa.OrderWalk
