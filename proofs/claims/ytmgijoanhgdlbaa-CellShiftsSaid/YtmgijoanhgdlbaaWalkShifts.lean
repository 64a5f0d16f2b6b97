/- Shifts are turned back: the walk of CellShifts, for all whole numbers of 64 bits. No condition. -/
import Derived.Test.YtmgijoanhgdlbaaTot
namespace Go.Proofs.Ytmgijoanhgdlbaa.ShiftsWalk
open Go.RowKit Go.Proofs.YtmgijoanhgdlbaaW.PrintWords Go.Proofs.YtmgijoanhgdlbaaW.PrintLast Go.Proofs.YtmgijoanhgdlbaaW.PrintMore Go.Proofs.Ytmgijoanhgdlbaa.Arith Go.Proofs.Ytmgijoanhgdlbaa.Pure.IsLaw Go.Proofs.Ytmgijoanhgdlbaa.Tot
set_option linter.unusedSimpArgs false

set_option maxHeartbeats 4000000 in
set_option maxRecDepth 100000 in
theorem walk_by (a n k A x B y z p : Int) (w : World) (hk : Go.bits .and .i64 n 63 = k) (k0 : 0 ≤ k) (k1 : k < 64) (u : Bool) (hu : (n == k) = u)
    (h1 : shlV a k = A) (h2 : shrV A k = x) (h3 : shrV a k = B) (h4 : shlV B k = y) (h5 : shlV A 1 = z) (h6 : shlV a (k + 1) = z) (h7 : shlV x k = A) (h8 : shrV y k = B)
    (h9 : u = false → shlV a n = 0 ∧ shrV a n = 0) (h10 : shrV a 0 = a) (h11 : shlV 1 k = p) (h12 : (A == wrap64 (a * p)) = true) :
    Calls Try.prog 7 #[.int .i64 a, .int .i64 n] w fun e w' => e = .returned (.bool true) ∧ Below w.heap.size w w' := by
  have hu2 : (n != k) = !u := by simp only [bne, hu]
  cases u <;> simp only [Bool.not_true, Bool.not_false, forall_const, false_implies, Bool.true_eq_false] at hu2 h9
  all_goals (try (have h9a := h9.1; have h9b := h9.2))
  all_goals clear h9
  all_goals
    go_enter Try.func7, Try.ntmps7
    go_wp2_with (first | (go_at_call 10; (with_reducible refine (awake_call _).mono ?_); rintro e w' ⟨rfl, ⟨nd, rfl⟩⟩) | (go_at_call 16; (with_reducible refine (shr_call _ _ _).mono ?_); rintro e w' ⟨rfl, ⟨nd, rfl⟩⟩) | (go_at_call 17; (with_reducible refine (shl_call _ _ _).mono ?_); rintro e w' ⟨rfl, ⟨nd, rfl⟩⟩))
    go_ret
    exact ⟨by first | rfl | (simp; done) | (simp [*]; done), by repeat (first | exact Below.refl _ _ | apply pw_below_drewN)⟩

theorem wrap_mod (n : Int) : wrap64 n % 18446744073709551616 = n % 18446744073709551616 := by unfold wrap64; omega
theorem wrap_mul (x c : Int) : wrap64 (wrap64 x * c) = wrap64 (x * c) := by
  apply wrap_congr
  rw [Int.mul_emod, wrap_mod, ← Int.mul_emod]
theorem wrap_mul' (x c : Int) : wrap64 (c * wrap64 x) = wrap64 (c * x) := by rw [Int.mul_comm, wrap_mul, Int.mul_comm]
theorem un_nat (N : Nat) (h : N < 2 ^ 64) : un (wrap64 (N : Int)) = N := by
  have e := un_cast (wrap64 (N : Int))
  rw [wrap_mod] at e
  omega
theorem wrap_un (a : Int) (h : -9223372036854775808 ≤ a ∧ a ≤ 9223372036854775807) : wrap64 ((un a : Nat) : Int) = a := by
  rw [un_cast]; unfold wrap64; omega
theorem un_shl (a : Int) (m : Nat) : un (wrap64 (a * 2 ^ m)) = un a * 2 ^ m % 2 ^ 64 := by
  have e := un_cast (wrap64 (a * 2 ^ m))
  rw [wrap_mod] at e
  have f : (((un a * 2 ^ m % 2 ^ 64 : Nat)) : Int) = a * 2 ^ m % 18446744073709551616 := by
    rw [Int.natCast_emod, Int.natCast_mul, un_cast, Int.natCast_pow]
    show a % 18446744073709551616 * 2 ^ m % 18446744073709551616 = a * 2 ^ m % 18446744073709551616
    rw [Int.mul_emod, Int.emod_emod_of_dvd _ (Int.dvd_refl _), ← Int.mul_emod]
  omega
theorem shl_at (a : Int) (m : Nat) (h : m < 64) : shlV a (m : Int) = wrap64 (a * 2 ^ m) := by
  unfold shlV; rw [if_pos (by omega), Int.toNat_natCast]
theorem shr_at (a : Int) (m : Nat) (h : m < 64) : shrV a (m : Int) = wrap64 ((un a / 2 ^ m : Nat) : Int) := by
  unfold shrV; rw [if_pos (by omega), Int.toNat_natCast]

/-- The law, walked. -/
theorem walk (a n : Int) (w : World) (h0 : (Lit.int .i64 a).wf = true) (h1 : (Lit.int .i64 n).wf = true) :
    Calls Try.prog 7 #[.int .i64 a, .int .i64 n] w fun e w' => e = .returned (.bool true) ∧ Below w.heap.size w w' := by
  have ha := wf64 h0
  have hn := wf64 h1
  have hk := and63 n
  obtain ⟨m, hm⟩ := Int.eq_ofNat_of_zero_le (show 0 ≤ n % 64 by omega)
  have hm64 : m < 64 := by omega
  rw [hm] at hk
  have hlt : un a / 2 ^ m < 2 ^ 64 := Nat.lt_of_le_of_lt (Nat.div_le_self _ _) (un_lt a)
  have hpos : 0 < 2 ^ m := Nat.two_pow_pos m
  refine walk_by a n (m : Int) _ _ _ _ _ _ w hk (by omega) (by omega) _ rfl rfl rfl rfl rfl rfl ?_ ?_ ?_ ?_ ?_ rfl ?_
  · by_cases h : m = 63
    · subst h
      rw [shl_at a 63 (by omega), show (1 : Int) = ((1 : Nat) : Int) from rfl, shl_at _ 1 (by omega), wrap_mul]
      unfold shlV
      rw [if_neg (by omega), Int.mul_assoc, show ((2 : Int) ^ 63 * 2 ^ 1) = 18446744073709551616 from rfl]
      unfold wrap64; omega
    · rw [shl_at a m hm64, show (1 : Int) = ((1 : Nat) : Int) from rfl, shl_at _ 1 (by omega), wrap_mul, show ((m : Int) + ((1 : Nat) : Int)) = ((m + 1 : Nat) : Int) from by omega, shl_at a (m + 1) (by omega), Int.mul_assoc, ← Int.pow_add]
  · rw [shl_at a m hm64, shr_at _ m hm64, shl_at _ m hm64, wrap_mul, un_shl]
    have hd : 2 ^ m ∣ un a * 2 ^ m % 2 ^ 64 := (Nat.dvd_mod_iff (Nat.pow_dvd_pow 2 (by omega))).2 (Nat.dvd_mul_left _ _)
    have e : (((un a * 2 ^ m % 2 ^ 64 / 2 ^ m : Nat)) : Int) * 2 ^ m = ((un a * 2 ^ m % 2 ^ 64 : Nat) : Int) := by
      have := Nat.div_mul_cancel hd
      rw [show ((2 : Int) ^ m) = ((2 ^ m : Nat) : Int) from by simp, ← Int.natCast_mul, this]
    rw [e, ← un_shl, wrap_un _ (wrap64_range _)]
  · rw [shr_at a m hm64, shl_at _ m hm64, shr_at _ m hm64, wrap_mul]
    have e : ((un a / 2 ^ m : Nat) : Int) * 2 ^ m = ((un a / 2 ^ m * 2 ^ m : Nat) : Int) := by simp
    have hle : un a / 2 ^ m * 2 ^ m ≤ un a := Nat.div_mul_le_self _ _
    have hl := un_lt a
    rw [e, un_nat _ (by omega), Nat.mul_div_cancel _ hpos]
  · intro h
    have hne : n ≠ (m : Int) := by simpa using h
    have : ¬ (0 ≤ n ∧ n < 64) := by omega
    unfold shlV shrV
    rw [if_neg this, if_neg this]
    exact ⟨rfl, rfl⟩
  · rw [show (0 : Int) = ((0 : Nat) : Int) from rfl, shr_at a 0 (by omega), Nat.pow_zero, Nat.div_one, wrap_un a ha]
  · rw [beq_iff_eq, shl_at a m hm64, shl_at 1 m hm64, wrap_mul', Int.one_mul]
end Go.Proofs.Ytmgijoanhgdlbaa.ShiftsWalk
