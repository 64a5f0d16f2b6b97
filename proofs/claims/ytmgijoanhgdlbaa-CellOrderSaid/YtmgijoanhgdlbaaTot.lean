/- What the functions of package cell answer, as plain functions, and their calls: for all whole numbers of 64 bits. No condition. -/
import Derived.Test.YtmgijoanhgdlbaaPureCellIs
namespace Go.Proofs.Ytmgijoanhgdlbaa.Tot
open Go.RowKit Go.Proofs.Ytmgijoanhgdlbaa.PCellIs Go.Proofs.YtmgijoanhgdlbaaW.PrintWords Go.Proofs.YtmgijoanhgdlbaaW.PrintLast Go.Proofs.YtmgijoanhgdlbaaW.PrintMore Go.Proofs.Ytmgijoanhgdlbaa.Arith Go.Proofs.Ytmgijoanhgdlbaa.Pure.IsLaw

def ultV (a b : Int) : Bool := decide (un a < un b)
def inV (n lo hi : Int) : Bool := ultV (wrap64 (n - lo)) (wrap64 (hi - lo))
def alV (a : Int) : Int := wrap64 (a + 7) - wrap64 (a + 7) % 8
def shlV (a n : Int) : Int := if 0 ≤ n ∧ n < 64 then wrap64 (a * 2 ^ n.toNat) else 0
def shrV (a n : Int) : Int := if 0 ≤ n ∧ n < 64 then wrap64 ((un a / 2 ^ n.toNat : Nat) : Int) else 0

theorem awake_call (w : World) : Calls Try.prog 10 #[] w fun e w' => e = .returned (.bool true) ∧ Drawn0 w w' := tenterhooklaw01_awake.calls true w awake
theorem ult_call (a b : Int) (w : World) : Calls Try.prog 14 #[.int .i64 a, .int .i64 b] w fun e w' => e = .returned (.bool (ultV a b)) ∧ Drawn0 w w' := cell_Ult.calls a b _ w (ours_ult a b)
theorem within_call (n lo hi : Int) (w : World) : Calls Try.prog 15 #[.int .i64 n, .int .i64 lo, .int .i64 hi] w fun e w' => e = .returned (.bool (inV n lo hi)) ∧ Drawn0 w w' :=
  cell_Within.calls n lo hi _ w (by unfold cell_Within.f; rw [ours_ult]; rfl)
theorem aligned_call (a : Int) (w : World) : Calls Try.prog 13 #[.int .i64 a] w fun e w' => e = .returned (.int .i64 (alV a)) ∧ Drawn0 w w' := cell_Aligned.calls a _ w (al_ours a)
theorem shl_is (a n : Int) : cell_Shl.f a n = some (shlV a n) := by
  unfold shlV
  by_cases h : 0 ≤ n ∧ n < 64
  · rw [if_pos h]
    obtain ⟨m, rfl⟩ := Int.eq_ofNat_of_zero_le h.1
    exact shl_ours a m (by omega)
  · rw [if_neg h]
    exact shl_ours0 a n (by omega)
theorem shr_is (a n : Int) : cell_Shr.f a n = some (shrV a n) := by
  unfold shrV
  by_cases h : 0 ≤ n ∧ n < 64
  · rw [if_pos h]
    obtain ⟨m, rfl⟩ := Int.eq_ofNat_of_zero_le h.1
    exact shr_ours a m (by omega)
  · rw [if_neg h]
    exact shr_ours0 a n (by omega)
theorem shl_call (a n : Int) (w : World) : Calls Try.prog 17 #[.int .i64 a, .int .i64 n] w fun e w' => e = .returned (.int .i64 (shlV a n)) ∧ Drawn0 w w' := cell_Shl.calls a n _ w (shl_is a n)
theorem shr_call (a n : Int) (w : World) : Calls Try.prog 16 #[.int .i64 a, .int .i64 n] w fun e w' => e = .returned (.int .i64 (shrV a n)) ∧ Drawn0 w w' := cell_Shr.calls a n _ w (shr_is a n)
end Go.Proofs.Ytmgijoanhgdlbaa.Tot
