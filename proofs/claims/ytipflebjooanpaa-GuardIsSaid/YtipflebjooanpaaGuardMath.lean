/- What bytes a task may touch, as plain functions: for all whole numbers of 64 bits. No condition. -/
import Derived.RowKit
import GoSem.Claim
namespace Go.Proofs.Ytipflebjooanpaa.GuardMath
open Go Go.RowKit
theorem wf64 {a : Int} (h : (Lit.int .i64 a).wf = true) : -9223372036854775808 ≤ a ∧ a ≤ 9223372036854775807 := by
  simp only [Lit.wf, IntKind.min, IntKind.max, IntKind.signed, IntKind.bits, Bool.and_eq_true, decide_eq_true_eq, if_true] at h
  omega
theorem wrap64_in {n : Int} (h0 : -9223372036854775808 ≤ n) (h1 : n ≤ 9223372036854775807) : wrap64 n = n := by unfold wrap64; omega

/-- May a task touch a byte that is there? -/
def okB (t : Int) (lib wr : Bool) (i : Int) : Bool := if i < 2048 then !wr else if i < 4096 then lib else (i - 4096) / 128 == t
/-- May it touch these bytes? -/
def mayP (t : Int) (lib : Bool) (at_ n : Int) (wr : Bool) : Prop := 0 ≤ n ∧ 0 ≤ at_ ∧ at_ ≤ 5120 ∧ n ≤ 5120 - at_ ∧ (t = -1 ∨ ∀ j : Int, at_ ≤ j → j < at_ + n → okB t lib wr j = true)
noncomputable def mayV (t : Int) (lib : Bool) (at_ n : Int) (wr : Bool) : Bool := @decide (mayP t lib at_ n wr) (Classical.propDecidable _)
theorem mayV_true {t : Int} {lib : Bool} {at_ n : Int} {wr : Bool} : mayV t lib at_ n wr = true ↔ mayP t lib at_ n wr := by unfold mayV; exact @decide_eq_true_iff _ (Classical.propDecidable _)
theorem mayV_false {t : Int} {lib : Bool} {at_ n : Int} {wr : Bool} : mayV t lib at_ n wr = false ↔ ¬ mayP t lib at_ n wr := by rw [← mayV_true]; simp
theorem mayV_is {t : Int} {lib : Bool} {at_ n : Int} {wr b : Bool} (h : b = true ↔ mayP t lib at_ n wr) : b = mayV t lib at_ n wr := by rw [Bool.eq_iff_iff, mayV_true]; exact h

/-- A place's region, and whose. -/
def kindV (i : Int) : Int := if i < 0 ∨ 5120 ≤ i then -1 else if i < 2048 then 0 else if i < 4096 then 1 else 2
def whoV (i : Int) : Int := if i < 0 ∨ 5120 ≤ i then -1 else if i < 4096 then -1 else (i - 4096) / 128
def nextV (i : Int) : Int := if i < 2048 then 2048 else if i < 4096 then 4096 else 4096 + ((i - 4096) / 128 + 1) * 128

theorem zone_alike (t : Int) (lib wr : Bool) (i j : Int) (hj : i ≤ j) (hn : j < nextV i) : okB t lib wr j = okB t lib wr i := by
  unfold nextV at hn
  unfold okB
  by_cases h2 : i < 2048
  · rw [if_pos h2] at hn ⊢; rw [if_pos (by omega)]
  · rw [if_neg h2] at hn ⊢
    by_cases h3 : i < 4096
    · rw [if_pos h3] at hn ⊢; rw [if_neg (by omega), if_pos (by omega)]
    · rw [if_neg h3] at hn ⊢; rw [if_neg (by omega), if_neg (by omega), show (j - 4096) / 128 = (i - 4096) / 128 by omega]
theorem next_above (i : Int) : i < nextV i := by unfold nextV; repeat' split <;> omega

def areaV (t : Int) : Int := if 0 ≤ t ∧ t < 8 then 4096 + 128 * t else 0
def areaB (t : Int) : Bool := decide (0 ≤ t ∧ t < 8)
theorem mayV_one {t : Int} {lib : Bool} {i : Int} {wr : Bool} (h0 : 0 ≤ i) (h1 : i < 5120) (ht : t ≠ -1) : mayV t lib i 1 wr = okB t lib wr i := by
  refine (mayV_is ⟨fun h => ⟨by omega, h0, by omega, by omega, .inr fun j h2 h3 => ?_⟩, fun h => ?_⟩).symm
  · rw [show j = i by omega]; exact h
  · rcases h.2.2.2.2 with h4 | h4
    · exact absurd h4 ht
    · exact h4 i (by omega) (by omega)
end Go.Proofs.Ytipflebjooanpaa.GuardMath
