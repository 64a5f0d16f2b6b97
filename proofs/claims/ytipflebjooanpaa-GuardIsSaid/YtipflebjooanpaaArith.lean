/- Plain arithmetic of the memory and guard laws: what and, andNot, xor, shifts and the wrapping of a 64-bit cell come to. No conditions beyond those that each lemma states. -/
import Derived.Laws.BitsLemmas
import Derived.RowKit
namespace Go.Proofs.Ytipflebjooanpaa.Arith
open Go Go.RowKit

theorem wf64 {a : Int} (h : (Lit.int .i64 a).wf = true) : -9223372036854775808 ≤ a ∧ a ≤ 9223372036854775807 := by
  simp only [Lit.wf, IntKind.min, IntKind.max, IntKind.signed, IntKind.bits, Bool.and_eq_true, decide_eq_true_eq, if_true] at h
  omega
theorem u64w (n : Int) : IntKind.u64.wrap n = n % 18446744073709551616 := by simp [IntKind.wrap, IntKind.bits, IntKind.signed]
theorem i64w (n : Int) : IntKind.i64.wrap n = wrap64 n := IntKind.wrap_i64 n
theorem wrap64_in {n : Int} (h0 : -9223372036854775808 ≤ n) (h1 : n ≤ 9223372036854775807) : wrap64 n = n := by unfold wrap64; omega
theorem wrap64_range (n : Int) : -9223372036854775808 ≤ wrap64 n ∧ wrap64 n ≤ 9223372036854775807 := by unfold wrap64; omega

theorem toNat_of (x : Int) : (((BitVec.ofInt 64 x).toNat : Nat) : Int) = x % 18446744073709551616 := by
  rw [BitVec.toNat_ofInt]
  have : (0 : Int) ≤ x % ((2 ^ 64 : Nat) : Int) := Int.emod_nonneg _ (by decide)
  rw [Int.toNat_of_nonneg this]
  rfl

theorem and_low (x : Int) (j : Nat) (hj : j ≤ 62) : bits .and .i64 x ((2 ^ j - 1 : Nat) : Int) = x % 2 ^ j := by
  have hb : IntKind.i64.bits = 64 := rfl
  have e : ((BitVec.ofInt 64 x) &&& (BitVec.ofInt 64 ((2 ^ j - 1 : Nat) : Int))).toNat = (BitVec.ofInt 64 x).toNat % 2 ^ j := by
    have hp : 2 ^ j ≤ 2 ^ 62 := Nat.pow_le_pow_right (by decide) hj
    have hpos : 0 < 2 ^ j := Nat.two_pow_pos j
    rw [BitVec.toNat_and, BitVec.ofInt_natCast, BitVec.toNat_ofNat, Nat.mod_eq_of_lt (a := 2 ^ j - 1) (by omega), Nat.and_two_pow_sub_one_eq_mod]
  have hlt : (BitVec.ofInt 64 x).toNat % 2 ^ j < 2 ^ 62 := Nat.lt_of_lt_of_le (Nat.mod_lt _ (Nat.two_pow_pos j)) (Nat.pow_le_pow_right (by decide) hj)
  have h1 : bits .and .i64 x ((2 ^ j - 1 : Nat) : Int) = wrap64 (((BitVec.ofInt 64 x).toNat % 2 ^ j : Nat) : Int) := by
    rw [← e]; exact IntKind.wrap_i64 _
  rw [h1, wrap64_in (by omega) (by omega), Int.natCast_emod, toNat_of]
  have hd : (2 : Int) ^ j ∣ 18446744073709551616 := by
    have : ((2 : Int) ^ 64) = 2 ^ j * 2 ^ (64 - j) := by rw [← Int.pow_add]; congr 1; omega
    exact ⟨2 ^ (64 - j), by rw [← this]; rfl⟩
  rw [show (((2 ^ j : Nat)) : Int) = (2 : Int) ^ j from by simp]
  exact Int.emod_emod_of_dvd _ hd

theorem and7 (x : Int) : bits .and .i64 x 7 = x % 8 := and_low x 3 (by decide)
theorem and63 (x : Int) : bits .and .i64 x 63 = x % 64 := and_low x 6 (by decide)
theorem and24 (x : Int) : bits .and .i64 x 16777215 = x % 16777216 := and_low x 24 (by decide)
theorem and40 (x : Int) : bits .and .i64 x 1099511627775 = x % 1099511627776 := and_low x 40 (by decide)

theorem split_and {w : Nat} (X Y : BitVec w) : X &&& Y ||| X &&& ~~~Y = X := by
  apply BitVec.eq_of_getElem_eq
  intro i hi
  simp only [BitVec.getElem_or, BitVec.getElem_and, BitVec.getElem_not]
  cases X[i] <;> cases Y[i] <;> rfl
theorem apart_and {w : Nat} (X Y : BitVec w) : (X &&& Y) &&& (X &&& ~~~Y) = 0#w := by
  apply BitVec.eq_of_getElem_eq
  intro i hi
  simp only [BitVec.getElem_and, BitVec.getElem_not, BitVec.getElem_zero]
  cases X[i] <;> cases Y[i] <;> rfl
theorem sum_and {w : Nat} (X Y : BitVec w) : (X &&& Y) + (X &&& ~~~Y) = X := by
  rw [BitVec.add_eq_or_of_and_eq_zero _ _ (apart_and X Y), split_and]

theorem andNot7 (x : Int) (h0 : -9223372036854775808 ≤ x) (h1 : x ≤ 9223372036854775807) : bits .andNot .i64 x 7 = x - x % 8 := by
  have e : bits .andNot .i64 x 7 = wrap64 (((BitVec.ofInt 64 x) &&& ~~~(BitVec.ofInt 64 7)).toNat : Int) := IntKind.wrap_i64 _
  have e1 : ((BitVec.ofInt 64 x) &&& (BitVec.ofInt 64 7)).toNat = (BitVec.ofInt 64 x).toNat % 8 := by
    rw [BitVec.toNat_and]
    exact Nat.and_two_pow_sub_one_eq_mod _ 3
  have s := congrArg BitVec.toNat (sum_and (BitVec.ofInt 64 x) (BitVec.ofInt 64 7))
  rw [BitVec.toNat_add, e1] at s
  have hx := toNat_of x
  have hlt : ((BitVec.ofInt 64 x) &&& ~~~(BitVec.ofInt 64 7)).toNat ≤ (BitVec.ofInt 64 x).toNat := by
    rw [BitVec.toNat_and]; exact Nat.and_le_left
  rw [e]
  generalize ((BitVec.ofInt 64 x) &&& ~~~(BitVec.ofInt 64 7)).toNat = A at *
  generalize (BitVec.ofInt 64 x).toNat = B at *
  unfold wrap64
  omega

theorem msb_of (x : Int) (h0 : -9223372036854775808 ≤ x) (h1 : x ≤ 9223372036854775807) : (BitVec.ofInt 64 x).msb = decide (x < 0) := by
  rw [BitVec.msb_eq_decide]
  have hx := toNat_of x
  generalize (BitVec.ofInt 64 x).toNat = B at *
  rw [decide_eq_decide]
  omega

theorem xor_neg (x y : Int) (h0 : -9223372036854775808 ≤ x) (h1 : x ≤ 9223372036854775807) (k0 : -9223372036854775808 ≤ y) (k1 : y ≤ 9223372036854775807) :
    bits .xor .i64 x y < 0 ↔ ¬ (x < 0 ↔ y < 0) := by
  have e : bits .xor .i64 x y = wrap64 (((BitVec.ofInt 64 x) ^^^ (BitVec.ofInt 64 y)).toNat : Int) := IntKind.wrap_i64 _
  have hm : ((BitVec.ofInt 64 x) ^^^ (BitVec.ofInt 64 y)).msb = (decide (x < 0) ^^ decide (y < 0)) := by rw [BitVec.msb_xor, msb_of x h0 h1, msb_of y k0 k1]
  rw [BitVec.msb_eq_decide] at hm
  have hlt := ((BitVec.ofInt 64 x) ^^^ (BitVec.ofInt 64 y)).isLt
  rw [e]
  generalize ((BitVec.ofInt 64 x) ^^^ (BitVec.ofInt 64 y)).toNat = B at *
  have hw : wrap64 (B : Int) < 0 ↔ 2 ^ (64 - 1) ≤ B := by unfold wrap64; omega
  rw [hw]
  by_cases a : x < 0 <;> by_cases b : y < 0 <;> simp [a, b] at hm ⊢ <;> omega

/-- What a quotient rounded towards 0, and what it leaves, are. -/
theorem tdiv_tells (a b : Int) (h0 : -9223372036854775808 ≤ a) (h1 : a ≤ 9223372036854775807) (hb : b ≠ 0) (hne : ¬ (b = -1 ∧ a = -9223372036854775808)) :
    wrap64 (a.tdiv b) = a.tdiv b ∧ b * a.tdiv b + a.tmod b = a ∧ (0 ≤ a → 0 ≤ a.tmod b) ∧ (a ≤ 0 → a.tmod b ≤ 0) ∧ (0 < b → -b < a.tmod b ∧ a.tmod b < b) ∧ (b < 0 → b < a.tmod b ∧ a.tmod b < -b)
      ∧ (b = 1 ∨ b = -1 → a.tmod b = 0) ∧ (b ≠ 1 → b ≠ -1 → -4611686018427387904 ≤ a.tdiv b ∧ a.tdiv b ≤ 4611686018427387904) := by
  have hq := Int.natAbs_tdiv a b
  have hr := Int.natAbs_tmod a b
  have hm : (a.tmod b).natAbs < b.natAbs := by rw [hr]; exact Nat.mod_lt _ (by omega)
  have hbig : b ≠ 1 → b ≠ -1 → -4611686018427387904 ≤ a.tdiv b ∧ a.tdiv b ≤ 4611686018427387904 := by
    intro n1 n2
    have h2 : 2 ≤ b.natAbs := by omega
    have h3 : a.natAbs / b.natAbs ≤ a.natAbs / 2 := Nat.div_le_div_left h2 (by decide)
    have h4 : a.natAbs.div b.natAbs = a.natAbs / b.natAbs := rfl
    omega
  refine ⟨?_, Int.mul_tdiv_add_tmod a b, fun h => Int.tmod_nonneg b h, fun h => ?_, ?_, ?_, ?_, hbig⟩
  · rcases Decidable.em (b = 1) with rfl | n1
    · rw [Int.tdiv_one]; exact wrap64_in h0 h1
    · rcases Decidable.em (b = -1) with rfl | n2
      · rw [Int.tdiv_neg, Int.tdiv_one]; exact wrap64_in (by omega) (by omega)
      · have := hbig n1 n2
        exact wrap64_in (by omega) (by omega)
  · have := Int.tmod_nonneg b (a := -a) (by omega)
    rw [Int.neg_tmod] at this
    omega
  · intro h; omega
  · intro h; omega
  · intro h; rcases h with rfl | rfl <;> omega
end Go.Proofs.Ytipflebjooanpaa.Arith
