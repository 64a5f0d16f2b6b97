/- Of any cells a flag, what is below, within, shifted and aligned, and what is divided both ways, are what the document's reference says: for all whole numbers of 64 bits. No condition. -/
import Derived.Test.YtmgijoanhgdlbaaPCellIsx3
import Derived.Test.YtmgijoanhgdlbaaArith
namespace Go.Proofs.Ytmgijoanhgdlbaa.Pure
open Go.RowKit Go.Proofs.Ytmgijoanhgdlbaa.PCellIs Go.Proofs.YtmgijoanhgdlbaaW.PrintWords Go.Proofs.YtmgijoanhgdlbaaW.PrintLast Go.Proofs.YtmgijoanhgdlbaaW.PrintMore Go.Proofs.Ytmgijoanhgdlbaa.Arith
namespace IsLaw

theorem awake : tenterhooklaw01_awake.f = some true := by decide +kernel

/-- A cell without its sign. -/
def un (a : Int) : Nat := (a % 18446744073709551616).toNat
theorem un_cast (a : Int) : ((un a : Nat) : Int) = a % 18446744073709551616 := by unfold un; omega
theorem un_lt (a : Int) : un a < 2 ^ 64 := by unfold un; omega
theorem wrap_congr {m n : Int} (h : m % 18446744073709551616 = n % 18446744073709551616) : wrap64 m = wrap64 n := by unfold wrap64; omega

theorem and1 (n : Nat) (h : n < 2 ^ 64) : bits .and .u64 (n : Int) 1 = ((n % 2 : Nat) : Int) := by
  have hw : ∀ m : Int, 0 ≤ m → m < 2 ^ 64 → IntKind.u64.wrap m = m := fun m h0 h1 => by rw [u64w]; omega
  have e := bits_mask .u64 64 (by decide) hw 1 (by decide) (n : Int) (by omega) (by exact_mod_cast h)
  rw [show ((2 : Int) ^ 1 - 1) = 1 from rfl] at e
  rw [e]; omega
theorem and1s (b : Int) (h : b = 0 ∨ b = 1) : bits .and .i64 b 1 = b := by rcases h with rfl | rfl <;> decide

theorem shr_un (a : Int) (i : Nat) (hi : i ≤ 63) : shr .u64 (IntKind.u64.wrap a) (i : Int) = ((un a / 2 ^ i : Nat) : Int) := by
  unfold shr
  rw [show (IntKind.u64.bits) = 64 from rfl, Int.toNat_natCast, Nat.min_eq_left (by omega), u64w, ← un_cast]
  simp
theorem bit_is (a : Int) (i : Nat) (hi : i ≤ 63) : tenterhookref01_Bit.f a (i : Int) = some ((un a / 2 ^ i % 2 : Nat) : Int) := by
  have hw : IntKind.u64.wrap (i : Int) = (i : Int) := by rw [u64w]; omega
  have hlt : un a / 2 ^ i < 2 ^ 64 := Nat.lt_of_le_of_lt (Nat.div_le_self _ _) (un_lt a)
  unfold tenterhookref01_Bit.f
  rw [if_neg (by omega), if_neg (by omega), hw, if_pos (by omega), shr_un a i hi, and1 _ hlt, wrap64_in (by omega) (by omega)]

theorem ult_goes (a b : Int) (d : Nat) : ∀ k, d ≤ 64 → d < k → un a / 2 ^ d = un b / 2 ^ d → tenterhookref01_Ult.l0 k a b ((d : Int) - 1) = some (decide (un a < un b)) := by
  induction d with
  | zero =>
    intro k _ hk h
    obtain ⟨k, rfl⟩ : ∃ m, k = m + 1 := ⟨k - 1, by omega⟩
    simp only [Nat.pow_zero, Nat.div_one] at h
    simp only [tenterhookref01_Ult.l0]
    rw [if_neg (by omega), h]; simp
  | succ d ih =>
    intro k hd hk h
    obtain ⟨k, rfl⟩ : ∃ m, k = m + 1 := ⟨k - 1, by omega⟩
    simp only [tenterhookref01_Ult.l0]
    have e : (((d + 1 : Nat) : Int) - 1) = (d : Int) := by omega
    rw [e, if_pos (by omega), bit_is a d (by omega), bit_is b d (by omega)]
    simp only [Option.bind_some]
    have ha : un a / 2 ^ (d + 1) = un a / 2 ^ d / 2 := by rw [Nat.pow_succ, Nat.div_div_eq_div_mul]
    have hb : un b / 2 ^ (d + 1) = un b / 2 ^ d / 2 := by rw [Nat.pow_succ, Nat.div_div_eq_div_mul]
    rw [ha, hb] at h
    by_cases hq : un a / 2 ^ d % 2 = un b / 2 ^ d % 2
    · rw [if_pos (by omega), wrap64_in (by omega) (by omega)]
      exact ih k (by omega) (by omega) (by omega)
    · rw [if_neg (by omega)]
      have hp : 0 < 2 ^ d := Nat.two_pow_pos d
      have h1 : un a / 2 ^ d < un b / 2 ^ d → un a < un b := fun hh => by
        have := Nat.lt_of_not_le (fun hle : un b ≤ un a => Nat.not_le_of_lt hh (Nat.div_le_div_right hle))
        exact this
      have h2 : un b / 2 ^ d < un a / 2 ^ d → un b < un a := fun hh => by
        have := Nat.lt_of_not_le (fun hle : un a ≤ un b => Nat.not_le_of_lt hh (Nat.div_le_div_right hle))
        exact this
      rw [Option.some.injEq, Bool.eq_iff_iff, beq_iff_eq, decide_eq_true_eq]
      generalize un a / 2 ^ d = A at *
      generalize un b / 2 ^ d = B at *
      omega
theorem ult_is (k : Nat) (hk : 64 < k) (a b : Int) : tenterhookref01_Ult.f k a b = some (decide (un a < un b)) := by
  unfold tenterhookref01_Ult.f
  exact ult_goes a b 64 k (by omega) hk (by rw [Nat.div_eq_of_lt (un_lt a), Nat.div_eq_of_lt (un_lt b)])
theorem ours_ult (a b : Int) : cell_Ult.f a b = some (decide (un a < un b)) := by
  unfold cell_Ult.f
  rw [u64w, u64w, ← un_cast, ← un_cast]
  simp

theorem make_goes (l : List Int) (X : Nat) (hX : X < 2 ^ 64) (hl : l.length = 64) (hb : ∀ j : Nat, j < 64 → rd l (j : Int) = ((X / 2 ^ j % 2 : Nat) : Int)) (d : Nat) :
    ∀ k, d ≤ 64 → d < k → tenterhookref01_Make.l0 k l ((X / 2 ^ d : Nat) : Int) ((d : Int) - 1) = some (wrap64 (X : Int)) := by
  induction d with
  | zero =>
    intro k _ hk
    obtain ⟨k, rfl⟩ : ∃ m, k = m + 1 := ⟨k - 1, by omega⟩
    simp only [tenterhookref01_Make.l0]
    rw [if_neg (by omega)]; simp
  | succ d ih =>
    intro k hd hk
    obtain ⟨k, rfl⟩ : ∃ m, k = m + 1 := ⟨k - 1, by omega⟩
    simp only [tenterhookref01_Make.l0]
    have e : (((d + 1 : Nat) : Int) - 1) = (d : Int) := by omega
    have hs : X / 2 ^ (d + 1) = X / 2 ^ d / 2 := by rw [Nat.pow_succ, Nat.div_div_eq_div_mul]
    have hle : X / 2 ^ d < 2 ^ 64 := Nat.lt_of_le_of_lt (Nat.div_le_self _ _) hX
    rw [e, if_pos (by omega), if_pos (by omega), if_pos (by omega), hb d (by omega), and1s _ (by omega), wrap64_in (n := (d : Int) - 1) (by omega) (by omega)]
    have hv : IntKind.u64.wrap (IntKind.u64.wrap (((X / 2 ^ (d + 1) : Nat) : Int) * 2) + IntKind.u64.wrap ((X / 2 ^ d % 2 : Nat) : Int)) = ((X / 2 ^ d : Nat) : Int) := by
      rw [hs]
      simp only [u64w]
      generalize X / 2 ^ d = A at *
      omega
    rw [hv]
    exact ih k (by omega) (by omega)
theorem make_is (k : Nat) (hk : 64 < k) (l : List Int) (X : Nat) (hX : X < 2 ^ 64) (hl : l.length = 64) (hb : ∀ j : Nat, j < 64 → rd l (j : Int) = ((X / 2 ^ j % 2 : Nat) : Int)) :
    tenterhookref01_Make.f k l = some (wrap64 (X : Int)) := by
  have h := make_goes l X hX hl hb 64 k (by omega) hk
  rw [Nat.div_eq_of_lt hX] at h
  unfold tenterhookref01_Make.f
  rw [hl]
  exact h

theorem rd_set (l : List Int) (i j : Nat) (b : Int) (hi : i < l.length) : rd (l.set i b) (j : Int) = if i = j then b else rd l (j : Int) := by
  unfold rd
  simp only [Int.toNat_natCast, List.getD_eq_getElem?_getD, List.getElem?_set]
  split
  · rename_i h; subst h; simp
  · rfl
theorem rd_zeros (j n : Nat) : rd (List.replicate n 0) (j : Int) = 0 := by
  unfold rd
  simp [List.getD_eq_getElem?_getD, List.getElem?_replicate]
  split <;> rfl

theorem shl_goes (a : Int) (n X : Nat) (hn : n < 64) (hX : X < 2 ^ 64) (hXb : ∀ j : Nat, n ≤ j → j < 64 → X / 2 ^ j % 2 = un a / 2 ^ (j - n) % 2) (d : Nat) :
    ∀ k i l, i + d = 64 → n ≤ i → d + 65 < k → l.length = 64 → (∀ j : Nat, j < i → rd l (j : Int) = ((X / 2 ^ j % 2 : Nat) : Int)) →
      tenterhookref01_Shl.l0 k a (n : Int) l (i : Int) = some (wrap64 (X : Int)) := by
  induction d with
  | zero =>
    intro k i l hi hni hk hl hb
    obtain ⟨k, rfl⟩ : ∃ m, k = m + 1 := ⟨k - 1, by omega⟩
    simp only [tenterhookref01_Shl.l0]
    rw [if_neg (by omega), make_is k (by omega) l X hX hl (fun j hj => hb j (by omega))]
    rfl
  | succ d ih =>
    intro k i l hi hni hk hl hb
    obtain ⟨k, rfl⟩ : ∃ m, k = m + 1 := ⟨k - 1, by omega⟩
    simp only [tenterhookref01_Shl.l0]
    have e : wrap64 ((i : Int) - (n : Int)) = ((i - n : Nat) : Int) := by rw [wrap64_in (by omega) (by omega)]; omega
    have e1 : wrap64 ((i : Int) + 1) = ((i + 1 : Nat) : Int) := by rw [wrap64_in (by omega) (by omega)]; omega
    rw [if_pos (by omega), e, bit_is a (i - n) (by omega)]
    simp only [Option.bind_some]
    rw [if_pos (by omega), if_pos (by omega), e1, Int.toNat_natCast]
    refine ih k (i + 1) _ (by omega) (by omega) (by omega) (by simpa using hl) (fun j hj => ?_)
    rw [rd_set _ _ _ _ (by omega)]
    split
    · rename_i h; subst h; rw [hXb i hni (by omega)]
    · exact hb j (by omega)
theorem shr_goes (a : Int) (n X : Nat) (hn : n < 64) (hX : X < 2 ^ 64) (hXb : ∀ j : Nat, j + n < 64 → X / 2 ^ j % 2 = un a / 2 ^ (j + n) % 2) (hX0 : ∀ j : Nat, 64 ≤ j + n → X / 2 ^ j % 2 = 0) (d : Nat) :
    ∀ k i l, i + n + d = 64 → d + 65 < k → l.length = 64 → (∀ j : Nat, j < i → rd l (j : Int) = ((X / 2 ^ j % 2 : Nat) : Int)) → (∀ j : Nat, i ≤ j → rd l (j : Int) = 0) →
      tenterhookref01_Shr.l0 k a (n : Int) l (i : Int) = some (wrap64 (X : Int)) := by
  induction d with
  | zero =>
    intro k i l hi hk hl hb hz
    obtain ⟨k, rfl⟩ : ∃ m, k = m + 1 := ⟨k - 1, by omega⟩
    simp only [tenterhookref01_Shr.l0]
    rw [wrap64_in (by omega) (by omega), if_neg (by omega), make_is k (by omega) l X hX hl (fun j hj => ?_)]
    · rfl
    · rcases Nat.lt_or_ge j i with h | h
      · exact hb j h
      · rw [hz j h, hX0 j (by omega)]; rfl
  | succ d ih =>
    intro k i l hi hk hl hb hz
    obtain ⟨k, rfl⟩ : ∃ m, k = m + 1 := ⟨k - 1, by omega⟩
    simp only [tenterhookref01_Shr.l0]
    have e : wrap64 ((i : Int) + (n : Int)) = ((i + n : Nat) : Int) := by rw [wrap64_in (by omega) (by omega)]; omega
    have e1 : wrap64 ((i : Int) + 1) = ((i + 1 : Nat) : Int) := by rw [wrap64_in (by omega) (by omega)]; omega
    rw [e, if_pos (by omega), bit_is a (i + n) (by omega)]
    simp only [Option.bind_some]
    rw [if_pos (by omega), if_pos (by omega), e1, Int.toNat_natCast]
    refine ih k (i + 1) _ (by omega) (by omega) (by simpa using hl) (fun j hj => ?_) (fun j hj => ?_)
    · rw [rd_set _ _ _ _ (by omega)]
      split
      · rename_i h; subst h; rw [hXb i (by omega)]
      · exact hb j (by omega)
    · rw [rd_set _ _ _ _ (by omega), if_neg (by omega)]
      exact hz j (by omega)

theorem bit_div (x i : Nat) : x / 2 ^ i % 2 = (x.testBit i).toNat := by
  rw [Nat.testBit_eq_decide_div_mod_eq]
  have : x / 2 ^ i % 2 < 2 := Nat.mod_lt _ (by decide)
  by_cases h : x / 2 ^ i % 2 = 1
  · simp [h]
  · have : x / 2 ^ i % 2 = 0 := by omega
    simp [this]

theorem shl_ref (k : Nat) (hk : 200 < k) (a : Int) (n : Nat) (hn : n < 64) : tenterhookref01_Shl.f k a (n : Int) = some (wrap64 (a * 2 ^ n)) := by
  obtain ⟨k, rfl⟩ : ∃ m, k = m + 1 := ⟨k - 1, by omega⟩
  unfold tenterhookref01_Shl.f
  rw [if_neg (by omega), show decide ((n : Int) > 63) = false from decide_eq_false (by omega)]
  simp only [tenterhookref01_Shl.j0]
  rw [if_neg (by decide), if_pos (by decide)]
  have hX : un a * 2 ^ n % 2 ^ 64 < 2 ^ 64 := Nat.mod_lt _ (by decide)
  rw [shl_goes a n (un a * 2 ^ n % 2 ^ 64) hn hX (fun j h1 h2 => ?_) (64 - n) k n _ (by omega) (by omega) (by omega) (by simp) (fun j hj => ?_)]
  · congr 1
    apply wrap_congr
    rw [Int.natCast_emod, Int.natCast_mul, un_cast, Int.natCast_pow]
    show a % 18446744073709551616 * 2 ^ n % 18446744073709551616 % 18446744073709551616 = a * 2 ^ n % 18446744073709551616
    rw [Int.emod_emod_of_dvd _ (Int.dvd_refl _), Int.mul_emod, Int.emod_emod_of_dvd _ (Int.dvd_refl _), ← Int.mul_emod]
  · rw [bit_div, bit_div, Nat.testBit_mod_two_pow, Nat.testBit_mul_two_pow]
    simp [h1, h2]
  · rw [rd_zeros, bit_div, Nat.testBit_mod_two_pow, Nat.testBit_mul_two_pow]
    simp [show ¬ n ≤ j from by omega]
theorem shr_ref (k : Nat) (hk : 200 < k) (a : Int) (n : Nat) (hn : n < 64) : tenterhookref01_Shr.f k a (n : Int) = some (wrap64 ((un a / 2 ^ n : Nat) : Int)) := by
  obtain ⟨k, rfl⟩ : ∃ m, k = m + 1 := ⟨k - 1, by omega⟩
  unfold tenterhookref01_Shr.f
  rw [if_neg (by omega), show decide ((n : Int) > 63) = false from decide_eq_false (by omega)]
  simp only [tenterhookref01_Shr.j0]
  rw [if_neg (by decide), if_pos (by decide)]
  have hX : un a / 2 ^ n < 2 ^ 64 := Nat.lt_of_le_of_lt (Nat.div_le_self _ _) (un_lt a)
  have hd : ∀ j : Nat, un a / 2 ^ n / 2 ^ j = un a / 2 ^ (j + n) := fun j => by rw [Nat.div_div_eq_div_mul, ← Nat.pow_add, Nat.add_comm]
  exact shr_goes a n (un a / 2 ^ n) hn hX (fun j _ => by rw [hd]) (fun j hj => by
    rw [hd, Nat.div_eq_of_lt (Nat.lt_of_lt_of_le (un_lt a) (Nat.pow_le_pow_right (by decide) hj))]) (64 - n) k 0 _ (by omega) (by omega) (by simp) (fun j hj => by omega) (fun j _ => rd_zeros _ _)
theorem shl_ref0 (k : Nat) (hk : 200 < k) (a n : Int) (hn : n < 0 ∨ 63 < n) : tenterhookref01_Shl.f k a n = some 0 := by
  obtain ⟨k, rfl⟩ : ∃ m, k = m + 1 := ⟨k - 1, by omega⟩
  unfold tenterhookref01_Shl.f
  by_cases h : n < 0
  · rw [if_pos h]; simp only [tenterhookref01_Shl.j0]; rfl
  · rw [if_neg h, show decide (n > 63) = true from decide_eq_true (by omega)]; simp only [tenterhookref01_Shl.j0]; rfl
theorem shr_ref0 (k : Nat) (hk : 200 < k) (a n : Int) (hn : n < 0 ∨ 63 < n) : tenterhookref01_Shr.f k a n = some 0 := by
  obtain ⟨k, rfl⟩ : ∃ m, k = m + 1 := ⟨k - 1, by omega⟩
  unfold tenterhookref01_Shr.f
  by_cases h : n < 0
  · rw [if_pos h]; simp only [tenterhookref01_Shr.j0]; rfl
  · rw [if_neg h, show decide (n > 63) = true from decide_eq_true (by omega)]; simp only [tenterhookref01_Shr.j0]; rfl

theorem tmod64 (n : Nat) (hn : n < 64) : Int.tmod (IntKind.u64.wrap (n : Int)) 64 = (n : Int) := by
  rw [u64w, Int.tmod_eq_emod_of_nonneg (by omega)]; omega
theorem tmod64_0 (n : Int) : 0 ≤ Int.tmod (IntKind.u64.wrap n) 64 := by
  rw [u64w]; exact Int.tmod_nonneg _ (by omega)
theorem shl_ours (a : Int) (n : Nat) (hn : n < 64) : cell_Shl.f a (n : Int) = some (wrap64 (a * 2 ^ n)) := by
  unfold cell_Shl.f cell_shifts.f cell_either_int.f
  rw [if_pos (by omega), tmod64 n hn, show decide ((n : Int) < 64) = true from decide_eq_true (by omega)]
  simp only [Option.bind_some, if_true]
  rw [if_pos (by omega)]
  unfold shl
  rw [i64w, Int.toNat_natCast, show IntKind.i64.bits = 64 from rfl, Nat.min_eq_left (by omega)]
theorem shr_ours (a : Int) (n : Nat) (hn : n < 64) : cell_Shr.f a (n : Int) = some (wrap64 ((un a / 2 ^ n : Nat) : Int)) := by
  unfold cell_Shr.f cell_shifts.f cell_either_int.f
  rw [if_pos (by omega), tmod64 n hn, show decide ((n : Int) < 64) = true from decide_eq_true (by omega)]
  simp only [Option.bind_some, if_true]
  rw [if_pos (by omega), shr_un a n (by omega)]
theorem shl_ours0 (a n : Int) (hn : n < 0 ∨ 63 < n) : cell_Shl.f a n = some 0 := by
  have h0 := tmod64_0 n
  unfold cell_Shl.f cell_shifts.f cell_either_int.f
  by_cases h : n ≥ 0
  · rw [if_pos h, show decide (n < 64) = false from decide_eq_false (by omega)]; simp only [Option.bind_some]; rw [if_pos h0]; rfl
  · rw [if_neg h]; simp only [Option.bind_some]; rw [if_pos h0]; rfl
theorem shr_ours0 (a n : Int) (hn : n < 0 ∨ 63 < n) : cell_Shr.f a n = some 0 := by
  have h0 := tmod64_0 n
  unfold cell_Shr.f cell_shifts.f cell_either_int.f
  by_cases h : n ≥ 0
  · rw [if_pos h, show decide (n < 64) = false from decide_eq_false (by omega)]; simp only [Option.bind_some]; rw [if_pos h0]; rfl
  · rw [if_neg h]; simp only [Option.bind_some]; rw [if_pos h0]; rfl

theorem al_ours (a : Int) : cell_Aligned.f a = some (wrap64 (a + 7) - wrap64 (a + 7) % 8) := by
  unfold cell_Aligned.f
  have e : wrap64 (wrap64 (a + 8) - 1) = wrap64 (a + 7) := by unfold wrap64; omega
  have r := wrap64_range (a + 7)
  rw [e, andNot7 _ r.1 r.2]
theorem al_goes (d : Nat) : ∀ k (x i : Int), -9223372036854775808 ≤ x → x ≤ 9223372036854775807 → (-x) % 8 = d → 0 ≤ i → i + d ≤ 8 → d < k →
    tenterhookref01_Aligned.l0 k x i = some (wrap64 (x + 7) - wrap64 (x + 7) % 8) := by
  induction d with
  | zero =>
    intro k x i h0 h1 hd hi hi8 hk
    obtain ⟨k, rfl⟩ : ∃ m, k = m + 1 := ⟨k - 1, by omega⟩
    simp only [tenterhookref01_Aligned.l0]
    have hu := un_cast x
    have b0 := bit_is x 0 (by omega)
    have b1 := bit_is x 1 (by omega)
    have b2 := bit_is x 2 (by omega)
    simp only [Int.natCast_zero, Int.natCast_one, Nat.pow_zero, Nat.div_one, Nat.pow_one] at b0 b1 b2
    have e2 : ((2 : Nat) : Int) = 2 := rfl
    rw [e2] at b2
    rw [b0, b1, b2]
    simp only [Option.bind_some]
    have hr : x = wrap64 (x + 7) - wrap64 (x + 7) % 8 := by unfold wrap64; omega
    by_cases hi7 : i < 8
    · rw [if_pos hi7, if_pos (by omega), if_pos (by omega), if_pos (by omega), ← hr]
    · rw [if_neg hi7, ← hr]
  | succ d ih =>
    intro k x i h0 h1 hd hi hi8 hk
    obtain ⟨k, rfl⟩ : ∃ m, k = m + 1 := ⟨k - 1, by omega⟩
    simp only [tenterhookref01_Aligned.l0]
    have hu := un_cast x
    have b0 := bit_is x 0 (by omega)
    have b1 := bit_is x 1 (by omega)
    have b2 := bit_is x 2 (by omega)
    simp only [Int.natCast_zero, Int.natCast_one, Nat.pow_zero, Nat.div_one, Nat.pow_one] at b0 b1 b2
    have e2 : ((2 : Nat) : Int) = 2 := rfl
    rw [e2] at b2
    rw [b0, b1, b2]
    simp only [Option.bind_some]
    have hw := wrap64_range (x + 1)
    have hgo := ih k (wrap64 (x + 1)) (wrap64 (i + 1)) hw.1 hw.2 (by unfold wrap64; omega) (by rw [wrap64_in (by omega) (by omega)]; omega) (by rw [wrap64_in (n := i + 1) (by omega) (by omega)]; omega) (by omega)
    have hr : wrap64 (wrap64 (x + 1) + 7) - wrap64 (wrap64 (x + 1) + 7) % 8 = wrap64 (x + 7) - wrap64 (x + 7) % 8 := by unfold wrap64; omega
    rw [hr] at hgo
    rw [if_pos (by omega), hgo]
    split
    · split
      · rw [if_neg]
        omega
      · rfl
    · rfl
theorem al_ref (k : Nat) (hk : 8 < k) (a : Int) (h : -9223372036854775808 ≤ a ∧ a ≤ 9223372036854775807) : tenterhookref01_Aligned.f k a = some (wrap64 (a + 7) - wrap64 (a + 7) % 8) := by
  unfold tenterhookref01_Aligned.f
  exact al_goes ((-a) % 8).toNat k a 0 h.1 h.2 (by omega) (by omega) (by omega) (by omega)

theorem symm_eq (a b : Int) : tenterhookref01_Symm.f a b = cell_Symm.f a b := by
  unfold tenterhookref01_Symm.f tenterhookref01_wrong.f cell_Symm.f
  by_cases h0 : b = 0
  · simp [h0]
  · by_cases h1 : b = -1
    · by_cases h2 : a = -9223372036854775808
      · simp [h1, h2]
      · simp [h1, h2]
    · simp [h0, h1]
theorem symm_ok (a b : Int) (hb : b ≠ 0) (hne : ¬ (b = -1 ∧ a = -9223372036854775808)) : cell_Symm.f a b = some (wrap64 (Int.tdiv a b), Int.tmod a b, 0) := by
  unfold cell_Symm.f
  rw [if_neg hb]
  by_cases h1 : b = -1
  · rw [if_pos h1, if_neg (fun h2 => hne ⟨h1, h2⟩)]
  · rw [if_neg h1]
theorem floor_eq (a b : Int) (ha : -9223372036854775808 ≤ a ∧ a ≤ 9223372036854775807) (hb : -9223372036854775808 ≤ b ∧ b ≤ 9223372036854775807) : tenterhookref01_Floor.f a b = cell_Floor.f a b := by
  unfold tenterhookref01_Floor.f cell_Floor.f
  rw [symm_eq]
  by_cases h0 : b = 0
  · unfold cell_Symm.f; rw [if_pos h0]; rfl
  · by_cases h1 : b = -1 ∧ a = -9223372036854775808
    · unfold cell_Symm.f; rw [if_neg h0, if_pos h1.1, if_pos h1.2]; rfl
    · obtain ⟨_, _, hr0, hr1, hp, hn, _, _⟩ := tdiv_tells a b ha.1 ha.2 h0 h1
      rw [symm_ok a b h0 h1]
      simp only [Option.bind_some, if_true]
      by_cases hz : Int.tmod a b = 0
      · rw [if_pos hz, if_pos hz]
      · rw [if_neg hz, if_neg hz]
        have hx := xor_neg (Int.tmod a b) b (by omega) (by omega) hb.1 hb.2
        by_cases hs : (decide (Int.tmod a b < 0) != decide (b < 0)) = true
        · rw [if_pos hs, if_pos (hx.2 (by rw [bne_iff_ne, Ne, decide_eq_decide] at hs; exact hs))]
        · rw [if_neg hs, if_neg (fun h => hs (by rw [bne_iff_ne, Ne, decide_eq_decide]; exact hx.1 h))]
theorem symm_some (a b : Int) : ∃ r, cell_Symm.f a b = some r := by
  unfold cell_Symm.f
  repeat' split
  all_goals exact ⟨_, rfl⟩
theorem floor_some (a b : Int) : ∃ r, cell_Floor.f a b = some r := by
  obtain ⟨r, hr⟩ := symm_some a b
  unfold cell_Floor.f
  rw [hr]
  simp only [Option.bind_some]
  repeat' split
  all_goals exact ⟨_, rfl⟩
end IsLaw
open IsLaw

theorem CellIs : tenterhooklaw01_CellIs.Pure := by
  intro a b n ok ha0 hb0 hn0
  have ha := wf64 ha0
  have hb := wf64 hb0
  have hn := wf64 hn0
  refine ⟨302, ?_⟩
  unfold tenterhooklaw01_CellIs.f
  rw [awake, floor_eq a b ha hb, symm_eq]
  obtain ⟨⟨q, r, e⟩, hf⟩ := floor_some a b
  obtain ⟨⟨u, v, g⟩, hs⟩ := symm_some a b
  rw [hf, hs]
  simp only [Option.bind_some, if_true, bne_self_eq_false]
  simp only [tenterhooklaw01_CellIs.j0]
  rw [if_neg (by decide)]
  have hfl : ∀ o, cell_Flag.f o = tenterhookref01_Flag.f o := fun o => by cases o <;> rfl
  have hfs : ∃ x, tenterhookref01_Flag.f ok = some x := by cases ok <;> exact ⟨_, rfl⟩
  obtain ⟨x, hx⟩ := hfs
  rw [hfl, hx, ours_ult, ult_is 301 (by omega)]
  simp only [Option.bind_some, if_true, beq_self_eq_true]
  have hwi : cell_Within.f n a b = tenterhookref01_Within.f 301 n a b := by
    unfold cell_Within.f tenterhookref01_Within.f
    rw [ours_ult, ult_is 301 (by omega)]
  have hws : ∃ x, tenterhookref01_Within.f 301 n a b = some x := by
    unfold tenterhookref01_Within.f
    rw [ult_is 301 (by omega)]
    exact ⟨_, rfl⟩
  obtain ⟨y, hy⟩ := hws
  have hsl : ∃ x, cell_Shl.f a n = some x ∧ tenterhookref01_Shl.f 301 a n = some x := by
    by_cases h : 0 ≤ n ∧ n < 64
    · obtain ⟨m, rfl⟩ := Int.eq_ofNat_of_zero_le h.1
      exact ⟨_, shl_ours a m (by omega), shl_ref 301 (by omega) a m (by omega)⟩
    · exact ⟨_, shl_ours0 a n (by omega), shl_ref0 301 (by omega) a n (by omega)⟩
  have hsr : ∃ x, cell_Shr.f a n = some x ∧ tenterhookref01_Shr.f 301 a n = some x := by
    by_cases h : 0 ≤ n ∧ n < 64
    · obtain ⟨m, rfl⟩ := Int.eq_ofNat_of_zero_le h.1
      exact ⟨_, shr_ours a m (by omega), shr_ref 301 (by omega) a m (by omega)⟩
    · exact ⟨_, shr_ours0 a n (by omega), shr_ref0 301 (by omega) a n (by omega)⟩
  obtain ⟨s1, hs1, hs2⟩ := hsl
  obtain ⟨t1, ht1, ht2⟩ := hsr
  rw [hs1, hs2]
  simp only [Option.bind_some, if_true]
  rw [ht1, ht2]
  simp only [Option.bind_some, if_true]
  rw [hwi, hy]
  simp only [Option.bind_some, if_true, beq_self_eq_true]
  rw [al_ours, al_ref 301 (by omega) a ha]
  simp

end Go.Proofs.Ytmgijoanhgdlbaa.Pure
