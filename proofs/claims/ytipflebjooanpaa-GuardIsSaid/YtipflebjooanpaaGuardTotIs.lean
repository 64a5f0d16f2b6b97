/- What the functions of package guard answer, and their calls: for all whole numbers of 64 bits. No condition. -/
import Derived.Test.YtipflebjooanpaaPGuardIsx3
import Derived.Test.YtipflebjooanpaaGuardMath
namespace Go.Proofs.Ytipflebjooanpaa.GuardTotIs
open Go.RowKit Go.Proofs.Ytipflebjooanpaa.PGuardIs Go.Proofs.Ytipflebjooanpaa.GuardMath Go.Proofs.YtipflebjooanpaaW.PrintWords Go.Proofs.YtipflebjooanpaaW.PrintLast Go.Proofs.YtipflebjooanpaaW.PrintMore
theorem of_in (k : Nat) (hk : 0 < k) (i : Int) (h0 : 0 ≤ i) (h1 : i < 5120) : guard_of.f k i = some (kindV i, whoV i, nextV i) := by
  obtain ⟨k, rfl⟩ : ∃ m, k = m + 1 := ⟨k - 1, by omega⟩
  have hn : ¬ (i < 0 ∨ 5120 ≤ i) := by omega
  unfold guard_of.f
  rw [if_neg (by omega), show decide (i ≥ 5120) = false from decide_eq_false (by omega)]
  simp only [guard_of.j0]
  rw [if_neg (by decide)]
  unfold kindV whoV nextV
  by_cases h2 : i < 2048
  · have h3 : i < 4096 := by omega
    simp only [if_neg hn, if_pos h2, if_pos h3]
  · by_cases h3 : i < 4096
    · simp only [if_neg hn, if_neg h2, if_pos h3]
    · simp only [if_neg hn, if_neg h2, if_neg h3]
      rw [wrap64_in (n := i - 4096) (by omega) (by omega), Int.tdiv_eq_ediv_of_nonneg (by omega), wrap64_in (n := (i - 4096) / 128) (by omega) (by omega),
        wrap64_in (n := (i - 4096) / 128 + 1) (by omega) (by omega), wrap64_in (n := ((i - 4096) / 128 + 1) * 128) (by omega) (by omega), wrap64_in (by omega) (by omega)]
theorem of_out (k : Nat) (hk : 0 < k) (i : Int) (h : i < 0 ∨ 5120 ≤ i) : guard_of.f k i = some (-1, -1, i) := by
  obtain ⟨k, rfl⟩ : ∃ m, k = m + 1 := ⟨k - 1, by omega⟩
  unfold guard_of.f
  by_cases h0 : i < 0
  · rw [if_pos h0]; simp only [guard_of.j0]; rfl
  · rw [if_neg h0, show decide (i ≥ 5120) = true from decide_eq_true (by omega)]; simp only [guard_of.j0]; rfl
theorem touches_is (t : Int) (lib wr : Bool) (i : Int) (h0 : 0 ≤ i) (h1 : i < 5120) : guard_Who_touches.f t lib (kindV i) (whoV i) wr = some (okB t lib wr i) := by
  have hn : ¬ (i < 0 ∨ 5120 ≤ i) := by omega
  unfold guard_Who_touches.f kindV whoV okB
  by_cases h2 : i < 2048
  · have h3 : i < 4096 := by omega
    simp only [if_neg hn, if_pos h2, if_pos h3]; rfl
  · by_cases h3 : i < 4096
    · simp only [if_neg hn, if_neg h2, if_pos h3]; rfl
    · simp only [if_neg hn, if_neg h2, if_neg h3]; rfl
theorem may_goes (t : Int) (lib wr : Bool) (e : Int) (he : e ≤ 5120) (d : Nat) : ∀ (k : Nat) (i : Int), 0 ≤ i → e - i ≤ d → d < k →
    ∃ r, guard_May.l0 k i wr e t lib = some r ∧ (r = true ↔ (t = -1 ∨ ∀ j : Int, i ≤ j → j < e → okB t lib wr j = true)) := by
  induction d with
  | zero =>
    intro k i h0 hd hk
    obtain ⟨k, rfl⟩ : ∃ m, k = m + 1 := ⟨k - 1, by omega⟩
    refine ⟨true, by simp only [guard_May.l0]; rw [if_neg (by omega)], fun _ => .inr fun j h1 h2 => by omega, fun _ => rfl⟩
  | succ d ih =>
    intro k i h0 hd hk
    obtain ⟨k, rfl⟩ : ∃ m, k = m + 1 := ⟨k - 1, by omega⟩
    simp only [guard_May.l0]
    by_cases hlt : i < e
    · have hna := next_above i
      rw [if_pos hlt, of_in k (by omega) i h0 (by omega)]
      simp only [Option.bind_some]
      obtain ⟨r, hr, hiff⟩ := ih k (nextV i) (by omega) (by omega) (by omega)
      by_cases ht : t = -1
      · rw [if_pos ht]
        refine ⟨r, hr, fun _ => .inl ht, fun _ => hiff.2 (.inl ht)⟩
      · rw [if_neg ht, touches_is t lib wr i h0 (by omega)]
        simp only [Option.bind_some]
        by_cases hok : okB t lib wr i = true
        · rw [if_pos hok]
          refine ⟨r, hr, fun h => .inr fun j h1 h2 => ?_, fun h => hiff.2 (.inr fun j h1 h2 => ?_)⟩
          · by_cases hj : j < nextV i
            · rw [zone_alike t lib wr i j h1 hj]; exact hok
            · rcases hiff.1 h with h3 | h3
              · exact absurd h3 ht
              · exact h3 j (by omega) h2
          · rcases h with h3 | h3
            · exact absurd h3 ht
            · exact h3 j (by omega) h2
        · rw [if_neg hok]
          refine ⟨false, rfl, fun h => (by cases h), fun h => ?_⟩
          rcases h with h3 | h3
          · exact absurd h3 ht
          · exact absurd (h3 i (by omega) hlt) hok
    · rw [if_neg hlt]
      exact ⟨true, rfl, fun _ => .inr fun j h1 h2 => by omega, fun _ => rfl⟩
theorem may_is (k : Nat) (hk : 5200 < k) (t : Int) (lib : Bool) (i n : Int) (wr : Bool) (hn : -9223372036854775808 ≤ n ∧ n ≤ 9223372036854775807) : guard_May.f k t lib i n wr = some (mayV t lib i n wr) := by
  obtain ⟨k, rfl⟩ : ∃ m, k = m + 1 := ⟨k - 1, by omega⟩
  unfold guard_May.f
  by_cases h0 : n < 0
  · rw [if_pos h0]; simp only [guard_May.j0, if_true]; rw [mayV_false.2 (fun h => by have := h.1; omega)]
  · rw [if_neg h0]
    by_cases h1 : i < 0
    · rw [if_pos h1]; simp only [guard_May.j0, if_true]; rw [mayV_false.2 (fun h => by have := h.2.1; omega)]
    · rw [if_neg h1]
      by_cases h2 : i > 5120
      · rw [if_pos h2]; simp only [guard_May.j0, if_true]; rw [mayV_false.2 (fun h => by have := h.2.2.1; omega)]
      · rw [if_neg h2, wrap64_in (by omega) (by omega)]
        by_cases h3 : n > 5120 - i
        · rw [decide_eq_true h3]; simp only [guard_May.j0, if_true]; rw [mayV_false.2 (fun h => by have := h.2.2.2.1; omega)]
        · rw [decide_eq_false h3]; simp only [guard_May.j0]
          rw [if_neg (by decide), wrap64_in (by omega) (by omega)]
          obtain ⟨r, hr, hiff⟩ := may_goes t lib wr (i + n) (by omega) 5120 k i (by omega) (by omega) (by omega)
          rw [hr, Option.some.injEq]
          refine mayV_is (hiff.trans ⟨fun h => ⟨by omega, by omega, by omega, by omega, h⟩, fun h => h.2.2.2.2⟩)
theorem region_is (k : Nat) (hk : 0 < k) (i : Int) : guard_Region.f k i = some (kindV i, whoV i) := by
  unfold guard_Region.f
  by_cases h : i < 0 ∨ 5120 ≤ i
  · rw [of_out k hk i h]
    unfold kindV whoV
    rw [if_pos h, if_pos h]; rfl
  · rw [of_in k hk i (by omega) (by omega)]; rfl
theorem area_is (t : Int) : guard_UserAt.f t = some (areaV t, areaB t) := by
  unfold guard_UserAt.f areaV areaB
  by_cases h0 : t < 0
  · rw [if_pos h0, if_neg (by omega), decide_eq_false (by omega)]
  · rw [if_neg h0]
    by_cases h1 : t ≥ 8
    · rw [if_pos h1, if_neg (by omega), decide_eq_false (by omega)]
    · rw [if_neg h1, if_pos (by omega), decide_eq_true (by omega), wrap64_in (n := t * 128) (by omega) (by omega), wrap64_in (by omega) (by omega), Int.mul_comm]

theorem awake : tenterhooklaw12_awake.f 20 = some true := by decide +kernel
theorem awake_at (k : Nat) (hk : 20 ≤ k) : tenterhooklaw12_awake.f k = some true := at_rounds tenterhooklaw12_awake.mono hk awake
theorem awake_call (w : World) : Calls Try.prog 35 #[] w fun e w' => e = .returned (.bool true) ∧ Below w.heap.size w w' := tenterhooklaw12_awake.calls 20 true w awake
theorem may_call (t : Int) (lib : Bool) (i n : Int) (wr : Bool) (w : World) (hn : -9223372036854775808 ≤ n ∧ n ≤ 9223372036854775807) :
    Calls Try.prog 36 #[.agg #[.int .i64 t, .bool lib], .int .i64 i, .int .i64 n, .bool wr] w fun e w' => e = .returned (.bool (mayV t lib i n wr)) ∧ Below w.heap.size w w' := guard_May.calls 6000 t lib i n wr _ w (may_is 6000 (by omega) t lib i n wr hn)
theorem ours_call (t : Int) (lib : Bool) (w : World) : Calls Try.prog 37 #[.agg #[.int .i64 t, .bool lib]] w fun e w' => e = .returned (.agg #[.int .i64 t, .bool lib]) ∧ Below w.heap.size w w' := tenterhooklaw12_ours.calls t lib t lib w rfl
theorem area_call (t : Int) (w : World) : Calls Try.prog 38 #[.int .i64 t] w fun e w' => e = .returned (.tuple #[.int .i64 (areaV t), .bool (areaB t)]) ∧ Drawn0 w w' := guard_UserAt.calls t _ _ w (area_is t)
theorem region_call (i : Int) (w : World) : Calls Try.prog 39 #[.int .i64 i] w fun e w' => e = .returned (.tuple #[.int .i64 (kindV i), .int .i64 (whoV i)]) ∧ Below w.heap.size w w' := guard_Region.calls 1 i _ _ w (region_is 1 (by omega) i)


/-! ### The reference's -/
theorem ref_region (k : Nat) (hk : 0 < k) (i : Int) : tenterhookref12_Region.f k i = some (kindV i, whoV i) := by
  obtain ⟨k, rfl⟩ : ∃ m, k = m + 1 := ⟨k - 1, by omega⟩
  unfold tenterhookref12_Region.f kindV whoV
  by_cases h0 : i < 0
  · have hn : i < 0 ∨ 5120 ≤ i := .inl h0
    simp only [if_pos h0, if_pos hn, tenterhookref12_Region.j0]; rfl
  · by_cases h1 : 5120 ≤ i
    · have hn : i < 0 ∨ 5120 ≤ i := .inr h1
      simp only [if_neg h0, if_pos hn]
      rw [decide_eq_true (show i ≥ 5120 from h1)]; simp only [tenterhookref12_Region.j0]; rfl
    · have hn : ¬ (i < 0 ∨ 5120 ≤ i) := by omega
      simp only [if_neg h0, if_neg hn]
      rw [decide_eq_false (show ¬ i ≥ 5120 from h1)]
      simp only [tenterhookref12_Region.j0]
      rw [if_neg (by decide)]
      by_cases h2 : i < 2048
      · have h3 : i < 4096 := by omega
        simp only [if_pos h2, if_pos h3]
      · by_cases h3 : i < 4096
        · simp only [if_neg h2, if_pos h3]
        · simp only [if_neg h2, if_neg h3]
          rw [wrap64_in (n := i - 4096) (by omega) (by omega), Int.tdiv_eq_ediv_of_nonneg (by omega), wrap64_in (by omega) (by omega)]
theorem ref_one (k : Nat) (hk : 0 < k) (t : Int) (lib wr : Bool) (i : Int) (h0 : 0 ≤ i) (h1 : i < 5120) : tenterhookref12_one.f k t lib i wr = some (okB t lib wr i) := by
  have hn : ¬ (i < 0 ∨ 5120 ≤ i) := by omega
  unfold tenterhookref12_one.f
  rw [ref_region k hk]
  simp only [Option.bind_some]
  unfold kindV whoV okB
  by_cases h2 : i < 2048
  · have h3 : i < 4096 := by omega
    simp only [if_neg hn, if_pos h2, if_pos h3]; cases wr <;> simp
  · by_cases h3 : i < 4096
    · simp only [if_neg hn, if_neg h2, if_pos h3]; cases lib <;> simp
    · simp only [if_neg hn, if_neg h2, if_neg h3]; simp
theorem ref_goes (t : Int) (lib wr : Bool) (i n : Int) (h0 : 0 ≤ i) (hn : 0 ≤ n) (he : i + n ≤ 5120) (d : Nat) : ∀ (k : Nat) (x : Int), 0 ≤ x → x ≤ n → n - x = d → 2 * d + 3 < k →
    ∃ r, tenterhookref12_May.l0 k i n wr x t lib = some r ∧ (r = true ↔ (t = -1 ∨ ∀ j : Int, i + x ≤ j → j < i + n → okB t lib wr j = true)) := by
  induction d with
  | zero =>
    intro k x hx hxn hd hk
    obtain ⟨k, rfl⟩ : ∃ m, k = m + 2 := ⟨k - 2, by omega⟩
    refine ⟨true, ?_, fun _ => .inr fun j h1 h2 => by omega, fun _ => rfl⟩
    simp only [tenterhookref12_May.l0]
    rw [if_neg (by omega)]
    simp only [tenterhookref12_May.j2]; rfl
  | succ d ih =>
    intro k x hx hxn hd hk
    obtain ⟨k, rfl⟩ : ∃ m, k = m + 2 := ⟨k - 2, by omega⟩
    simp only [tenterhookref12_May.l0]
    rw [if_pos (by omega)]
    by_cases ht : t = -1
    · rw [show (t != -1) = false by simp [ht]]
      simp only [tenterhookref12_May.j2]
      exact ⟨true, rfl, fun _ => .inl ht, fun _ => rfl⟩
    · rw [show (t != -1) = true by simp [ht]]
      simp only [tenterhookref12_May.j2, if_true]
      rw [wrap64_in (n := i + x) (by omega) (by omega), ref_one k (by omega) t lib wr (i + x) (by omega) (by omega)]
      simp only [Option.bind_some]
      by_cases hok : okB t lib wr (i + x) = true
      · rw [if_pos hok, wrap64_in (n := x + 1) (by omega) (by omega)]
        obtain ⟨r, hr, hiff⟩ := ih k (x + 1) (by omega) (by omega) (by omega) (by omega)
        refine ⟨r, hr, fun h => .inr fun j h1 h2 => ?_, fun h => hiff.2 (.inr fun j h1 h2 => ?_)⟩
        · by_cases hj : j = i + x
          · rw [hj]; exact hok
          · rcases hiff.1 h with h3 | h3
            · exact absurd h3 ht
            · exact h3 j (by omega) h2
        · rcases h with h3 | h3
          · exact absurd h3 ht
          · exact h3 j (by omega) h2
      · rw [if_neg hok]
        refine ⟨false, rfl, fun h => (by cases h), fun h => ?_⟩
        rcases h with h3 | h3
        · exact absurd h3 ht
        · exact absurd (h3 (i + x) (by omega) (by omega)) hok
theorem ref_may (t : Int) (lib : Bool) (i n : Int) (wr : Bool) (hn : -9223372036854775808 ≤ n ∧ n ≤ 9223372036854775807) : tenterhookref12_May.f 12000 t lib i n wr = some (mayV t lib i n wr) := by
  unfold tenterhookref12_May.f
  by_cases h0 : n < 0
  · rw [if_pos h0]; simp only [tenterhookref12_May.j0, if_true]; rw [mayV_false.2 (fun h => by have := h.1; omega)]
  · rw [if_neg h0]
    by_cases h1 : i < 0
    · rw [if_pos h1]; simp only [tenterhookref12_May.j0, if_true]; rw [mayV_false.2 (fun h => by have := h.2.1; omega)]
    · rw [if_neg h1]
      by_cases h2 : i > 5120
      · rw [if_pos h2]; simp only [tenterhookref12_May.j0, if_true]; rw [mayV_false.2 (fun h => by have := h.2.2.1; omega)]
      · rw [if_neg h2, wrap64_in (by omega) (by omega)]
        by_cases h3 : n > 5120 - i
        · rw [decide_eq_true h3]; simp only [tenterhookref12_May.j0, if_true]; rw [mayV_false.2 (fun h => by have := h.2.2.2.1; omega)]
        · rw [decide_eq_false h3]; simp only [tenterhookref12_May.j0]
          rw [if_neg (by decide)]
          obtain ⟨r, hr, hiff⟩ := ref_goes t lib wr i n (by omega) (by omega) (by omega) n.toNat 11999 0 (by omega) (by omega) (by omega) (by omega)
          rw [hr, Option.some.injEq]
          rw [Int.add_zero] at hiff
          refine mayV_is (hiff.trans ⟨fun h => ⟨by omega, by omega, by omega, by omega, h⟩, fun h => h.2.2.2.2⟩)
theorem ref_area (t : Int) : tenterhookref12_UserAt.f t = some (areaV t, areaB t) := by
  unfold tenterhookref12_UserAt.f areaV areaB
  by_cases h0 : t < 0
  · rw [if_pos h0, if_neg (by omega), decide_eq_false (by omega)]
  · rw [if_neg h0]
    by_cases h1 : t > 7
    · rw [if_pos h1, if_neg (by omega), decide_eq_false (by omega)]
    · rw [if_neg h1, if_pos (by omega), decide_eq_true (by omega), wrap64_in (n := 128 * t) (by omega) (by omega), wrap64_in (by omega) (by omega)]
theorem ref_may_call (t : Int) (lib : Bool) (i n : Int) (wr : Bool) (w : World) (hn : -9223372036854775808 ≤ n ∧ n ≤ 9223372036854775807) :
    Calls Try.prog 46 #[.agg #[.int .i64 t, .bool lib], .int .i64 i, .int .i64 n, .bool wr] w fun e w' => e = .returned (.bool (mayV t lib i n wr)) ∧ Below w.heap.size w w' := tenterhookref12_May.calls 12000 t lib i n wr _ w (ref_may t lib i n wr hn)
theorem ref_area_call (t : Int) (w : World) : Calls Try.prog 42 #[.int .i64 t] w fun e w' => e = .returned (.tuple #[.int .i64 (areaV t), .bool (areaB t)]) ∧ Drawn0 w w' := tenterhookref12_UserAt.calls t _ _ w (ref_area t)
theorem ref_region_call (i : Int) (w : World) : Calls Try.prog 43 #[.int .i64 i] w fun e w' => e = .returned (.tuple #[.int .i64 (kindV i), .int .i64 (whoV i)]) ∧ Drawn0 w w' := tenterhookref12_Region.calls 1 i _ _ w (ref_region 1 (by omega) i)
end Go.Proofs.Ytipflebjooanpaa.GuardTotIs
