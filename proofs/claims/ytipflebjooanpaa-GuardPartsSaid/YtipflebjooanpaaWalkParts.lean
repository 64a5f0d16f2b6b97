/- Bytes may be touched if each of them may: for every task, place and number of 64 bits. No condition. -/
import Derived.Test.YtipflebjooanpaaPGuardPartsx3
import Derived.Test.YtipflebjooanpaaGuardTotParts
import Derived.Test.YtipflebjooanpaaArith
namespace Go.Proofs.Ytipflebjooanpaa.PartsLaw
open Go.RowKit Go.Proofs.Ytipflebjooanpaa.PGuardParts Go.Proofs.YtipflebjooanpaaW.PrintWords Go.Proofs.YtipflebjooanpaaW.PrintLast Go.Proofs.YtipflebjooanpaaW.PrintMore Go.Proofs.Ytipflebjooanpaa.GuardMath Go.Proofs.Ytipflebjooanpaa.GuardTotParts
open Go.Proofs.Ytipflebjooanpaa.Arith (and_low)

theorem and16 (x : Int) : Go.bits .and .i64 x 65535 = x % 65536 := and_low x 16 (by decide)

theorem parts_split (t : Int) (lib : Bool) (i n c : Int) (wr : Bool) (h0 : 0 ≤ i) (h1 : 0 ≤ c) (h2 : c ≤ n) : mayV t lib i n wr = (mayV t lib i c wr && mayV t lib (i + c) (n - c) wr) := by
  rw [Bool.eq_iff_iff, Bool.and_eq_true, mayV_true, mayV_true, mayV_true]
  constructor
  · rintro ⟨_, _, _, _, h⟩
    refine ⟨⟨by omega, by omega, by omega, by omega, ?_⟩, ⟨by omega, by omega, by omega, by omega, ?_⟩⟩
    · exact h.imp id fun g j h3 h4 => g j (by omega) (by omega)
    · exact h.imp id fun g j h3 h4 => g j (by omega) (by omega)
  · rintro ⟨⟨_, _, _, _, h⟩, ⟨_, _, _, _, g⟩⟩
    refine ⟨by omega, by omega, by omega, by omega, ?_⟩
    rcases h with h | h
    · exact .inl h
    · rcases g with g | g
      · exact .inl g
      · refine .inr fun j h3 h4 => ?_
        by_cases hj : j < i + c
        · exact h j h3 hj
        · exact g j (by omega) (by omega)
theorem read_of (t : Int) (lib : Bool) (i n : Int) (wr : Bool) (h : mayV t lib i n wr = true) : mayV t lib i n false = true := by
  rw [mayV_true] at h ⊢
  obtain ⟨a, b, c, d, h⟩ := h
  refine ⟨a, b, c, d, h.imp id fun g j h3 h4 => ?_⟩
  have := g j h3 h4
  revert this
  unfold okB
  split
  · intro _; rfl
  · exact id
theorem lib_of (t : Int) (lib : Bool) (i n : Int) (wr : Bool) (h : mayV t lib i n wr = true) : mayV t true i n wr = true := by
  rw [mayV_true] at h ⊢
  obtain ⟨a, b, c, d, h⟩ := h
  refine ⟨a, b, c, d, h.imp id fun g j h3 h4 => ?_⟩
  have := g j h3 h4
  revert this
  unfold okB
  split
  · exact id
  · split
    · intro _; rfl
    · exact id

theorem goes (t : Int) (lib : Bool) (i n k : Int) (wr : Bool) (h0 : 0 ≤ i) (h1 : i ≤ 6000) (h2 : 0 ≤ n) (h3 : n ≤ 6000) : tenterhooklaw12_GuardParts.j0 6001 i n k wr true false t lib = some true := by
  simp only [tenterhooklaw12_GuardParts.j0]
  have e1 : wrap64 (n + 1) = n + 1 := wrap64_in (by omega) (by omega)
  have e2 : Int.tmod (k % 65536) (n + 1) = k % 65536 % (n + 1) := Int.tmod_eq_emod_of_nonneg (by omega)
  have c0 := Int.emod_nonneg (k % 65536) (show n + 1 ≠ 0 by omega)
  have c1 := Int.emod_lt_of_pos (k % 65536) (show 0 < n + 1 by omega)
  rw [if_neg (by decide), e1, if_neg (by omega), and16, e2]
  generalize k % 65536 % (n + 1) = c at *
  rw [wrap64_in (n := i + c) (by omega) (by omega), wrap64_in (n := n - c) (by omega) (by omega)]
  unfold tenterhooklaw12_ours.f
  simp only [Option.bind_some]
  rw [may_is 6000 (by omega) t lib i c wr (by omega), may_is 6000 (by omega) t lib (i + c) (n - c) wr (by omega), may_is 6000 (by omega) t lib i n wr (by omega), may_is 6000 (by omega) t lib i n false (by omega)]
  simp only [Option.bind_some, if_true]
  rw [may_is 6000 (by omega) t true i n wr (by omega)]
  simp only [Option.bind_some]
  have hs := parts_split t lib i n c wr h0 (by omega) (by omega)
  have hr := read_of t lib i n wr
  have hl := lib_of t lib i n wr
  generalize mayV t lib i n wr = p at *
  generalize mayV t lib i c wr = a at *
  generalize mayV t lib (i + c) (n - c) wr = b at *
  generalize mayV t lib i n false = r at *
  generalize mayV t true i n wr = l at *
  subst hs
  cases a <;> cases b <;> cases r <;> cases l <;> cases lib <;> simp at hr hl ⊢

theorem pure_ (t : Int) (lib : Bool) (i n k : Int) (wr : Bool) : tenterhooklaw12_GuardParts.f 6002 t lib i n k wr = some true := by
  unfold tenterhooklaw12_GuardParts.f
  have hout : tenterhooklaw12_GuardParts.j0 6002 i n k wr true true t lib = some true := by
    simp only [tenterhooklaw12_GuardParts.j0]; rfl
  rw [awake_at 6002 (by omega)]
  simp only [Option.bind_some]
  by_cases h0 : i < 0
  · rw [if_pos h0, hout]
  · rw [if_neg h0]
    by_cases h1 : i > 6000
    · rw [if_pos h1, hout]
    · rw [if_neg h1]
      by_cases h2 : n < 0
      · rw [if_pos h2, hout]
      · rw [if_neg h2]
        by_cases h3 : n > 6000
        · rw [if_pos h3, hout]
        · rw [if_neg h3]
          have hin := at_rounds (tenterhooklaw12_GuardParts.mono_l · i n k wr true false t lib) (show 6001 ≤ 6002 by omega) (goes t lib i n k wr (by omega) (by omega) (by omega) (by omega))
          by_cases h4 : t = -1
          · rw [if_pos h4]
            by_cases h5 : n = 0
            · rw [h5]; rw [h5] at hout; exact hout
            · rw [show (n == 0) = false by simp [h5]]; exact hin
          · rw [if_neg h4]; exact hin

/-- The law, walked. -/
theorem walk (t : Int) (lib : Bool) (i n k : Int) (wr : Bool) (w : World) (_ : (Lit.int .i64 t).wf = true) (_ : (Lit.int .i64 i).wf = true) (_ : (Lit.int .i64 n).wf = true) (_ : (Lit.int .i64 k).wf = true) :
    Calls Try.prog 5 #[.agg #[.int .i64 t, .bool lib], .int .i64 i, .int .i64 n, .int .i64 k, .bool wr] w fun e w' => e = .returned (.bool true) ∧ Below w.heap.size w w' :=
  tenterhooklaw12_GuardParts.calls 6002 t lib i n k wr true w (pure_ t lib i n k wr)
end Go.Proofs.Ytipflebjooanpaa.PartsLaw
