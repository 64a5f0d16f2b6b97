/- The host may all that is there: for every task, place and number of 64 bits. No condition. -/
import Derived.Test.YtipflebjooanpaaPGuardHostx2
import Derived.Test.YtipflebjooanpaaGuardTotHost
namespace Go.Proofs.Ytipflebjooanpaa.HostLaw
open Go.RowKit Go.Proofs.Ytipflebjooanpaa.PGuardHost Go.Proofs.YtipflebjooanpaaW.PrintWords Go.Proofs.YtipflebjooanpaaW.PrintLast Go.Proofs.YtipflebjooanpaaW.PrintMore Go.Proofs.Ytipflebjooanpaa.GuardMath Go.Proofs.Ytipflebjooanpaa.GuardTotHost

theorem read_of (t : Int) (lib : Bool) (i n : Int) (h : mayV t lib i n true = true) : mayV t lib i n false = true := by
  rw [mayV_true] at h ⊢
  obtain ⟨a, b, c, d, h⟩ := h
  refine ⟨a, b, c, d, h.imp id fun g j h3 h4 => ?_⟩
  have := g j h3 h4
  revert this
  unfold okB
  split
  · intro _; rfl
  · exact id

theorem goes (i n t : Int) (lib x : Bool) (hn : -9223372036854775808 ≤ n ∧ n ≤ 9223372036854775807) (hx : x = true ↔ (0 ≤ n ∧ 0 ≤ i ∧ i ≤ 5120 ∧ n ≤ 5120 - i)) : tenterhooklaw12_GuardHost.j0 6001 i n true x t lib = some true := by
  have hh : ∀ wr, mayV (-1) false i n wr = x := fun wr => by
    rw [Bool.eq_iff_iff, mayV_true, hx]
    exact ⟨fun h => ⟨h.1, h.2.1, h.2.2.1, h.2.2.2.1⟩, fun h => ⟨h.1, h.2.1, h.2.2.1, h.2.2.2, .inl rfl⟩⟩
  have hr : mayV t lib i n false = true → x = true := fun h => by
    rw [mayV_true] at h
    exact hx.2 ⟨h.1, h.2.1, h.2.2.1, h.2.2.2.1⟩
  have hw := read_of t lib i n
  simp only [tenterhooklaw12_GuardHost.j0]
  unfold tenterhooklaw12_ours.f
  simp only [Option.bind_some, if_true]
  rw [may_is 6000 (by omega) t lib i n false hn, may_is 6000 (by omega) t lib i n true hn, may_is 6000 (by omega) (-1) false i n true hn, may_is 6000 (by omega) (-1) false i n false hn, hh, hh]
  simp only [Option.bind_some]
  generalize mayV t lib i n false = r at *
  generalize mayV t lib i n true = q at *
  clear hx hh
  cases x <;> cases r <;> cases q <;> simp at hr hw ⊢

theorem pure_ (i n t : Int) (lib : Bool) (hi : -9223372036854775808 ≤ i ∧ i ≤ 9223372036854775807) (hn : -9223372036854775808 ≤ n ∧ n ≤ 9223372036854775807) : tenterhooklaw12_GuardHost.f 6001 i n t lib = some true := by
  unfold tenterhooklaw12_GuardHost.f
  rw [awake_at 6001 (by omega)]
  simp only [Option.bind_some]
  by_cases h0 : n ≥ 0
  · rw [if_pos h0]
    by_cases h1 : i ≥ 0
    · rw [if_pos h1]
      by_cases h2 : i ≤ 5120
      · rw [if_pos h2, wrap64_in (by omega) (by omega)]
        exact goes i n t lib _ hn (by rw [decide_eq_true_eq]; omega)
      · rw [if_neg h2]
        exact goes i n t lib false hn ⟨fun h => (by cases h), fun h => by omega⟩
    · rw [if_neg h1]
      exact goes i n t lib false hn ⟨fun h => (by cases h), fun h => by omega⟩
  · rw [if_neg h0]
    exact goes i n t lib false hn ⟨fun h => (by cases h), fun h => by omega⟩

/-- The law, walked. -/
theorem walk (i n t : Int) (lib : Bool) (w : World) (h0 : (Lit.int .i64 i).wf = true) (h1 : (Lit.int .i64 n).wf = true) (_ : (Lit.int .i64 t).wf = true) :
    Calls Try.prog 6 #[.int .i64 i, .int .i64 n, .agg #[.int .i64 t, .bool lib]] w fun e w' => e = .returned (.bool true) ∧ Below w.heap.size w w' :=
  tenterhooklaw12_GuardHost.calls 6001 i n t lib true w (pure_ i n t lib (wf64 h0) (wf64 h1))
end Go.Proofs.Ytipflebjooanpaa.HostLaw
