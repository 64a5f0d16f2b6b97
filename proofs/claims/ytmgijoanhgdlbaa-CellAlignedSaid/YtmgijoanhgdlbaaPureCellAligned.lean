/- What is aligned is a multiple of eight, and no nearer one lies ahead: for every whole number of 64 bits. No condition. -/
import Derived.Test.YtmgijoanhgdlbaaPCellAlignedx1
import Derived.Test.YtmgijoanhgdlbaaArith
namespace Go.Proofs.Ytmgijoanhgdlbaa.Pure
open Go.RowKit Go.Proofs.Ytmgijoanhgdlbaa.PCellAligned Go.Proofs.YtmgijoanhgdlbaaW.PrintWords Go.Proofs.YtmgijoanhgdlbaaW.PrintLast Go.Proofs.YtmgijoanhgdlbaaW.PrintMore Go.Proofs.Ytmgijoanhgdlbaa.Arith

theorem aligned_awake : tenterhooklaw01_awake.f = some true := by decide +kernel
theorem aligned_is (a : Int) : cell_Aligned.f a = some (wrap64 (a + 7) - wrap64 (a + 7) % 8) := by
  unfold cell_Aligned.f
  have e : wrap64 (wrap64 (a + 8) - 1) = wrap64 (a + 7) := by unfold wrap64; omega
  have r := wrap64_range (a + 7)
  rw [e, andNot7 _ r.1 r.2]

theorem CellAligned : tenterhooklaw01_CellAligned.Pure := by
  intro a h
  have r := wf64 h
  unfold tenterhooklaw01_CellAligned.f
  rw [aligned_awake, aligned_is]
  simp only [Option.bind_some, if_true, and7]
  rw [aligned_is]
  simp only [Option.bind_some]
  have e : ∀ n : Int, wrap64 n = (n + 9223372036854775808) % 18446744073709551616 - 9223372036854775808 := fun n => by unfold wrap64; rfl
  rw [if_pos (by simp only [e]; omega), if_pos (by simp only [e]; omega), if_pos (by simp only [e]; omega), if_pos (by simp only [e]; omega)]
  split
  · simp only [e, Option.some.injEq, beq_iff_eq]; omega
  · rfl

end Go.Proofs.Ytmgijoanhgdlbaa.Pure
