/- What may not be written stays: the walk of GuardWrites, for every slice of bytes, every task and all whole numbers. No condition. -/
import Derived.Test.YtipflebjooanpaaWalkWrites2
namespace Go.Proofs.Ytipflebjooanpaa.WritesWalk
open Go.RowKit Go.Proofs.YtipflebjooanpaaW.PrintWords Go.Proofs.YtipflebjooanpaaW.PrintLast Go.Proofs.YtipflebjooanpaaW.PrintMore Go.Proofs.Ytipflebjooanpaa.GuardMath Go.Proofs.Ytipflebjooanpaa.GuardTotIs
open Go.Proofs.Ytipflebjooanpaa.Mem hiding awake_call
set_option linter.unusedSimpArgs false
set_option linter.unusedVariables false

theorem read_of (t : Int) (lib : Bool) (i n : Int) (h : mayV t lib i n true = true) : mayV t lib i n false = true := by
  rw [mayV_true] at h ⊢
  obtain ⟨a, b, c, d, h⟩ := h
  refine ⟨a, b, c, d, h.imp id fun g j h3 h4 => ?_⟩
  have := g j h3 h4
  revert this
  unfold okB
  split
  · intro _; rfl
  · exact id
theorem part_of (t : Int) (lib : Bool) (i n o : Int) (h : mayV t lib i n true = true) (h0 : i ≤ o) (h1 : o < i + n) : mayV t lib o 1 true = true := by
  rw [mayV_true] at h ⊢
  obtain ⟨a, b, c, d, h⟩ := h
  exact ⟨by decide, by omega, by omega, by omega, h.imp id fun g j h3 h4 => g j (by omega) (by omega)⟩
theorem getE_or (l : List Int) (a : Int) : getE l a = 0 ∨ getE l a = -9 ∨ getE l a = -23 := by
  unfold getE
  split
  · split
    · exact .inl rfl
    · exact .inr (.inr rfl)
  · exact .inr (.inl rfl)
theorem put_same {l : List Int} {a x o : Int} (he : getE l a = 0) (h0 : 0 ≤ o) (ho : o < a ∨ a + 8 ≤ o) : rd (putL l a x) o = rd l o := by
  have ht := there_true.1 (getE_zero.1 he).1
  unfold putL
  rw [if_pos he]
  unfold rd
  rw [getD_with (by rw [word_length]; omega), word_length, if_neg (by omega)]

theorem walk (A : Option Addr) (len c : Nat) (zs : List Int) (t : Int) (lib : Bool) (a x o : Int) (w : World)
    (hrow : (A = none ∧ len = 0 ∧ c = 0 ∧ zs = []) ∨ ∃ x, A = some x ∧ len ≤ c ∧ c ≤ maxLen ∧ zs.length = c ∧ (∀ i, i < zs.length → w.cell? (x.add i) = some (.int .u8 (zs.getD i 0))) ∧ ∀ n ∈ zs, (Lit.int .u8 n).wf = true)
    (hy0 : len * 1 ≤ 140737488351232) (_ : (Lit.int .i64 t).wf = true) (_ : (Lit.int .i64 a).wf = true) (wx : (Lit.int .i64 x).wf = true) (_ : (Lit.int .i64 o).wf = true) :
    Calls Try.prog 11 #[.slice A len c, .agg #[.int .i64 t, .bool lib], .int .i64 a, .int .i64 x, .int .i64 o] w fun e w' => e = .returned (.bool true) ∧ Below w.heap.size w w' := by
  obtain ⟨l, rfl, hs, hy, hl⟩ := row_opens hrow hy0
  clear hrow hy0
  have bx := wf64 wx
  by_cases hb : 5120 < l.length
  · exact walk_big A c l t lib a x o w (decide_eq_true hb) (decide_eq_true (by omega))
  · have hbf : decide (5120 < l.length) = false := decide_eq_false hb
    have hbf2 : decide ((5120 : Int) < l.length) = false := decide_eq_false (by omega)
    by_cases hm : mayV t lib a 8 true = true
    · have hr := read_of _ _ _ _ hm
      have e1 : wrL t lib l a x = putL l a x := by unfold wrL; rw [if_pos hm]
      have e2 : wrE t lib l a = getE l a := by unfold wrE; rw [if_pos hm]
      have hpl := put_len l a x
      by_cases hg : getE l a = 0
      · have ht := there_true.1 (getE_zero.1 hg).1
        have g2 : getE (putL l a x) a = 0 := by rw [getE_len hpl]; exact hg
        have v2 : getV (putL l a x) a = x := get_put hg bx
        have e3 : rdV t lib (putL l a x) a = x := by unfold rdV; rw [if_pos hr, v2]
        have e4 : rdE t lib (putL l a x) a = 0 := by unfold rdE; rw [if_pos hr, g2]
        have p1 : ((putL l a x).length == l.length) = true := by rw [hpl]; simp
        have p2 : (((putL l a x).length : Int) == l.length) = true := by rw [hpl]; simp
        by_cases ho : 0 ≤ o ∧ o < (l.length : Int)
        · by_cases hq : rd (putL l a x) o = rd l o
          · exact walk_same A c l _ t lib a x o w hs (byt_put hy _ _) hl hbf hbf2 e1 (e2.trans hg) e3 e4 v2 g2 p1 p2 _ ho.1 ho.2 (by rw [hpl]; exact ho.2) rfl hq
          · refine walk_may A c l _ t lib a x o w hs (byt_put hy _ _) hl hbf hbf2 e1 (e2.trans hg) e3 e4 v2 g2 p1 p2 _ _ ho.1 ho.2 (by rw [hpl]; exact ho.2) rfl rfl (by simpa using hq) ?_
            refine part_of t lib a 8 o hm ?_ ?_
            · refine Classical.byContradiction fun h => hq (put_same hg ho.1 (.inl (by omega)))
            · refine Classical.byContradiction fun h => hq (put_same hg ho.1 (.inr (by omega)))
        · exact walk_off A c l _ t lib a x o w hs (byt_put hy _ _) hl hbf hbf2 e1 (e2.trans hg) e3 e4 v2 g2 p1 p2 _ _ rfl rfl (by simp; omega)
      · have e5 : putL l a x = l := by unfold putL; rw [if_neg hg]
        refine walk_no A c l t lib a x o _ _ _ w hs hy hl hbf hbf2 (e1.trans e5) e2 rfl rfl (by simpa using hg) _ rfl ?_
        rcases getE_or l a with h | h | h <;> rw [h] at hg ⊢ <;> simp at hg ⊢
    · have e1 : wrL t lib l a x = l := by unfold wrL; rw [if_neg hm]
      have e2 : wrE t lib l a = -9 := by unfold wrE; rw [if_neg hm]
      exact walk_no A c l t lib a x o _ _ _ w hs hy hl hbf hbf2 e1 e2 rfl rfl (by decide) _ rfl (by decide)
end Go.Proofs.Ytipflebjooanpaa.WritesWalk
