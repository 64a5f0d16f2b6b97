/- What was put is there, and nothing else is another one: MemBack, for every slice of bytes and all whole numbers. No condition. -/
import Derived.Test.YtipflebjooanpaaWalkBack
namespace Go.Proofs.Ytipflebjooanpaa.BackWalk
open Go.RowKit Go.Proofs.YtipflebjooanpaaW.PrintWords Go.Proofs.YtipflebjooanpaaW.PrintLast Go.Proofs.YtipflebjooanpaaW.PrintMore Go.Proofs.Ytipflebjooanpaa.Arith Go.Proofs.Ytipflebjooanpaa.Mem

theorem and8 (x : Int) : Go.bits .and .i64 x 255 = x % 256 := and_low x 8 (by decide)
theorem isE_zero {b : Bool} : (isE b == 0) = b := by cases b <;> rfl
theorem put_at {l : List Int} {a x o : Int} (h0 : 0 ≤ o) (h : getE l a = 0 → ¬ (a ≤ o ∧ o - a < 8)) : rd (putL l a x) o = rd l o := by
  unfold putL
  by_cases hg : getE l a = 0
  · rw [if_pos hg]
    have ht := there_true.1 (getE_zero.1 hg).1
    unfold rd
    rw [getD_with (by rw [word_length]; omega), word_length, if_neg (by have := h hg; omega)]
  · rw [if_neg hg]
theorem fill_at {l : List Int} {a x o : Int} (h0 : 0 ≤ o) (h : o ≠ a) : rd (fillL l a 1 x) o = rd l o := by
  unfold fillL
  by_cases hg : thereB l a 1 = true
  · rw [if_pos hg]
    have ht := there_true.1 hg
    unfold rd
    rw [getD_with (by rw [List.length_replicate]; omega), List.length_replicate, if_neg (by omega)]
  · rw [if_neg hg]
theorem fill_there {l : List Int} {a x : Int} (hg : thereB l a 1 = true) : rd (fillL l a 1 x) a = x % 256 := by
  unfold fillL
  rw [if_pos hg]
  have ht := there_true.1 hg
  unfold rd
  rw [getD_with (by rw [List.length_replicate]; omega), List.length_replicate, if_pos (by omega)]
  simp [List.getD_eq_getElem?_getD]

/-- The law, walked. -/
theorem walk (A : Option Addr) (len c : Nat) (zs : List Int) (a x o : Int) (w : World)
    (hrow : (A = none ∧ len = 0 ∧ c = 0 ∧ zs = []) ∨ ∃ x, A = some x ∧ len ≤ c ∧ c ≤ maxLen ∧ zs.length = c ∧ (∀ i, i < zs.length → w.cell? (x.add i) = some (.int .u8 (zs.getD i 0))) ∧ ∀ n ∈ zs, (Lit.int .u8 n).wf = true)
    (hy0 : len * 1 ≤ 140737488351232) (_ : (Lit.int .i64 a).wf = true) (hx : (Lit.int .i64 x).wf = true) (_ : (Lit.int .i64 o).wf = true) :
    Calls Try.prog 13 #[.slice A len c, .int .i64 a, .int .i64 x, .int .i64 o] w fun e w' => e = .returned (.bool true) ∧ Below w.heap.size w w' := by
  obtain ⟨l, rfl, hs, hy, _⟩ := row_opens hrow hy0
  clear hrow hy0
  by_cases hb : 2000 < l.length
  · exact walk_big A c l a x o w (decide_eq_true hb) (decide_eq_true (by omega))
  · have hbf : decide (2000 < l.length) = false := decide_eq_false hb
    have hbf2 : decide ((2000 : Int) < l.length) = false := decide_eq_false (by omega)
    have lp : (putL l a x).length = l.length := put_len ..
    have lq : (fillL l a 1 x).length = l.length := fill_len ..
    have e6 : getE (putL l a x) a = getE l a := getE_len lp a
    have e8 : isE (thereB (fillL l a 1 x) a 1) = isE (thereB l a 1) := by rw [there_len lq]
    have t1 : (getE l a == 0) = true → (getV (putL l a x) a == x) = true := fun h => by
      rw [get_put (by simpa using h) (wf64 hx)]; simp
    have t2 : (isE (thereB l a 1) == 0) = true → (byteV (fillL l a 1 x) a == x % 256) = true := fun h => by
      rw [isE_zero] at h
      unfold byteV
      rw [if_pos (by rw [there_len lq]; exact h), fill_there h, wrap64_in (by omega) (by omega)]; simp
    have t3 : (getE l a == 0) = false → strOfNums (putL l a x) = strOfNums l := fun h => by
      have hn : ¬ getE l a = 0 := by simpa using h
      unfold putL; rw [if_neg hn]
    have t4 : (isE (thereB l a 1) == 0) = false → strOfNums (fillL l a 1 x) = strOfNums l := fun h => by
      rw [isE_zero] at h
      unfold fillL; rw [if_neg (by rw [h]; decide)]
    by_cases hr : 0 ≤ o ∧ o < (l.length : Int)
    · have t5 : ((getE l a == 0) && decide (a ≤ o) && decide (wrap64 (o - a) < 8)) = false → (rd (putL l a x) o == rd l o) = true := fun h => by
        rw [put_at hr.1 (fun hg hin => ?_)]
        · simp
        · have ht := there_true.1 (getE_zero.1 hg).1
          rw [wrap64_in (by omega) (by omega)] at h
          simp [hg, hin.1, hin.2] at h
      have t6 : (o == a) = false → (rd (fillL l a 1 x) o == rd l o) = true := fun h => by
        rw [fill_at hr.1 (by simpa using h)]; simp
      exact walk_at A c l _ _ a x o _ _ _ _ _ _ _ _ w hs (byt_put hy a x) (by omega) hbf hbf2 rfl rfl rfl rfl rfl e6 rfl e8 (and8 x) (by rw [lp]; simp) (by rw [lp]; simp) (by rw [lq]; simp) (by rw [lq]; simp)
        _ _ rfl rfl t1 t2 t3 t4 hr.1 hr.2 (by rw [lp]; exact hr.2) (by rw [lq]; exact hr.2) rfl rfl rfl _ _ _ rfl rfl rfl t5 t6
    · refine walk_off A c l _ _ a x o _ _ _ _ _ w hs (byt_put hy a x) (by omega) hbf hbf2 rfl rfl rfl rfl rfl e6 rfl e8 (and8 x) (by rw [lp]; simp) (by rw [lp]; simp) (by rw [lq]; simp) (by rw [lq]; simp)
        _ _ rfl rfl t1 t2 t3 t4 _ rfl (fun h => ?_)
      have : ¬ o < 0 := by simpa using h
      rw [decide_eq_true_eq]; omega
end Go.Proofs.Ytipflebjooanpaa.BackWalk
