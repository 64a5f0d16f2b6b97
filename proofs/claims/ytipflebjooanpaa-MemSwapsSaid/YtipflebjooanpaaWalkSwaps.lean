/- A swap is all, or nothing: the walk of MemSwaps, for every slice of bytes and all whole numbers. No condition. -/
import Derived.Test.YtipflebjooanpaaMemMath
namespace Go.Proofs.Ytipflebjooanpaa.SwapsWalk
open Go.RowKit Go.Proofs.YtipflebjooanpaaW.PrintWords Go.Proofs.YtipflebjooanpaaW.PrintLast Go.Proofs.YtipflebjooanpaaW.PrintMore Go.Proofs.Ytipflebjooanpaa.Arith Go.Proofs.Ytipflebjooanpaa.Mem
set_option linter.unusedSimpArgs false
set_option linter.unusedVariables false

theorem wf8 {l : List Int} (h : ∀ x ∈ l, (Lit.int .u8 x).wf = true) : Byt l := fun x hx => by
  have := h x hx
  simp only [Lit.wf, IntKind.min, IntKind.max, IntKind.signed, IntKind.bits, Bool.and_eq_true, decide_eq_true_eq] at this
  simp at this
  omega

set_option maxHeartbeats 2000000 in
set_option maxRecDepth 100000 in
theorem walk_big (A : Option Addr) (c : Nat) (l : List Int) (a o x : Int) (w : World) (hb0 : decide (2000 < l.length) = true) (hb2 : decide ((2000 : Int) < l.length) = true) :
    Calls Try.prog 10 #[.slice A l.length c, .int .i64 a, .int .i64 o, .int .i64 x] w fun e w' => e = .returned (.bool true) ∧ Below w.heap.size w w' := by
  go_enter Try.func10, Try.ntmps10
  go_wp2_with (first | (go_at_call 16; (with_reducible refine (awake_call _).mono ?_); rintro e w1 ⟨rfl, hb⟩; have B1 := Aside0.mk hb; clear hb))
  go_ret
  exact ⟨by first | rfl | (simp; done) | (simp [*]; done), B1.out⟩

theorem swap_as (A : Option Addr) (c : Nat) (l : List Int) (a o x : Int) (p : List Int) (v g : Int) (hp : swapL l a o x = p) (hv : swapV l a o = v) (hg : getE l a = g) (w : World) (hs : Sl w A c l) (hy : Byt l) (hl : l.length ≤ 140737488355328) :
    Calls Try.prog 33 #[.slice A l.length c, .int .i64 a, .int .i64 o, .int .i64 x] w fun e w' => ∃ A' c', e = .returned (.tuple #[.slice A' p.length c', .int .i64 v, .int .i64 g]) ∧ Below w.heap.size w w' ∧ Sl w' A' c' p := by
  subst hp hv hg
  exact swap_call A c l a o x w hs hy hl
theorem get_as (A : Option Addr) (c : Nat) (l : List Int) (a v g : Int) (hv : getV l a = v) (hg : getE l a = g) (w : World) (hs : Sl w A c l) (hy : Byt l) :
    Calls Try.prog 20 #[.slice A l.length c, .int .i64 a] w fun e w' => e = .returned (.tuple #[.int .i64 v, .int .i64 g]) ∧ Drawn0 w w' := by
  subst hv hg
  exact get_call A c l a w hs hy

set_option maxHeartbeats 4000000 in
set_option maxRecDepth 100000 in
/-- Nothing is swapped. -/
theorem walk_no (A : Option Addr) (c : Nat) (l : List Int) (a o x v g : Int) (w : World) (hs : Sl w A c l) (hy : Byt l) (hl : l.length ≤ 140737488355328) (hb : decide (2000 < l.length) = false) (hb2 : decide ((2000 : Int) < l.length) = false)
    (h1 : swapL l a o x = l) (h2 : swapV l a o = 0) (h3 : getV l a = v) (h4 : getE l a = g) (u1 u2 : Bool) (h5 : (g == 0) = u1) (h6 : (v == o) = u2) (h7 : (u1 && u2) = false) :
    Calls Try.prog 10 #[.slice A l.length c, .int .i64 a, .int .i64 o, .int .i64 x] w fun e w' => e = .returned (.bool true) ∧ Below w.heap.size w w' := by
  have L := Aside0.mk ((Lv.start w).put hs)
  have HY := Aside0.mk hy
  have HL := Aside0.mk hl
  have h5' : (g != 0) = !u1 := by simp only [bne, h5]
  have h6' : (v != o) = !u2 := by simp only [bne, h6]
  have H1 := Aside0.mk h1
  have H2 := Aside0.mk h2
  have H3 := Aside0.mk h3
  have H4 := Aside0.mk h4
  clear hs hy hl h1 h2 h3 h4
  cases u1 <;> cases u2 <;> simp only [Bool.not_true, Bool.not_false, Bool.and_true, Bool.and_false, Bool.true_eq_false, Bool.false_eq_true] at h5' h6' h7
  all_goals
    go_enter Try.func10, Try.ntmps10
    go_wp2_with (first | (go_at_call 16; (with_reducible refine (awake_call _).mono ?_); rintro e w1 ⟨rfl, hb⟩; have L1 := Aside0.mk (L.out.on hb); clear L hb; have L := L1; clear L1) | (go_at_call 20; (with_reducible refine (get_as A c l a v g H3.out H4.out _ (L.out.a1) HY.out).mono ?_); rintro e w2 ⟨rfl, ⟨n2, rfl⟩⟩; have L1 := Aside0.mk (L.out.drawnN n2); clear L; have L := L1; clear L1) | (go_at_call 33; (with_reducible refine (swap_as A c l a o x l 0 g H1.out H2.out H4.out _ (L.out.a1) HY.out HL.out).mono ?_); rintro e w3 ⟨A3, c3, rfl, hb, hs3⟩; have cv1 := hs3.str; have cv2 := (L.out.on hb).a1.str; have L1 := Aside0.mk ((L.out.on hb).put hs3); clear L hb hs3; have L := L1; clear L1))
    go_ret
    exact ⟨by first | rfl | (simp; done) | (simp [*]; done), L.out.below⟩

set_option maxHeartbeats 4000000 in
set_option maxRecDepth 100000 in
/-- The old one is there. -/
theorem walk_yes (A : Option Addr) (c : Nat) (l p : List Int) (a o x : Int) (w : World) (hs : Sl w A c l) (hy : Byt l) (hyp : Byt p) (hl : l.length ≤ 140737488355328) (hlp : p.length ≤ 140737488355328) (hb : decide (2000 < l.length) = false) (hb2 : decide ((2000 : Int) < l.length) = false)
    (h1 : swapL l a o x = p) (h2 : swapV l a o = -1) (h3 : getV l a = o) (h4 : getE l a = 0) (h5 : getE p a = 0) (h6 : getV p a = x) (h7 : swapL p a x o = l) (h8 : swapV p a x = -1) :
    Calls Try.prog 10 #[.slice A l.length c, .int .i64 a, .int .i64 o, .int .i64 x] w fun e w' => e = .returned (.bool true) ∧ Below w.heap.size w w' := by
  have L := Aside0.mk ((Lv.start w).put hs)
  have HY := Aside0.mk hy
  have HYP := Aside0.mk hyp
  have HL := Aside0.mk hl
  have HLP := Aside0.mk hlp
  have H1 := Aside0.mk h1
  have H2 := Aside0.mk h2
  have H3 := Aside0.mk h3
  have H4 := Aside0.mk h4
  have H5 := Aside0.mk h5
  have H6 := Aside0.mk h6
  have H7 := Aside0.mk h7
  have H8 := Aside0.mk h8
  clear hs hy hyp hl hlp h1 h2 h3 h4 h5 h6 h7 h8
  go_enter Try.func10, Try.ntmps10
  go_wp2_with (first | (go_at_call 16; (with_reducible refine (awake_call _).mono ?_); rintro e w1 ⟨rfl, hb⟩; have L1 := Aside0.mk (L.out.on hb); clear L hb; have L := L1; clear L1) | (go_at_call 20; (with_reducible refine (get_as A c l a o 0 H3.out H4.out _ (L.out.a1) HY.out).mono ?_); rintro e w2 ⟨rfl, ⟨n2, rfl⟩⟩; have L1 := Aside0.mk (L.out.drawnN n2); clear L; have L := L1; clear L1) | (go_at_call 33; (with_reducible refine (swap_as A c l a o x p (-1) 0 H1.out H2.out H4.out _ (L.out.a1) HY.out HL.out).mono ?_); rintro e w3 ⟨A3, c3, rfl, hb, hs3⟩; have L1 := Aside0.mk ((L.out.on hb).put hs3); clear L hb hs3; have L := L1; clear L1) | (go_at_call 20; (with_reducible refine (get_as A3 c3 p a x 0 H6.out H5.out _ (L.out.a1) HYP.out).mono ?_); rintro e w4 ⟨rfl, ⟨n4, rfl⟩⟩; have L1 := Aside0.mk (L.out.drawnN n4); clear L; have L := L1; clear L1) | (go_at_call 33; (with_reducible refine (swap_as A3 c3 p a x o l (-1) 0 H7.out H8.out H5.out _ (L.out.a1) HYP.out HLP.out).mono ?_); rintro e w5 ⟨A5, c5, rfl, hb, hs5⟩; have cv1 := hs5.str; have cv2 := (L.out.on hb).a2.str; have L1 := Aside0.mk ((L.out.on hb).put hs5); clear L hb hs5; have L := L1; clear L1))
  go_ret
  exact ⟨by first | rfl | (simp; done) | (simp [*]; done), L.out.below⟩

/-- The law, walked. -/
theorem walk (A : Option Addr) (len c : Nat) (zs : List Int) (a o x : Int) (w : World)
    (hrow : (A = none ∧ len = 0 ∧ c = 0 ∧ zs = []) ∨ ∃ x, A = some x ∧ len ≤ c ∧ c ≤ maxLen ∧ zs.length = c ∧ (∀ i, i < zs.length → w.cell? (x.add i) = some (.int .u8 (zs.getD i 0))) ∧ ∀ n ∈ zs, (Lit.int .u8 n).wf = true)
    (hy0 : len * 1 ≤ 140737488351232) (_ : (Lit.int .i64 a).wf = true) (_ : (Lit.int .i64 o).wf = true) (hx : (Lit.int .i64 x).wf = true) :
    Calls Try.prog 10 #[.slice A len c, .int .i64 a, .int .i64 o, .int .i64 x] w fun e w' => e = .returned (.bool true) ∧ Below w.heap.size w w' := by
  obtain ⟨l, rfl, hr, _, hw, hc⟩ := ReadsInt.ofRowC hrow
  have hs : Sl w A c l := ⟨hr, hc⟩
  have hy := wf8 hw
  have hl : l.length ≤ 140737488355328 := by omega
  clear hrow hr hw hc
  by_cases hb : 2000 < l.length
  · exact walk_big A c l a o x w (decide_eq_true hb) (decide_eq_true (by omega))
  · by_cases hsw : swapB l a o = true
    · have hq : getE l a = 0 ∧ getV l a = o := by unfold swapB at hsw; simpa using hsw
      have e1 : swapL l a o x = putL l a x := by unfold swapL; rw [if_pos hsw]
      have e2 : swapV l a o = -1 := by unfold swapV; rw [if_pos hsw]
      have g1 : getE (putL l a x) a = 0 := by rw [getE_len (put_len l a x)]; exact hq.1
      have g2 : getV (putL l a x) a = x := get_put hq.1 (wf64 hx)
      have hsw2 : swapB (putL l a x) a x = true := by unfold swapB; rw [g1, g2]; simp
      have e3 : swapL (putL l a x) a x o = l := by unfold swapL; rw [if_pos hsw2, ← hq.2, put_back hy hq.1]
      have e4 : swapV (putL l a x) a x = -1 := by unfold swapV; rw [if_pos hsw2]
      exact walk_yes A c l (putL l a x) a o x w hs hy (byt_put hy a x) hl (by rw [put_len]; exact hl) (decide_eq_false hb) (decide_eq_false (by omega)) e1 e2 hq.2 hq.1 g1 g2 e3 e4
    · have e1 : swapL l a o x = l := by unfold swapL; rw [if_neg hsw]
      have e2 : swapV l a o = 0 := by unfold swapV; rw [if_neg hsw]
      exact walk_no A c l a o x _ _ w hs hy hl (decide_eq_false hb) (decide_eq_false (by omega)) e1 e2 rfl rfl _ _ rfl rfl (by simpa [swapB] using hsw)
end Go.Proofs.Ytipflebjooanpaa.SwapsWalk
