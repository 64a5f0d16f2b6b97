/- What may not be written stays: the walk of GuardWrites, for every slice of bytes, every task and all whole numbers. No condition. -/
import Derived.Test.YtipflebjooanpaaGuardMem
import Derived.Deep.QuietTactic
import Derived.BigQuiet
import Derived.Deep.RegionWith
namespace Go.Proofs.Ytipflebjooanpaa.WritesWalk
open Go.RowKit Go.Proofs.YtipflebjooanpaaW.PrintWords Go.Proofs.YtipflebjooanpaaW.PrintLast Go.Proofs.YtipflebjooanpaaW.PrintMore Go.Proofs.Ytipflebjooanpaa.GuardMath Go.Proofs.Ytipflebjooanpaa.GuardTotIs
open Go.Proofs.Ytipflebjooanpaa.Mem hiding awake_call
set_option linter.unusedSimpArgs false
set_option linter.unusedVariables false

/-- What lives through the walk, and the block of the argument by value. -/
structure Lq (w0 w : World) (S : List (Option Addr × Nat × List Int)) (g : Nat) (t : Int) (lib : Bool) : Prop where
  lv : Lv w0 w S
  blk : w.heap[g]? = some (.cells #[.int .i64 t, .bool lib] 37 (0, 0))
theorem Lq.on {w0 w w1 : World} {S : List (Option Addr × Nat × List Int)} {g : Nat} {t : Int} {lib : Bool} (h : Lq w0 w S g t lib) (hb : Below w.heap.size w w1) : Lq w0 w1 S g t lib := ⟨h.lv.on hb, blk_below h.blk hb⟩
theorem Lq.put {w0 w : World} {S : List (Option Addr × Nat × List Int)} {g : Nat} {t : Int} {lib : Bool} (h : Lq w0 w S g t lib) {A : Option Addr} {c : Nat} {l : List Int} (hs : Sl w A c l) : Lq w0 w ((A, c, l) :: S) g t lib := ⟨h.lv.put hs, h.blk⟩
theorem Lq.drawnN {w0 w : World} {S : List (Option Addr × Nat × List Int)} {g : Nat} {t : Int} {lib : Bool} (h : Lq w0 w S g t lib) (n : Nat) : Lq w0 (w.drewN n) S g t lib := h.on (pw_below_drewN (Below.refl _ _) n)
theorem Lq.start {w0 : World} {S : List (Option Addr × Nat × List Int)} {t : Int} {lib : Bool} (h : Lv w0 w0 S) : Lq w0 (w0.alloc (.cells #[.int .i64 t, .bool lib] 37)) S w0.heap.size t lib := ⟨h.alloc _, blk_new _ _⟩
theorem Lq.c0 {w0 w : World} {S : List (Option Addr × Nat × List Int)} {g : Nat} {t : Int} {lib : Bool} (h : Lq w0 w S g t lib) : w.cell? ⟨g, 0, none⟩ = some (.int .i64 t) := (blk_cell h.blk 0).trans rfl
theorem Lq.c1 {w0 w : World} {S : List (Option Addr × Nat × List Int)} {g : Nat} {t : Int} {lib : Bool} (h : Lq w0 w S g t lib) : w.cell? ⟨g, 1, none⟩ = some (.bool lib) := (blk_cell h.blk 1).trans rfl

set_option maxHeartbeats 2000000 in
set_option maxRecDepth 100000 in
theorem walk_big (A : Option Addr) (c : Nat) (l : List Int) (t : Int) (lib : Bool) (a x o : Int) (w : World) (hb0 : decide (5120 < l.length) = true) (hb2 : decide ((5120 : Int) < l.length) = true) :
    Calls Try.prog 11 #[.slice A l.length c, .agg #[.int .i64 t, .bool lib], .int .i64 a, .int .i64 x, .int .i64 o] w fun e w' => e = .returned (.bool true) ∧ Below w.heap.size w w' := by
  go_enter Try.func11, Try.ntmps11
  go_wp2_with (first | (go_at_call 35; (with_reducible refine (awake_call _).mono ?_); rintro e w1 ⟨rfl, hb⟩; have B1 := Aside0.mk (below_step (below_alloc (Below.refl w.heap.size w) _) hb); clear hb))
  go_ret
  exact ⟨by first | rfl | (simp; done) | (simp [*]; done), B1.out⟩

set_option maxHeartbeats 4000000 in
set_option maxRecDepth 100000 in
/-- It may not be written. -/
theorem walk_no (A : Option Addr) (c : Nat) (l : List Int) (t : Int) (lib : Bool) (a x o g y f : Int) (w : World) (hs : Sl w A c l) (hy : Byt l) (hl : l.length ≤ 140737488355328) (hb0 : decide (5120 < l.length) = false) (hb2 : decide ((5120 : Int) < l.length) = false)
    (h1 : wrL t lib l a x = l) (h2 : wrE t lib l a = g) (h3 : rdV t lib l a = y) (h4 : rdE t lib l a = f) (hg : (g == 0) = false) (u : Bool) (hu : (g == -9) = u) (hv : u = false → (g == -23) = true) :
    Calls Try.prog 11 #[.slice A l.length c, .agg #[.int .i64 t, .bool lib], .int .i64 a, .int .i64 x, .int .i64 o] w fun e w' => e = .returned (.bool true) ∧ Below w.heap.size w w' := by
  have Q := Aside0.mk (Lq.start (t := t) (lib := lib) ((Lv.start w).put hs))
  have HY := Aside0.mk hy
  have HL := Aside0.mk hl
  have H1 := Aside0.mk h1
  have H2 := Aside0.mk h2
  have H3 := Aside0.mk h3
  have H4 := Aside0.mk h4
  have hg' : (g != 0) = true := by simp only [bne, hg]; rfl
  clear hs hy hl h1 h2 h3 h4
  cases u <;> simp only [forall_const, false_implies, Bool.true_eq_false] at hv
  all_goals
    go_enter Try.func11, Try.ntmps11
    go_wp2_with (first | (go_at_call 35; (with_reducible refine (awake_call _).mono ?_); rintro e w1 ⟨rfl, hb⟩; have Q1 := Aside0.mk (Q.out.on hb); clear Q hb; have Q := Q1; clear Q1; have q1 := Q.out.c0; have q2 := Q.out.c1) | (go_at_call 37; (with_reducible refine (ours_call t lib _).mono ?_); rintro e w2 ⟨rfl, hb⟩; have Q1 := Aside0.mk (Q.out.on hb); clear Q hb q1 q2; have Q := Q1; clear Q1; have q1 := Q.out.c0; have q2 := Q.out.c1) | (go_at_call 40; (with_reducible refine (write_as t lib A c l a x l g H1.out H2.out _ Q.out.lv.a1 HL.out).mono ?_); rintro e w3 ⟨A3, c3, rfl, hb, hs3⟩; have Q1 := Aside0.mk ((Q.out.on hb).put hs3); clear Q hb hs3 q1 q2; have Q := Q1; clear Q1; have q1 := Q.out.c0; have q2 := Q.out.c1) | (go_at_call 41; (with_reducible refine (read_as t lib A3 c3 l a y f H3.out H4.out _ Q.out.lv.a1 HY.out).mono ?_); rintro e w4 ⟨rfl, hb⟩; have Q1 := Aside0.mk (Q.out.on hb); clear Q hb q1 q2; have Q := Q1; clear Q1; have q1 := Q.out.c0; have q2 := Q.out.c1; have cv1 := Q.out.lv.a1.str; have cv2 := Q.out.lv.a2.str))
    go_ret
    exact ⟨by first | rfl | (simp; done) | (simp [*]; done), Q.out.lv.below⟩

set_option maxHeartbeats 4000000 in
set_option maxRecDepth 100000 in
/-- It is written; the other place is not there. -/
theorem walk_off (A : Option Addr) (c : Nat) (l p : List Int) (t : Int) (lib : Bool) (a x o : Int) (w : World) (hs : Sl w A c l) (hyp : Byt p) (hl : l.length ≤ 140737488355328) (hb0 : decide (5120 < l.length) = false) (hb2 : decide ((5120 : Int) < l.length) = false)
    (h1 : wrL t lib l a x = p) (h2 : wrE t lib l a = 0) (h3 : rdV t lib p a = x) (h4 : rdE t lib p a = 0) (h5 : getV p a = x) (h6 : getE p a = 0) (hpl : (p.length == l.length) = true) (hpl2 : ((p.length : Int) == l.length) = true)
    (b1 b2 : Bool) (k1 : decide (0 ≤ o) = b1) (k2 : decide (o < l.length) = b2) (ho : (b1 && b2) = false) :
    Calls Try.prog 11 #[.slice A l.length c, .agg #[.int .i64 t, .bool lib], .int .i64 a, .int .i64 x, .int .i64 o] w fun e w' => e = .returned (.bool true) ∧ Below w.heap.size w w' := by
  have Q := Aside0.mk (Lq.start (t := t) (lib := lib) ((Lv.start w).put hs))
  have HYP := Aside0.mk hyp
  have HL := Aside0.mk hl
  have H1 := Aside0.mk h1
  have H2 := Aside0.mk h2
  have H3 := Aside0.mk h3
  have H4 := Aside0.mk h4
  have H5 := Aside0.mk h5
  have H6 := Aside0.mk h6
  have hpl' : (p.length != l.length) = false := by simp only [bne, hpl]; rfl
  have hpl2' : ((p.length : Int) != l.length) = false := by simp only [bne, hpl2]; rfl
  clear hs hyp hl h1 h2 h3 h4 h5 h6
  cases b1 <;> cases b2 <;> simp only [Bool.and_true, Bool.and_false, Bool.true_eq_false] at ho
  all_goals
    go_enter Try.func11, Try.ntmps11
    go_wp2_with (first | (go_at_call 35; (with_reducible refine (awake_call _).mono ?_); rintro e w1 ⟨rfl, hb⟩; have Q1 := Aside0.mk (Q.out.on hb); clear Q hb; have Q := Q1; clear Q1; have q1 := Q.out.c0; have q2 := Q.out.c1) | (go_at_call 37; (with_reducible refine (ours_call t lib _).mono ?_); rintro e w2 ⟨rfl, hb⟩; have Q1 := Aside0.mk (Q.out.on hb); clear Q hb q1 q2; have Q := Q1; clear Q1; have q1 := Q.out.c0; have q2 := Q.out.c1) | (go_at_call 40; (with_reducible refine (write_as t lib A c l a x p 0 H1.out H2.out _ Q.out.lv.a1 HL.out).mono ?_); rintro e w3 ⟨A3, c3, rfl, hb, hs3⟩; have Q1 := Aside0.mk ((Q.out.on hb).put hs3); clear Q hb hs3 q1 q2; have Q := Q1; clear Q1; have q1 := Q.out.c0; have q2 := Q.out.c1) | (go_at_call 41; (with_reducible refine (read_as t lib A3 c3 p a x 0 H3.out H4.out _ Q.out.lv.a1 HYP.out).mono ?_); rintro e w4 ⟨rfl, hb⟩; have Q1 := Aside0.mk (Q.out.on hb); clear Q hb q1 q2; have Q := Q1; clear Q1; have q1 := Q.out.c0; have q2 := Q.out.c1) | (go_at_call 20; (with_reducible refine (get_as A3 c3 p a x 0 H5.out H6.out _ Q.out.lv.a1 HYP.out).mono ?_); rintro e w5 ⟨rfl, ⟨n5, rfl⟩⟩; have Q1 := Aside0.mk (Q.out.drawnN n5); clear Q q1 q2; have Q := Q1; clear Q1; have q1 := Q.out.c0; have q2 := Q.out.c1))
    go_quiet (fail)
    go_wp2
    go_ret
    exact ⟨by first | rfl | (simp; done) | (simp [*]; done), by first | exact Q.out.lv.below | (apply pw_below_drewN; exact Q.out.lv.below) | (simp only [← World.drewN_drewN]; repeat (first | exact Q.out.lv.below | apply pw_below_drewN))⟩

set_option maxHeartbeats 4000000 in
set_option maxRecDepth 100000 in
/-- It is written; the other place is as it was. -/
theorem walk_same (A : Option Addr) (c : Nat) (l p : List Int) (t : Int) (lib : Bool) (a x o : Int) (w : World) (hs : Sl w A c l) (hyp : Byt p) (hl : l.length ≤ 140737488355328) (hb0 : decide (5120 < l.length) = false) (hb2 : decide ((5120 : Int) < l.length) = false)
    (h1 : wrL t lib l a x = p) (h2 : wrE t lib l a = 0) (h3 : rdV t lib p a = x) (h4 : rdE t lib p a = 0) (h5 : getV p a = x) (h6 : getE p a = 0) (hpl : (p.length == l.length) = true) (hpl2 : ((p.length : Int) == l.length) = true)
    (xm : Int) (o0 : 0 ≤ o) (o1 : o < l.length) (op : o < p.length) (xm1 : rd l o = xm) (xp1 : rd p o = xm) :
    Calls Try.prog 11 #[.slice A l.length c, .agg #[.int .i64 t, .bool lib], .int .i64 a, .int .i64 x, .int .i64 o] w fun e w' => e = .returned (.bool true) ∧ Below w.heap.size w w' := by
  obtain ⟨ad, rfl, hx0⟩ := hs.at_ o o0 o1
  rw [xm1] at hx0
  have XP := Aside0.mk xp1
  have O0 := Aside0.mk o0
  have OP := Aside0.mk op
  have k1 := decide_eq_true o0
  have k2 := decide_eq_true o1
  have e0 := eq_true o0
  have e1 := eq_true o1
  have e2 := eq_true op
  have XM := Aside0.mk xm1
  have Q := Aside0.mk (Lq.start (t := t) (lib := lib) ((Lv.start w).put hs))
  have HYP := Aside0.mk hyp
  have HL := Aside0.mk hl
  have H1 := Aside0.mk h1
  have H2 := Aside0.mk h2
  have H3 := Aside0.mk h3
  have H4 := Aside0.mk h4
  have H5 := Aside0.mk h5
  have H6 := Aside0.mk h6
  have hpl' : (p.length != l.length) = false := by simp only [bne, hpl]; rfl
  have hpl2' : ((p.length : Int) != l.length) = false := by simp only [bne, hpl2]; rfl
  clear hs hyp hl h1 h2 h3 h4 h5 h6 hx0 xm1 xp1 o0 o1 op
  go_enter Try.func11, Try.ntmps11
  go_wp2_with (first | (go_at_call 35; (with_reducible refine (awake_call _).mono ?_); rintro e w1 ⟨rfl, hb⟩; have Q1 := Aside0.mk (Q.out.on hb); clear Q hb; have Q := Q1; clear Q1; have q1 := Q.out.c0; have q2 := Q.out.c1) | (go_at_call 37; (with_reducible refine (ours_call t lib _).mono ?_); rintro e w2 ⟨rfl, hb⟩; have Q1 := Aside0.mk (Q.out.on hb); clear Q hb q1 q2; have Q := Q1; clear Q1; have q1 := Q.out.c0; have q2 := Q.out.c1) | (go_at_call 40; (with_reducible refine (write_as t lib (some ad) c l a x p 0 H1.out H2.out _ Q.out.lv.a1 HL.out).mono ?_); rintro e w3 ⟨A3, c3, rfl, hb, hs3⟩; have Q1 := Aside0.mk ((Q.out.on hb).put hs3); clear Q hb hs3 q1 q2; have Q := Q1; clear Q1; have q1 := Q.out.c0; have q2 := Q.out.c1) | (go_at_call 41; (with_reducible refine (read_as t lib A3 c3 p a x 0 H3.out H4.out _ Q.out.lv.a1 HYP.out).mono ?_); rintro e w4 ⟨rfl, hb⟩; have Q1 := Aside0.mk (Q.out.on hb); clear Q hb q1 q2; have Q := Q1; clear Q1; have q1 := Q.out.c0; have q2 := Q.out.c1) | (go_at_call 20; (with_reducible refine (get_as A3 c3 p a x 0 H5.out H6.out _ Q.out.lv.a1 HYP.out).mono ?_); rintro e w5 ⟨rfl, ⟨n5, rfl⟩⟩; have Q1 := Aside0.mk (Q.out.drawnN n5); clear Q q1 q2; have Q := Q1; clear Q1; have q1 := Q.out.c0; have q2 := Q.out.c1; obtain ⟨ad3, e3, hy3⟩ := Q.out.lv.a1.at_ o O0.out OP.out; rw [XP.out] at hy3; subst e3; obtain ⟨ad9, e9, hx9⟩ := Q.out.lv.a2.at_ o O0.out (of_decide_eq_true k2); cases e9; rw [XM.out] at hx9; have hy4 : w4.cell? (ad3.add o.toNat) = some (.int .u8 xm) := hy3; have hx4 : w4.cell? (ad.add o.toNat) = some (.int .u8 xm) := hx9; clear hy3 hx9))
  go_quiet (fail)
  go_wp2
  go_ret
  exact ⟨by first | rfl | (simp; done) | (simp [*]; done), by first | exact Q.out.lv.below | (apply pw_below_drewN; exact Q.out.lv.below) | (simp only [← World.drewN_drewN]; repeat (first | exact Q.out.lv.below | apply pw_below_drewN))⟩
end Go.Proofs.Ytipflebjooanpaa.WritesWalk
