/- What may not be written stays: the place that may be written. No condition. -/
import Derived.Test.YtipflebjooanpaaWalkWrites
import Derived.Deep.RegionHeld3
namespace Go.Proofs.Ytipflebjooanpaa.WritesWalk
open Go.RowKit Go.Proofs.YtipflebjooanpaaW.PrintWords Go.Proofs.YtipflebjooanpaaW.PrintLast Go.Proofs.YtipflebjooanpaaW.PrintMore Go.Proofs.Ytipflebjooanpaa.GuardMath Go.Proofs.Ytipflebjooanpaa.GuardTotIs
open Go.Proofs.Ytipflebjooanpaa.Mem hiding awake_call
set_option linter.unusedSimpArgs false
set_option linter.unusedVariables false
theorem sm_on {w w1 w2 : World} {u1 u2 u3 u4 : Addr} {v1 v2 v3 v4 : Value} (h : w1.cell? u1 = some v1 ∧ w1.cell? u2 = some v2 ∧ w1.cell? u3 = some v3 ∧ w1.cell? u4 = some v4 ∧ Below w.heap.size w w1) (hb : Below w1.heap.size w1 w2) :
    w2.cell? u1 = some v1 ∧ w2.cell? u2 = some v2 ∧ w2.cell? u3 = some v3 ∧ w2.cell? u4 = some v4 ∧ Below w.heap.size w w2 :=
  ⟨pw_cell_below hb h.1, pw_cell_below hb h.2.1, pw_cell_below hb h.2.2.1, pw_cell_below hb h.2.2.2.1, below_step h.2.2.2.2 hb⟩
theorem one_hn : -9223372036854775808 ≤ (1 : Int) ∧ (1 : Int) ≤ 9223372036854775807 := by decide
set_option maxHeartbeats 4000000 in
set_option maxRecDepth 100000 in
/-- It is written; the other place may be written, too. -/
theorem walk_may (A : Option Addr) (c : Nat) (l p : List Int) (t : Int) (lib : Bool) (a x o : Int) (w : World) (hs : Sl w A c l) (hyp : Byt p) (hl : l.length ≤ 140737488355328) (hb0 : decide (5120 < l.length) = false) (hb2 : decide ((5120 : Int) < l.length) = false)
    (h1 : wrL t lib l a x = p) (h2 : wrE t lib l a = 0) (h3 : rdV t lib p a = x) (h4 : rdE t lib p a = 0) (h5 : getV p a = x) (h6 : getE p a = 0) (hpl : (p.length == l.length) = true) (hpl2 : ((p.length : Int) == l.length) = true)
    (xm xp : Int) (o0 : 0 ≤ o) (o1 : o < l.length) (op : o < p.length) (xm1 : rd l o = xm) (xp1 : rd p o = xp) (hne : (xp == xm) = false) (hmay : mayV t lib o 1 true = true) :
    Calls Try.prog 11 #[.slice A l.length c, .agg #[.int .i64 t, .bool lib], .int .i64 a, .int .i64 x, .int .i64 o] w fun e w' => e = .returned (.bool true) ∧ Below w.heap.size w w' := by
  obtain ⟨ad, rfl, hx0⟩ := hs.at_ o o0 o1
  rw [xm1] at hx0
  have XP := Aside0.mk xp1
  have O0 := Aside0.mk o0
  have OP := Aside0.mk op
  have k1 := decide_eq_true o0
  have k2 := decide_eq_true o1
  have e0 := eq_true o0
  have e1 := eq_true o1
  have e2 := eq_true op
  have XM := Aside0.mk xm1
  have Q := Aside0.mk (Lq.start (t := t) (lib := lib) ((Lv.start w).put hs))
  have HYP := Aside0.mk hyp
  have HL := Aside0.mk hl
  have H1 := Aside0.mk h1
  have H2 := Aside0.mk h2
  have H3 := Aside0.mk h3
  have H4 := Aside0.mk h4
  have H5 := Aside0.mk h5
  have H6 := Aside0.mk h6
  have hpl' : (p.length != l.length) = false := by simp only [bne, hpl]; rfl
  have hpl2' : ((p.length : Int) != l.length) = false := by simp only [bne, hpl2]; rfl
  clear hs hyp hl h1 h2 h3 h4 h5 h6 hx0 xm1 xp1 o0 o1 op
  go_enter Try.func11, Try.ntmps11
  go_wp2_with (first | (go_at_call 35; (with_reducible refine (awake_call _).mono ?_); rintro e w1 ⟨rfl, hb⟩; have Q1 := Aside0.mk (Q.out.on hb); clear Q hb; have Q := Q1; clear Q1; have q1 := Q.out.c0; have q2 := Q.out.c1) | (go_at_call 37; (with_reducible refine (ours_call t lib _).mono ?_); rintro e w2 ⟨rfl, hb⟩; have Q1 := Aside0.mk (Q.out.on hb); clear Q hb q1 q2; have Q := Q1; clear Q1; have q1 := Q.out.c0; have q2 := Q.out.c1) | (go_at_call 40; (with_reducible refine (write_as t lib (some ad) c l a x p 0 H1.out H2.out _ Q.out.lv.a1 HL.out).mono ?_); rintro e w3 ⟨A3, c3, rfl, hb, hs3⟩; have Q1 := Aside0.mk ((Q.out.on hb).put hs3); clear Q hb hs3 q1 q2; have Q := Q1; clear Q1; have q1 := Q.out.c0; have q2 := Q.out.c1) | (go_at_call 41; (with_reducible refine (read_as t lib A3 c3 p a x 0 H3.out H4.out _ Q.out.lv.a1 HYP.out).mono ?_); rintro e w4 ⟨rfl, hb⟩; have Q1 := Aside0.mk (Q.out.on hb); clear Q hb q1 q2; have Q := Q1; clear Q1; have q1 := Q.out.c0; have q2 := Q.out.c1) | (go_at_call 20; (with_reducible refine (get_as A3 c3 p a x 0 H5.out H6.out _ Q.out.lv.a1 HYP.out).mono ?_); rintro e w5 ⟨rfl, ⟨n5, rfl⟩⟩; have Q1 := Aside0.mk (Q.out.drawnN n5); clear Q q1 q2; have Q := Q1; clear Q1; have q1 := Q.out.c0; have q2 := Q.out.c1; obtain ⟨ad3, e3, hy3⟩ := Q.out.lv.a1.at_ o O0.out OP.out; rw [XP.out] at hy3; subst e3; obtain ⟨ad9, e9, hx9⟩ := Q.out.lv.a2.at_ o O0.out (of_decide_eq_true k2); cases e9; rw [XM.out] at hx9; have hy4 : w4.cell? (ad3.add o.toNat) = some (.int .u8 xp) := hy3; have hx4 : w4.cell? (ad.add o.toNat) = some (.int .u8 xm) := hx9; clear hy3 hx9))
  have BB := Q.out.lv.below
  clear Q HYP HL H1 H2 H3 H4 H5 H6 XP XM
  have ZZ : (fun w' : World => w'.cell? (ad3.add o.toNat) = some (.int .u8 xp) ∧ w'.cell? (ad.add o.toNat) = some (.int .u8 xm) ∧ w'.cell? ⟨w.heap.size, 0, none⟩ = some (.int .i64 t) ∧ w'.cell? ⟨w.heap.size, 1, none⟩ = some (.bool lib) ∧ Below w.heap.size w w') ((w4.drewN n5).drew) := ⟨hy4, hx4, q1, q2, pw_below_drewN BB 1⟩
  go_region_held3 (fun w' => w'.cell? (ad3.add o.toNat) = some (.int .u8 xp) ∧ w'.cell? (ad.add o.toNat) = some (.int .u8 xm) ∧ w'.cell? ⟨w.heap.size, 0, none⟩ = some (.int .i64 t) ∧ w'.cell? ⟨w.heap.size, 1, none⟩ = some (.bool lib) ∧ Below w.heap.size w w') (first | exact ZZ | exact sm_on (by assumption) hb | go_keep) (first | (go_at_call 37; refine (ours_call t lib _).mono ?_; rintro e w6 ⟨rfl, hb⟩) | (go_at_call 36; refine (may_call t lib o 1 true _ one_hn).mono ?_; rintro e w7 ⟨rfl, hb⟩))
  go_wp2
  go_ret
  exact ⟨by first | rfl | (simp; done) | (simp [*]; done), by first | assumption | (go_split_ands; assumption)⟩
end Go.Proofs.Ytipflebjooanpaa.WritesWalk
