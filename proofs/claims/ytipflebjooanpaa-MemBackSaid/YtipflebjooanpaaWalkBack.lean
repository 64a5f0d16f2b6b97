/- What was put is there, and nothing else is another one: the walk of MemBack, for every slice of bytes and all whole numbers. No condition. -/
import Derived.Test.YtipflebjooanpaaMemAs
import Derived.Deep.QuietTactic
import Derived.BigQuiet
namespace Go.Proofs.Ytipflebjooanpaa.BackWalk
open Go.RowKit Go.Proofs.YtipflebjooanpaaW.PrintWords Go.Proofs.YtipflebjooanpaaW.PrintLast Go.Proofs.YtipflebjooanpaaW.PrintMore Go.Proofs.Ytipflebjooanpaa.Arith Go.Proofs.Ytipflebjooanpaa.Mem
set_option linter.unusedSimpArgs false
set_option linter.unusedVariables false

set_option maxHeartbeats 2000000 in
set_option maxRecDepth 100000 in
theorem walk_big (A : Option Addr) (c : Nat) (l : List Int) (a x o : Int) (w : World) (hb0 : decide (2000 < l.length) = true) (hb2 : decide ((2000 : Int) < l.length) = true) :
    Calls Try.prog 13 #[.slice A l.length c, .int .i64 a, .int .i64 x, .int .i64 o] w fun e w' => e = .returned (.bool true) ∧ Below w.heap.size w w' := by
  go_enter Try.func13, Try.ntmps13
  go_wp2_with (first | (go_at_call 16; (with_reducible refine (awake_call _).mono ?_); rintro e w1 ⟨rfl, hb⟩; have B1 := Aside0.mk hb; clear hb))
  go_ret
  exact ⟨by first | rfl | (simp; done) | (simp [*]; done), B1.out⟩

set_option maxHeartbeats 8000000 in
set_option maxRecDepth 100000 in
/-- The other one is not there. -/
theorem walk_off (A : Option Addr) (c : Nat) (l p q : List Int) (a x o g h y z z0 : Int) (w : World) (hs : Sl w A c l) (hyp : Byt p) (hl : l.length ≤ 8192) (hb : decide (2000 < l.length) = false) (hb2 : decide ((2000 : Int) < l.length) = false)
    (h1 : putL l a x = p) (h2 : getE l a = g) (h3 : fillL l a 1 x = q) (h4 : isE (thereB l a 1) = h) (h5 : getV p a = y) (h6 : getE p a = g) (h7 : byteV q a = z) (h8 : isE (thereB q a 1) = h) (hx : Go.bits .and .i64 x 255 = z0)
    (hp1 : (p.length == l.length) = true) (hp2 : ((p.length : Int) == l.length) = true) (hq1 : (q.length == l.length) = true) (hq2 : ((q.length : Int) == l.length) = true)
    (u1 u2 : Bool) (g1 : (g == 0) = u1) (g2 : (h == 0) = u2) (t1 : u1 = true → (y == x) = true) (t2 : u2 = true → (z == z0) = true) (t3 : u1 = false → strOfNums p = strOfNums l) (t4 : u2 = false → strOfNums q = strOfNums l)
    (v1 : Bool) (k1 : decide (o < 0) = v1) (k2 : v1 = false → decide ((l.length : Int) ≤ o) = true) :
    Calls Try.prog 13 #[.slice A l.length c, .int .i64 a, .int .i64 x, .int .i64 o] w fun e w' => e = .returned (.bool true) ∧ Below w.heap.size w w' := by
  have L := Aside0.mk ((Lv.start w).put hs)
  have HL := Aside0.mk hl
  have HL2 := Aside0.mk (show l.length ≤ 140737488355328 by omega)
  have HY := Aside0.mk hyp
  have H1 := Aside0.mk h1
  have H2 := Aside0.mk h2
  have H3 := Aside0.mk h3
  have H4 := Aside0.mk h4
  have H5 := Aside0.mk h5
  have H6 := Aside0.mk h6
  have H7 := Aside0.mk h7
  have H8 := Aside0.mk h8
  have hp1' : (p.length != l.length) = false := by simp only [bne, hp1]; rfl
  have hp2' : ((p.length : Int) != l.length) = false := by simp only [bne, hp2]; rfl
  have hq1' : (q.length != l.length) = false := by simp only [bne, hq1]; rfl
  have hq2' : ((q.length : Int) != l.length) = false := by simp only [bne, hq2]; rfl
  have g1' : (g != 0) = !u1 := by simp only [bne, g1]
  have g2' : (h != 0) = !u2 := by simp only [bne, g2]
  have t1' : u1 = true → (y != x) = false := fun hu => by simp only [bne, t1 hu]; rfl
  have t2' : u2 = true → (z != z0) = false := fun hu => by simp only [bne, t2 hu]; rfl
  clear hs hyp hl h1 h2 h3 h4 h5 h6 h7 h8
  cases u1 <;> cases u2 <;> cases v1 <;> simp only [Bool.not_true, Bool.not_false, forall_const, false_implies, Bool.true_eq_false, Bool.false_eq_true] at g1' g2' t1 t2 t3 t4 t1' t2' k2
  all_goals
    go_enter Try.func13, Try.ntmps13
    go_wp2_with (first | (go_at_call 16; (with_reducible refine (awake_call _).mono ?_); rintro e w1 ⟨rfl, hb⟩; have L1 := Aside0.mk (L.out.on hb); clear L hb; have L := L1; clear L1) | (go_at_call 22; (with_reducible refine (put_as A c l a x p g H1.out H2.out _ L.out.a1 HL2.out).mono ?_); rintro e w2 ⟨A2, c2, rfl, hb, hs2⟩; have L1 := Aside0.mk ((L.out.on hb).put hs2); clear L hb hs2; have L := L1; clear L1) | (go_at_call 30; (with_reducible refine (putbyte_as A c l a x q h H3.out H4.out _ L.out.a2 HL.out).mono ?_); rintro e w3 ⟨A3, c3, rfl, hb, hs3⟩; have L1 := Aside0.mk ((L.out.on hb).put hs3); clear L hb hs3; have L := L1; clear L1; have cv1 := fun m => L.out.a1.strN m; have cv2 := fun m => L.out.a2.strN m; have cv3 := fun m => L.out.a3.strN m) | (go_at_call 20; (with_reducible refine (get_as A2 c2 p a y g H5.out H6.out _ L.out.a2 HY.out).mono ?_); rintro e w4 ⟨rfl, ⟨n4, rfl⟩⟩; have L1 := Aside0.mk (L.out.drawnN n4); clear L; have L := L1; clear L1) | (go_at_call 24; (with_reducible refine (byte_as A3 c3 q a z h H7.out H8.out _ L.out.a1).mono ?_); rintro e w5 ⟨rfl, ⟨n5, rfl⟩⟩; have L1 := Aside0.mk (L.out.drawnN n5); clear L; have L := L1; clear L1))
    go_ret
    exact ⟨by first | rfl | (simp; done) | (simp [*]; done), by first | exact L.out.below | (rw [← World.drewN_drewN]; exact L.out.below)⟩
set_option maxHeartbeats 8000000 in
set_option maxRecDepth 100000 in
/-- The other one is there. -/
theorem walk_at (A : Option Addr) (c : Nat) (l p q : List Int) (a x o g h y z z0 xm xp xq : Int) (w : World) (hs : Sl w A c l) (hyp : Byt p) (hl : l.length ≤ 8192) (hb : decide (2000 < l.length) = false) (hb2 : decide ((2000 : Int) < l.length) = false)
    (h1 : putL l a x = p) (h2 : getE l a = g) (h3 : fillL l a 1 x = q) (h4 : isE (thereB l a 1) = h) (h5 : getV p a = y) (h6 : getE p a = g) (h7 : byteV q a = z) (h8 : isE (thereB q a 1) = h) (hx : Go.bits .and .i64 x 255 = z0)
    (hp1 : (p.length == l.length) = true) (hp2 : ((p.length : Int) == l.length) = true) (hq1 : (q.length == l.length) = true) (hq2 : ((q.length : Int) == l.length) = true)
    (u1 u2 : Bool) (g1 : (g == 0) = u1) (g2 : (h == 0) = u2) (t1 : u1 = true → (y == x) = true) (t2 : u2 = true → (z == z0) = true) (t3 : u1 = false → strOfNums p = strOfNums l) (t4 : u2 = false → strOfNums q = strOfNums l)
    (o0 : 0 ≤ o) (o1 : o < l.length) (op : o < p.length) (oq : o < q.length) (xm1 : rd l o = xm) (xp1 : rd p o = xp) (xq1 : rd q o = xq)
    (b1 b2 oe : Bool) (k3 : decide (a ≤ o) = b1) (k4 : decide (wrap64 (o - a) < 8) = b2) (k5 : (o == a) = oe) (t5 : (u1 && b1 && b2) = false → (xp == xm) = true) (t6 : oe = false → (xq == xm) = true) :
    Calls Try.prog 13 #[.slice A l.length c, .int .i64 a, .int .i64 x, .int .i64 o] w fun e w' => e = .returned (.bool true) ∧ Below w.heap.size w w' := by
  obtain ⟨ad, rfl, hx0⟩ := hs.at_ o o0 o1
  rw [xm1] at hx0
  have HX := Aside0.mk hx0
  have XP := Aside0.mk xp1
  have XQ := Aside0.mk xq1
  have O0 := Aside0.mk o0
  have OP := Aside0.mk op
  have OQ := Aside0.mk oq
  have k1 := decide_eq_false (show ¬ o < 0 by omega)
  have k2 := decide_eq_false (show ¬ (l.length : Int) ≤ o by omega)
  have e0 := eq_true o0
  have e1 := eq_true o1
  have e2 := eq_true op
  have e3 := eq_true oq
  have L := Aside0.mk ((Lv.start w).put hs)
  have HL := Aside0.mk hl
  have HL2 := Aside0.mk (show l.length ≤ 140737488355328 by omega)
  have HY := Aside0.mk hyp
  have H1 := Aside0.mk h1
  have H2 := Aside0.mk h2
  have H3 := Aside0.mk h3
  have H4 := Aside0.mk h4
  have H5 := Aside0.mk h5
  have H6 := Aside0.mk h6
  have H7 := Aside0.mk h7
  have H8 := Aside0.mk h8
  have hp1' : (p.length != l.length) = false := by simp only [bne, hp1]; rfl
  have hp2' : ((p.length : Int) != l.length) = false := by simp only [bne, hp2]; rfl
  have hq1' : (q.length != l.length) = false := by simp only [bne, hq1]; rfl
  have hq2' : ((q.length : Int) != l.length) = false := by simp only [bne, hq2]; rfl
  have g1' : (g != 0) = !u1 := by simp only [bne, g1]
  have g2' : (h != 0) = !u2 := by simp only [bne, g2]
  have t1' : u1 = true → (y != x) = false := fun hu => by simp only [bne, t1 hu]; rfl
  have t2' : u2 = true → (z != z0) = false := fun hu => by simp only [bne, t2 hu]; rfl
  clear hs hyp hl h1 h2 h3 h4 h5 h6 h7 h8 hx0 xm1 xp1 xq1 o0 o1 op oq
  cases u1 <;> cases u2 <;> cases oe <;> simp only [Bool.not_true, Bool.not_false, forall_const, false_implies, Bool.true_eq_false, Bool.false_eq_true, Bool.true_and, Bool.false_and] at g1' g2' t1 t2 t3 t4 t1' t2' t5 t6
  all_goals (first | (cases b1 <;> cases b2 <;> simp only [Bool.true_and, Bool.false_and, Bool.and_false, Bool.true_eq_false, forall_const, false_implies] at t5) | skip)
  all_goals
    go_enter Try.func13, Try.ntmps13
    go_wp2_with (first | (go_at_call 16; (with_reducible refine (awake_call _).mono ?_); rintro e w1 ⟨rfl, hb⟩; have hx0 := pw_cell_below hb HX.out; clear HX; have HX := Aside0.mk hx0; clear hx0; have L1 := Aside0.mk (L.out.on hb); clear L hb; have L := L1; clear L1) | (go_at_call 22; (with_reducible refine (put_as (some ad) c l a x p g H1.out H2.out _ L.out.a1 HL2.out).mono ?_); rintro e w2 ⟨A2, c2, rfl, hb, hs2⟩; obtain ⟨ad2, rfl, hy2⟩ := hs2.at_ o O0.out OP.out; rw [XP.out] at hy2; have HY2 := Aside0.mk hy2; clear hy2; have hx0 := pw_cell_below hb HX.out; clear HX; have HX := Aside0.mk hx0; clear hx0; have L1 := Aside0.mk ((L.out.on hb).put hs2); clear L hb hs2; have L := L1; clear L1) | (go_at_call 30; (with_reducible refine (putbyte_as (some ad) c l a x q h H3.out H4.out _ L.out.a2 HL.out).mono ?_); rintro e w3 ⟨A3, c3, rfl, hb, hs3⟩; obtain ⟨ad3, rfl, hy3⟩ := hs3.at_ o O0.out OQ.out; rw [XQ.out] at hy3; have hy2 := pw_cell_below hb HY2.out; have hx0 := pw_cell_below hb HX.out; have L1 := Aside0.mk ((L.out.on hb).put hs3); clear L hb hs3; have L := L1; clear L1; have cv1 := fun m => L.out.a1.strN m; have cv2 := fun m => L.out.a2.strN m; have cv3 := fun m => L.out.a3.strN m) | (go_at_call 20; (with_reducible refine (get_as (some ad2) c2 p a y g H5.out H6.out _ L.out.a2 HY.out).mono ?_); rintro e w4 ⟨rfl, ⟨n4, rfl⟩⟩; have L1 := Aside0.mk (L.out.drawnN n4); clear L; have L := L1; clear L1) | (go_at_call 24; (with_reducible refine (byte_as (some ad3) c3 q a z h H7.out H8.out _ L.out.a1).mono ?_); rintro e w5 ⟨rfl, ⟨n5, rfl⟩⟩; have L1 := Aside0.mk (L.out.drawnN n5); clear L; have L := L1; clear L1))
    go_quiet (fail)
    go_wp2
    go_ret
    exact ⟨by first | rfl | (simp; done) | (simp [*]; done), by first | exact L.out.below | (simp only [← World.drewN_drewN]; repeat (first | exact L.out.below | apply pw_below_drewN))⟩
end Go.Proofs.Ytipflebjooanpaa.BackWalk
