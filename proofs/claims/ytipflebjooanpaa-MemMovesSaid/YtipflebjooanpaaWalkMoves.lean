/- What is moved is what was there: the walk of MemMoves, for every slice of bytes and all whole numbers. No condition. -/
import Derived.Test.YtipflebjooanpaaMemAs
import Derived.Deep.QuietTactic
import Derived.BigQuiet
namespace Go.Proofs.Ytipflebjooanpaa.MovesWalk
open Go.RowKit Go.Proofs.YtipflebjooanpaaW.PrintWords Go.Proofs.YtipflebjooanpaaW.PrintLast Go.Proofs.YtipflebjooanpaaW.PrintMore Go.Proofs.Ytipflebjooanpaa.Arith Go.Proofs.Ytipflebjooanpaa.Mem
set_option linter.unusedSimpArgs false
set_option linter.unusedVariables false

set_option maxHeartbeats 2000000 in
set_option maxRecDepth 100000 in
theorem walk_big (A : Option Addr) (c : Nat) (l : List Int) (f t n k : Int) (w : World) (hb0 : decide (2000 < l.length) = true) (hb2 : decide ((2000 : Int) < l.length) = true) :
    Calls Try.prog 9 #[.slice A l.length c, .int .i64 f, .int .i64 t, .int .i64 n, .int .i64 k] w fun e w' => e = .returned (.bool true) ∧ Below w.heap.size w w' := by
  go_enter Try.func9, Try.ntmps9
  go_wp2_with (first | (go_at_call 16; (with_reducible refine (awake_call _).mono ?_); rintro e w1 ⟨rfl, hb⟩; have B1 := Aside0.mk hb; clear hb))
  go_ret
  exact ⟨by first | rfl | (simp; done) | (simp [*]; done), B1.out⟩

set_option maxHeartbeats 4000000 in
set_option maxRecDepth 100000 in
/-- The move is refused. -/
theorem walk_no (A : Option Addr) (c : Nat) (l s s' : List Int) (f t n k f1 g1 : Int) (w : World) (hs : Sl w A c l) (hl : l.length ≤ 140737488355328) (hb : decide (2000 < l.length) = false) (hb2 : decide ((2000 : Int) < l.length) = false)
    (h1 : moveL l f t n = l) (h2 : isE (moveB l f t n) = -9) (h3 : textL l f n = s) (h4 : isE (thereB l f n) = f1) (h5 : textL l t n = s') (h6 : isE (thereB l t n) = g1) (u1 u2 : Bool) (hf : (f1 == 0) = u1) (hg : (g1 == 0) = u2) (ho : (u1 && u2) = false) :
    Calls Try.prog 9 #[.slice A l.length c, .int .i64 f, .int .i64 t, .int .i64 n, .int .i64 k] w fun e w' => e = .returned (.bool true) ∧ Below w.heap.size w w' := by
  have L := Aside0.mk ((Lv.start w).put hs)
  have HL := Aside0.mk hl
  have H1 := Aside0.mk h1
  have H2 := Aside0.mk h2
  have H3 := Aside0.mk h3
  have H4 := Aside0.mk h4
  have H5 := Aside0.mk h5
  have H6 := Aside0.mk h6
  clear hs hl h1 h2 h3 h4 h5 h6
  cases u1 <;> cases u2 <;> simp only [Bool.and_true, Bool.and_false, Bool.true_eq_false] at ho
  all_goals
    go_enter Try.func9, Try.ntmps9
    go_wp2_with (first | (go_at_call 16; (with_reducible refine (awake_call _).mono ?_); rintro e w1 ⟨rfl, hb⟩; have L1 := Aside0.mk (L.out.on hb); clear L hb; have L := L1; clear L1) | (go_at_call 17; (with_reducible refine (move_as A c l f t n l (-9) H1.out H2.out _ L.out.a1 HL.out).mono ?_); rintro e w2 ⟨A2, c2, rfl, hb, hs2⟩; have L1 := Aside0.mk ((L.out.on hb).put hs2); clear L hb hs2; have L := L1; clear L1; have cv1 := fun m => L.out.a1.strN m; have cv2 := fun m => L.out.a2.strN m) | (go_at_call 19; (with_reducible refine (text_as A c l f n s f1 H3.out H4.out _ L.out.a2).mono ?_); rintro e w3 ⟨rfl, ⟨n3, rfl⟩⟩; have L1 := Aside0.mk (L.out.drawnN n3); clear L; have L := L1; clear L1) | (go_at_call 19; (with_reducible refine (text_as A2 c2 l t n s' g1 H5.out H6.out _ L.out.a1).mono ?_); rintro e w4 ⟨rfl, ⟨n4, rfl⟩⟩; have L1 := Aside0.mk (L.out.drawnN n4); clear L; have L := L1; clear L1))
    go_ret
    exact ⟨by first | rfl | (simp; done) | (simp [*]; done), by first | exact L.out.below | (rw [← World.drewN_drewN]; exact L.out.below)⟩

set_option maxHeartbeats 4000000 in
set_option maxRecDepth 100000 in
/-- It is done, and k is none of what stays. -/
theorem walk_in (A : Option Addr) (c : Nat) (l p s : List Int) (f t n k : Int) (w : World) (hs : Sl w A c l) (hl : l.length ≤ 140737488355328) (hb : decide (2000 < l.length) = false) (hb2 : decide ((2000 : Int) < l.length) = false)
    (h1 : moveL l f t n = p) (h2 : isE (moveB l f t n) = 0) (h3 : textL l f n = s) (h4 : isE (thereB l f n) = 0) (h5 : textL p t n = s) (h6 : isE (thereB p t n) = 0) (hpl : (p.length == l.length) = true) (hpl2 : ((p.length : Int) == l.length) = true)
    (b1 b2 b3 b4 : Bool) (g1 : decide (0 ≤ k) = b1) (g2 : decide (k < l.length) = b2) (g3 : decide (k < t) = b3) (g4 : decide (n ≤ wrap64 (k - t)) = b4) (ho : (b1 && b2 && (b3 || b4)) = false) :
    Calls Try.prog 9 #[.slice A l.length c, .int .i64 f, .int .i64 t, .int .i64 n, .int .i64 k] w fun e w' => e = .returned (.bool true) ∧ Below w.heap.size w w' := by
  have L := Aside0.mk ((Lv.start w).put hs)
  have HL := Aside0.mk hl
  have H1 := Aside0.mk h1
  have H2 := Aside0.mk h2
  have H3 := Aside0.mk h3
  have H4 := Aside0.mk h4
  have H5 := Aside0.mk h5
  have H6 := Aside0.mk h6
  have hpl' : (p.length != l.length) = false := by simp only [bne, hpl]; rfl
  have hpl2' : ((p.length : Int) != l.length) = false := by simp only [bne, hpl2]; rfl
  clear hs hl h1 h2 h3 h4 h5 h6
  cases b1 <;> cases b2 <;> cases b3 <;> cases b4 <;> simp only [Bool.and_true, Bool.and_false, Bool.true_and, Bool.false_and, Bool.or_true, Bool.true_or, Bool.or_false, Bool.false_or, Bool.true_eq_false] at ho
  all_goals
    go_enter Try.func9, Try.ntmps9
    go_wp2_with (first | (go_at_call 16; (with_reducible refine (awake_call _).mono ?_); rintro e w1 ⟨rfl, hb⟩; have L1 := Aside0.mk (L.out.on hb); clear L hb; have L := L1; clear L1) | (go_at_call 17; (with_reducible refine (move_as A c l f t n p 0 H1.out H2.out _ L.out.a1 HL.out).mono ?_); rintro e w2 ⟨A2, c2, rfl, hb, hs2⟩; have L1 := Aside0.mk ((L.out.on hb).put hs2); clear L hb hs2; have L := L1; clear L1) | (go_at_call 19; (with_reducible refine (text_as A c l f n s 0 H3.out H4.out _ L.out.a2).mono ?_); rintro e w3 ⟨rfl, ⟨n3, rfl⟩⟩; have L1 := Aside0.mk (L.out.drawnN n3); clear L; have L := L1; clear L1) | (go_at_call 19; (with_reducible refine (text_as A2 c2 p t n s 0 H5.out H6.out _ L.out.a1).mono ?_); rintro e w4 ⟨rfl, ⟨n4, rfl⟩⟩; have L1 := Aside0.mk (L.out.drawnN n4); clear L; have L := L1; clear L1))
    go_quiet (fail)
    go_wp2
    go_ret
    exact ⟨by first | rfl | (simp; done) | (simp [*]; done), by first | exact L.out.below | (simp only [← World.drewN_drewN]; repeat (first | exact L.out.below | apply pw_below_drewN))⟩

set_option maxHeartbeats 4000000 in
set_option maxRecDepth 100000 in
/-- It is done, and k is one of what stays. -/
theorem walk_out (A : Option Addr) (c : Nat) (l p s : List Int) (f t n k x : Int) (w : World) (hs : Sl w A c l) (hl : l.length ≤ 140737488355328) (hb : decide (2000 < l.length) = false) (hb2 : decide ((2000 : Int) < l.length) = false)
    (h1 : moveL l f t n = p) (h2 : isE (moveB l f t n) = 0) (h3 : textL l f n = s) (h4 : isE (thereB l f n) = 0) (h5 : textL p t n = s) (h6 : isE (thereB p t n) = 0) (hpl : (p.length == l.length) = true) (hpl2 : ((p.length : Int) == l.length) = true)
    (b3 b4 : Bool) (k0 : 0 ≤ k) (k1 : k < l.length) (kp : k < p.length) (g3 : decide (k < t) = b3) (g4 : decide (n ≤ wrap64 (k - t)) = b4) (ho : (b3 || b4) = true) (x1 : rd l k = x) (x2 : rd p k = x) :
    Calls Try.prog 9 #[.slice A l.length c, .int .i64 f, .int .i64 t, .int .i64 n, .int .i64 k] w fun e w' => e = .returned (.bool true) ∧ Below w.heap.size w w' := by
  obtain ⟨ad, rfl, hx⟩ := hs.at_ k k0 k1
  rw [x1] at hx
  have HX := Aside0.mk hx
  have L := Aside0.mk ((Lv.start w).put hs)
  have HL := Aside0.mk hl
  have H1 := Aside0.mk h1
  have H2 := Aside0.mk h2
  have H3 := Aside0.mk h3
  have H4 := Aside0.mk h4
  have H5 := Aside0.mk h5
  have H6 := Aside0.mk h6
  have X2 := Aside0.mk x2
  have hpl' : (p.length != l.length) = false := by simp only [bne, hpl]; rfl
  have hpl2' : ((p.length : Int) != l.length) = false := by simp only [bne, hpl2]; rfl
  have q0 := decide_eq_true k0
  have q1 := decide_eq_true k1
  have K0 := Aside0.mk k0
  have KP := Aside0.mk kp
  have k0t := eq_true k0
  have k1t := eq_true k1
  have kpt := eq_true kp
  clear hs hl h1 h2 h3 h4 h5 h6 hx x1 x2 k0 k1 kp
  cases b3 <;> cases b4 <;> simp only [Bool.and_true, Bool.and_false, Bool.true_and, Bool.false_and, Bool.or_true, Bool.true_or, Bool.or_false, Bool.false_or, Bool.false_eq_true] at ho
  all_goals
    go_enter Try.func9, Try.ntmps9
    go_wp2_with (first | (go_at_call 16; (with_reducible refine (awake_call _).mono ?_); rintro e w1 ⟨rfl, hb⟩; have hx := pw_cell_below hb HX.out; clear HX; have HX := Aside0.mk hx; clear hx; have L1 := Aside0.mk (L.out.on hb); clear L hb; have L := L1; clear L1) | (go_at_call 17; (with_reducible refine (move_as (some ad) c l f t n p 0 H1.out H2.out _ L.out.a1 HL.out).mono ?_); rintro e w2 ⟨A2, c2, rfl, hb, hs2⟩; obtain ⟨ad2, rfl, hy⟩ := hs2.at_ k K0.out KP.out; rw [X2.out] at hy; have hx := pw_cell_below hb HX.out; have L1 := Aside0.mk ((L.out.on hb).put hs2); clear L hb hs2; have L := L1; clear L1) | (go_at_call 19; (with_reducible refine (text_as (some ad) c l f n s 0 H3.out H4.out _ L.out.a2).mono ?_); rintro e w3 ⟨rfl, ⟨n3, rfl⟩⟩; have L1 := Aside0.mk (L.out.drawnN n3); clear L; have L := L1; clear L1) | (go_at_call 19; (with_reducible refine (text_as (some ad2) c2 p t n s 0 H5.out H6.out _ L.out.a1).mono ?_); rintro e w4 ⟨rfl, ⟨n4, rfl⟩⟩; have L1 := Aside0.mk (L.out.drawnN n4); clear L; have L := L1; clear L1))
    go_quiet (fail)
    go_wp2
    go_ret
    exact ⟨by first | rfl | (simp; done) | (simp [*]; done), by first | exact L.out.below | (simp only [← World.drewN_drewN]; repeat (first | exact L.out.below | apply pw_below_drewN))⟩

/-- The law, walked. -/
theorem walk (A : Option Addr) (len c : Nat) (zs : List Int) (f t n k : Int) (w : World)
    (hrow : (A = none ∧ len = 0 ∧ c = 0 ∧ zs = []) ∨ ∃ x, A = some x ∧ len ≤ c ∧ c ≤ maxLen ∧ zs.length = c ∧ (∀ i, i < zs.length → w.cell? (x.add i) = some (.int .u8 (zs.getD i 0))) ∧ ∀ n ∈ zs, (Lit.int .u8 n).wf = true)
    (hy0 : len * 1 ≤ 140737488351232) (_ : (Lit.int .i64 f).wf = true) (_ : (Lit.int .i64 t).wf = true) (_ : (Lit.int .i64 n).wf = true) (_ : (Lit.int .i64 k).wf = true) :
    Calls Try.prog 9 #[.slice A len c, .int .i64 f, .int .i64 t, .int .i64 n, .int .i64 k] w fun e w' => e = .returned (.bool true) ∧ Below w.heap.size w w' := by
  obtain ⟨l, rfl, hs, _, hl⟩ := row_opens hrow hy0
  clear hrow hy0
  by_cases hb : 2000 < l.length
  · exact walk_big A c l f t n k w (decide_eq_true hb) (decide_eq_true (by omega))
  · have hbf : decide (2000 < l.length) = false := decide_eq_false hb
    have hbf2 : decide ((2000 : Int) < l.length) = false := decide_eq_false (by omega)
    by_cases hm : moveB l f t n = true
    · obtain ⟨hf, ht⟩ := move_true.1 hm
      obtain ⟨ef, en, ff⟩ := there_nat hf
      obtain ⟨et, _, ft⟩ := there_nat ht
      have lp : (moveL l f t n).length = l.length := move_len ..
      have e1 : moveL l f t n = withL l t.toNat (sub l f.toNat n.toNat) := by
        show (if moveB l f t n = true then _ else _) = _
        rw [if_pos hm]
      have tp : thereB (moveL l f t n) t n = true := by rw [there_len lp]; exact ht
      have s3 : (sub l f.toNat n.toNat).length = n.toNat := sub_length ff
      have h5 : textL (moveL l f t n) t n = textL l f n := by
        unfold textL
        rw [if_pos tp, if_pos hf, e1]
        have := sub_with (l := l) (b := sub l f.toNat n.toNat) (i := t.toNat) (by omega)
        rwa [s3] at this
      have hpl : ((moveL l f t n).length == l.length) = true := by rw [lp]; simp
      have hpl2 : (((moveL l f t n).length : Int) == l.length) = true := by rw [lp]; simp
      by_cases ho : (decide (0 ≤ k) && decide (k < l.length) && (decide (k < t) || decide (n ≤ wrap64 (k - t)))) = true
      · have hk : 0 ≤ k ∧ k < (l.length : Int) := by simp at ho; omega
        have hw : wrap64 (k - t) = k - t := wrap64_in (by omega) (by omega)
        have hkt : k < t ∨ n ≤ k - t := by rw [hw] at ho; simp at ho; omega
        refine walk_out A c l _ _ f t n k _ w hs hl hbf hbf2 rfl (isE_true hm) rfl (isE_true hf) h5 (isE_true tp) hpl hpl2 _ _ hk.1 hk.2 (by omega) rfl rfl (by simpa [hk.1, hk.2] using ho) rfl ?_
        rw [e1]
        unfold rd
        rw [getD_with (by omega), s3, if_neg (by omega)]
      · exact walk_in A c l _ _ f t n k w hs hl hbf hbf2 rfl (isE_true hm) rfl (isE_true hf) h5 (isE_true tp) hpl hpl2 _ _ _ _ rfl rfl rfl rfl (by simpa using ho)
    · have hmf : moveB l f t n = false := by simpa using hm
      have e1 : moveL l f t n = l := by unfold moveL; rw [if_neg hm]
      refine walk_no A c l _ _ f t n k _ _ w hs hl hbf hbf2 e1 (isE_false hmf) rfl rfl rfl rfl _ _ rfl rfl ?_
      unfold moveB at hmf
      unfold isE
      cases h1 : thereB l f n <;> cases h2 : thereB l t n <;> rw [h1, h2] at hmf <;> simp at hmf ⊢
end Go.Proofs.Ytipflebjooanpaa.MovesWalk
