/- Two moves in a row are one: the walk of MemRows, for every slice of bytes and all whole numbers. No condition. -/
import Derived.Test.YtipflebjooanpaaMemAs
namespace Go.Proofs.Ytipflebjooanpaa.RowsWalk
open Go.RowKit Go.Proofs.YtipflebjooanpaaW.PrintWords Go.Proofs.YtipflebjooanpaaW.PrintLast Go.Proofs.YtipflebjooanpaaW.PrintMore Go.Proofs.Ytipflebjooanpaa.Arith Go.Proofs.Ytipflebjooanpaa.Mem
set_option linter.unusedSimpArgs false
set_option linter.unusedVariables false

theorem and16 (x : Int) : Go.bits .and .i64 x 65535 = x % 65536 := and_low x 16 (by decide)

set_option maxHeartbeats 2000000 in
set_option maxRecDepth 100000 in
theorem walk_big (A : Option Addr) (c : Nat) (l : List Int) (f t n k : Int) (w : World) (hb0 : decide (2000 < l.length) = true) (hb2 : decide ((2000 : Int) < l.length) = true) :
    Calls Try.prog 3 #[.slice A l.length c, .int .i64 f, .int .i64 t, .int .i64 n, .int .i64 k] w fun e w' => e = .returned (.bool true) ∧ Below w.heap.size w w' := by
  go_enter Try.func3, Try.ntmps3
  go_wp2_with (first | (go_at_call 16; (with_reducible refine (awake_call _).mono ?_); rintro e w1 ⟨rfl, hb⟩; have B1 := Aside0.mk hb; clear hb))
  go_ret
  exact ⟨by first | rfl | (simp; done) | (simp [*]; done), B1.out⟩

set_option maxHeartbeats 4000000 in
set_option maxRecDepth 100000 in
/-- The move is refused, or it overlaps. -/
theorem walk_out (A : Option Addr) (c : Nat) (l p : List Int) (f t n k g : Int) (w : World) (hs : Sl w A c l) (hl : l.length ≤ 140737488355328) (hb : decide (2000 < l.length) = false) (hb2 : decide ((2000 : Int) < l.length) = false)
    (h1 : moveL l f t n = p) (h2 : isE (moveB l f t n) = g) (u b1 b2 b3 : Bool) (h3 : (g == 0) = u) (h4 : decide (f < t) = b1) (h5 : decide (t ≤ f) = !b1) (h6 : decide (wrap64 (t - f) < n) = b2) (h7 : decide (wrap64 (f - t) < n) = b3)
    (ho : (!u || b1 && b2 || !b1 && b3) = true) :
    Calls Try.prog 3 #[.slice A l.length c, .int .i64 f, .int .i64 t, .int .i64 n, .int .i64 k] w fun e w' => e = .returned (.bool true) ∧ Below w.heap.size w w' := by
  have L := Aside0.mk ((Lv.start w).put hs)
  have HL := Aside0.mk hl
  have H1 := Aside0.mk h1
  have H2 := Aside0.mk h2
  have h3' : (g != 0) = !u := by simp only [bne, h3]
  clear hs hl h1 h2
  cases u <;> cases b1 <;> cases b2 <;> cases b3 <;> simp only [Bool.not_true, Bool.not_false, Bool.and_true, Bool.and_false, Bool.true_and, Bool.false_and, Bool.true_or, Bool.or_true, Bool.or_false, Bool.false_or, Bool.true_eq_false, Bool.false_eq_true] at h3' h5 ho
  all_goals
    go_enter Try.func3, Try.ntmps3
    go_wp2_with (first | (go_at_call 16; (with_reducible refine (awake_call _).mono ?_); rintro e w1 ⟨rfl, hb⟩; have L1 := Aside0.mk (L.out.on hb); clear L hb; have L := L1; clear L1) | (go_at_call 17; (with_reducible refine (move_as A c l f t n p g H1.out H2.out _ L.out.a1 HL.out).mono ?_); rintro e w2 ⟨A2, c2, rfl, hb, hs2⟩; have L1 := Aside0.mk ((L.out.on hb).put hs2); clear L hb hs2; have L := L1; clear L1))
    go_ret
    exact ⟨by first | rfl | (simp; done) | (simp [*]; done), by first | exact L.out.below | (rw [← World.drewN_drewN]; exact L.out.below)⟩

set_option maxHeartbeats 4000000 in
set_option maxRecDepth 100000 in
/-- The bytes lie apart. -/
theorem walk_in (A : Option Addr) (c : Nat) (l p a h j s : List Int) (f t n k kk cc fc tc nc : Int) (w : World) (hs : Sl w A c l) (hl : l.length ≤ 8192) (hb : decide (2000 < l.length) = false) (hb2 : decide ((2000 : Int) < l.length) = false)
    (ha8 : a.length ≤ 140737488355328) (hh8 : h.length ≤ 140737488355328)
    (f0 : 0 ≤ f) (f1 : f ≤ 2000) (t0 : 0 ≤ t) (t1 : t ≤ 2000) (n0 : 0 ≤ n) (n1 : n ≤ 2000)
    (b1 b2 b3 : Bool) (h4 : decide (f < t) = b1) (h5 : decide (t ≤ f) = !b1) (h6 : decide (t - f < n) = b2) (h7 : decide (f - t < n) = b3) (ho : (b1 && b2 || !b1 && b3) = false)
    (hk : Go.bits .and .i64 k 65535 = kk) (k0 : 0 ≤ kk) (k1 : kk < 65536) (hz : (n + 1 == 0) = false) (hc1 : kk % (n + 1) = cc) (hc2 : kk.tmod (n + 1) = cc) (c0 : 0 ≤ cc) (c1 : cc ≤ n) (e1 : f + cc = fc) (e2 : t + cc = tc) (e3 : n - cc = nc)
    (m1 : moveL l f t n = p) (m2 : isE (moveB l f t n) = 0) (m3 : moveL l f t cc = a) (m4 : isE (moveB l f t cc) = 0) (m5 : moveL a fc tc nc = p) (m6 : isE (moveB a fc tc nc) = 0)
    (m7 : fillL l f n k = h) (m8 : isE (thereB l f n) = 0) (m9 : moveL h f t n = j) (m10 : isE (moveB h f t n) = 0) (m11 : textL j t n = s) (m12 : isE (thereB j t n) = 0) (m13 : textL j f n = s) (m14 : isE (thereB j f n) = 0) :
    Calls Try.prog 3 #[.slice A l.length c, .int .i64 f, .int .i64 t, .int .i64 n, .int .i64 k] w fun e w' => e = .returned (.bool true) ∧ Below w.heap.size w w' := by
  have L := Aside0.mk ((Lv.start w).put hs)
  have HL8 := Aside0.mk hl
  have HL := Aside0.mk (show l.length ≤ 140737488355328 by omega)
  have HA := Aside0.mk ha8
  have HH := Aside0.mk hh8
  have M1 := Aside0.mk m1
  have M2 := Aside0.mk m2
  have M3 := Aside0.mk m3
  have M4 := Aside0.mk m4
  have M5 := Aside0.mk m5
  have M6 := Aside0.mk m6
  have M7 := Aside0.mk m7
  have M8 := Aside0.mk m8
  have M9 := Aside0.mk m9
  have M10 := Aside0.mk m10
  have M11 := Aside0.mk m11
  have M12 := Aside0.mk m12
  have M13 := Aside0.mk m13
  have M14 := Aside0.mk m14
  have hz' : (n + 1 != 0) = true := by simp only [bne, hz]; rfl
  have hz2 : ¬ (n + 1 = 0) := by omega
  clear hs hl ha8 hh8 m1 m2 m3 m4 m5 m6 m7 m8 m9 m10 m11 m12 m13 m14
  cases b1 <;> cases b2 <;> cases b3 <;> simp only [Bool.not_true, Bool.not_false, Bool.and_true, Bool.and_false, Bool.true_and, Bool.false_and, Bool.true_or, Bool.or_true, Bool.or_false, Bool.false_or, Bool.true_eq_false, Bool.false_eq_true] at h5 ho
  all_goals
    go_enter Try.func3, Try.ntmps3
    go_wp2_with (first | (go_at_call 16; (with_reducible refine (awake_call _).mono ?_); rintro e w1 ⟨rfl, hb⟩; have L1 := Aside0.mk (L.out.on hb); clear L hb; have L := L1; clear L1) | (go_at_call 17; (with_reducible refine (move_as A c l f t n p 0 M1.out M2.out _ L.out.a1 HL.out).mono ?_); rintro e w2 ⟨A2, c2, rfl, hb, hs2⟩; have L1 := Aside0.mk ((L.out.on hb).put hs2); clear L hb hs2; have L := L1; clear L1) | (go_at_call 17; (with_reducible refine (move_as A c l f t cc a 0 M3.out M4.out _ L.out.a2 HL.out).mono ?_); rintro e w3 ⟨A3, c3, rfl, hb, hs3⟩; have L1 := Aside0.mk ((L.out.on hb).put hs3); clear L hb hs3; have L := L1; clear L1) | (go_at_call 17; (with_reducible refine (move_as A3 c3 a fc tc nc p 0 M5.out M6.out _ L.out.a1 HA.out).mono ?_); rintro e w4 ⟨A4, c4, rfl, hb, hs4⟩; have L1 := Aside0.mk ((L.out.on hb).put hs4); clear L hb hs4; have L := L1; clear L1) | (go_at_call 18; (with_reducible refine (fill_as A c l f n k h 0 M7.out M8.out _ L.out.a4 HL8.out).mono ?_); rintro e w5 ⟨A5, c5, rfl, hb, hs5⟩; have L1 := Aside0.mk ((L.out.on hb).put hs5); clear L hb hs5; have L := L1; clear L1) | (go_at_call 17; (with_reducible refine (move_as A5 c5 h f t n j 0 M9.out M10.out _ L.out.a1 HH.out).mono ?_); rintro e w6 ⟨A6, c6, rfl, hb, hs6⟩; have L1 := Aside0.mk ((L.out.on hb).put hs6); clear L hb hs6; have L := L1; clear L1; have cv1 := fun m => L.out.a3.strN m; have cv2 := fun m => L.out.a5.strN m) | (go_at_call 19; (with_reducible refine (text_as A6 c6 j t n s 0 M11.out M12.out _ L.out.a1).mono ?_); rintro e w7 ⟨rfl, ⟨n7, rfl⟩⟩; have L1 := Aside0.mk (L.out.drawnN n7); clear L; have L := L1; clear L1) | (go_at_call 19; (with_reducible refine (text_as A6 c6 j f n s 0 M13.out M14.out _ L.out.a1).mono ?_); rintro e w8 ⟨rfl, ⟨n8, rfl⟩⟩; have L1 := Aside0.mk (L.out.drawnN n8); clear L; have L := L1; clear L1))
    go_ret
    exact ⟨by first | rfl | (simp; done) | (simp [*]; done), by first | exact L.out.below | (rw [← World.drewN_drewN]; exact L.out.below)⟩

theorem two_parts (l : List Int) (f t n c : Nat) (hf : f + n ≤ l.length) (ht : t + n ≤ l.length) (hc : c ≤ n) (hd : f + n ≤ t ∨ t + n ≤ f) :
    withL (withL l t (sub l f c)) (t + c) (sub (withL l t (sub l f c)) (f + c) (n - c)) = withL l t (sub l f n) := by
  have s1 : (sub l f c).length = c := sub_length (by omega)
  have w1 : (withL l t (sub l f c)).length = l.length := with_length (by omega)
  have s2 : (sub (withL l t (sub l f c)) (f + c) (n - c)).length = n - c := sub_length (by omega)
  have s3 : (sub l f n).length = n := sub_length hf
  have at_ : ∀ m, m ≤ n → ∀ i, (withL l t (sub l f m)).getD i 0 = if t ≤ i ∧ i < t + m then l.getD (f + (i - t)) 0 else l.getD i 0 := by
    intro m hm i
    have s : (sub l f m).length = m := sub_length (by omega)
    rw [getD_with (by omega), s, getD_sub]
    by_cases h : t ≤ i ∧ i < t + m
    · rw [if_pos h, if_pos h, if_pos (by omega)]
    · rw [if_neg h, if_neg h]
  refine ext_getD (by rw [with_length (by omega), w1, with_length (by omega)]) (fun j hj => ?_)
  rw [with_length (by omega), w1] at hj
  rw [at_ n (by omega), getD_with (by omega), s2, getD_sub, at_ c hc, at_ c hc]
  by_cases h1 : t + c ≤ j ∧ j < t + c + (n - c)
  · rw [if_pos h1, if_pos (by omega), if_neg (by omega), if_pos (by omega)]
    congr 1; omega
  · rw [if_neg h1]
    by_cases h2 : t ≤ j ∧ j < t + c
    · rw [if_pos h2, if_pos (by omega)]
    · rw [if_neg h2, if_neg (by omega)]
theorem filled_there (l : List Int) (f t n : Nat) (v : Int) (hf : f + n ≤ l.length) (ht : t + n ≤ l.length) (hd : f + n ≤ t ∨ t + n ≤ f) :
    sub (withL (withL l f (List.replicate n v)) t (sub (withL l f (List.replicate n v)) f n)) f n = sub (withL (withL l f (List.replicate n v)) t (sub (withL l f (List.replicate n v)) f n)) t n := by
  have r1 : (List.replicate n v).length = n := List.length_replicate ..
  have w1 : (withL l f (List.replicate n v)).length = l.length := with_length (by omega)
  have e1 : sub (withL l f (List.replicate n v)) f n = List.replicate n v := by
    have := sub_with (l := l) (b := List.replicate n v) (i := f) (by omega)
    rwa [r1] at this
  rw [e1]
  have e2 : sub (withL (withL l f (List.replicate n v)) t (List.replicate n v)) t n = List.replicate n v := by
    have := sub_with (l := withL l f (List.replicate n v)) (b := List.replicate n v) (i := t) (by omega)
    rwa [r1] at this
  rw [e2]
  have w2 : (withL (withL l f (List.replicate n v)) t (List.replicate n v)).length = l.length := by rw [with_length (by omega), w1]
  refine ext_getD (by rw [sub_length (by omega), r1]) (fun j hj => ?_)
  rw [sub_length (by omega)] at hj
  rw [getD_sub, if_pos hj, getD_with (by omega), r1, if_neg (by omega), getD_with (by omega), r1, if_pos (by omega)]
  congr 1; omega

/-- The law, walked. -/
theorem walk (A : Option Addr) (len c : Nat) (zs : List Int) (f t n k : Int) (w : World)
    (hrow : (A = none ∧ len = 0 ∧ c = 0 ∧ zs = []) ∨ ∃ x, A = some x ∧ len ≤ c ∧ c ≤ maxLen ∧ zs.length = c ∧ (∀ i, i < zs.length → w.cell? (x.add i) = some (.int .u8 (zs.getD i 0))) ∧ ∀ n ∈ zs, (Lit.int .u8 n).wf = true)
    (hy0 : len * 1 ≤ 140737488351232) (_ : (Lit.int .i64 f).wf = true) (_ : (Lit.int .i64 t).wf = true) (_ : (Lit.int .i64 n).wf = true) (_ : (Lit.int .i64 k).wf = true) :
    Calls Try.prog 3 #[.slice A len c, .int .i64 f, .int .i64 t, .int .i64 n, .int .i64 k] w fun e w' => e = .returned (.bool true) ∧ Below w.heap.size w w' := by
  obtain ⟨l, rfl, hs, _, hl⟩ := row_opens hrow hy0
  clear hrow hy0
  by_cases hb : 2000 < l.length
  · exact walk_big A c l f t n k w (decide_eq_true hb) (decide_eq_true (by omega))
  · have hbf : decide (2000 < l.length) = false := decide_eq_false hb
    have hbf2 : decide ((2000 : Int) < l.length) = false := decide_eq_false (by omega)
    by_cases hm : moveB l f t n = true
    · obtain ⟨hf, ht⟩ := move_true.1 hm
      obtain ⟨ef, en, ff⟩ := there_nat hf
      obtain ⟨et, _, ft⟩ := there_nat ht
      have w1 : wrap64 (t - f) = t - f := wrap64_in (by omega) (by omega)
      have w2 : wrap64 (f - t) = f - t := wrap64_in (by omega) (by omega)
      by_cases ho : (decide (f < t) && decide (t - f < n) || !decide (f < t) && decide (f - t < n)) = true
      · refine walk_out A c l _ f t n k 0 w hs hl hbf hbf2 rfl (isE_true hm) true (decide (f < t)) (decide (t - f < n)) (decide (f - t < n)) rfl rfl ?_ (by rw [w1]) (by rw [w2]) (by simpa using ho)
        rw [Bool.eq_iff_iff, decide_eq_true_eq, Bool.not_eq_true', decide_eq_false_iff_not]; omega
      · have hof : (decide (f < t) && decide (t - f < n) || !decide (f < t) && decide (f - t < n)) = false := by simpa using ho
        have hd : f.toNat + n.toNat ≤ t.toNat ∨ t.toNat + n.toNat ≤ f.toNat := by
          by_cases h1 : f < t
          · rw [decide_eq_true h1] at hof; simp at hof; omega
          · rw [decide_eq_false h1] at hof; simp at hof; omega
        have kk := and16 k
        have k0 : 0 ≤ k % 65536 ∧ k % 65536 < 65536 := by omega
        have c0 := Int.emod_nonneg (k % 65536) (show n + 1 ≠ 0 by omega)
        have c1 := Int.emod_lt_of_pos (k % 65536) (show 0 < n + 1 by omega)
        have c2 : Int.tmod (k % 65536) (n + 1) = k % 65536 % (n + 1) := Int.tmod_eq_emod_of_nonneg (by omega)
        generalize hcc : k % 65536 % (n + 1) = cc at *
        have hfc : thereB l f cc = true := there_true.2 (by omega)
        have htc : thereB l t cc = true := there_true.2 (by omega)
        have hmc : moveB l f t cc = true := move_true.2 ⟨hfc, htc⟩
        have la : (moveL l f t cc).length = l.length := move_len ..
        have lh : (fillL l f n k).length = l.length := fill_len ..
        have lj : (moveL (fillL l f n k) f t n).length = l.length := by rw [move_len, lh]
        have hma : moveB (moveL l f t cc) (f + cc) (t + cc) (n - cc) = true := move_true.2 ⟨there_true.2 (by rw [la]; omega), there_true.2 (by rw [la]; omega)⟩
        have hmh : moveB (fillL l f n k) f t n = true := move_true.2 ⟨by rw [there_len lh]; exact hf, by rw [there_len lh]; exact ht⟩
        have m5 : moveL (moveL l f t cc) (f + cc) (t + cc) (n - cc) = moveL l f t n := by
          have h := two_parts l f.toNat t.toNat n.toNat cc.toNat ff ft (by omega) hd
          unfold moveL at hma ⊢
          rw [if_pos hmc] at hma ⊢
          rw [if_pos hma, if_pos hm, show (t + cc).toNat = t.toNat + cc.toNat by omega, show (f + cc).toNat = f.toNat + cc.toNat by omega, show (n - cc).toNat = n.toNat - cc.toNat by omega]
          exact h
        have tj : thereB (moveL (fillL l f n k) f t n) t n = true := by rw [there_len lj]; exact ht
        have fj : thereB (moveL (fillL l f n k) f t n) f n = true := by rw [there_len lj]; exact hf
        have m13 : textL (moveL (fillL l f n k) f t n) f n = textL (moveL (fillL l f n k) f t n) t n := by
          have h := filled_there l f.toNat t.toNat n.toNat (k % 256) ff ft hd
          have e1 : fillL l f n k = withL l f.toNat (List.replicate n.toNat (k % 256)) := by unfold fillL; rw [if_pos hf]
          have e2 : moveL (fillL l f n k) f t n = withL (fillL l f n k) t.toNat (sub (fillL l f n k) f.toNat n.toNat) := by
            show (if moveB (fillL l f n k) f t n = true then _ else _) = _
            rw [if_pos hmh]
          unfold textL
          rw [if_pos fj, if_pos tj, e2, e1]
          exact h
        exact walk_in A c l _ _ _ _ _ f t n k (k % 65536) cc _ _ _ w hs (by omega) hbf hbf2 (by rw [la]; exact hl) (by rw [lh]; exact hl) (by omega) (by omega) (by omega) (by omega) (by omega) (by omega)
          (decide (f < t)) (decide (t - f < n)) (decide (f - t < n)) rfl (by rw [Bool.eq_iff_iff, decide_eq_true_eq, Bool.not_eq_true', decide_eq_false_iff_not]; omega) rfl rfl hof
          kk k0.1 k0.2 (by rw [beq_eq_false_iff_ne]; omega) hcc c2 c0 (by omega) rfl rfl rfl rfl (isE_true hm) rfl (isE_true hmc) m5 (isE_true hma) rfl (isE_true hf) rfl (isE_true hmh) rfl (isE_true tj) m13 (isE_true fj)
    · have hmf : moveB l f t n = false := by simpa using hm
      refine walk_out A c l _ f t n k (-9) w hs hl hbf hbf2 rfl (isE_false hmf) false (decide (f < t)) _ _ rfl rfl ?_ rfl rfl rfl
      rw [Bool.eq_iff_iff, decide_eq_true_eq, Bool.not_eq_true', decide_eq_false_iff_not]; omega
end Go.Proofs.Ytipflebjooanpaa.RowsWalk
