/- What is filled is all one: the walk of MemFills, for every slice of bytes and all whole numbers. No condition. -/
import Derived.Test.YtipflebjooanpaaMemAs
import Derived.Deep.LoopGhost
namespace Go.Proofs.Ytipflebjooanpaa.FillsWalk
open Go.RowKit Go.Proofs.YtipflebjooanpaaW.PrintWords Go.Proofs.YtipflebjooanpaaW.PrintLast Go.Proofs.YtipflebjooanpaaW.PrintMore Go.Proofs.Ytipflebjooanpaa.Arith Go.Proofs.Ytipflebjooanpaa.Mem
set_option linter.unusedSimpArgs false
set_option linter.unusedVariables false

theorem more {w0 w : World} {S : List (Option Addr × Nat × List Int)} {m : Nat} (h : Lv w0 (w.drewN m) S) (n : Nat) : Lv w0 (w.drewN (m + n)) S := by
  rw [← World.drewN_drewN]; exact h.drawnN n
theorem and8 (x : Int) : Go.bits .and .i64 x 255 = x % 256 := and_low x 8 (by decide)
theorem and16 (x : Int) : Go.bits .and .i64 x 65535 = x % 65536 := and_low x 16 (by decide)

set_option maxHeartbeats 2000000 in
set_option maxRecDepth 100000 in
theorem walk_big (A : Option Addr) (c : Nat) (l : List Int) (a n x k : Int) (w : World) (hb0 : decide (2000 < l.length) = true) (hb2 : decide ((2000 : Int) < l.length) = true) :
    Calls Try.prog 15 #[.slice A l.length c, .int .i64 a, .int .i64 n, .int .i64 x, .int .i64 k] w fun e w' => e = .returned (.bool true) ∧ Below w.heap.size w w' := by
  go_enter Try.func15, Try.ntmps15
  go_wp2_with (first | (go_at_call 16; (with_reducible refine (awake_call _).mono ?_); rintro e w1 ⟨rfl, hb⟩; have B1 := Aside0.mk hb; clear hb))
  go_ret
  exact ⟨by first | rfl | (simp; done) | (simp [*]; done), B1.out⟩

set_option maxHeartbeats 4000000 in
set_option maxRecDepth 100000 in
/-- The bytes are not there. -/
theorem walk_no (A : Option Addr) (c : Nat) (l : List Int) (a n x k : Int) (w : World) (hs : Sl w A c l) (hl : l.length ≤ 8192) (hb0 : decide (2000 < l.length) = false) (hb2 : decide ((2000 : Int) < l.length) = false)
    (h1 : fillL l a n x = l) (h2 : isE (thereB l a n) = -9) (b1 b2 b3 b4 : Bool) (k1 : decide (a < 0) = b1) (k2 : decide (n < 0) = b2) (k3 : decide ((l.length : Int) < a) = b3) (k4 : decide (wrap64 ((l.length : Int) - a) < n) = b4) (ho : (b1 || b2 || b3 || b4) = true) :
    Calls Try.prog 15 #[.slice A l.length c, .int .i64 a, .int .i64 n, .int .i64 x, .int .i64 k] w fun e w' => e = .returned (.bool true) ∧ Below w.heap.size w w' := by
  have L := Aside0.mk ((Lv.start w).put hs)
  have HL := Aside0.mk hl
  have H1 := Aside0.mk h1
  have H2 := Aside0.mk h2
  clear hs h1 h2
  cases b1 <;> cases b2 <;> cases b3 <;> cases b4 <;> simp only [Bool.or_true, Bool.true_or, Bool.or_false, Bool.false_or, Bool.false_eq_true] at ho
  all_goals
    go_enter Try.func15, Try.ntmps15
    go_wp2_with (first | (go_at_call 16; (with_reducible refine (awake_call _).mono ?_); rintro e w1 ⟨rfl, hb⟩; have L1 := Aside0.mk (L.out.on hb); clear L hb; have L := L1; clear L1) | (go_at_call 18; (with_reducible refine (fill_as A c l a n x l (-9) H1.out H2.out _ L.out.a1 HL.out).mono ?_); rintro e w2 ⟨A2, c2, rfl, hb, hs2⟩; have L1 := Aside0.mk ((L.out.on hb).put hs2); clear L hb hs2; have L := L1; clear L1; have cv1 := L.out.a1.str; have cv2 := L.out.a2.str))
    go_ret
    exact ⟨by first | rfl | (simp; done) | (simp [*]; done), by first | exact L.out.below | (rw [← World.drewN_drewN]; exact L.out.below)⟩

set_option maxHeartbeats 8000000 in
set_option maxRecDepth 100000 in
/-- They are there. -/
theorem walk_yes (A : Option Addr) (c : Nat) (l p s s1 s2 s3 : List Int) (S : ByteArray) (a n x k z kk cc ac nc : Int) (w : World) (hs : Sl w A c l) (hl : l.length ≤ 8192) (hb0 : decide (2000 < l.length) = false) (hb2 : decide ((2000 : Int) < l.length) = false)
    (h1 : fillL l a n x = p) (h2 : isE (thereB l a n) = 0) (h3 : textL p a n = s) (h4 : isE (thereB p a n) = 0) (hS : strOfNums s = S) (hz : Go.bits .and .i64 x 255 = z) (hall : ∀ (i : Nat) (h : i < S.size), (((S[i]'h).toNat : Nat) : Int) = z) (hS8 : S.size ≤ 8192) (hwz : (wrap64 z == z) = true)
    (a0 : 0 ≤ a) (a1 : a ≤ 8192) (n0 : 0 ≤ n) (n1 : n ≤ 8192) (hk : Go.bits .and .i64 k 65535 = kk) (k0 : 0 ≤ kk) (k1 : kk < 65536) (hz1 : (n + 1 == 0) = false) (hc1 : kk % (n + 1) = cc) (hc2 : kk.tmod (n + 1) = cc) (c0 : 0 ≤ cc) (c1 : cc ≤ n) (e1 : a + cc = ac) (e2 : n - cc = nc)
    (t1 : textL l a cc = s1) (t2 : isE (thereB l a cc) = 0) (t3 : textL l ac nc = s2) (t4 : isE (thereB l ac nc) = 0) (t5 : textL l a n = s3) (t6 : isE (thereB l a n) = 0)
    (hlen : ((S.size : Int) == n) = true) (hsz : (strOfNums s1).size + (strOfNums s2).size ≤ 9223372036854775807) (hcat : strOfNums s1 ++ strOfNums s2 = strOfNums s3) (b5 : Bool) (g5 : decide (0 < n) = b5) (hp : b5 = false → strOfNums p = strOfNums l) :
    Calls Try.prog 15 #[.slice A l.length c, .int .i64 a, .int .i64 n, .int .i64 x, .int .i64 k] w fun e w' => e = .returned (.bool true) ∧ Below w.heap.size w w' := by
  have L := Aside0.mk ((Lv.start w).put hs)
  have HL := Aside0.mk hl
  have H1 := Aside0.mk h1
  have H2 := Aside0.mk h2
  have H3 := Aside0.mk h3
  have H4 := Aside0.mk h4
  have T1 := Aside0.mk t1
  have T2 := Aside0.mk t2
  have T3 := Aside0.mk t3
  have T4 := Aside0.mk t4
  have T5 := Aside0.mk t5
  have T6 := Aside0.mk t6
  have HA := Aside0.mk hall
  have HC := Aside0.mk hcat
  have hsz' : ¬ 9223372036854775807 < (strOfNums s1).size + (strOfNums s2).size := by omega
  have hwz' : (wrap64 z != z) = false := by simp only [bne, hwz]; rfl
  have hz1' : (n + 1 != 0) = true := by simp only [bne, hz1]; rfl
  have hz2 : ¬ (n + 1 = 0) := by omega
  clear hs h1 h2 h3 h4 t1 t2 t3 t4 t5 t6 hall hcat
  cases b5 <;> simp only [forall_const, false_implies, Bool.true_eq_false] at hp
  all_goals
    go_enter Try.func15, Try.ntmps15
    go_wp2_with (first | (go_at_call 16; (with_reducible refine (awake_call _).mono ?_); rintro e w1 ⟨rfl, hb⟩; have L1 := Aside0.mk (L.out.on hb); clear L hb; have L := L1; clear L1) | (go_at_call 18; (with_reducible refine (fill_as A c l a n x p 0 H1.out H2.out _ L.out.a1 HL.out).mono ?_); rintro e w2 ⟨A2, c2, rfl, hb, hs2⟩; have L1 := Aside0.mk ((L.out.on hb).put hs2); clear L hb hs2; have L := L1; clear L1) | (go_at_call 19; (with_reducible refine (text_as A2 c2 p a n s 0 H3.out H4.out _ L.out.a1).mono ?_); rintro e w3 ⟨rfl, ⟨n3, rfl⟩⟩; have L1 := Aside0.mk (L.out.drawnN n3); clear L; have L := L1; clear L1))
    have hS' := hS
    clear hS
    go_loopg [16] S.size (fun j v16 wr => ∃ i : Nat, i + j = S.size ∧ v16 = .int .i64 i ∧ Aside0 (Lv w wr [(A2, c2, p), (A, c, l)]))
    case atStart => exact ⟨0, by omega, rfl, L⟩
    case round =>
      clear L
      obtain ⟨i, hi, rfl, L⟩ := hrel
      cases gk with
      | zero =>
        obtain rfl : i = S.size := by omega
        have hcat := HC.out
        go_wp2_with (first | (go_at_call 19; (with_reducible refine (text_as A c l a cc s1 0 T1.out T2.out _ L.out.a2).mono ?_); rintro e w4 ⟨rfl, ⟨n4, rfl⟩⟩; have L1 := Aside0.mk (L.out.drawnN n4); clear L; have L := L1; clear L1) | (go_at_call 19; (with_reducible refine (text_as A c l ac nc s2 0 T3.out T4.out _ L.out.a2).mono ?_); rintro e w5 ⟨rfl, ⟨n5, rfl⟩⟩; have L1 := Aside0.mk (more L.out n5); clear L; have L := L1; clear L1) | (go_at_call 19; (with_reducible refine (text_as A c l a n s3 0 T5.out T6.out _ L.out.a2).mono ?_); rintro e w6 ⟨rfl, ⟨n6, rfl⟩⟩; have L1 := Aside0.mk (more L.out n6); clear L; have L := L1; clear L1; have cv1 := L.out.a1.str; have cv2 := L.out.a2.str))
        go_ret
        exact ⟨by first | rfl | (simp; done) | (simp [*]; done), by first | exact L.out.below | (simp only [← World.drewN_drewN]; repeat (first | exact L.out.below | apply pw_below_drewN))⟩
      | succ j =>
        have hlt : i < S.size := by omega
        have hb := HA.out i hlt
        go_wp2
        go_roundg j
        case measure => omega
        case rel => exact ⟨i + 1, by omega, by first | rfl | (simp; done), L⟩

theorem str_append (x y : List Int) : strOfNums x ++ strOfNums y = strOfNums (x ++ y) := by
  apply ByteArray.ext
  rw [ByteArray.data_append]
  simp [strOfNums]
theorem sub_split (l : List Int) (i n c : Nat) (hc : c ≤ n) : sub l i c ++ sub l (i + c) (n - c) = sub l i n := by
  unfold sub
  rw [← List.drop_drop, show n = c + (n - c) by omega, List.take_add, show c + (n - c) - c = n - c by omega]
theorem str_byte (n : Nat) (v : Int) (h0 : 0 ≤ v) (h1 : v < 256) (i : Nat) (h : i < (strOfNums (List.replicate n v)).size) : ((((strOfNums (List.replicate n v))[i]'h).toNat : Nat) : Int) = v := by
  have hi : i < n := by rw [strOfNums_size, List.length_replicate] at h; exact h
  have e : (strOfNums (List.replicate n v))[i]'h = UInt8.ofNat v.toNat := by
    show (strOfNums (List.replicate n v)).data[i]'_ = _
    simp [strOfNums]
  rw [e, UInt8.toNat_ofNat']
  omega

/-- The law, walked. -/
theorem walk (A : Option Addr) (len c : Nat) (zs : List Int) (a n x k : Int) (w : World)
    (hrow : (A = none ∧ len = 0 ∧ c = 0 ∧ zs = []) ∨ ∃ x, A = some x ∧ len ≤ c ∧ c ≤ maxLen ∧ zs.length = c ∧ (∀ i, i < zs.length → w.cell? (x.add i) = some (.int .u8 (zs.getD i 0))) ∧ ∀ n ∈ zs, (Lit.int .u8 n).wf = true)
    (hy0 : len * 1 ≤ 140737488351232) (_ : (Lit.int .i64 a).wf = true) (_ : (Lit.int .i64 n).wf = true) (_ : (Lit.int .i64 x).wf = true) (_ : (Lit.int .i64 k).wf = true) :
    Calls Try.prog 15 #[.slice A len c, .int .i64 a, .int .i64 n, .int .i64 x, .int .i64 k] w fun e w' => e = .returned (.bool true) ∧ Below w.heap.size w w' := by
  obtain ⟨l, rfl, hs, hy, _⟩ := row_opens hrow hy0
  clear hrow hy0
  by_cases hb : 2000 < l.length
  · exact walk_big A c l a n x k w (decide_eq_true hb) (decide_eq_true (by omega))
  · have hbf : decide (2000 < l.length) = false := decide_eq_false hb
    have hbf2 : decide ((2000 : Int) < l.length) = false := decide_eq_false (by omega)
    by_cases hn : thereB l a n = true
    · obtain ⟨ea, en, hf⟩ := there_nat hn
      have kk := and16 k
      have k0 : 0 ≤ k % 65536 ∧ k % 65536 < 65536 := by omega
      have c0 := Int.emod_nonneg (k % 65536) (show n + 1 ≠ 0 by omega)
      have c1 := Int.emod_lt_of_pos (k % 65536) (show 0 < n + 1 by omega)
      have c2 : Int.tmod (k % 65536) (n + 1) = k % 65536 % (n + 1) := Int.tmod_eq_emod_of_nonneg (by omega)
      generalize hcc : k % 65536 % (n + 1) = cc at *
      have lp : (fillL l a n x).length = l.length := fill_len ..
      have r1 : (List.replicate n.toNat (x % 256)).length = n.toNat := List.length_replicate ..
      have e1 : fillL l a n x = withL l a.toNat (List.replicate n.toNat (x % 256)) := by unfold fillL; rw [if_pos hn]
      have tp : thereB (fillL l a n x) a n = true := by rw [there_len lp]; exact hn
      have e3 : textL (fillL l a n x) a n = List.replicate n.toNat (x % 256) := by
        unfold textL
        rw [if_pos tp, e1]
        have := sub_with (l := l) (b := List.replicate n.toNat (x % 256)) (i := a.toNat) (by omega)
        rwa [r1] at this
      have q1 : thereB l a cc = true := there_true.2 (by omega)
      have q2 : thereB l (a + cc) (n - cc) = true := there_true.2 (by omega)
      have f1 : textL l a cc = sub l a.toNat cc.toNat := by unfold textL; rw [if_pos q1]
      have f2 : textL l (a + cc) (n - cc) = sub l (a.toNat + cc.toNat) (n.toNat - cc.toNat) := by
        unfold textL; rw [if_pos q2, show (a + cc).toNat = a.toNat + cc.toNat by omega, show (n - cc).toNat = n.toNat - cc.toNat by omega]
      have f3 : textL l a n = sub l a.toNat n.toNat := by unfold textL; rw [if_pos hn]
      refine walk_yes A c l _ _ _ _ _ _ a n x k (x % 256) (k % 65536) cc _ _ w hs (by omega) hbf hbf2 rfl (isE_true hn) e3 (isE_true tp) rfl (and8 x) (fun i h => str_byte _ _ (by omega) (by omega) i h)
        (by rw [strOfNums_size, r1]; omega) (by rw [wrap64_in (by omega) (by omega)]; simp) (by omega) (by omega) (by omega) (by omega) kk k0.1 k0.2 (by rw [beq_eq_false_iff_ne]; omega) hcc c2 c0 (by omega) rfl rfl f1 (isE_true q1) f2 (isE_true q2) f3 (isE_true hn)
        (by rw [strOfNums_size, r1, beq_iff_eq]; omega) ?_ (by rw [str_append, sub_split _ _ _ _ (by omega)]) _ rfl (fun h => ?_)
      · rw [strOfNums_size, strOfNums_size, sub_length (by omega), sub_length (by omega)]; omega
      · have hz : n.toNat = 0 := by
          have : ¬ 0 < n := by simpa using h
          omega
        rw [e1, hz]
        unfold withL
        simp
    · have hf : thereB l a n = false := by simpa using hn
      have e1 : fillL l a n x = l := by unfold fillL; rw [if_neg hn]
      refine walk_no A c l a n x k w hs (by omega) hbf hbf2 e1 (isE_false hf) _ _ _ _ rfl rfl rfl rfl ?_
      have hno := there_false.1 hf
      by_cases h1 : a < 0
      · simp [h1]
      · by_cases h2 : n < 0
        · simp [h2]
        · by_cases h3 : (l.length : Int) < a
          · simp [h3]
          · rw [wrap64_in (by omega) (by omega), decide_eq_true (show (l.length : Int) - a < n by omega)]; simp
end Go.Proofs.Ytipflebjooanpaa.FillsWalk
