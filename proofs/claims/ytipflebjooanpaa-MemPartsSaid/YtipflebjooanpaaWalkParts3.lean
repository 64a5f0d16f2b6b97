/- A cell is its bytes: the walk of MemParts, for every slice of bytes and all whole numbers. No condition. -/
import Derived.Test.YtipflebjooanpaaMemAs
import Derived.Deep.LoopGhost
namespace Go.Proofs.Ytipflebjooanpaa.CellParts
open Go.RowKit Go.Proofs.YtipflebjooanpaaW.PrintWords Go.Proofs.YtipflebjooanpaaW.PrintLast Go.Proofs.YtipflebjooanpaaW.PrintMore Go.Proofs.Ytipflebjooanpaa.Arith Go.Proofs.Ytipflebjooanpaa.Mem
set_option linter.unusedSimpArgs false
set_option linter.unusedVariables false

theorem and8 (x : Int) : Go.bits .and .i64 x 255 = x % 256 := and_low x 8 (by decide)
/-- What is left of a number behind i bytes. -/
def vX (x : Int) (i : Nat) : Int := x / 256 ^ i
/-- The memory, the first i bytes of the cell put. -/
def qL (l : List Int) (a x : Int) (i : Nat) : List Int := withL l a.toNat ((wordL x).take i)
theorem vX_next (x : Int) (i : Nat) : vX x i / 256 = vX x (i + 1) := by
  unfold vX
  rw [Int.ediv_ediv_of_nonneg (Int.pow_nonneg (by decide)), Int.pow_succ]
theorem take_len (x : Int) (i : Nat) (h : i ≤ 8) : ((wordL x).take i).length = i := by rw [List.length_take, word_length]; omega
theorem qL_len (l : List Int) (a x : Int) (i : Nat) (h : i ≤ 8) (hf : a.toNat + 8 ≤ l.length) : (qL l a x i).length = l.length := with_length (by rw [take_len x i h]; omega)
theorem bytesN_get (n : Nat) : ∀ (u i : Nat), i < n → (bytesN n u).getD i 0 = ((u / 256 ^ i % 256 : Nat) : Int) := by
  intro u i h
  rw [List.getD_eq_getElem?_getD, bytesN_rd n u i h]; rfl
theorem word_get (x : Int) (i : Nat) (h : i < 8) : (wordL x).getD i 0 = vX x i % 256 := by
  unfold wordL
  rw [bytesN_get 8 _ i h]
  unfold vX un
  have hc : i = 0 ∨ i = 1 ∨ i = 2 ∨ i = 3 ∨ i = 4 ∨ i = 5 ∨ i = 6 ∨ i = 7 := by omega
  rcases hc with rfl | rfl | rfl | rfl | rfl | rfl | rfl | rfl <;> simp only [Nat.reducePow, Int.reducePow] <;> omega
theorem qL_next (l : List Int) (a x : Int) (i : Nat) (h : i < 8) (ha : 0 ≤ a) (hf : a.toNat + 8 ≤ l.length) : fillL (qL l a x i) (a + i) 1 (vX x i) = qL l a x (i + 1) := by
  have hl := qL_len l a x i (by omega) hf
  have ht : thereB (qL l a x i) (a + i) 1 = true := there_true.2 (by omega)
  unfold fillL
  rw [if_pos ht]
  refine ext_getD (by rw [with_length (by rw [List.length_replicate]; omega), hl, qL_len l a x (i + 1) (by omega) hf]) (fun j hj => ?_)
  rw [getD_with (by rw [List.length_replicate]; omega), List.length_replicate]
  unfold qL
  rw [getD_with (by rw [take_len x _ (by omega)]; omega), getD_with (by rw [take_len x _ (by omega)]; omega), take_len x _ (by omega), take_len x _ (by omega)]
  have tk : ∀ m k : Nat, k < m → ((wordL x).take m).getD k 0 = (wordL x).getD k 0 := fun m k hk => by simp [List.getD_eq_getElem?_getD, List.getElem?_take, hk]
  by_cases h1 : (a + i).toNat ≤ j ∧ j < (a + i).toNat + (1 : Int).toNat
  · rw [if_pos h1, if_pos (by omega), tk _ _ (by omega), show j - a.toNat = i by omega, word_get x i h]
    simp [List.getD_eq_getElem?_getD, List.getElem?_replicate, show j - (a + i).toNat = 0 by omega]
  · rw [if_neg h1]
    by_cases h2 : a.toNat ≤ j ∧ j < a.toNat + i
    · rw [if_pos h2, if_pos (by omega), tk _ _ (by omega), tk _ _ (by omega)]
    · rw [if_neg h2, if_neg (by omega)]
theorem put_byte (l : List Int) (a x : Int) (i : Nat) (h : i < 8) (hg : getE l a = 0) : byteV (putL l a x) (a + i) = vX x i % 256 ∧ thereB (putL l a x) (a + i) 1 = true := by
  have ht := there_true.1 (getE_zero.1 hg).1
  have hp := put_len l a x
  have ht1 : thereB (putL l a x) (a + i) 1 = true := there_true.2 (by omega)
  refine ⟨?_, ht1⟩
  unfold byteV
  rw [if_pos ht1]
  have e : rd (putL l a x) (a + i) = vX x i % 256 := by
    unfold putL rd
    rw [if_pos hg, getD_with (by rw [word_length]; omega), word_length, if_pos (by omega), show (a + i).toNat - a.toNat = i by omega, word_get x i h]
  rw [e, wrap64_in (by omega) (by omega)]

set_option maxHeartbeats 2000000 in
set_option maxRecDepth 100000 in
theorem walk_big (A : Option Addr) (c : Nat) (l : List Int) (a x : Int) (w : World) (hb0 : decide (2000 < l.length) = true) (hb2 : decide ((2000 : Int) < l.length) = true) :
    Calls Try.prog 14 #[.slice A l.length c, .int .i64 a, .int .i64 x] w fun e w' => e = .returned (.bool true) ∧ Below w.heap.size w w' := by
  go_enter Try.func14, Try.ntmps14
  go_wp2_with (first | (go_at_call 16; (with_reducible refine (awake_call _).mono ?_); rintro e w1 ⟨rfl, hb⟩; have B1 := Aside0.mk hb; clear hb))
  go_ret
  exact ⟨by first | rfl | (simp; done) | (simp [*]; done), B1.out⟩
set_option maxHeartbeats 2000000 in
set_option maxRecDepth 100000 in
theorem walk_no (A : Option Addr) (c : Nat) (l p : List Int) (a x g : Int) (w : World) (hs : Sl w A c l) (hl : l.length ≤ 8192) (hb0 : decide (2000 < l.length) = false) (hb2 : decide ((2000 : Int) < l.length) = false) (h1 : putL l a x = p) (h2 : getE l a = g) (hg : (g == 0) = false) :
    Calls Try.prog 14 #[.slice A l.length c, .int .i64 a, .int .i64 x] w fun e w' => e = .returned (.bool true) ∧ Below w.heap.size w w' := by
  have L := Aside0.mk ((Lv.start w).put hs)
  have HL2 := Aside0.mk (show l.length ≤ 140737488355328 by omega)
  have H1 := Aside0.mk h1
  have H2 := Aside0.mk h2
  have hg' : (g != 0) = true := by simp only [bne, hg]; rfl
  clear hs h1 h2
  go_enter Try.func14, Try.ntmps14
  go_wp2_with (first | (go_at_call 16; (with_reducible refine (awake_call _).mono ?_); rintro e w1 ⟨rfl, hb⟩; have L1 := Aside0.mk (L.out.on hb); clear L hb; have L := L1; clear L1) | (go_at_call 22; (with_reducible refine (put_as A c l a x p g H1.out H2.out _ L.out.a1 HL2.out).mono ?_); rintro e w2 ⟨A2, c2, rfl, hb, hs2⟩; have L1 := Aside0.mk ((L.out.on hb).put hs2); clear L hb hs2; have L := L1; clear L1))
  go_ret
  exact ⟨by first | rfl | (simp; done) | (simp [*]; done), by first | exact L.out.below | (rw [← World.drewN_drewN]; exact L.out.below)⟩

set_option maxHeartbeats 4000000 in
set_option maxRecDepth 100000 in
theorem walk_yes (A : Option Addr) (c : Nat) (l p : List Int) (a x : Int) (w : World) (hs : Sl w A c l) (hl : l.length ≤ 8192) (hb0 : decide (2000 < l.length) = false) (hb2 : decide ((2000 : Int) < l.length) = false) (h1 : putL l a x = p) (h2 : getE l a = 0) (a0 : 0 ≤ a) (a1 : a ≤ 8192)
    (q : Nat → List Int) (v : Nat → Int) (q0 : q 0 = l) (v0 : v 0 = x) (q8 : q 8 = p) (qn : ∀ i : Nat, i < 8 → fillL (q i) (a + i) 1 (v i) = q (i + 1)) (qt : ∀ i : Nat, i < 8 → isE (thereB (q i) (a + i) 1) = 0) (vn : ∀ i, v i / 256 = v (i + 1))
    (pb : ∀ i : Nat, i < 8 → byteV p (a + i) = v i % 256) (pt : ∀ i : Nat, i < 8 → isE (thereB p (a + i) 1) = 0) (ql : ∀ i, i ≤ 8 → (q i).length ≤ 8192) :
    Calls Try.prog 14 #[.slice A l.length c, .int .i64 a, .int .i64 x] w fun e w' => e = .returned (.bool true) ∧ Below w.heap.size w w' := by
  have L := Aside0.mk ((Lv.start w).put hs)
  have HL2 := Aside0.mk (show l.length ≤ 140737488355328 by omega)
  have H1 := Aside0.mk h1
  have H2 := Aside0.mk h2
  have Q0 := Aside0.mk q0
  have V0 := Aside0.mk v0
  have Q8 := Aside0.mk q8
  have QN := Aside0.mk qn
  have QT := Aside0.mk qt
  have VN := Aside0.mk vn
  have PB := Aside0.mk pb
  have PT := Aside0.mk pt
  have QL := Aside0.mk ql
  clear hs h1 h2 q0 v0 q8 qn qt vn pb pt ql
  go_enter Try.func14, Try.ntmps14
  go_wp2_with (first | (go_at_call 16; (with_reducible refine (awake_call _).mono ?_); rintro e w1 ⟨rfl, hb⟩; have L1 := Aside0.mk (L.out.on hb); clear L hb; have L := L1; clear L1) | (go_at_call 22; (with_reducible refine (put_as A c l a x p 0 H1.out H2.out _ L.out.a1 HL2.out).mono ?_); rintro e w2 ⟨A2, c2, rfl, hb, hs2⟩; have L1 := Aside0.mk ((L.out.on hb).put hs2); clear L hb hs2; have L := L1; clear L1))
  go_loopg [10, 11, 12] 8 (fun j v10 v11 v12 wr => ∃ (i : Nat) (A' : Option Addr) (c' : Nat), i + j = 8 ∧ v10 = .slice A' (q i).length c' ∧ v11 = .int .i64 (v i) ∧ v12 = .int .i64 i ∧ Aside0 (Lv w wr [(A', c', q i), (A2, c2, p), (A, c, l)]))
  case atStart => exact ⟨0, A, c, rfl, by rw [Q0.out], by rw [V0.out], rfl, ⟨by rw [Q0.out]; exact L.out.put L.out.a2⟩⟩
  case round =>
    clear L
    obtain ⟨i, A', c', hi, rfl, rfl, rfl, L⟩ := hrel
    cases gk with
    | zero =>
      obtain rfl : i = 8 := by omega
      have cv1 := L.out.a1.str
      have cv2 := L.out.a2.str
      have e8 : strOfNums (q 8) = strOfNums p := by rw [Q8.out]
      go_wp2
      go_ret
      exact ⟨by first | rfl | (simp; done) | (simp [*]; done), L.out.below⟩
    | succ j =>
      have h8 : i < 8 := by omega
      have n1 := QN.out i h8
      have n2 := QT.out i h8
      have n3 := PB.out i h8
      have n4 := PT.out i h8
      have n5 := QL.out i (by omega)
      have N1 := Aside0.mk n1
      have N2 := Aside0.mk n2
      have N3 := Aside0.mk n3
      have N4 := Aside0.mk n4
      have N5 := Aside0.mk n5
      have n6 := and8 (v i)
      have VI := Aside0.mk (VN.out i)
      clear n1 n2 n3 n4 n5
      go_wp2_with (first | (go_at_call 30; (with_reducible refine (putbyte_as A' c' (q i) (a + i) (v i) (q (i + 1)) 0 N1.out N2.out _ L.out.a1 N5.out).mono ?_); rintro e w3 ⟨A3, c3, rfl, hb, hs3⟩; have L1 := Aside0.mk ((L.out.on hb).put hs3); clear L hb hs3; have L := L1; clear L1) | (go_at_call 24; (with_reducible refine (byte_as A2 c2 p (a + i) (v i % 256) 0 N3.out N4.out _ L.out.a3).mono ?_); rintro e w4 ⟨rfl, ⟨n4, rfl⟩⟩; have L1 := Aside0.mk (L.out.drawnN n4); clear L; have L := L1; clear L1))
      go_roundg j
      case measure => omega
      case rel => exact ⟨i + 1, A3, c3, by omega, rfl, by rw [← VI.out], by first | rfl | (simp; done), ⟨⟨L.out.below, fun s hm => by
        rcases List.mem_cons.1 hm with rfl | hm
        · exact L.out.a1
        · exact L.out.less.less.all s hm⟩⟩⟩

/-- The law, walked. -/
theorem walk (A : Option Addr) (len c : Nat) (zs : List Int) (a x : Int) (w : World)
    (hrow : (A = none ∧ len = 0 ∧ c = 0 ∧ zs = []) ∨ ∃ x, A = some x ∧ len ≤ c ∧ c ≤ maxLen ∧ zs.length = c ∧ (∀ i, i < zs.length → w.cell? (x.add i) = some (.int .u8 (zs.getD i 0))) ∧ ∀ n ∈ zs, (Lit.int .u8 n).wf = true)
    (hy0 : len * 1 ≤ 140737488351232) (_ : (Lit.int .i64 a).wf = true) (_ : (Lit.int .i64 x).wf = true) :
    Calls Try.prog 14 #[.slice A len c, .int .i64 a, .int .i64 x] w fun e w' => e = .returned (.bool true) ∧ Below w.heap.size w w' := by
  obtain ⟨l, rfl, hs, hy, _⟩ := row_opens hrow hy0
  clear hrow hy0
  by_cases hb : 2000 < l.length
  · exact walk_big A c l a x w (decide_eq_true hb) (decide_eq_true (by omega))
  · have hbf : decide (2000 < l.length) = false := decide_eq_false hb
    have hbf2 : decide ((2000 : Int) < l.length) = false := decide_eq_false (by omega)
    by_cases hg : getE l a = 0
    · have ht := there_true.1 (getE_zero.1 hg).1
      have hf : a.toNat + 8 ≤ l.length := by omega
      refine walk_yes A c l _ a x w hs (by omega) hbf hbf2 rfl hg (by omega) (by omega) (qL l a x) (vX x) ?_ (by unfold vX; simp) ?_ (fun i h => qL_next l a x i h (by omega) hf) (fun i h => isE_true (there_true.2 (by have := qL_len l a x i (by omega) hf; omega))) (vX_next x)
        (fun i h => (put_byte l a x i h hg).1) (fun i h => isE_true (put_byte l a x i h hg).2) (fun i h => by rw [qL_len l a x i h hf]; omega)
      · unfold qL withL; simp
      · unfold qL putL
        rw [if_pos hg, List.take_of_length_le (by rw [word_length]; omega)]
    · exact walk_no A c l _ a x _ w hs (by omega) hbf hbf2 rfl rfl (by simpa using hg)
end Go.Proofs.Ytipflebjooanpaa.CellParts
