/- What is got, put, filled, moved, told and swapped is what the document says: the walk of MemIs, for every slice of bytes and all whole numbers. No condition. -/
import Derived.Test.YtipflebjooanpaaMemRef2
namespace Go.Proofs.Ytipflebjooanpaa.MemIsWalk
open Go.RowKit Go.Proofs.YtipflebjooanpaaW.PrintWords Go.Proofs.YtipflebjooanpaaW.PrintLast Go.Proofs.YtipflebjooanpaaW.PrintMore Go.Proofs.Ytipflebjooanpaa.Arith Go.Proofs.Ytipflebjooanpaa.Mem
set_option linter.unusedSimpArgs false
set_option linter.unusedVariables false

/-- What lives through the walk: the memory given, and what was made of it. -/
structure Mq (w0 w : World) (A : Option Addr) (c : Nat) (l : List Int) (S : List (Option Addr × Nat × List Int)) : Prop where
  o : Sl w A c l
  lv : Lv w0 w S
theorem Mq.on {w0 w w1 : World} {A : Option Addr} {c : Nat} {l : List Int} {S : List (Option Addr × Nat × List Int)} (h : Mq w0 w A c l S) (hb : Below w.heap.size w w1) : Mq w0 w1 A c l S := ⟨h.o.below hb, h.lv.on hb⟩
theorem Mq.put {w0 w : World} {A : Option Addr} {c : Nat} {l : List Int} {S : List (Option Addr × Nat × List Int)} (h : Mq w0 w A c l S) {A1 : Option Addr} {c1 : Nat} {l1 : List Int} (hs : Sl w A1 c1 l1) : Mq w0 w A c l ((A1, c1, l1) :: S) := ⟨h.o, h.lv.put hs⟩
theorem Mq.drop {w0 w : World} {A : Option Addr} {c : Nat} {l : List Int} {S : List (Option Addr × Nat × List Int)} (h : Mq w0 w A c l S) : Mq w0 w A c l [] := ⟨h.o, ⟨h.lv.below, fun _ h => by cases h⟩⟩
theorem Mq.drawnN {w0 w : World} {A : Option Addr} {c : Nat} {l : List Int} {S : List (Option Addr × Nat × List Int)} (h : Mq w0 w A c l S) (n : Nat) : Mq w0 (w.drewN n) A c l S := h.on (pw_below_drewN (Below.refl _ _) n)
theorem swap_as (A : Option Addr) (c : Nat) (l : List Int) (a o x : Int) (p : List Int) (r g : Int) (hp : swapL l a o x = p) (hr : swapV l a o = r) (hg : getE l a = g) (w : World) (hs : Sl w A c l) (hy : Byt l) (hl : l.length ≤ 140737488355328) :
    Calls Try.prog 33 #[.slice A l.length c, .int .i64 a, .int .i64 o, .int .i64 x] w fun e w' => ∃ A' c', e = .returned (.tuple #[.slice A' p.length c', .int .i64 r, .int .i64 g]) ∧ Below w.heap.size w w' ∧ Sl w' A' c' p := by
  subst hp hr hg
  exact swap_call A c l a o x w hs hy hl
theorem new_as (n : Int) (p : List Int) (hp : newL n = p) (w : World) : Calls Try.prog 26 #[.int .i64 n] w fun e w' => ∃ A' c', e = .returned (.slice A' p.length c') ∧ Below w.heap.size w w' := by
  subst hp
  exact (new_call n w).mono fun e w' ⟨A', c', h, hb, _⟩ => ⟨A', c', h, hb⟩
theorem ref_new_as (n : Int) (p : List Int) (hp : newL n = p) (w : World) : Calls Try.prog 27 #[.int .i64 n] w fun e w' => ∃ A' c', e = .returned (.slice A' p.length c') ∧ Below w.heap.size w w' := by
  subst hp
  exact (ref_new n w).mono fun e w' ⟨A', c', h, hb, _⟩ => ⟨A', c', h, hb⟩

set_option maxHeartbeats 2000000 in
set_option maxRecDepth 100000 in
theorem walk_big (A : Option Addr) (c : Nat) (l : List Int) (a b n x : Int) (w : World) (hb0 : decide (2000 < l.length) = true) (hb2 : decide ((2000 : Int) < l.length) = true) :
    Calls Try.prog 4 #[.slice A l.length c, .int .i64 a, .int .i64 b, .int .i64 n, .int .i64 x] w fun e w' => e = .returned (.bool true) ∧ Below w.heap.size w w' := by
  go_enter Try.func4, Try.ntmps4
  go_wp2_with (first | (go_at_call 16; (with_reducible refine (awake_call _).mono ?_); rintro e w1 ⟨rfl, hb⟩; have B1 := Aside0.mk hb; clear hb))
  go_ret
  exact ⟨by first | rfl | (simp; done) | (simp [*]; done), B1.out⟩

set_option maxHeartbeats 8000000 in
set_option maxRecDepth 100000 in
theorem walk_in (A : Option Addr) (c : Nat) (l p q m pb s sw nl : List Int) (a b n x gv ge bv be qe me sv : Int) (w : World) (hs : Sl w A c l) (hy : Byt l) (hl : l.length ≤ 8192) (hb0 : decide (2000 < l.length) = false) (hb2 : decide ((2000 : Int) < l.length) = false)
    (h1 : getV l a = gv) (h2 : getE l a = ge) (h3 : putL l a x = p) (h4 : byteV l a = bv) (h5 : isE (thereB l a 1) = be) (h6 : fillL l a n x = q) (h7 : isE (thereB l a n) = qe) (h8 : moveL l a b n = m) (h9 : isE (moveB l a b n) = me) (h10 : fillL l a 1 x = pb) (h11 : textL l a n = s) (h12 : swapL l a b x = sw) (h13 : swapV l a b = sv) (h14 : newL n = nl) :
    Calls Try.prog 4 #[.slice A l.length c, .int .i64 a, .int .i64 b, .int .i64 n, .int .i64 x] w fun e w' => e = .returned (.bool true) ∧ Below w.heap.size w w' := by
  have Q : Aside0 (Mq w w A c l []) := Aside0.mk ⟨hs, Lv.start w⟩
  have HY := Aside0.mk hy
  have HL8 := Aside0.mk hl
  have HLm := Aside0.mk (show l.length ≤ 140737488355328 by omega)
  have HL := Aside0.mk (show l.length < 140737488355328 by omega)
  have H1 := Aside0.mk h1
  have H2 := Aside0.mk h2
  have H3 := Aside0.mk h3
  have H4 := Aside0.mk h4
  have H5 := Aside0.mk h5
  have H6 := Aside0.mk h6
  have H7 := Aside0.mk h7
  have H8 := Aside0.mk h8
  have H9 := Aside0.mk h9
  have H10 := Aside0.mk h10
  have H11 := Aside0.mk h11
  have H12 := Aside0.mk h12
  have H13 := Aside0.mk h13
  have H14 := Aside0.mk h14
  clear hs hy hl h1 h2 h3 h4 h5 h6 h7 h8 h9 h10 h11 h12 h13 h14
  go_enter Try.func4, Try.ntmps4
  go_wp2_with (first
    | (go_at_call 16; (with_reducible refine (awake_call _).mono ?_); rintro e w1 ⟨rfl, hb⟩; have Q1 := Aside0.mk (Q.out.on hb); clear Q hb; have Q := Q1; clear Q1)
    | (go_at_call 20; (with_reducible refine (get_as A c l a gv ge H1.out H2.out _ Q.out.o HY.out).mono ?_); rintro e w2 ⟨rfl, ⟨n2, rfl⟩⟩)
    | (go_at_call 21; (with_reducible refine (ref_get A c l a gv ge H1.out H2.out _ (Q.out.drawnN _).o HY.out).mono ?_); rintro e w3 ⟨rfl, ⟨n3, rfl⟩⟩)
    | (go_at_call 22; (with_reducible refine (put_as A c l a x p ge H3.out H2.out _ (Q.out.drawnN _).o HLm.out).mono ?_); rintro e w4 ⟨A4, c4, rfl, hb, hs4⟩; have Q1 := Aside0.mk (((Q.out.drawnN _).on hb).put hs4); clear Q hb hs4; have Q := Q1; clear Q1)
    | (go_at_call 23; (with_reducible refine (ref_put A c l a x p ge H3.out H2.out _ Q.out.o HL.out).mono ?_); rintro e w5 ⟨A5, c5, rfl, hb, hs5⟩; have Q1 := Aside0.mk ((Q.out.on hb).put hs5); clear Q hb hs5; have Q := Q1; clear Q1; have cv1 := Q.out.lv.a1.strN; have cv2 := Q.out.lv.a2.strN)
    | (go_at_call 24; (with_reducible refine (byte_as A c l a bv be H4.out H5.out _ Q.out.o).mono ?_); rintro e w6 ⟨rfl, ⟨n6, rfl⟩⟩)
    | (go_at_call 25; (with_reducible refine (ref_byte A c l a bv be H4.out H5.out _ (Q.out.drawnN _).o).mono ?_); rintro e w7 ⟨rfl, ⟨n7, rfl⟩⟩)
    | (go_at_call 26; (with_reducible refine (new_as n nl H14.out _).mono ?_); rintro e w8 ⟨A8, c8, rfl, hb⟩; have Q1 := Aside0.mk ((Q.out.drop.drawnN _).on hb); clear Q hb cv1 cv2; have Q := Q1; clear Q1)
    | (go_at_call 27; (with_reducible refine (ref_new_as n nl H14.out _).mono ?_); rintro e w9 ⟨A9, c9, rfl, hb⟩; have Q1 := Aside0.mk (Q.out.on hb); clear Q hb; have Q := Q1; clear Q1)
    | (go_at_call 18; (with_reducible refine (fill_as A c l a n x q qe H6.out H7.out _ Q.out.o HL8.out).mono ?_); rintro e w10 ⟨A10, c10, rfl, hb, hs10⟩; have Q1 := Aside0.mk ((Q.out.on hb).put hs10); clear Q hb hs10; have Q := Q1; clear Q1)
    | (go_at_call 28; (with_reducible refine (ref_fill A c l a n x q qe H6.out H7.out _ Q.out.o HL.out).mono ?_); rintro e w11 ⟨A11, c11, rfl, hb, hs11⟩; have Q1 := Aside0.mk ((Q.out.on hb).put hs11); clear Q hb hs11; have Q := Q1; clear Q1)
    | (go_at_call 17; (with_reducible refine (move_as A c l a b n m me H8.out H9.out _ Q.out.o HLm.out).mono ?_); rintro e w12 ⟨A12, c12, rfl, hb, hs12⟩; have Q1 := Aside0.mk ((Q.out.on hb).put hs12); clear Q hb hs12; have Q := Q1; clear Q1)
    | (go_at_call 29; (with_reducible refine (ref_move A c l a b n m me H8.out H9.out _ Q.out.o HL.out).mono ?_); rintro e w13 ⟨A13, c13, rfl, hb, hs13⟩; have Q1 := Aside0.mk ((Q.out.on hb).put hs13); clear Q hb hs13; have Q := Q1; clear Q1; have cv1 := Q.out.lv.a1.str; have cv2 := Q.out.lv.a2.str; have cv3 := Q.out.lv.a3.str; have cv4 := Q.out.lv.a4.str)
    | (go_at_call 30; (with_reducible refine (putbyte_as A c l a x pb be H10.out H5.out _ Q.out.o HL8.out).mono ?_); rintro e w14 ⟨A14, c14, rfl, hb, hs14⟩; have Q1 := Aside0.mk ((Q.out.drop.on hb).put hs14); clear Q hb hs14 cv1 cv2 cv3 cv4; have Q := Q1; clear Q1)
    | (go_at_call 31; (with_reducible refine (ref_putbyte A c l a x pb be H10.out H5.out _ Q.out.o HL.out).mono ?_); rintro e w15 ⟨A15, c15, rfl, hb, hs15⟩; have Q1 := Aside0.mk ((Q.out.on hb).put hs15); clear Q hb hs15; have Q := Q1; clear Q1)
    | (go_at_call 19; (with_reducible refine (text_as A c l a n s qe H11.out H7.out _ Q.out.o).mono ?_); rintro e w16 ⟨rfl, ⟨n16, rfl⟩⟩)
    | (go_at_call 32; (with_reducible refine (ref_text A c l a n s qe H11.out H7.out _ (Q.out.drawnN _).o HL.out).mono ?_); rintro e w17 ⟨rfl, ⟨n17, rfl⟩⟩)
    | (go_at_call 33; (with_reducible refine (swap_as A c l a b x sw sv ge H12.out H13.out H2.out _ (Q.out.drawnN _).o HY.out HLm.out).mono ?_); rintro e w18 ⟨A18, c18, rfl, hb, hs18⟩; have Q1 := Aside0.mk (((Q.out.drawnN _).on hb).put hs18); clear Q hb hs18; have Q := Q1; clear Q1)
    | (go_at_call 34; (with_reducible refine (ref_swap A c l a b x sw sv ge H12.out H13.out H2.out _ Q.out.o HY.out HL.out).mono ?_); rintro e w19 ⟨A19, c19, rfl, hb, hs19⟩; have Q1 := Aside0.mk ((Q.out.on hb).put hs19); clear Q hb hs19; have Q := Q1; clear Q1; have cv1 := Q.out.lv.a1.str; have cv2 := Q.out.lv.a2.str; have cv3 := Q.out.lv.a3.str; have cv4 := Q.out.lv.a4.str))
  go_ret
  exact ⟨by first | rfl | (simp; done) | (simp [*]; done), Q.out.lv.below⟩

theorem walk (A : Option Addr) (len c : Nat) (zs : List Int) (a b n x : Int) (w : World)
    (hrow : (A = none ∧ len = 0 ∧ c = 0 ∧ zs = []) ∨ ∃ x, A = some x ∧ len ≤ c ∧ c ≤ maxLen ∧ zs.length = c ∧ (∀ i, i < zs.length → w.cell? (x.add i) = some (.int .u8 (zs.getD i 0))) ∧ ∀ n ∈ zs, (Lit.int .u8 n).wf = true)
    (hy0 : len * 1 ≤ 140737488351232) (_ : (Lit.int .i64 a).wf = true) (_ : (Lit.int .i64 b).wf = true) (_ : (Lit.int .i64 n).wf = true) (_ : (Lit.int .i64 x).wf = true) :
    Calls Try.prog 4 #[.slice A len c, .int .i64 a, .int .i64 b, .int .i64 n, .int .i64 x] w fun e w' => e = .returned (.bool true) ∧ Below w.heap.size w w' := by
  obtain ⟨l, rfl, hs, hy, hl⟩ := row_opens hrow hy0
  clear hrow hy0
  by_cases hb : 2000 < l.length
  · exact walk_big A c l a b n x w (decide_eq_true hb) (decide_eq_true (by omega))
  · exact walk_in A c l _ _ _ _ _ _ _ a b n x _ _ _ _ _ _ _ w hs hy (by omega) (decide_eq_false hb) (decide_eq_false (by omega)) rfl rfl rfl rfl rfl rfl rfl rfl rfl rfl rfl rfl rfl rfl
end Go.Proofs.Ytipflebjooanpaa.MemIsWalk
