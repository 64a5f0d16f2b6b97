/- Whether it may be touched, whose it is, what is read and written are what the document says: the walk of GuardIs, for every slice of bytes, every task and all whole numbers. No condition. -/
import Derived.Test.YtipflebjooanpaaGuardRef
import Derived.Deep.RegionHeld3
namespace Go.Proofs.Ytipflebjooanpaa.GuardIsWalk
open Go.RowKit Go.Proofs.YtipflebjooanpaaW.PrintWords Go.Proofs.YtipflebjooanpaaW.PrintLast Go.Proofs.YtipflebjooanpaaW.PrintMore Go.Proofs.Ytipflebjooanpaa.GuardMath Go.Proofs.Ytipflebjooanpaa.GuardTotIs
open Go.Proofs.Ytipflebjooanpaa.Mem hiding awake_call
set_option linter.unusedSimpArgs false
set_option linter.unusedVariables false

/-- What lives through the walk: the memory given, what was made of it, and the block of the task. -/
structure Gq (w0 w : World) (A : Option Addr) (c : Nat) (l : List Int) (S : List (Option Addr × Nat × List Int)) (g : Nat) (t : Int) (lib : Bool) : Prop where
  o : Sl w A c l
  lv : Lv w0 w S
  blk : w.heap[g]? = some (.cells #[.int .i64 t, .bool lib] 37 (0, 0))
theorem Gq.on {w0 w w1 : World} {A : Option Addr} {c : Nat} {l : List Int} {S : List (Option Addr × Nat × List Int)} {g : Nat} {t : Int} {lib : Bool} (h : Gq w0 w A c l S g t lib) (hb : Below w.heap.size w w1) : Gq w0 w1 A c l S g t lib := ⟨h.o.below hb, h.lv.on hb, blk_below h.blk hb⟩
theorem Gq.put {w0 w : World} {A : Option Addr} {c : Nat} {l : List Int} {S : List (Option Addr × Nat × List Int)} {g : Nat} {t : Int} {lib : Bool} (h : Gq w0 w A c l S g t lib) {A1 : Option Addr} {c1 : Nat} {l1 : List Int} (hs : Sl w A1 c1 l1) : Gq w0 w A c l ((A1, c1, l1) :: S) g t lib := ⟨h.o, h.lv.put hs, h.blk⟩
theorem Gq.drawnN {w0 w : World} {A : Option Addr} {c : Nat} {l : List Int} {S : List (Option Addr × Nat × List Int)} {g : Nat} {t : Int} {lib : Bool} (h : Gq w0 w A c l S g t lib) (n : Nat) : Gq w0 (w.drewN n) A c l S g t lib := h.on (pw_below_drewN (Below.refl _ _) n)
theorem Gq.start {w : World} {A : Option Addr} {c : Nat} {l : List Int} {t : Int} {lib : Bool} (h : Sl w A c l) : Gq w (w.alloc (.cells #[.int .i64 t, .bool lib] 37)) A c l [] w.heap.size t lib := ⟨h.below (below_alloc (Below.refl _ _) _), (Lv.start w).alloc _, blk_new _ _⟩
theorem Gq.c0 {w0 w : World} {A : Option Addr} {c : Nat} {l : List Int} {S : List (Option Addr × Nat × List Int)} {g : Nat} {t : Int} {lib : Bool} (h : Gq w0 w A c l S g t lib) : w.cell? ⟨g, 0, none⟩ = some (.int .i64 t) := (blk_cell h.blk 0).trans rfl
theorem Gq.c1 {w0 w : World} {A : Option Addr} {c : Nat} {l : List Int} {S : List (Option Addr × Nat × List Int)} {g : Nat} {t : Int} {lib : Bool} (h : Gq w0 w A c l S g t lib) : w.cell? ⟨g, 1, none⟩ = some (.bool lib) := (blk_cell h.blk 1).trans rfl

theorem area_as (t v : Int) (b : Bool) (hv : areaV t = v) (hb : areaB t = b) (w : World) : Calls Try.prog 38 #[.int .i64 t] w fun e w' => e = .returned (.tuple #[.int .i64 v, .bool b]) ∧ Drawn0 w w' := by
  subst hv hb; exact area_call t w
theorem ref_area_as (t v : Int) (b : Bool) (hv : areaV t = v) (hb : areaB t = b) (w : World) : Calls Try.prog 42 #[.int .i64 t] w fun e w' => e = .returned (.tuple #[.int .i64 v, .bool b]) ∧ Drawn0 w w' := by
  subst hv hb; exact ref_area_call t w
theorem region_as (i k u : Int) (hk : kindV i = k) (hu : whoV i = u) (w : World) : Calls Try.prog 39 #[.int .i64 i] w fun e w' => e = .returned (.tuple #[.int .i64 k, .int .i64 u]) ∧ Below w.heap.size w w' := by
  subst hk hu; exact region_call i w
theorem ref_region_as (i k u : Int) (hk : kindV i = k) (hu : whoV i = u) (w : World) : Calls Try.prog 43 #[.int .i64 i] w fun e w' => e = .returned (.tuple #[.int .i64 k, .int .i64 u]) ∧ Drawn0 w w' := by
  subst hk hu; exact ref_region_call i w
theorem may_as (t : Int) (lib : Bool) (i n : Int) (wr b : Bool) (hb : mayV t lib i n wr = b) (hn : -9223372036854775808 ≤ n ∧ n ≤ 9223372036854775807) (w : World) :
    Calls Try.prog 36 #[.agg #[.int .i64 t, .bool lib], .int .i64 i, .int .i64 n, .bool wr] w fun e w' => e = .returned (.bool b) ∧ Below w.heap.size w w' := by
  subst hb; exact may_call t lib i n wr w hn
theorem ref_may_as (t : Int) (lib : Bool) (i n : Int) (wr b : Bool) (hb : mayV t lib i n wr = b) (hn : -9223372036854775808 ≤ n ∧ n ≤ 9223372036854775807) (w : World) :
    Calls Try.prog 46 #[.agg #[.int .i64 t, .bool lib], .int .i64 i, .int .i64 n, .bool wr] w fun e w' => e = .returned (.bool b) ∧ Below w.heap.size w w' := by
  subst hb; exact ref_may_call t lib i n wr w hn

set_option maxHeartbeats 2000000 in
set_option maxRecDepth 100000 in
theorem walk_big (A : Option Addr) (c : Nat) (l : List Int) (t : Int) (lib : Bool) (a n x : Int) (wr : Bool) (w : World) (hb0 : decide (5120 < l.length) = true) (hb2 : decide ((5120 : Int) < l.length) = true) :
    Calls Try.prog 12 #[.slice A l.length c, .agg #[.int .i64 t, .bool lib], .int .i64 a, .int .i64 n, .int .i64 x, .bool wr] w fun e w' => e = .returned (.bool true) ∧ Below w.heap.size w w' := by
  go_enter Try.func12, Try.ntmps12
  go_wp2_with (first | (go_at_call 35; (with_reducible refine (awake_call _).mono ?_); rintro e w1 ⟨rfl, hb⟩; have B1 := Aside0.mk (below_step (below_alloc (Below.refl w.heap.size w) _) hb); clear hb))
  go_ret
  exact ⟨by first | rfl | (simp; done) | (simp [*]; done), B1.out⟩

/-- What holds while the last region runs. -/
theorem gs_on {w w1 w2 : World} {u1 u2 : Addr} {v1 v2 : Value} {A5 A6 : Option Addr} {c5 c6 : Nat} {p : List Int}
    (h : w1.cell? u1 = some v1 ∧ w1.cell? u2 = some v2 ∧ (convert 22 9 (.slice A5 p.length c5)).run Try.prog w1 = .ok (.string (strOfNums p)) w1 ∧ (convert 22 9 (.slice A6 p.length c6)).run Try.prog w1 = .ok (.string (strOfNums p)) w1 ∧ Aside0 (Sl w1 A5 c5 p) ∧ Aside0 (Sl w1 A6 c6 p) ∧ Aside0 (Below w.heap.size w w1)) (hb : Below w1.heap.size w1 w2) :
    w2.cell? u1 = some v1 ∧ w2.cell? u2 = some v2 ∧ (convert 22 9 (.slice A5 p.length c5)).run Try.prog w2 = .ok (.string (strOfNums p)) w2 ∧ (convert 22 9 (.slice A6 p.length c6)).run Try.prog w2 = .ok (.string (strOfNums p)) w2 ∧ Aside0 (Sl w2 A5 c5 p) ∧ Aside0 (Sl w2 A6 c6 p) ∧ Aside0 (Below w.heap.size w w2) := by
  obtain ⟨h1, h2, _, _, h5, h6, h7⟩ := h
  have k5 := h5.out.below hb
  have k6 := h6.out.below hb
  exact ⟨pw_cell_below hb h1, pw_cell_below hb h2, k5.str, k6.str, ⟨k5⟩, ⟨k6⟩, ⟨below_step h7.out hb⟩⟩

set_option maxHeartbeats 8000000 in
set_option maxRecDepth 100000 in
theorem walk_in (A : Option Addr) (c : Nat) (l p : List Int) (t : Int) (lib : Bool) (a n x : Int) (wr : Bool) (w : World) (hs : Sl w A c l) (hy : Byt l) (hl : l.length ≤ 8192) (hn : -9223372036854775808 ≤ n ∧ n ≤ 9223372036854775807)
    (hb0 : decide (5120 < l.length) = false) (hb2 : decide ((5120 : Int) < l.length) = false)
    (av kv wv yv ye pe : Int) (ab mv : Bool) (h1 : areaV n = av) (h2 : areaB n = ab) (h3 : kindV a = kv) (h4 : whoV a = wv) (h5 : rdV t lib l a = yv) (h6 : rdE t lib l a = ye) (h7 : wrL t lib l a x = p) (h8 : wrE t lib l a = pe) (h9 : mayV t lib a n wr = mv) :
    Calls Try.prog 12 #[.slice A l.length c, .agg #[.int .i64 t, .bool lib], .int .i64 a, .int .i64 n, .int .i64 x, .bool wr] w fun e w' => e = .returned (.bool true) ∧ Below w.heap.size w w' := by
  have Q := Aside0.mk (Gq.start (t := t) (lib := lib) hs)
  have HY := Aside0.mk hy
  have HN := Aside0.mk hn
  have HLm := Aside0.mk (show l.length ≤ 140737488355328 by omega)
  have HL := Aside0.mk (show l.length < 140737488355328 by omega)
  have H1 := Aside0.mk h1
  have H2 := Aside0.mk h2
  have H3 := Aside0.mk h3
  have H4 := Aside0.mk h4
  have H5 := Aside0.mk h5
  have H6 := Aside0.mk h6
  have H7 := Aside0.mk h7
  have H8 := Aside0.mk h8
  have H9 := Aside0.mk h9
  clear hs hy hl hn h1 h2 h3 h4 h5 h6 h7 h8 h9
  go_enter Try.func12, Try.ntmps12
  go_wp2_with (first
    | (go_at_call 35; (with_reducible refine (awake_call _).mono ?_); rintro e w1 ⟨rfl, hb⟩; have Q1 := Aside0.mk (Q.out.on hb); clear Q hb; have Q := Q1; clear Q1)
    | (go_at_call 38; (with_reducible refine (area_as n av ab H1.out H2.out _).mono ?_); rintro e w2 ⟨rfl, ⟨n2, rfl⟩⟩)
    | (go_at_call 42; (with_reducible refine (ref_area_as n av ab H1.out H2.out _).mono ?_); rintro e w3 ⟨rfl, ⟨n3, rfl⟩⟩)
    | (go_at_call 39; (with_reducible refine (region_as a kv wv H3.out H4.out _).mono ?_); rintro e w4 ⟨rfl, hb⟩; have Q1 := Aside0.mk ((Q.out.drawnN _).on hb); clear Q hb; have Q := Q1; clear Q1; have q1 := Q.out.c0; have q2 := Q.out.c1)
    | (go_at_call 43; (with_reducible refine (ref_region_as a kv wv H3.out H4.out _).mono ?_); rintro e w5 ⟨rfl, ⟨n5, rfl⟩⟩)
    | (go_at_call 37; (with_reducible refine (ours_call t lib _).mono ?_); rintro e w6 ⟨rfl, hb⟩; have Q1 := Aside0.mk ((Q.out.drawnN n5).on hb); clear Q hb q1 q2; have Q := Q1; clear Q1; have q1 := Q.out.c0; have q2 := Q.out.c1)
    | (go_at_call 37; (with_reducible refine (ours_call t lib _).mono ?_); rintro e w9 ⟨rfl, hb⟩; have Q1 := Aside0.mk (Q.out.on hb); clear Q hb q1 q2; have Q := Q1; clear Q1; have q1 := Q.out.c0; have q2 := Q.out.c1)
    | (go_at_call 41; (with_reducible refine (read_as t lib A c l a yv ye H5.out H6.out _ Q.out.o HY.out).mono ?_); rintro e w7 ⟨rfl, hb⟩; have Q1 := Aside0.mk (Q.out.on hb); clear Q hb q1 q2; have Q := Q1; clear Q1; have q1 := Q.out.c0; have q2 := Q.out.c1)
    | (go_at_call 44; (with_reducible refine (gref_read_as t lib A c l a yv ye H5.out H6.out _ Q.out.o HY.out).mono ?_); rintro e w8 ⟨rfl, hb⟩; have Q1 := Aside0.mk (Q.out.on hb); clear Q hb q1 q2; have Q := Q1; clear Q1; have q1 := Q.out.c0; have q2 := Q.out.c1)
    | (go_at_call 40; (with_reducible refine (write_as t lib A c l a x p pe H7.out H8.out _ Q.out.o HLm.out).mono ?_); rintro e w10 ⟨A10, c10, rfl, hb, hs10⟩; have Q1 := Aside0.mk ((Q.out.on hb).put hs10); clear Q hb hs10 q1 q2; have Q := Q1; clear Q1; have q1 := Q.out.c0; have q2 := Q.out.c1)
    | (go_at_call 45; (with_reducible refine (gref_write_as t lib A c l a x p pe H7.out H8.out _ Q.out.o HL.out).mono ?_); rintro e w11 ⟨A11, c11, rfl, hb, hs11⟩; have Q1 := Aside0.mk ((Q.out.on hb).put hs11); clear Q hb hs11 q1 q2; have Q := Q1; clear Q1; have q1 := Q.out.c0; have q2 := Q.out.c1))
  have Z1 := Q.out.lv.a1.drawnN 1
  have Z2 := Q.out.lv.a2.drawnN 1
  have BB := Q.out.lv.below
  have ZZ : (fun w' : World => w'.cell? ⟨w.heap.size, 0, none⟩ = some (.int .i64 t) ∧ w'.cell? ⟨w.heap.size, 1, none⟩ = some (.bool lib) ∧ (convert 22 9 (.slice A11 p.length c11)).run Try.prog w' = .ok (.string (strOfNums p)) w' ∧ (convert 22 9 (.slice A10 p.length c10)).run Try.prog w' = .ok (.string (strOfNums p)) w' ∧ Aside0 (Sl w' A11 c11 p) ∧ Aside0 (Sl w' A10 c10 p) ∧ Aside0 (Below w.heap.size w w')) w11.drew := ⟨q1, q2, Z1.str, Z2.str, ⟨Z1⟩, ⟨Z2⟩, ⟨pw_below_drewN BB 1⟩⟩
  clear Q HY HLm HL H1 H2 H3 H4 H5 H6 H7 H8 BB Z1 Z2
  go_region_held3 (fun w' : World => w'.cell? ⟨w.heap.size, 0, none⟩ = some (.int .i64 t) ∧ w'.cell? ⟨w.heap.size, 1, none⟩ = some (.bool lib) ∧ (convert 22 9 (.slice A11 p.length c11)).run Try.prog w' = .ok (.string (strOfNums p)) w' ∧ (convert 22 9 (.slice A10 p.length c10)).run Try.prog w' = .ok (.string (strOfNums p)) w' ∧ Aside0 (Sl w' A11 c11 p) ∧ Aside0 (Sl w' A10 c10 p) ∧ Aside0 (Below w.heap.size w w')) (first | exact ZZ | exact gs_on (by assumption) hb | go_keep)
    (first | (go_at_call 37; refine (ours_call t lib _).mono ?_; rintro e w12 ⟨rfl, hb⟩) | (go_at_call 36; refine (may_as t lib a n wr mv H9.out HN.out _).mono ?_; rintro e w13 ⟨rfl, hb⟩) | (go_at_call 46; refine (ref_may_as t lib a n wr mv H9.out HN.out _).mono ?_; rintro e w14 ⟨rfl, hb⟩))
  all_goals
    go_wp2
    go_ret
    exact ⟨by first | rfl | (simp; done) | (simp [*]; done), by go_split_ands; first | assumption | (apply Aside0.out; assumption)⟩

theorem walk (A : Option Addr) (len c : Nat) (zs : List Int) (t : Int) (lib : Bool) (a n x : Int) (wr : Bool) (w : World)
    (hrow : (A = none ∧ len = 0 ∧ c = 0 ∧ zs = []) ∨ ∃ x, A = some x ∧ len ≤ c ∧ c ≤ maxLen ∧ zs.length = c ∧ (∀ i, i < zs.length → w.cell? (x.add i) = some (.int .u8 (zs.getD i 0))) ∧ ∀ n ∈ zs, (Lit.int .u8 n).wf = true)
    (hy0 : len * 1 ≤ 140737488351232) (_ : (Lit.int .i64 t).wf = true) (_ : (Lit.int .i64 a).wf = true) (wn : (Lit.int .i64 n).wf = true) (_ : (Lit.int .i64 x).wf = true) :
    Calls Try.prog 12 #[.slice A len c, .agg #[.int .i64 t, .bool lib], .int .i64 a, .int .i64 n, .int .i64 x, .bool wr] w fun e w' => e = .returned (.bool true) ∧ Below w.heap.size w w' := by
  obtain ⟨l, rfl, hs, hy, hl⟩ := row_opens hrow hy0
  clear hrow hy0
  by_cases hb : 5120 < l.length
  · exact walk_big A c l t lib a n x wr w (decide_eq_true hb) (decide_eq_true (by omega))
  · exact walk_in A c l _ t lib a n x wr w hs hy (by omega) (wf64 wn) (decide_eq_false hb) (decide_eq_false (by omega)) _ _ _ _ _ _ _ _ rfl rfl rfl rfl rfl rfl rfl rfl rfl
end Go.Proofs.Ytipflebjooanpaa.GuardIsWalk
