/- The document's functions of layer 3 that make bytes: Fill1, Fill, PutByte, Move, Put, Text, Swap. No condition beyond a slice's own bound. -/
import Derived.Test.YtipflebjooanpaaMemRef
namespace Go.Proofs.Ytipflebjooanpaa.Mem
open Go.RowKit Go.Proofs.Ytipflebjooanpaa.PMemIs Go.Proofs.YtipflebjooanpaaW.PrintWords Go.Proofs.YtipflebjooanpaaW.PrintLast Go.Proofs.YtipflebjooanpaaW.PrintMore Go.Proofs.Ytipflebjooanpaa.Arith
set_option linter.unusedSimpArgs false
set_option linter.unusedVariables false

theorem with_nil (l : List Int) (a : Nat) : withL l a [] = l := by unfold withL; simp
theorem wrap_sum (i p : Nat) (h : i + p ≤ 140737488355328) : IntKind.i64.wrap ((i : Int) + (p : Int)) = ((i + p : Nat) : Int) := by rw [i64w, wrap64_in (by omega) (by omega)]; omega

theorem u64_low (x : Int) : (IntKind.u64.wrap x).tmod 256 % 256 = x % 256 := by
  rw [u64w, Int.tmod_eq_emod_of_nonneg (by omega)]; omega
theorem un_u64 (x : Int) : IntKind.u64.wrap x = ((un x : Nat) : Int) := by rw [u64w]; unfold un; omega
set_option maxHeartbeats 4000000 in
set_option maxRecDepth 100000 in
theorem fill1_yes (A : Option Addr) (c : Nat) (l : List Int) (i k : Nat) (x : Int) (w : World) (hs : Sl w A c l) (hl : l.length < 140737488355328) (hf : i + k ≤ l.length) (ht : thereB l i k = true) :
    Calls Try.prog 55 #[.slice A l.length c, .int .i64 i, .int .i64 k, .int .i64 x] w fun e w' => ∃ A' c', e = .returned (.tuple #[.slice A' l.length c', .int .i64 0]) ∧ Below w.heap.size w w' ∧ Sl w' A' c' (withL l i (List.replicate k (x % 256))) := by
  have HS := Aside0.mk hs
  have HL := Aside0.mk hl
  have HF := Aside0.mk hf
  have HT := Aside0.mk ht
  clear hs hl hf ht
  go_enter Try.func55, Try.ntmps55
  go_wp2_with (first | (go_at_call 54; (with_reducible refine (ref_there A c l i k true HT.out _ HS.out).mono ?_); rintro e w1 ⟨rfl, ⟨n1, rfl⟩⟩) | (go_at_call 53; (with_reducible refine (own_call A c l _ (HS.out.drawnN n1) HL.out).mono ?_); rintro e w2 ⟨A2, c2, rfl, hb, hc, ho⟩; have B2 : Aside0 (Below w.heap.size w w2) := Aside0.mk (below_step (pw_below_drewN (Below.refl _ _) n1) hb); have C2 := Aside0.mk hc; have O2 : Aside0 (Ow w w2 A2 l.length l) := Aside0.mk ho; clear hb hc ho))
  go_loopg [11] k (fun j v11 wr => ∃ p : Nat, p + j = k ∧ v11 = .int .i64 p ∧ Aside0 (Ow w wr A2 l.length (withL l i (List.replicate p (x % 256)))) ∧ Aside0 (Below w.heap.size w wr))
  case atStart => exact ⟨0, by omega, rfl, ⟨by rw [List.replicate_zero, with_nil]; exact O2.out⟩, B2⟩
  case round =>
    clear O2 B2
    obtain ⟨p, hp, rfl, HP, HB⟩ := hrel
    cases gk with
    | zero =>
      obtain rfl : p = k := by omega
      go_wp2
      go_ret2
      exact ⟨_, _, rfl, HB.out, HP.out.sl (with_length (by rw [List.length_replicate]; exact HF.out)) C2.out (by have := HL.out; omega)⟩
    | succ j =>
      have hf := HF.out
      have hl := HL.out
      have hlt : p < k := by omega
      have hrl : (List.replicate p (x % 256)).length = p := List.length_replicate
      obtain ⟨g, cur, rfl, hg, hh, ht⟩ := HP.out (by omega)
      have hc := Ow.cell hh ht (with_length (by rw [hrl]; omega)) (i + p) (by omega)
      have hz := blk_frozen hh (i + p)
      have PUT := Aside0.mk (fun v => Ow.put hg hh ht v (by rw [hrl]; omega))
      rw [hrl] at PUT
      have HG := Aside0.mk hg
      have hw := wrap_sum i p (by omega)
      have h0 : (0 : Int) ≤ ((i + p : Nat) : Int) := by omega
      have h1 : ((i + p : Nat) : Int) < (l.length : Int) := by omega
      clear hg hh ht HP
      go_wp2
      go_roundg j
      case measure => omega
      case rel =>
        have hv : (IntKind.u64.wrap x).tmod 256 % 256 = x % 256 := u64_low x
        refine ⟨p + 1, by omega, by simp, ⟨?_⟩, ⟨below_set HB.out HG.out⟩⟩
        rw [hv, List.replicate_succ']
        exact PUT.out _
theorem fill1_no (A : Option Addr) (c : Nat) (l : List Int) (a n x : Int) (w : World) (hs : Sl w A c l) (ht : thereB l a n = false) :
    Calls Try.prog 55 #[.slice A l.length c, .int .i64 a, .int .i64 n, .int .i64 x] w fun e w' => ∃ A' c', e = .returned (.tuple #[.slice A' l.length c', .int .i64 (-9)]) ∧ Below w.heap.size w w' ∧ Sl w' A' c' l := by
  have HS := Aside0.mk hs
  have HT := Aside0.mk ht
  clear hs ht
  go_enter Try.func55, Try.ntmps55
  go_wp2_with (first | (go_at_call 54; (with_reducible refine (ref_there A c l a n false HT.out _ HS.out).mono ?_); rintro e w1 ⟨rfl, ⟨n1, rfl⟩⟩))
  go_ret2
  exact ⟨_, _, rfl, by repeat (first | exact Below.refl _ _ | apply pw_below_drewN), HS.out.drawnN n1⟩
theorem fill1_call (A : Option Addr) (c : Nat) (l : List Int) (a n x : Int) (p : List Int) (g : Int) (hp : fillL l a n x = p) (hg : isE (thereB l a n) = g) (w : World) (hs : Sl w A c l) (hl : l.length < 140737488355328) :
    Calls Try.prog 55 #[.slice A l.length c, .int .i64 a, .int .i64 n, .int .i64 x] w fun e w' => ∃ A' c', e = .returned (.tuple #[.slice A' p.length c', .int .i64 g]) ∧ Below w.heap.size w w' ∧ Sl w' A' c' p := by
  by_cases ht : thereB l a n = true
  · obtain ⟨ea, en, hf⟩ := there_nat ht
    have hpl := fill_len l a n x
    rw [hp] at hpl
    rw [hpl]
    have h := fill1_yes A c l a.toNat n.toNat x w hs hl hf (by rw [← ea, ← en]; exact ht)
    rw [← ea, ← en] at h
    unfold fillL at hp
    rw [if_pos ht] at hp
    rw [ht] at hg
    subst hp hg
    exact h
  · have hf : thereB l a n = false := by simpa using ht
    unfold fillL at hp
    rw [if_neg ht] at hp
    rw [hf] at hg
    subst hp hg
    exact fill1_no A c l a n x w hs hf
theorem ref_fill (A : Option Addr) (c : Nat) (l : List Int) (a n x : Int) (p : List Int) (g : Int) (hp : fillL l a n x = p) (hg : isE (thereB l a n) = g) (w : World) (hs : Sl w A c l) (hl : l.length < 140737488355328) :
    Calls Try.prog 28 #[.slice A l.length c, .int .i64 a, .int .i64 n, .int .i64 x] w fun e w' => ∃ A' c', e = .returned (.tuple #[.slice A' p.length c', .int .i64 g]) ∧ Below w.heap.size w w' ∧ Sl w' A' c' p := by
  have HS := Aside0.mk hs
  have HL := Aside0.mk hl
  have HP := Aside0.mk hp
  have HG := Aside0.mk hg
  clear hs hl hp hg
  go_enter Try.func28, Try.ntmps28
  go_wp2_with (first | (go_at_call 55; (with_reducible refine (fill1_call A c l a n x p g HP.out HG.out _ HS.out HL.out).mono ?_); rintro e w1 ⟨A1, c1, rfl, hb, hs1⟩; have B1 := Aside0.mk hb; have S1 := Aside0.mk hs1; clear hb hs1))
  go_ret2
  exact ⟨_, _, rfl, B1.out, S1.out⟩
theorem ref_putbyte (A : Option Addr) (c : Nat) (l : List Int) (a x : Int) (p : List Int) (g : Int) (hp : fillL l a 1 x = p) (hg : isE (thereB l a 1) = g) (w : World) (hs : Sl w A c l) (hl : l.length < 140737488355328) :
    Calls Try.prog 31 #[.slice A l.length c, .int .i64 a, .int .i64 x] w fun e w' => ∃ A' c', e = .returned (.tuple #[.slice A' p.length c', .int .i64 g]) ∧ Below w.heap.size w w' ∧ Sl w' A' c' p := by
  have HS := Aside0.mk hs
  have HL := Aside0.mk hl
  have HP := Aside0.mk hp
  have HG := Aside0.mk hg
  clear hs hl hp hg
  go_enter Try.func31, Try.ntmps31
  go_wp2_with (first | (go_at_call 55; (with_reducible refine (fill1_call A c l a 1 x p g HP.out HG.out _ HS.out HL.out).mono ?_); rintro e w1 ⟨A1, c1, rfl, hb, hs1⟩; have B1 := Aside0.mk hb; have S1 := Aside0.mk hs1; clear hb hs1))
  go_ret2
  exact ⟨_, _, rfl, B1.out, S1.out⟩

/-! ### Put -/
theorem take_bytes (x : Int) (i : Nat) (h : i < 8) : (wordL x).take i ++ [((un x / 256 ^ i % 256 : Nat) : Int)] = (wordL x).take (i + 1) := by
  have hb := bytesN_rd 8 (un x) i h
  have hw := word_length x
  rw [List.take_succ_eq_append_getElem (by omega)]
  congr 2
  have h2 : (wordL x)[i]? = some ((un x / 256 ^ i % 256 : Nat) : Int) := hb
  rw [List.getElem?_eq_getElem (by omega)] at h2
  exact (Option.some.inj h2).symm
set_option maxHeartbeats 4000000 in
set_option maxRecDepth 100000 in
theorem put_yes (A : Option Addr) (c : Nat) (l : List Int) (i : Nat) (x : Int) (w : World) (hs : Sl w A c l) (hl : l.length < 140737488355328) (hf : i + 8 ≤ l.length) (ht : getE l i = 0) :
    Calls Try.prog 23 #[.slice A l.length c, .int .i64 i, .int .i64 x] w fun e w' => ∃ A' c', e = .returned (.tuple #[.slice A' l.length c', .int .i64 0]) ∧ Below w.heap.size w w' ∧ Sl w' A' c' (withL l i (wordL x)) := by
  have HS := Aside0.mk hs
  have HL := Aside0.mk hl
  have HF := Aside0.mk hf
  have HT := Aside0.mk ht
  clear hs hl hf ht
  go_enter Try.func23, Try.ntmps23
  go_wp2_with (first | (go_at_call 51; (with_reducible refine (ref_place A c l i 0 HT.out _ HS.out).mono ?_); rintro e w1 ⟨rfl, ⟨n1, rfl⟩⟩) | (go_at_call 53; (with_reducible refine (own_call A c l _ (HS.out.drawnN n1) HL.out).mono ?_); rintro e w2 ⟨A2, c2, rfl, hb, hc, ho⟩; have B2 : Aside0 (Below w.heap.size w w2) := Aside0.mk (below_step (pw_below_drewN (Below.refl _ _) n1) hb); have C2 := Aside0.mk hc; have O2 : Aside0 (Ow w w2 A2 l.length l) := Aside0.mk ho; clear hb hc ho))
  go_loopg [10, 11] 8 (fun j v10 v11 wr => ∃ p : Nat, p + j = 8 ∧ v10 = .int .u64 ((un x / 256 ^ p : Nat) : Int) ∧ v11 = .int .i64 p ∧ Aside0 (Ow w wr A2 l.length (withL l i ((wordL x).take p))) ∧ Aside0 (Below w.heap.size w wr))
  case atStart => exact ⟨0, by omega, by rw [Nat.pow_zero, Nat.div_one, un_u64], rfl, ⟨by rw [List.take_zero, with_nil]; exact O2.out⟩, B2⟩
  case round =>
    clear O2 B2
    obtain ⟨p, hp, rfl, rfl, HP, HB⟩ := hrel
    have hw8 := word_length x
    cases gk with
    | zero =>
      obtain rfl : p = 8 := by omega
      have e8 : (wordL x).take 8 = wordL x := List.take_of_length_le (by omega)
      rw [e8] at HP
      clear e8 hw8
      go_wp2
      go_ret2
      exact ⟨_, _, rfl, HB.out, HP.out.sl (with_length (by rw [word_length]; exact HF.out)) C2.out (by have := HL.out; omega)⟩
    | succ j =>
      have hf := HF.out
      have hl := HL.out
      have hlt : p < 8 := by omega
      have hrl : ((wordL x).take p).length = p := by rw [List.length_take]; omega
      obtain ⟨g, cur, rfl, hg, hh, ht⟩ := HP.out (by omega)
      have hc := Ow.cell hh ht (with_length (by rw [hrl]; omega)) (i + p) (by omega)
      have hz := blk_frozen hh (i + p)
      have PUT := Aside0.mk (fun v => Ow.put hg hh ht v (by rw [hrl]; omega))
      rw [hrl] at PUT
      have HG := Aside0.mk hg
      have hw := wrap_sum i p (by omega)
      have h0 : (0 : Int) ≤ ((i + p : Nat) : Int) := by omega
      have h1 : ((i + p : Nat) : Int) < (l.length : Int) := by omega
      obtain ⟨U, hU⟩ : ∃ U : Nat, U = un x / 256 ^ p := ⟨_, rfl⟩
      have HU := Aside0.mk hU
      rw [← hU]
      clear hg hh ht HP hU hw8 hrl
      go_wp2
      go_roundg j
      case measure => omega
      case rel =>
        have hlt2 : un x < 18446744073709551616 := by unfold un; omega
        have hU := HU.out
        have hle : U ≤ un x := by rw [hU]; exact Nat.div_le_self _ _
        have e1 : un x / 256 ^ (p + 1) = U / 256 := by rw [hU, Nat.div_div_eq_div_mul, Nat.pow_succ]
        have e2 : ((U : Nat) : Int) % 256 = ((un x / 256 ^ p % 256 : Nat) : Int) := by rw [← hU]; omega
        refine ⟨p + 1, by omega, ?_, by simp, ⟨?_⟩, ⟨below_set HB.out HG.out⟩⟩
        · rw [e1, u64w]
          congr 1
          omega
        · rw [e2, ← take_bytes x p hlt]
          exact PUT.out _
theorem put_no (A : Option Addr) (c : Nat) (l : List Int) (a x g : Int) (w : World) (hs : Sl w A c l) (ht : getE l a = g) (hg : (g == 0) = false) :
    Calls Try.prog 23 #[.slice A l.length c, .int .i64 a, .int .i64 x] w fun e w' => ∃ A' c', e = .returned (.tuple #[.slice A' l.length c', .int .i64 g]) ∧ Below w.heap.size w w' ∧ Sl w' A' c' l := by
  have HS := Aside0.mk hs
  have HT := Aside0.mk ht
  have hg' : (g != 0) = true := by simp only [bne, hg]; rfl
  clear hs ht
  go_enter Try.func23, Try.ntmps23
  go_wp2_with (first | (go_at_call 51; (with_reducible refine (ref_place A c l a g HT.out _ HS.out).mono ?_); rintro e w1 ⟨rfl, ⟨n1, rfl⟩⟩))
  go_ret2
  exact ⟨_, _, rfl, by repeat (first | exact Below.refl _ _ | apply pw_below_drewN), HS.out.drawnN n1⟩
theorem ref_put (A : Option Addr) (c : Nat) (l : List Int) (a x : Int) (p : List Int) (g : Int) (hp : putL l a x = p) (hg : getE l a = g) (w : World) (hs : Sl w A c l) (hl : l.length < 140737488355328) :
    Calls Try.prog 23 #[.slice A l.length c, .int .i64 a, .int .i64 x] w fun e w' => ∃ A' c', e = .returned (.tuple #[.slice A' p.length c', .int .i64 g]) ∧ Below w.heap.size w w' ∧ Sl w' A' c' p := by
  by_cases h0 : getE l a = 0
  · have ht := there_true.1 (getE_zero.1 h0).1
    have ea : a = (a.toNat : Int) := by omega
    have hpl := put_len l a x
    rw [hp] at hpl
    rw [hpl]
    have h := put_yes A c l a.toNat x w hs hl (by omega) (by rw [← ea]; exact h0)
    rw [← ea] at h
    unfold putL at hp
    rw [if_pos h0] at hp
    rw [h0] at hg
    subst hp hg
    exact h
  · unfold putL at hp
    rw [if_neg h0] at hp
    subst hp
    exact put_no A c l a x g w hs hg (by rw [hg] at h0; simpa using h0)

/-! ### Swap -/
set_option maxHeartbeats 4000000 in
set_option maxRecDepth 100000 in
theorem swap_no (A : Option Addr) (c : Nat) (l : List Int) (a o x v g : Int) (w : World) (hs : Sl w A c l) (hy : Byt l) (hv : getV l a = v) (hg : getE l a = g) (b1 b2 : Bool) (h1 : (g == 0) = b1) (h2 : (v == o) = b2) (hb : (b1 && b2) = false) :
    Calls Try.prog 34 #[.slice A l.length c, .int .i64 a, .int .i64 o, .int .i64 x] w fun e w' => ∃ A' c', e = .returned (.tuple #[.slice A' l.length c', .int .i64 0, .int .i64 g]) ∧ Below w.heap.size w w' ∧ Sl w' A' c' l := by
  have HS := Aside0.mk hs
  have HY := Aside0.mk hy
  have HV := Aside0.mk hv
  have HG := Aside0.mk hg
  have h1' : (g != 0) = !b1 := by simp only [bne, h1]
  have h2' : (v != o) = !b2 := by simp only [bne, h2]
  clear hs hy hv hg
  cases b1 <;> cases b2 <;> simp only [Bool.and_true, Bool.and_false, Bool.true_eq_false, Bool.not_true, Bool.not_false] at hb h1' h2'
  all_goals
    go_enter Try.func34, Try.ntmps34
    go_wp2_with (first | (go_at_call 21; (with_reducible refine (ref_get A c l a v g HV.out HG.out _ HS.out HY.out).mono ?_); rintro e w1 ⟨rfl, ⟨n1, rfl⟩⟩))
    go_ret3
    exact ⟨_, _, rfl, by repeat (first | exact Below.refl _ _ | apply pw_below_drewN), by first | exact HS.out.drawnN n1 | exact (HS.out.drawnN n1).drawnN _ | (rw [← World.drewN_drewN]; exact (HS.out.drawnN n1).drawnN _)⟩
set_option maxHeartbeats 4000000 in
set_option maxRecDepth 100000 in
theorem swap_yes (A : Option Addr) (c : Nat) (l p : List Int) (a o x : Int) (w : World) (hs : Sl w A c l) (hy : Byt l) (hl : l.length < 140737488355328) (hv : getV l a = o) (hg : getE l a = 0) (hp : putL l a x = p) :
    Calls Try.prog 34 #[.slice A l.length c, .int .i64 a, .int .i64 o, .int .i64 x] w fun e w' => ∃ A' c', e = .returned (.tuple #[.slice A' p.length c', .int .i64 (-1), .int .i64 0]) ∧ Below w.heap.size w w' ∧ Sl w' A' c' p := by
  have HS := Aside0.mk hs
  have HY := Aside0.mk hy
  have HL := Aside0.mk hl
  have HV := Aside0.mk hv
  have HG := Aside0.mk hg
  have HP := Aside0.mk hp
  clear hs hy hl hv hg hp
  go_enter Try.func34, Try.ntmps34
  go_wp2_with (first | (go_at_call 21; (with_reducible refine (ref_get A c l a o 0 HV.out HG.out _ HS.out HY.out).mono ?_); rintro e w1 ⟨rfl, ⟨n1, rfl⟩⟩) | (go_at_call 23; (with_reducible refine (ref_put A c l a x p 0 HP.out HG.out _ (HS.out.below (by repeat (first | exact Below.refl _ _ | apply pw_below_drewN))) HL.out).mono ?_); rintro e w2 ⟨A2, c2, rfl, hb, hs2⟩; have B2 : Aside0 (Below w.heap.size w w2) := Aside0.mk (below_step (by repeat (first | exact Below.refl _ _ | apply pw_below_drewN)) hb); have S2 := Aside0.mk hs2; clear hb hs2))
  go_ret3
  exact ⟨_, _, rfl, B2.out, S2.out⟩
theorem ref_swap (A : Option Addr) (c : Nat) (l : List Int) (a o x : Int) (p : List Int) (r g : Int) (hp : swapL l a o x = p) (hr : swapV l a o = r) (hg : getE l a = g) (w : World) (hs : Sl w A c l) (hy : Byt l) (hl : l.length < 140737488355328) :
    Calls Try.prog 34 #[.slice A l.length c, .int .i64 a, .int .i64 o, .int .i64 x] w fun e w' => ∃ A' c', e = .returned (.tuple #[.slice A' p.length c', .int .i64 r, .int .i64 g]) ∧ Below w.heap.size w w' ∧ Sl w' A' c' p := by
  by_cases hb : swapB l a o = true
  · unfold swapL at hp
    unfold swapV at hr
    rw [if_pos hb] at hp hr
    unfold swapB at hb
    simp only [Bool.and_eq_true, beq_iff_eq] at hb
    rw [hb.1] at hg
    subst hr hg
    exact swap_yes A c l p a o x w hs hy hl hb.2 hb.1 hp
  · unfold swapL at hp
    unfold swapV at hr
    rw [if_neg hb] at hp hr
    unfold swapB at hb
    subst hp hr
    exact swap_no A c l a o x _ g w hs hy rfl hg _ _ rfl rfl (by rw [← hg]; simpa using hb)

/-! ### Text -/
theorem cut_lh (A : Option Addr) (c i k : Nat) (l : List Int) (w : World) (hs : Sl w A c l) (hf : i + k ≤ l.length) :
    ∃ A' : Option Addr, (∀ W : World, (Instr.slice 22 (.slice A l.length c) (some (.int .i64 (i : Int))) (some (.int .i64 ((i : Int) + (k : Int)))) none).run Try.prog W = .ok (.slice A' k (c - i)) W) ∧ ReadsInt w .u8 A' k (sub l i k) := by
  have hc := hs.cap
  refine ⟨if c = i then A else A.map (·.add (i * 1)), fun W => ?_, ⟨sub_length hf, by have := hs.len; omega, fun h => ?_⟩⟩
  · have hel : Try.prog.elem 22 = 5 := by simp [Program.elem, Try.underlying22]
    have hu : Try.prog.underlying 22 = some (.slice (Try.prog.elem 22)) := by rw [hel]; exact Try.underlying22
    have hz : (sizeOf 5).run Try.prog W = .ok 1 W := by kernel_rfl
    rw [run_slice_lh W 22 A l.length c hu .i64 .i64 (i : Int) ((i : Int) + (k : Int)) (by omega) (by omega) (by omega), hel, hz]
    have t1 : ((i : Int) + (k : Int)).toNat = i + k := by omega
    simp only [Result.andThen, sliced, Int.toNat_natCast, t1, Nat.add_sub_cancel_left]
  · have hcut := (hs.cut i k hf).reads
    rw [sub_length hf, if_neg (by omega)] at hcut
    rw [if_neg (by omega)]
    exact hcut.2.2 h
set_option maxHeartbeats 4000000 in
set_option maxRecDepth 100000 in
theorem ref_text (A : Option Addr) (c : Nat) (l : List Int) (a n : Int) (s : List Int) (g : Int) (hv : textL l a n = s) (hg : isE (thereB l a n) = g) (w : World) (hs : Sl w A c l) (hl : l.length < 140737488355328) :
    Calls Try.prog 32 #[.slice A l.length c, .int .i64 a, .int .i64 n] w fun e w' => e = .returned (.tuple #[.string (strOfNums s), .int .i64 g]) ∧ Drawn0 w w' := by
  by_cases ht : thereB l a n = true
  · obtain ⟨ea, en, hf⟩ := there_nat ht
    unfold textL at hv
    rw [if_pos ht] at hv
    rw [ht] at hg
    subst hv hg
    rw [ea, en] at ht ⊢
    rw [Int.toNat_natCast, Int.toNat_natCast]
    generalize a.toNat = i at *
    generalize n.toNat = k at *
    clear ea en
    have HS := Aside0.mk hs
    have HT := Aside0.mk ht
    obtain ⟨A', cut, hr⟩ := cut_lh A c i k l w hs hf
    have HR := Aside0.mk hr
    have cv := fun m c' => reads_str (c := c') (ReadsInt.drawnN hr m)
    have hw : IntKind.i64.wrap ((i : Int) + (k : Int)) = (i : Int) + (k : Int) := by rw [i64w, wrap64_in (by omega) (by omega)]
    clear hs ht hf hl hr
    go_enter Try.func32, Try.ntmps32
    go_wp2_with (first | (go_at_call 54; (with_reducible refine (ref_there A c l i k true HT.out _ HS.out).mono ?_); rintro e w1 ⟨rfl, ⟨n1, rfl⟩⟩))
    go_ret2
    exact ⟨by first | rfl | (simp [isE]; done), by repeat (first | exact Drawn0.refl _ | apply Drawn0.step)⟩
  · have hf : thereB l a n = false := by simpa using ht
    unfold textL at hv
    rw [if_neg ht] at hv
    rw [hf] at hg
    subst hv hg
    have HS := Aside0.mk hs
    have HT := Aside0.mk hf
    clear hs ht hf hl
    go_enter Try.func32, Try.ntmps32
    go_wp2_with (first | (go_at_call 54; (with_reducible refine (ref_there A c l a n false HT.out _ HS.out).mono ?_); rintro e w1 ⟨rfl, ⟨n1, rfl⟩⟩))
    go_ret2
    exact ⟨by first | rfl | (simp [isE, strOfNums]; done), by repeat (first | exact Drawn0.refl _ | apply Drawn0.step)⟩

/-! ### Move -/
theorem take_sub (l : List Int) (f n i : Nat) (h : i < n) (hf : f + n ≤ l.length) : (sub l f n).take i ++ [rd l ((f + i : Nat) : Int)] = (sub l f n).take (i + 1) := by
  have hl : (sub l f n).length = n := sub_length hf
  rw [take_snoc _ i (by omega), rd_sub l f n i h]
set_option maxHeartbeats 4000000 in
set_option maxRecDepth 100000 in
theorem move_yes (A : Option Addr) (c : Nat) (l : List Int) (f t k : Nat) (w : World) (hs : Sl w A c l) (hl : l.length < 140737488355328) (hf : f + k ≤ l.length) (ht : t + k ≤ l.length) (tf : thereB l f k = true) (tt : thereB l t k = true) :
    Calls Try.prog 29 #[.slice A l.length c, .int .i64 f, .int .i64 t, .int .i64 k] w fun e w' => ∃ A' c', e = .returned (.tuple #[.slice A' l.length c', .int .i64 0]) ∧ Below w.heap.size w w' ∧ Sl w' A' c' (withL l t (sub l f k)) := by
  have HS := Aside0.mk hs
  have HL := Aside0.mk hl
  have HF := Aside0.mk hf
  have HT := Aside0.mk ht
  have TF := Aside0.mk tf
  have TT := Aside0.mk tt
  clear hs hl hf ht tf tt
  go_enter Try.func29, Try.ntmps29
  go_wp2_with (first | (go_at_call 54; (with_reducible refine (ref_there A c l f k true TF.out _ HS.out).mono ?_); rintro e w1 ⟨rfl, ⟨n1, rfl⟩⟩) | (go_at_call 54; (with_reducible refine (ref_there A c l t k true TT.out _ (HS.out.drawnN n1)).mono ?_); rintro e w3 ⟨rfl, ⟨n3, rfl⟩⟩) | (go_at_call 53; (with_reducible refine (own_call A c l _ (HS.out.below (by repeat (first | exact Below.refl _ _ | apply pw_below_drewN))) HL.out).mono ?_); rintro e w2 ⟨A2, c2, rfl, hb, hc, ho⟩; have B2 : Aside0 (Below w.heap.size w w2) := Aside0.mk (below_step (by repeat (first | exact Below.refl _ _ | apply pw_below_drewN)) hb); have C2 := Aside0.mk hc; have O2 : Aside0 (Ow w w2 A2 l.length l) := Aside0.mk ho; clear hb hc ho))
  go_loopg [11] k (fun j v11 wr => ∃ p : Nat, p + j = k ∧ v11 = .int .i64 p ∧ Aside0 (Ow w wr A2 l.length (withL l t ((sub l f k).take p))) ∧ Aside0 (Below w.heap.size w wr))
  case atStart => exact ⟨0, by omega, rfl, ⟨by rw [List.take_zero, with_nil]; exact O2.out⟩, B2⟩
  case round =>
    clear O2 B2
    obtain ⟨p, hp, rfl, HP, HB⟩ := hrel
    have hsl : (sub l f k).length = k := sub_length HF.out
    cases gk with
    | zero =>
      obtain rfl : p = k := by omega
      have e8 : (sub l f p).take p = sub l f p := List.take_of_length_le (by omega)
      rw [e8] at HP
      have HK := Aside0.mk hsl
      clear e8 hsl
      go_wp2
      go_ret2
      exact ⟨_, _, rfl, HB.out, HP.out.sl (with_length (by rw [HK.out]; exact HT.out)) C2.out (by have := HL.out; omega)⟩
    | succ j =>
      have hf := HF.out
      have ht := HT.out
      have hl := HL.out
      have hlt : p < k := by omega
      have hrl : ((sub l f k).take p).length = p := by rw [List.length_take]; omega
      obtain ⟨g, cur, rfl, hg, hh, htk⟩ := HP.out (by omega)
      have hc := Ow.cell hh htk (with_length (by rw [hrl]; omega)) (t + p) (by omega)
      have hz := blk_frozen hh (t + p)
      have PUT := Aside0.mk (fun v => Ow.put hg hh htk v (by rw [hrl]; omega))
      rw [hrl] at PUT
      have HG := Aside0.mk hg
      have hw := wrap_sum t p (by omega)
      have hw2 := wrap_sum f p (by omega)
      have h0 : (0 : Int) ≤ ((t + p : Nat) : Int) := by omega
      have h1 : ((t + p : Nat) : Int) < (l.length : Int) := by omega
      have h2 : (0 : Int) ≤ ((f + p : Nat) : Int) := by omega
      have h3 : ((f + p : Nat) : Int) < (l.length : Int) := by omega
      obtain ⟨ad, rfl, hx⟩ := (HS.out.below HB.out).at_ ((f + p : Nat) : Int) h2 h3
      have hx2 : wr.cell? (ad.add (f + p)) = some (.int .u8 (rd l ((f + p : Nat) : Int))) := hx
      clear hg hh htk HP hsl hrl hx
      go_wp2
      go_roundg j
      case measure => omega
      case rel =>
        refine ⟨p + 1, by omega, by simp, ⟨?_⟩, ⟨below_set HB.out HG.out⟩⟩
        rw [← take_sub l f k p hlt hf]
        exact PUT.out _
set_option maxHeartbeats 4000000 in
set_option maxRecDepth 100000 in
theorem move_no (A : Option Addr) (c : Nat) (l : List Int) (f t n : Int) (w : World) (hs : Sl w A c l) (b1 b2 : Bool) (tf : thereB l f n = b1) (tt : thereB l t n = b2) (hb : (b1 && b2) = false) :
    Calls Try.prog 29 #[.slice A l.length c, .int .i64 f, .int .i64 t, .int .i64 n] w fun e w' => ∃ A' c', e = .returned (.tuple #[.slice A' l.length c', .int .i64 (-9)]) ∧ Below w.heap.size w w' ∧ Sl w' A' c' l := by
  have HS := Aside0.mk hs
  have TF := Aside0.mk tf
  have TT := Aside0.mk tt
  clear hs tf tt
  cases b1 <;> cases b2 <;> simp only [Bool.and_true, Bool.and_false, Bool.true_eq_false] at hb
  all_goals
    go_enter Try.func29, Try.ntmps29
    go_wp2_with (first | (go_at_call 54; (with_reducible refine (ref_there A c l f n _ TF.out _ HS.out).mono ?_); rintro e w1 ⟨rfl, ⟨n1, rfl⟩⟩) | (go_at_call 54; (with_reducible refine (ref_there A c l t n _ TT.out _ (HS.out.drawnN n1)).mono ?_); rintro e w3 ⟨rfl, ⟨n3, rfl⟩⟩))
    go_ret2
    exact ⟨_, _, rfl, by repeat (first | exact Below.refl _ _ | apply pw_below_drewN), HS.out.below (by repeat (first | exact Below.refl _ _ | apply pw_below_drewN))⟩
theorem ref_move (A : Option Addr) (c : Nat) (l : List Int) (f t n : Int) (p : List Int) (g : Int) (hp : moveL l f t n = p) (hg : isE (moveB l f t n) = g) (w : World) (hs : Sl w A c l) (hl : l.length < 140737488355328) :
    Calls Try.prog 29 #[.slice A l.length c, .int .i64 f, .int .i64 t, .int .i64 n] w fun e w' => ∃ A' c', e = .returned (.tuple #[.slice A' p.length c', .int .i64 g]) ∧ Below w.heap.size w w' ∧ Sl w' A' c' p := by
  by_cases hm : moveB l f t n = true
  · obtain ⟨tf, tt⟩ := move_true.1 hm
    obtain ⟨ef, en, hf⟩ := there_nat tf
    obtain ⟨et, _, ht⟩ := there_nat tt
    have hpl := move_len l f t n
    rw [hp] at hpl
    rw [hpl]
    have h := move_yes A c l f.toNat t.toNat n.toNat w hs hl hf ht (by rw [← ef, ← en]; exact tf) (by rw [← et, ← en]; exact tt)
    rw [← ef, ← en, ← et] at h
    unfold moveL at hp
    rw [if_pos hm] at hp
    rw [hm] at hg
    subst hp hg
    exact h
  · have hmf : moveB l f t n = false := by simpa using hm
    unfold moveL at hp
    rw [if_neg hm] at hp
    rw [hmf] at hg
    subst hp hg
    exact move_no A c l f t n w hs _ _ rfl rfl (by unfold moveB at hmf; exact hmf)
end Go.Proofs.Ytipflebjooanpaa.Mem
