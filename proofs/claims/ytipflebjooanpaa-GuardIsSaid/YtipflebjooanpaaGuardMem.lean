/- guard.Read and guard.Write: for every slice of bytes, every task and all whole numbers. No condition beyond a slice's own bound. -/
import Derived.Test.YtipflebjooanpaaMemAs
import Derived.Test.YtipflebjooanpaaGuardTotIs
namespace Go.Proofs.Ytipflebjooanpaa.Mem
open Go.RowKit Go.Proofs.YtipflebjooanpaaW.PrintWords Go.Proofs.YtipflebjooanpaaW.PrintLast Go.Proofs.YtipflebjooanpaaW.PrintMore Go.Proofs.Ytipflebjooanpaa.GuardMath Go.Proofs.Ytipflebjooanpaa.GuardTotIs
set_option linter.unusedSimpArgs false
set_option linter.unusedVariables false

theorem eight_hn : -9223372036854775808 ≤ (8 : Int) ∧ (8 : Int) ≤ 9223372036854775807 := by decide
noncomputable def wrE (t : Int) (lib : Bool) (l : List Int) (a : Int) : Int := if mayV t lib a 8 true = true then getE l a else -9
noncomputable def wrL (t : Int) (lib : Bool) (l : List Int) (a x : Int) : List Int := if mayV t lib a 8 true = true then putL l a x else l
noncomputable def rdE (t : Int) (lib : Bool) (l : List Int) (a : Int) : Int := if mayV t lib a 8 false = true then getE l a else -9
noncomputable def rdV (t : Int) (lib : Bool) (l : List Int) (a : Int) : Int := if mayV t lib a 8 false = true then getV l a else 0

set_option maxHeartbeats 4000000 in
set_option maxRecDepth 100000 in
theorem write_call (t : Int) (lib : Bool) (A : Option Addr) (c : Nat) (l : List Int) (a x : Int) (w : World) (hs : Sl w A c l) (hl : l.length ≤ 140737488355328) :
    Calls Try.prog 40 #[.slice A l.length c, .agg #[.int .i64 t, .bool lib], .int .i64 a, .int .i64 x] w fun e w' => ∃ A' c', e = .returned (.tuple #[.slice A' (wrL t lib l a x).length c', .int .i64 (wrE t lib l a)]) ∧ Below w.heap.size w w' ∧ Sl w' A' c' (wrL t lib l a x) := by
  have L := Aside0.mk ((Lv.start w).put hs)
  have HL := Aside0.mk hl
  clear hs hl
  by_cases hm : mayV t lib a 8 true = true
  · have e1 : wrL t lib l a x = putL l a x := by unfold wrL; rw [if_pos hm]
    have e2 : wrE t lib l a = getE l a := by unfold wrE; rw [if_pos hm]
    rw [e1, e2]
    clear e1 e2
    go_enter Try.func40, Try.ntmps40
    go_wp2_with (first | (go_at_call 36; (with_reducible refine (may_call _ _ _ _ _ _ eight_hn).mono ?_); rintro e w1 ⟨rfl, hb⟩; have L1 := Aside0.mk ((L.out.alloc _).on hb); clear L hb; have L := L1; clear L1) | (go_at_call 22; (with_reducible refine (put_call A c l a x _ L.out.a1 HL.out).mono ?_); rintro e w2 ⟨A2, c2, rfl, hb, hs2⟩; have L1 := Aside0.mk ((L.out.on hb).put hs2); clear L hb hs2; have L := L1; clear L1))
    go_ret2
    exact ⟨_, _, rfl, L.out.below, L.out.a1⟩
  · have hf : mayV t lib a 8 true = false := by simpa using hm
    have e1 : wrL t lib l a x = l := by unfold wrL; rw [if_neg hm]
    have e2 : wrE t lib l a = -9 := by unfold wrE; rw [if_neg hm]
    rw [e1, e2]
    clear e1 e2 hm
    go_enter Try.func40, Try.ntmps40
    go_wp2_with (first | (go_at_call 36; (with_reducible refine (may_call _ _ _ _ _ _ eight_hn).mono ?_); rintro e w1 ⟨rfl, hb⟩; have L1 := Aside0.mk ((L.out.alloc _).on hb); clear L hb; have L := L1; clear L1))
    go_ret2
    exact ⟨_, _, rfl, L.out.below, L.out.a1⟩
set_option maxHeartbeats 4000000 in
set_option maxRecDepth 100000 in
theorem read_call (t : Int) (lib : Bool) (A : Option Addr) (c : Nat) (l : List Int) (a : Int) (w : World) (hs : Sl w A c l) (hy : Byt l) :
    Calls Try.prog 41 #[.slice A l.length c, .agg #[.int .i64 t, .bool lib], .int .i64 a] w fun e w' => e = .returned (.tuple #[.int .i64 (rdV t lib l a), .int .i64 (rdE t lib l a)]) ∧ Below w.heap.size w w' := by
  have L := Aside0.mk ((Lv.start w).put hs)
  have HY := Aside0.mk hy
  clear hs hy
  by_cases hm : mayV t lib a 8 false = true
  · have e1 : rdV t lib l a = getV l a := by unfold rdV; rw [if_pos hm]
    have e2 : rdE t lib l a = getE l a := by unfold rdE; rw [if_pos hm]
    rw [e1, e2]
    clear e1 e2
    go_enter Try.func41, Try.ntmps41
    go_wp2_with (first | (go_at_call 36; (with_reducible refine (may_call _ _ _ _ _ _ eight_hn).mono ?_); rintro e w1 ⟨rfl, hb⟩; have L1 := Aside0.mk ((L.out.alloc _).on hb); clear L hb; have L := L1; clear L1) | (go_at_call 20; (with_reducible refine (get_call A c l a _ L.out.a1 HY.out).mono ?_); rintro e w2 ⟨rfl, ⟨n2, rfl⟩⟩; have L1 := Aside0.mk (L.out.drawnN n2); clear L; have L := L1; clear L1))
    go_ret2
    exact ⟨rfl, L.out.below⟩
  · have hf : mayV t lib a 8 false = false := by simpa using hm
    have e1 : rdV t lib l a = 0 := by unfold rdV; rw [if_neg hm]
    have e2 : rdE t lib l a = -9 := by unfold rdE; rw [if_neg hm]
    rw [e1, e2]
    clear e1 e2 hm
    go_enter Try.func41, Try.ntmps41
    go_wp2_with (first | (go_at_call 36; (with_reducible refine (may_call _ _ _ _ _ _ eight_hn).mono ?_); rintro e w1 ⟨rfl, hb⟩; have L1 := Aside0.mk ((L.out.alloc _).on hb); clear L hb; have L := L1; clear L1))
    go_ret2
    exact ⟨rfl, L.out.below⟩
theorem write_as (t : Int) (lib : Bool) (A : Option Addr) (c : Nat) (l : List Int) (a x : Int) (p : List Int) (g : Int) (hp : wrL t lib l a x = p) (hg : wrE t lib l a = g) (w : World) (hs : Sl w A c l) (hl : l.length ≤ 140737488355328) :
    Calls Try.prog 40 #[.slice A l.length c, .agg #[.int .i64 t, .bool lib], .int .i64 a, .int .i64 x] w fun e w' => ∃ A' c', e = .returned (.tuple #[.slice A' p.length c', .int .i64 g]) ∧ Below w.heap.size w w' ∧ Sl w' A' c' p := by
  subst hp hg
  exact write_call t lib A c l a x w hs hl
theorem read_as (t : Int) (lib : Bool) (A : Option Addr) (c : Nat) (l : List Int) (a v g : Int) (hv : rdV t lib l a = v) (hg : rdE t lib l a = g) (w : World) (hs : Sl w A c l) (hy : Byt l) :
    Calls Try.prog 41 #[.slice A l.length c, .agg #[.int .i64 t, .bool lib], .int .i64 a] w fun e w' => e = .returned (.tuple #[.int .i64 v, .int .i64 g]) ∧ Below w.heap.size w w' := by
  subst hv hg
  exact read_call t lib A c l a w hs hy
end Go.Proofs.Ytipflebjooanpaa.Mem
