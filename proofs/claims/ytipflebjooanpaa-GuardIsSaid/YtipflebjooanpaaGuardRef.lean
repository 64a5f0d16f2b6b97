/- The document's Read and Write of layer 12: for every slice of bytes, every task and all whole numbers. No condition beyond a slice's own bound. -/
import Derived.Test.YtipflebjooanpaaMemRef2
import Derived.Test.YtipflebjooanpaaGuardMem
namespace Go.Proofs.Ytipflebjooanpaa.Mem
open Go.RowKit Go.Proofs.YtipflebjooanpaaW.PrintWords Go.Proofs.YtipflebjooanpaaW.PrintLast Go.Proofs.YtipflebjooanpaaW.PrintMore Go.Proofs.Ytipflebjooanpaa.GuardMath Go.Proofs.Ytipflebjooanpaa.GuardTotIs
set_option linter.unusedSimpArgs false
set_option linter.unusedVariables false

set_option maxHeartbeats 4000000 in
set_option maxRecDepth 100000 in
theorem gref_write (t : Int) (lib : Bool) (A : Option Addr) (c : Nat) (l : List Int) (a x : Int) (w : World) (hs : Sl w A c l) (hl : l.length < 140737488355328) :
    Calls Try.prog 45 #[.slice A l.length c, .agg #[.int .i64 t, .bool lib], .int .i64 a, .int .i64 x] w fun e w' => ∃ A' c', e = .returned (.tuple #[.slice A' (wrL t lib l a x).length c', .int .i64 (wrE t lib l a)]) ∧ Below w.heap.size w w' ∧ Sl w' A' c' (wrL t lib l a x) := by
  have L := Aside0.mk ((Lv.start w).put hs)
  have HL := Aside0.mk hl
  clear hs hl
  by_cases hm : mayV t lib a 8 true = true
  · have e1 : wrL t lib l a x = putL l a x := by unfold wrL; rw [if_pos hm]
    have e2 : wrE t lib l a = getE l a := by unfold wrE; rw [if_pos hm]
    rw [e1, e2]
    clear e1 e2
    go_enter Try.func45, Try.ntmps45
    go_wp2_with (first | (go_at_call 46; (with_reducible refine (ref_may_call _ _ _ _ _ _ eight_hn).mono ?_); rintro e w1 ⟨rfl, hb⟩; have L1 := Aside0.mk ((L.out.alloc _).on hb); clear L hb; have L := L1; clear L1) | (go_at_call 23; (with_reducible refine (ref_put A c l a x _ _ rfl rfl _ L.out.a1 HL.out).mono ?_); rintro e w2 ⟨A2, c2, rfl, hb, hs2⟩; have L1 := Aside0.mk ((L.out.on hb).put hs2); clear L hb hs2; have L := L1; clear L1))
    go_ret2
    exact ⟨_, _, rfl, L.out.below, L.out.a1⟩
  · have hf : mayV t lib a 8 true = false := by simpa using hm
    have e1 : wrL t lib l a x = l := by unfold wrL; rw [if_neg hm]
    have e2 : wrE t lib l a = -9 := by unfold wrE; rw [if_neg hm]
    rw [e1, e2]
    clear e1 e2 hm
    go_enter Try.func45, Try.ntmps45
    go_wp2_with (first | (go_at_call 46; (with_reducible refine (ref_may_call _ _ _ _ _ _ eight_hn).mono ?_); rintro e w1 ⟨rfl, hb⟩; have L1 := Aside0.mk ((L.out.alloc _).on hb); clear L hb; have L := L1; clear L1))
    go_ret2
    exact ⟨_, _, rfl, L.out.below, L.out.a1⟩
set_option maxHeartbeats 4000000 in
set_option maxRecDepth 100000 in
theorem gref_read (t : Int) (lib : Bool) (A : Option Addr) (c : Nat) (l : List Int) (a : Int) (w : World) (hs : Sl w A c l) (hy : Byt l) :
    Calls Try.prog 44 #[.slice A l.length c, .agg #[.int .i64 t, .bool lib], .int .i64 a] w fun e w' => e = .returned (.tuple #[.int .i64 (rdV t lib l a), .int .i64 (rdE t lib l a)]) ∧ Below w.heap.size w w' := by
  have L := Aside0.mk ((Lv.start w).put hs)
  have HY := Aside0.mk hy
  clear hs hy
  by_cases hm : mayV t lib a 8 false = true
  · have e1 : rdV t lib l a = getV l a := by unfold rdV; rw [if_pos hm]
    have e2 : rdE t lib l a = getE l a := by unfold rdE; rw [if_pos hm]
    rw [e1, e2]
    clear e1 e2
    go_enter Try.func44, Try.ntmps44
    go_wp2_with (first | (go_at_call 46; (with_reducible refine (ref_may_call _ _ _ _ _ _ eight_hn).mono ?_); rintro e w1 ⟨rfl, hb⟩; have L1 := Aside0.mk ((L.out.alloc _).on hb); clear L hb; have L := L1; clear L1) | (go_at_call 21; (with_reducible refine (ref_get A c l a _ _ rfl rfl _ L.out.a1 HY.out).mono ?_); rintro e w2 ⟨rfl, ⟨n2, rfl⟩⟩; have L1 := Aside0.mk (L.out.drawnN n2); clear L; have L := L1; clear L1))
    go_ret2
    exact ⟨rfl, L.out.below⟩
  · have hf : mayV t lib a 8 false = false := by simpa using hm
    have e1 : rdV t lib l a = 0 := by unfold rdV; rw [if_neg hm]
    have e2 : rdE t lib l a = -9 := by unfold rdE; rw [if_neg hm]
    rw [e1, e2]
    clear e1 e2 hm
    go_enter Try.func44, Try.ntmps44
    go_wp2_with (first | (go_at_call 46; (with_reducible refine (ref_may_call _ _ _ _ _ _ eight_hn).mono ?_); rintro e w1 ⟨rfl, hb⟩; have L1 := Aside0.mk ((L.out.alloc _).on hb); clear L hb; have L := L1; clear L1))
    go_ret2
    exact ⟨rfl, L.out.below⟩
theorem gref_write_as (t : Int) (lib : Bool) (A : Option Addr) (c : Nat) (l : List Int) (a x : Int) (p : List Int) (g : Int) (hp : wrL t lib l a x = p) (hg : wrE t lib l a = g) (w : World) (hs : Sl w A c l) (hl : l.length < 140737488355328) :
    Calls Try.prog 45 #[.slice A l.length c, .agg #[.int .i64 t, .bool lib], .int .i64 a, .int .i64 x] w fun e w' => ∃ A' c', e = .returned (.tuple #[.slice A' p.length c', .int .i64 g]) ∧ Below w.heap.size w w' ∧ Sl w' A' c' p := by
  subst hp hg
  exact gref_write t lib A c l a x w hs hl
theorem gref_read_as (t : Int) (lib : Bool) (A : Option Addr) (c : Nat) (l : List Int) (a v g : Int) (hv : rdV t lib l a = v) (hg : rdE t lib l a = g) (w : World) (hs : Sl w A c l) (hy : Byt l) :
    Calls Try.prog 44 #[.slice A l.length c, .agg #[.int .i64 t, .bool lib], .int .i64 a] w fun e w' => e = .returned (.tuple #[.int .i64 v, .int .i64 g]) ∧ Below w.heap.size w w' := by
  subst hv hg
  exact gref_read t lib A c l a w hs hy
end Go.Proofs.Ytipflebjooanpaa.Mem
