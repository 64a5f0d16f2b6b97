/- The document's example for layer 3, walked; and how a row's slice reads. No condition. -/
import Derived.Test.YtipflebjooanpaaMemFill
namespace Go.Proofs.Ytipflebjooanpaa.Mem
open Go.RowKit Go.Proofs.YtipflebjooanpaaW.PrintWords Go.Proofs.YtipflebjooanpaaW.PrintLast Go.Proofs.YtipflebjooanpaaW.PrintMore Go.Proofs.Ytipflebjooanpaa.Arith
set_option linter.unusedSimpArgs false

section
variable {w0 w : World} {A A2 A3 A4 A5 : Option Addr} {c c2 c3 c4 c5 : Nat} {l l2 l3 l4 l5 : List Int} {S : List (Option Addr × Nat × List Int)}
theorem Lv.a1 (h : Lv w0 w ((A, c, l) :: S)) : Sl w A c l := h.all _ (List.mem_cons_self)
theorem Lv.less {s : Option Addr × Nat × List Int} (h : Lv w0 w (s :: S)) : Lv w0 w S := ⟨h.below, fun _ hm => h.all _ (List.mem_cons_of_mem _ hm)⟩
theorem Lv.a2 (h : Lv w0 w ((A, c, l) :: (A2, c2, l2) :: S)) : Sl w A2 c2 l2 := h.less.a1
theorem Lv.a3 (h : Lv w0 w ((A, c, l) :: (A2, c2, l2) :: (A3, c3, l3) :: S)) : Sl w A3 c3 l3 := h.less.a2
theorem Lv.a4 (h : Lv w0 w ((A, c, l) :: (A2, c2, l2) :: (A3, c3, l3) :: (A4, c4, l4) :: S)) : Sl w A4 c4 l4 := h.less.a3
theorem Lv.a5 (h : Lv w0 w ((A, c, l) :: (A2, c2, l2) :: (A3, c3, l3) :: (A4, c4, l4) :: (A5, c5, l5) :: S)) : Sl w A5 c5 l5 := h.less.a4
end
theorem byt_num : ∀ n x, Byt (bytesN n x)
  | 0, _ => fun x hx => by simp [bytesN] at hx
  | n + 1, u => fun x hx => by
    rcases List.mem_cons.1 hx with rfl | h
    · omega
    · exact byt_num n _ x h
theorem byt_with {l b : List Int} (hl : Byt l) (hb : Byt b) (a : Nat) : Byt (withL l a b) := fun x hx => by
  unfold withL at hx
  rcases List.mem_append.1 hx with h | h
  · exact hl x (List.mem_of_mem_take h)
  · rcases List.mem_append.1 h with h | h
    · exact hb x h
    · exact hl x (List.mem_of_mem_drop h)
theorem byt_put {l : List Int} (hl : Byt l) (a x : Int) : Byt (putL l a x) := by
  unfold putL
  split
  · exact byt_with hl (byt_num _ _) _
  · exact hl
theorem byt_new (n : Int) : Byt (newL n) := fun x hx => by
  unfold newL at hx
  rw [List.eq_of_mem_replicate hx]; omega

set_option maxHeartbeats 2000000 in
set_option maxRecDepth 100000 in
theorem awake_call (w : World) : Calls Try.prog 16 #[] w fun e w' => e = .returned (.bool true) ∧ Below w.heap.size w w' := by
  have e1 : getE (newL 16) 0 = 0 := by decide +kernel
  have e2 : getE (putL (newL 16) 0 258) 0 = 0 := by decide +kernel
  have e3 : getV (putL (newL 16) 0 258) 0 = 258 := by decide +kernel
  have e4 : byteV (putL (newL 16) 0 258) 1 = 1 := by decide +kernel
  have e5 : isE (thereB (putL (newL 16) 0 258) 1 1) = 0 := by decide +kernel
  have e6 : ((putL (newL 16) 0 258).length == 16) = true := by decide +kernel
  have e7 : (((putL (newL 16) 0 258).length : Int) == 16) = true := by decide +kernel
  have H1 := Aside0.mk (show (newL 16).length ≤ 140737488355328 by decide +kernel)
  have HY := Aside0.mk (byt_put (byt_new 16) 0 258)
  go_enter Try.func16, Try.ntmps16
  go_wp2_with (first | (go_at_call 26; (with_reducible refine (new_call 16 _).mono ?_); rintro e w1 ⟨A1, c1, rfl, hb, hs⟩; have B1 := Aside0.mk hb; have S1 := Aside0.mk hs; clear hb hs) | (go_at_call 22; (with_reducible refine (put_call A1 c1 (newL 16) 0 258 _ S1.out H1.out).mono ?_); rintro e w2 ⟨A2, c2, rfl, hb, hs⟩; have B2 := Aside0.mk (below_step B1.out hb); have S2 := Aside0.mk hs; clear hb hs) | (go_at_call 20; (with_reducible refine (get_call A2 c2 (putL (newL 16) 0 258) 0 _ S2.out HY.out).mono ?_); rintro e w3 ⟨rfl, ⟨n3, rfl⟩⟩) | (go_at_call 24; (with_reducible refine (byte_call A2 c2 (putL (newL 16) 0 258) 1 _ (S2.out.drawnN n3)).mono ?_); rintro e w4 ⟨rfl, ⟨n4, rfl⟩⟩))
  go_ret
  exact ⟨by first | rfl | (simp; done) | (simp [*]; done), by repeat (first | exact B2.out | apply pw_below_drewN)⟩
end Go.Proofs.Ytipflebjooanpaa.Mem
