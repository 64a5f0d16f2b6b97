/- The functions of package mem that make bytes: Move, Swap, New: for every slice of bytes and all whole numbers. No condition beyond a slice's own bound. -/
import Derived.Test.YtipflebjooanpaaMemWord
namespace Go.Proofs.Ytipflebjooanpaa.Mem
open Go.RowKit Go.Proofs.Ytipflebjooanpaa.PMemIs Go.Proofs.YtipflebjooanpaaW.PrintWords Go.Proofs.YtipflebjooanpaaW.PrintLast Go.Proofs.YtipflebjooanpaaW.PrintMore Go.Proofs.Ytipflebjooanpaa.Arith
set_option linter.unusedSimpArgs false

theorem reads_undrawn {w : World} {n m : Nat} {A : Option Addr} {l : List Int} (h : ReadsInt (w.drewN n) .u8 A m l) : ReadsInt w .u8 A m l := h

theorem there_nat {l : List Int} {a n : Int} (h : thereB l a n = true) : a = (a.toNat : Int) ∧ n = (n.toNat : Int) ∧ a.toNat + n.toNat ≤ l.length := by
  have := there_true.1 h
  omega

set_option maxHeartbeats 4000000 in
set_option maxRecDepth 100000 in
theorem move_call (A : Option Addr) (c : Nat) (l : List Int) (f t n : Int) (w : World) (hs : Sl w A c l) (hl : l.length ≤ 140737488355328) :
    Calls Try.prog 17 #[.slice A l.length c, .int .i64 f, .int .i64 t, .int .i64 n] w fun e w' => ∃ A' c', e = .returned (.tuple #[.slice A' (moveL l f t n).length c', .int .i64 (isE (moveB l f t n))]) ∧ Below w.heap.size w w' ∧ Sl w' A' c' (moveL l f t n) := by
  have HS := Aside0.mk hs
  have HL := Aside0.mk hl
  have hm := hs.len
  clear hs hl
  by_cases hf : thereB l f n = true
  · obtain ⟨ef, en, ff⟩ := there_nat hf
    have EF := Aside0.mk ef
    have EN := Aside0.mk en
    have FF := Aside0.mk ff
    by_cases ht : thereB l t n = true
    · obtain ⟨et, en2, ft⟩ := there_nat ht
      clear en2
      have hb : moveB l f t n = true := by unfold moveB; rw [hf, ht]; rfl
      have e1 : moveL l f t n = withL l t.toNat (sub l f.toNat n.toNat) := by unfold moveL; rw [if_pos hb]
      have hlen : (withL l t.toNat (sub l f.toNat n.toNat)).length = l.length := with_length (by rw [sub_length ff]; exact ft)
      rw [e1, hlen, hb]
      have ET := Aside0.mk et
      have FT := Aside0.mk ft
      have HE := Aside0.mk hlen
      clear hf ht hb e1 hlen ef en ff et ft
      generalize f.toNat = i at *
      generalize t.toNat = j at *
      generalize n.toNat = k at *
      go_enter Try.func17, Try.ntmps17
      go_wp2_with (first | (go_at_call 47; (with_reducible refine (span_yes A c l f n i k EF.out EN.out _ HS.out FF.out).mono ?_); rintro e w1 ⟨A1, rfl, ⟨n1, rfl⟩, hr⟩; have R1 := Aside0.mk (reads_undrawn hr); clear hr) | (go_at_call 47; (with_reducible refine (span_yes A c l t n j k ET.out EN.out _ (HS.out.drawnN n1) FT.out).mono ?_); rintro e w2 ⟨A2, rfl, ⟨n2, rfl⟩, hr⟩; clear hr) | (go_at_call 48; (with_reducible refine (with_call A c l t j ET.out A1 k k (sub l i k) _ (HS.out.below (by repeat (first | exact Below.refl _ _ | apply pw_below_drewN))) (R1.out.below (by repeat (first | exact Below.refl _ _ | apply pw_below_drewN))) FT.out HL.out).mono ?_); rintro e w3 ⟨A3, c3, rfl, hb, hc, hr⟩; have B3 : Aside0 (Below w.heap.size w w3) := Aside0.mk (below_step (pw_below_drewN (Below.refl _ _) (n1 + n2)) hb); have R3 := Aside0.mk hr; have C3 := Aside0.mk hc; clear hb hr hc))
      go_ret2
      exact ⟨_, _, rfl, B3.out, ⟨by rw [HE.out]; exact R3.out, by rw [HE.out]; exact C3.out⟩⟩
    · have ht' : thereB l t n = false := by simpa using ht
      have hb : moveB l f t n = false := by unfold moveB; rw [hf, ht']; rfl
      have e1 : moveL l f t n = l := by unfold moveL; rw [if_neg (by rw [hb]; decide)]
      rw [e1, hb]
      have HT := Aside0.mk ht'
      clear hf ht ht' hb e1 ef en ff
      generalize f.toNat = i at *
      generalize n.toNat = k at *
      go_enter Try.func17, Try.ntmps17
      go_wp2_with (first | (go_at_call 47; (with_reducible refine (span_yes A c l f n i k EF.out EN.out _ HS.out FF.out).mono ?_); rintro e w1 ⟨A1, rfl, ⟨n1, rfl⟩, hr⟩; clear hr) | (go_at_call 47; (with_reducible refine (span_no A c l t n _ hm HT.out).mono ?_); rintro e w2 ⟨rfl, ⟨n2, rfl⟩⟩))
      go_ret2
      exact ⟨_, _, rfl, by repeat (first | exact Below.refl _ _ | apply pw_below_drewN), HS.out.below (by repeat (first | exact Below.refl _ _ | apply pw_below_drewN))⟩
  · have hf' : thereB l f n = false := by simpa using hf
    have hb : moveB l f t n = false := by unfold moveB; rw [hf']; rfl
    have e1 : moveL l f t n = l := by unfold moveL; rw [if_neg (by rw [hb]; decide)]
    rw [e1, hb]
    have HF := Aside0.mk hf'
    clear hf hf' hb e1
    by_cases ht : thereB l t n = true
    · obtain ⟨et, en, ft⟩ := there_nat ht
      have ET := Aside0.mk et
      have EN := Aside0.mk en
      have FT := Aside0.mk ft
      clear ht et en ft
      generalize t.toNat = j at *
      generalize n.toNat = k at *
      go_enter Try.func17, Try.ntmps17
      go_wp2_with (first | (go_at_call 47; (with_reducible refine (span_no A c l f n _ hm HF.out).mono ?_); rintro e w1 ⟨rfl, ⟨n1, rfl⟩⟩) | (go_at_call 47; (with_reducible refine (span_yes A c l t n j k ET.out EN.out _ (HS.out.drawnN n1) FT.out).mono ?_); rintro e w2 ⟨A2, rfl, ⟨n2, rfl⟩, hr⟩; clear hr))
      go_ret2
      exact ⟨_, _, rfl, by repeat (first | exact Below.refl _ _ | apply pw_below_drewN), HS.out.below (by repeat (first | exact Below.refl _ _ | apply pw_below_drewN))⟩
    · have ht' : thereB l t n = false := by simpa using ht
      have HT := Aside0.mk ht'
      clear ht ht'
      go_enter Try.func17, Try.ntmps17
      go_wp2_with (first | (go_at_call 47; (with_reducible refine (span_no A c l f n _ hm HF.out).mono ?_); rintro e w1 ⟨rfl, ⟨n1, rfl⟩⟩) | (go_at_call 47; (with_reducible refine (span_no A c l t n _ hm HT.out).mono ?_); rintro e w2 ⟨rfl, ⟨n2, rfl⟩⟩))
      go_ret2
      exact ⟨_, _, rfl, by repeat (first | exact Below.refl _ _ | apply pw_below_drewN), HS.out.below (by repeat (first | exact Below.refl _ _ | apply pw_below_drewN))⟩

/-! ### Swap -/
theorem flag_call (w : World) : Calls Try.prog 56 #[.bool true] w fun e w' => e = .returned (.int .i64 (-1)) ∧ Drawn0 w w' := by
  have h : ∀ w, Calls Try.prog 64 #[.bool true, .int .i64 (-1), .int .i64 0] w fun e w' => e = .returned (.int .i64 (-1)) ∧ Drawn0 w w' := by
    intro w
    go_enter Try.func64, Try.ntmps64
    go_wp2
    go_ret
    exact ⟨rfl, by repeat (first | exact Drawn0.refl _ | apply Drawn0.step)⟩
  go_enter Try.func56, Try.ntmps56
  go_wp2_with (go_at_call 64; (with_reducible refine (h _).mono ?_); rintro e w1 ⟨rfl, ⟨n1, rfl⟩⟩)
  go_ret
  exact ⟨rfl, by repeat (first | exact Drawn0.refl _ | apply Drawn0.step)⟩

set_option maxHeartbeats 4000000 in
set_option maxRecDepth 100000 in
theorem swap_call (A : Option Addr) (c : Nat) (l : List Int) (a o x : Int) (w : World) (hs : Sl w A c l) (hy : Byt l) (hl : l.length ≤ 140737488355328) :
    Calls Try.prog 33 #[.slice A l.length c, .int .i64 a, .int .i64 o, .int .i64 x] w fun e w' => ∃ A' c', e = .returned (.tuple #[.slice A' (swapL l a o x).length c', .int .i64 (swapV l a o), .int .i64 (getE l a)]) ∧ Below w.heap.size w w' ∧ Sl w' A' c' (swapL l a o x) := by
  have HS := Aside0.mk hs
  have HL := Aside0.mk hl
  have HY := Aside0.mk hy
  clear hs hl hy
  by_cases hb : swapB l a o = true
  · have e1 : swapL l a o x = putL l a x := by unfold swapL; rw [if_pos hb]
    have e2 : swapV l a o = -1 := by unfold swapV; rw [if_pos hb]
    have hq : (getE l a == 0) = true ∧ (getV l a == o) = true := by unfold swapB at hb; simpa using hb
    have q1 : (getV l a == o) = true := hq.2
    have q2 : (getV l a != o) = false := by simp only [bne, q1]; rfl
    have e3 : getE l a = 0 := by simpa using hq.1
    rw [e1, e2, e3]
    have E3 := Aside0.mk e3
    clear hb e1 e2 hq e3
    go_enter Try.func33, Try.ntmps33
    go_wp2_with (first | (go_at_call 20; (with_reducible refine (get_call A c l a _ HS.out HY.out).mono ?_); rintro e w1 ⟨rfl, ⟨n1, rfl⟩⟩; rw [E3.out]) | (go_at_call 22; (with_reducible refine (put_call A c l a x _ (HS.out.drawnN n1) HL.out).mono ?_); rintro e w2 ⟨A2, c2, rfl, hb, hs2⟩; have B2 := Aside0.mk (below_step (pw_below_drewN (Below.refl _ _) n1) hb); have S2 := Aside0.mk hs2; clear hb hs2) | (go_at_call 56; (with_reducible refine (flag_call _).mono ?_); rintro e w3 ⟨rfl, ⟨n3, rfl⟩⟩))
    go_ret3
    exact ⟨_, _, rfl, by first | exact B2.out | exact pw_below_drewN B2.out _, by first | exact S2.out | exact S2.out.drawnN _⟩
  · have hb' : swapB l a o = false := by simpa using hb
    have e1 : swapL l a o x = l := by unfold swapL; rw [if_neg hb]
    have e2 : swapV l a o = 0 := by unfold swapV; rw [if_neg hb]
    rw [e1, e2]
    by_cases h0 : getE l a = 0
    · have q1 : (getV l a == o) = false := by
        unfold swapB at hb'; rw [h0] at hb'; simpa using hb'
      have q2 : (getV l a != o) = true := by simp only [bne, q1]; rfl
      have p1 : (getE l a == 0) = true := by simp [h0]
      have p2 : (getE l a != 0) = false := by simp [h0]
      clear hb hb' e1 e2 h0
      go_enter Try.func33, Try.ntmps33
      go_wp2_with (first | (go_at_call 20; (with_reducible refine (get_call A c l a _ HS.out HY.out).mono ?_); rintro e w1 ⟨rfl, ⟨n1, rfl⟩⟩))
      go_ret3
      exact ⟨_, _, rfl, by repeat (first | exact Below.refl _ _ | apply pw_below_drewN), HS.out.below (by repeat (first | exact Below.refl _ _ | apply pw_below_drewN))⟩
    · have p1 : (getE l a == 0) = false := by simp [h0]
      have p2 : (getE l a != 0) = true := by simp [h0]
      clear hb hb' e1 e2 h0
      go_enter Try.func33, Try.ntmps33
      go_wp2_with (first | (go_at_call 20; (with_reducible refine (get_call A c l a _ HS.out HY.out).mono ?_); rintro e w1 ⟨rfl, ⟨n1, rfl⟩⟩))
      go_ret3
      exact ⟨_, _, rfl, by repeat (first | exact Below.refl _ _ | apply pw_below_drewN), HS.out.below (by repeat (first | exact Below.refl _ _ | apply pw_below_drewN))⟩
end Go.Proofs.Ytipflebjooanpaa.Mem
