/- The functions of package mem that read: slot, Get, Byte, Text: for every slice of bytes and all whole numbers. No condition. -/
import Derived.Test.YtipflebjooanpaaMemBase
namespace Go.Proofs.Ytipflebjooanpaa.Mem
open Go.RowKit Go.Proofs.Ytipflebjooanpaa.PMemIs Go.Proofs.YtipflebjooanpaaW.PrintWords Go.Proofs.YtipflebjooanpaaW.PrintLast Go.Proofs.YtipflebjooanpaaW.PrintMore Go.Proofs.Ytipflebjooanpaa.Arith
set_option linter.unusedSimpArgs false

theorem Sl.str {w : World} {A : Option Addr} {c : Nat} {l : List Int} (h : Sl w A c l) : (convert 22 9 (.slice A l.length c)).run Try.prog w = .ok (.string (strOfNums l)) w :=
  Kd.C_string (P := Try.prog) (A := A) (c := c) Try.underlying22 Try.underlying5 Try.underlying9 h.C
theorem reads_str {w : World} {A : Option Addr} {n c : Nat} {l : List Int} (h : ReadsInt w .u8 A n l) : (convert 22 9 (.slice A n c)).run Try.prog w = .ok (.string (strOfNums l)) w := by
  have hl := h.1
  subst hl
  exact Kd.C_string (P := Try.prog) (A := A) (c := c) Try.underlying22 Try.underlying5 Try.underlying9 (Kd.C_of_reads (d := (0 : Int)) (h1 := fun _ => rfl) h)
theorem ReadsInt.drawnN {w : World} {A : Option Addr} {n : Nat} {l : List Int} (h : ReadsInt w .u8 A n l) (m : Nat) : ReadsInt (w.drewN m) .u8 A n l := h.below (pw_below_drewN (Below.refl _ _) m)

set_option maxHeartbeats 2000000 in
set_option maxRecDepth 100000 in
theorem text_call (A : Option Addr) (c : Nat) (l : List Int) (a n : Int) (w : World) (hs : Sl w A c l) :
    Calls Try.prog 19 #[.slice A l.length c, .int .i64 a, .int .i64 n] w fun e w' => e = .returned (.tuple #[.string (strOfNums (textL l a n)), .int .i64 (isE (thereB l a n))]) ∧ Drawn0 w w' := by
  have HS := Aside0.mk hs
  have hm := hs.len
  clear hs
  by_cases hn : thereB l a n = true
  · have e1 : textL l a n = sub l a.toNat n.toNat := by unfold textL; rw [if_pos hn]
    obtain ⟨h0, h1, h2, h3⟩ := there_true.1 hn
    rw [e1, hn]
    have hle : a.toNat + n.toNat ≤ l.length := by omega
    have ea : a = (a.toNat : Int) := by omega
    have en : n = (n.toNat : Int) := by omega
    have HN := Aside0.mk hle
    have HA := Aside0.mk ea
    have HE := Aside0.mk en
    clear hn e1 h0 h1 h2 h3 hle ea en
    generalize a.toNat = i at *
    generalize n.toNat = k at *
    go_enter Try.func19, Try.ntmps19
    go_wp2_with (go_at_call 47; (with_reducible refine (span_yes A c l a n i k HA.out HE.out _ HS.out HN.out).mono ?_); rintro e w' ⟨A', rfl, ⟨nd, rfl⟩, hs⟩; have cv := fun c' => reads_str (c := c') hs; have SS := Aside0.mk hs; clear hs)
    go_ret2
    exact ⟨by first | rfl | (simp [isE]; done), by repeat (first | exact Drawn0.refl _ | apply Drawn0.step)⟩
  · have e1 : textL l a n = [] := by unfold textL; rw [if_neg hn]
    have hf : thereB l a n = false := by simpa using hn
    rw [e1, hf]
    have HN := Aside0.mk hf
    clear hn e1 hf
    go_enter Try.func19, Try.ntmps19
    go_wp2_with (go_at_call 47; (with_reducible refine (span_no A c l a n _ hm HN.out).mono ?_); rintro e w' ⟨rfl, ⟨nd, rfl⟩⟩)
    go_ret2
    exact ⟨by first | rfl | (simp [isE, strOfNums]; done), by repeat (first | exact Drawn0.refl _ | apply Drawn0.step)⟩

set_option maxHeartbeats 2000000 in
set_option maxRecDepth 100000 in
theorem byte_call (A : Option Addr) (c : Nat) (l : List Int) (a : Int) (w : World) (hs : Sl w A c l) :
    Calls Try.prog 24 #[.slice A l.length c, .int .i64 a] w fun e w' => e = .returned (.tuple #[.int .i64 (byteV l a), .int .i64 (isE (thereB l a 1))]) ∧ Drawn0 w w' := by
  have HS := Aside0.mk hs
  have hm := hs.len
  clear hs
  by_cases hn : thereB l a 1 = true
  · obtain ⟨h0, _, h2, h3⟩ := there_true.1 hn
    have e1 : byteV l a = wrap64 (rd (sub l a.toNat 1) 0) := by
      unfold byteV sub rd; rw [if_pos hn]
      have : a.toNat < l.length := by omega
      simp [List.getD_eq_getElem?_getD, this]
    rw [e1, hn]
    have hle : a.toNat + 1 ≤ l.length := by omega
    have ea : a = (a.toNat : Int) := by omega
    have HN := Aside0.mk hle
    have HA := Aside0.mk ea
    clear hn e1 h0 h2 h3 hle ea
    generalize a.toNat = i at *
    go_enter Try.func24, Try.ntmps24
    go_wp2_with (go_at_call 47; (with_reducible refine (span_yes A c l a 1 i 1 HA.out rfl _ HS.out HN.out).mono ?_); rintro e w' ⟨A', rfl, ⟨nd, rfl⟩, hs⟩; obtain ⟨ad, rfl, hx⟩ := hs.at_ 0 (by omega) (by omega); rw [show ad.add (Int.toNat 0) = ad by simp [Addr.add]] at hx; have SS := Aside0.mk hs; clear hs)
    go_ret2
    exact ⟨by first | rfl | (simp [isE]; done), by repeat (first | exact Drawn0.refl _ | apply Drawn0.step)⟩
  · have e1 : byteV l a = 0 := by unfold byteV; rw [if_neg hn]
    have hf : thereB l a 1 = false := by simpa using hn
    rw [e1, hf]
    have HN := Aside0.mk hf
    clear hn e1 hf
    go_enter Try.func24, Try.ntmps24
    go_wp2_with (go_at_call 47; (with_reducible refine (span_no A c l a 1 _ hm HN.out).mono ?_); rintro e w' ⟨rfl, ⟨nd, rfl⟩⟩)
    go_ret2
    exact ⟨by first | rfl | (simp [isE]; done), by repeat (first | exact Drawn0.refl _ | apply Drawn0.step)⟩

theorem aligned_is (a : Int) (h0 : 0 ≤ a) (h1 : a ≤ 9223372036854775799) : cell_Aligned.f a = some (a + 7 - (a + 7) % 8) := by
  unfold cell_Aligned.f
  have e : wrap64 (wrap64 (a + 8) - 1) = a + 7 := by unfold wrap64; omega
  rw [e, andNot7 _ (by omega) (by omega)]

set_option maxHeartbeats 2000000 in
set_option maxRecDepth 100000 in
theorem slot_no (A : Option Addr) (c : Nat) (l : List Int) (a : Int) (w : World) (hs : Sl w A c l) (hn : getE l a ≠ 0) :
    Calls Try.prog 50 #[.slice A l.length c, .int .i64 a] w fun e w' => e = .returned (.tuple #[.slice none 0 0, .int .i64 (getE l a)]) ∧ Drawn0 w w' := by
  have HS := Aside0.mk hs
  have hm := hs.len
  clear hs
  by_cases ht : thereB l a 8 = true
  · obtain ⟨h0, _, h2, h3⟩ := there_true.1 ht
    have ha : a % 8 ≠ 0 := fun h => hn (getE_zero.2 ⟨ht, h⟩)
    have e1 : getE l a = -23 := by unfold getE; rw [if_pos ht, if_neg ha]
    rw [e1]
    have AL := Aside0.mk (aligned_is a (by omega) (by omega))
    have HN := Aside0.mk (show a.toNat + 8 ≤ l.length by omega)
    have HA := Aside0.mk (show a = (a.toNat : Int) by omega)
    have q : (a == a + 7 - (a + 7) % 8) = false := by rw [beq_eq_false_iff_ne]; omega
    have q' : (a != a + 7 - (a + 7) % 8) = true := by rw [bne_iff_ne]; omega
    generalize a + 7 - (a + 7) % 8 = z at *
    generalize a.toNat = i at *
    clear hn e1 h0 h2 h3 ht ha
    go_enter Try.func50, Try.ntmps50
    go_wp2_with (first | (go_at_call 47; (with_reducible refine (span_yes A c l a 8 i 8 HA.out rfl _ HS.out HN.out).mono ?_); rintro e w' ⟨A', rfl, ⟨nd, rfl⟩, hs⟩; clear hs) | (go_at_call 63; (with_reducible refine (cell_Aligned.calls a z _ AL.out).mono ?_); rintro e w' ⟨rfl, ⟨nd, rfl⟩⟩))
    go_ret2
    exact ⟨rfl, by repeat (first | exact Drawn0.refl _ | apply Drawn0.step)⟩
  · have e1 : getE l a = -9 := by unfold getE; rw [if_neg ht]
    have hf : thereB l a 8 = false := by simpa using ht
    rw [e1]
    have HN := Aside0.mk hf
    clear hn e1 hf ht
    go_enter Try.func50, Try.ntmps50
    go_wp2_with (first | (go_at_call 47; (with_reducible refine (span_no A c l a 8 _ hm HN.out).mono ?_); rintro e w' ⟨rfl, ⟨nd, rfl⟩⟩))
    go_ret2
    exact ⟨rfl, by repeat (first | exact Drawn0.refl _ | apply Drawn0.step)⟩

set_option maxHeartbeats 2000000 in
set_option maxRecDepth 100000 in
theorem slot_yes (A : Option Addr) (c : Nat) (l : List Int) (a : Int) (w : World) (hs : Sl w A c l) (hn : getE l a = 0) :
    Calls Try.prog 50 #[.slice A l.length c, .int .i64 a] w fun e w' => ∃ A', e = .returned (.tuple #[.slice A' 8 8, .int .i64 0]) ∧ Drawn0 w w' ∧ ReadsInt w' .u8 A' 8 (sub l a.toNat 8) := by
  have HS := Aside0.mk hs
  have hm := hs.len
  clear hs
  obtain ⟨ht, ha⟩ := getE_zero.1 hn
  obtain ⟨h0, _, h2, h3⟩ := there_true.1 ht
  have al := aligned_is a (by omega) (by omega)
  rw [show a + 7 - (a + 7) % 8 = a by omega] at al
  have AL := Aside0.mk al
  have HN := Aside0.mk (show a.toNat + 8 ≤ l.length by omega)
  have HA := Aside0.mk (show a = (a.toNat : Int) by omega)
  generalize a.toNat = i at *
  clear hn h0 h2 h3 ht ha al
  go_enter Try.func50, Try.ntmps50
  go_wp2_with (first | (go_at_call 47; (with_reducible refine (span_yes A c l a 8 i 8 HA.out rfl _ HS.out HN.out).mono ?_); rintro e w' ⟨A', rfl, ⟨nd, rfl⟩, hs⟩; have SS := Aside0.mk hs; clear hs) | (go_at_call 63; (with_reducible refine (cell_Aligned.calls a a _ AL.out).mono ?_); rintro e w' ⟨rfl, ⟨nd, rfl⟩⟩))
  go_ret2
  exact ⟨_, rfl, by repeat (first | exact Drawn0.refl _ | apply Drawn0.step), by first | exact SS.out | exact ReadsInt.drawnN SS.out _⟩

/-! ### Get -/
set_option maxHeartbeats 2000000 in
set_option maxRecDepth 100000 in
theorem get_no (A : Option Addr) (c : Nat) (l : List Int) (a : Int) (w : World) (hs : Sl w A c l) (hn : getE l a ≠ 0) :
    Calls Try.prog 20 #[.slice A l.length c, .int .i64 a] w fun e w' => e = .returned (.tuple #[.int .i64 0, .int .i64 (getE l a)]) ∧ Drawn0 w w' := by
  have HS := Aside0.mk hs
  have HN := Aside0.mk hn
  clear hs hn
  go_enter Try.func20, Try.ntmps20
  go_wp2_with (first | (go_at_call 50; (with_reducible refine (slot_no A c l a _ HS.out HN.out).mono ?_); rintro e w' ⟨rfl, ⟨nd, rfl⟩⟩))
  go_loopg [8, 19] 0 (fun j v8 v19 w' => v8 = .int .i64 0 ∧ v19 = .int .i64 0 ∧ Drawn0 w w')
  case atStart => exact ⟨rfl, rfl, by repeat (first | exact Drawn0.refl _ | apply Drawn0.step)⟩
  case round =>
    obtain ⟨rfl, rfl, ⟨m, rfl⟩⟩ := hrel
    go_wp2
    go_ret2
    exact ⟨rfl, by repeat (first | exact Drawn0.refl _ | apply Drawn0.step)⟩

theorem rd_byte {l : List Int} (h : Byt l) (i : Int) : 0 ≤ rd l i ∧ rd l i < 256 := by
  unfold rd
  rw [List.getD_eq_getElem?_getD]
  by_cases hi : i.toNat < l.length
  · rw [List.getElem?_eq_getElem hi]; exact h _ (List.getElem_mem hi)
  · rw [List.getElem?_eq_none (by omega)]; simp
theorem sub_byte {l : List Int} (h : Byt l) (a n : Nat) : Byt (sub l a n) := fun x hx => h x (List.mem_of_mem_drop (List.mem_of_mem_take hx))
theorem num_snoc (l : List Int) (x : Int) : num (l ++ [x]) = num l + x * 2 ^ (8 * l.length) := by
  induction l with
  | nil => simp [num]
  | cons b r ih =>
    rw [List.cons_append, num, num, ih, List.length_cons, Nat.mul_succ, Int.pow_add, Int.mul_add, ← Int.mul_assoc, ← Int.mul_assoc]
    have e : (2 : Int) ^ 8 = 256 := rfl
    rw [e, Int.mul_comm 256 x, Int.mul_assoc x 256, Int.mul_comm 256 ((2 : Int) ^ _), ← Int.mul_assoc]
    omega
theorem num_range (l : List Int) (h : Byt l) : 0 ≤ num l ∧ num l < 2 ^ (8 * l.length) := by
  induction l with
  | nil => simp [num]
  | cons b r ih =>
    have hb := h b (List.mem_cons_self)
    have hr := ih (fun x hx => h x (List.mem_cons_of_mem _ hx))
    rw [num, List.length_cons, Nat.mul_succ, Int.pow_add, show (2 : Int) ^ 8 = 256 from rfl]
    omega
theorem take_snoc (b : List Int) (i : Nat) (h : i < b.length) : b.take (i + 1) = b.take i ++ [rd b (i : Int)] := by
  rw [List.take_succ_eq_append_getElem h]
  congr 2
  simp [rd, List.getD_eq_getElem?_getD, h]
theorem or_fits (i X c : Nat) (h8 : i < 8) (hXlt : X < 2 ^ (8 * i)) (hclt : c < 256) : 2 ^ (8 * i) * c + X < 2 ^ 64 := by
  have h1 : 2 ^ (8 * i) * c ≤ 2 ^ (8 * i) * 255 := Nat.mul_le_mul_left _ (by omega)
  have h2 : 2 ^ (8 * i) * 256 = 2 ^ (8 * i + 8) := by rw [Nat.pow_add]
  have h3 : 2 ^ (8 * i + 8) ≤ 2 ^ 64 := Nat.pow_le_pow_right (by decide) (by omega)
  omega
theorem or_nat (N : Nat) (hN : N < 2 ^ 64) : (BitVec.ofInt 64 (wrap64 (N : Int))).toNat = N := by
  have h := toNat_of (wrap64 (N : Int))
  have : wrap64 (N : Int) % 18446744073709551616 = (N : Int) := by unfold wrap64; omega
  omega
theorem or_is (x y : Int) : bits .or .i64 x y = wrap64 (((BitVec.ofInt 64 x) ||| (BitVec.ofInt 64 y)).toNat : Int) := by
  have h : bits .or .i64 x y = IntKind.i64.wrap (((BitVec.ofInt 64 x) ||| (BitVec.ofInt 64 y)).toNat : Int) := rfl
  rw [h, i64w]
theorem or_step (b : List Int) (hy : Byt b) (i : Nat) (h8 : i < 8) (hl : b.length = 8) : bits .or .i64 (wrap64 (num (b.take i))) (wrap64 (rd b (i : Int) * 2 ^ (i * 8))) = wrap64 (num (b.take (i + 1))) := by
  have hti : (b.take i).length = i := by rw [List.length_take]; omega
  have hb : Byt (b.take i) := fun x hx => hy x (List.mem_of_mem_take hx)
  have hr := num_range _ hb
  have hx := rd_byte hy (i : Int)
  rw [take_snoc b i (by omega), num_snoc, hti, Nat.mul_comm i 8]
  rw [hti] at hr
  obtain ⟨X, hX⟩ := Int.eq_ofNat_of_zero_le hr.1
  obtain ⟨c, hc⟩ := Int.eq_ofNat_of_zero_le hx.1
  rw [hX] at hr ⊢
  rw [hc] at hx ⊢
  have hXlt : X < 2 ^ (8 * i) := by have := hr.2; exact_mod_cast this
  have hclt : c < 256 := by omega
  have hY : ((c : Int) * 2 ^ (8 * i)) = ((2 ^ (8 * i) * c : Nat) : Int) := by rw [Int.natCast_mul, Int.mul_comm]; simp
  rw [hY]
  have hsum := or_fits i X c h8 hXlt hclt
  rw [or_is, BitVec.toNat_or, or_nat X (Nat.lt_of_le_of_lt (Nat.le_add_left _ _) hsum), or_nat _ (Nat.lt_of_le_of_lt (Nat.le_add_right _ _) hsum), Nat.or_comm, ← Nat.two_pow_add_eq_or_of_lt hXlt, Int.natCast_add, Int.add_comm]
set_option maxHeartbeats 2000000 in
set_option maxRecDepth 100000 in
theorem get_yes (A : Option Addr) (c : Nat) (l : List Int) (a : Int) (w : World) (hs : Sl w A c l) (hn : getE l a = 0) (b : List Int) (hb : b = sub l a.toNat 8) (hy : Byt b) :
    Calls Try.prog 20 #[.slice A l.length c, .int .i64 a] w fun e w' => e = .returned (.tuple #[.int .i64 (wrap64 (num b)), .int .i64 0]) ∧ Drawn0 w w' := by
  have HS := Aside0.mk hs
  have HN := Aside0.mk hn
  have hlen : b.length = 8 := by have := there_true.1 (getE_zero.1 hn).1; rw [hb]; exact sub_length (by omega)
  have HB := Aside0.mk hb
  have HY := Aside0.mk hy
  clear hs hn hb hy
  go_enter Try.func20, Try.ntmps20
  go_wp2_with (first | (go_at_call 50; (with_reducible refine (slot_yes A c l a _ HS.out HN.out).mono ?_); rintro e w' ⟨A', rfl, ⟨nd, rfl⟩, hr⟩; rw [← HB.out] at hr; have HR := Aside0.mk hr; clear hr))
  clear HN HS HB
  go_loopg [8, 19] 8 (fun j v8 v19 w' => ∃ i : Nat, i + j = 8 ∧ v19 = .int .i64 i ∧ v8 = .int .i64 (wrap64 (num (b.take i))) ∧ Drawn0 w w')
  case atStart => exact ⟨0, rfl, rfl, by simp [num, wrap64], by repeat (first | exact Drawn0.refl _ | apply Drawn0.step)⟩
  case round =>
    obtain ⟨i, hi, rfl, rfl, ⟨m, rfl⟩⟩ := hrel
    cases gk with
    | zero =>
      obtain rfl : i = 8 := by omega
      go_wp2
      go_ret2
      exact ⟨by rw [List.take_of_length_le (by omega)]; rfl, by repeat (first | exact Drawn0.refl _ | apply Drawn0.step)⟩
    | succ j =>
      obtain ⟨ad, rfl, hx⟩ := ReadsInt.at_ HR.out (i : Int) (by omega) (by omega)
      have hx2 : w.cell? (ad.add i) = some (.int .u8 (rd b (i : Int))) := hx
      have h8 : i < 8 := by omega
      have r0 := (rd_byte HY.out (i : Int)).1
      have r1 := (rd_byte HY.out (i : Int)).2
      go_wp2
      go_roundg j
      case measure => omega
      case rel => exact ⟨i + 1, by omega, by simp, by rw [or_step b HY.out i h8 hlen], by repeat (first | exact Drawn0.refl _ | apply Drawn0.step)⟩
theorem get_call (A : Option Addr) (c : Nat) (l : List Int) (a : Int) (w : World) (hs : Sl w A c l) (hy : Byt l) :
    Calls Try.prog 20 #[.slice A l.length c, .int .i64 a] w fun e w' => e = .returned (.tuple #[.int .i64 (getV l a), .int .i64 (getE l a)]) ∧ Drawn0 w w' := by
  by_cases hn : getE l a = 0
  · have h := get_yes A c l a w hs hn _ rfl (sub_byte hy _ _)
    unfold getV
    rw [if_pos hn, hn]
    exact h
  · have h := get_no A c l a w hs hn
    unfold getV
    rw [if_neg hn]
    exact h
end Go.Proofs.Ytipflebjooanpaa.Mem
