/- Plain laws of the lists that the functions of package mem make. No condition beyond those that each lemma states. -/
import Derived.Test.YtipflebjooanpaaMemAwake
namespace Go.Proofs.Ytipflebjooanpaa.Mem
open Go.RowKit Go.Proofs.YtipflebjooanpaaW.PrintWords Go.Proofs.Ytipflebjooanpaa.Arith

theorem take_with {l b : List Int} {i : Nat} (h : i + b.length ≤ l.length) : (l.take i).length = i := by rw [List.length_take]; omega
theorem sub_with {l b : List Int} {i : Nat} (h : i + b.length ≤ l.length) : sub (withL l i b) i b.length = b := by
  unfold sub withL
  rw [List.drop_left' (take_with h), List.take_left' rfl]
theorem with_with {l b b' : List Int} {i : Nat} (h : i + b.length ≤ l.length) (hb : b.length = b'.length) : withL (withL l i b) i b' = withL l i b' := by
  unfold withL
  rw [List.take_left' (take_with h), ← List.append_assoc (l.take i) b, List.drop_left' (by rw [List.length_append, take_with h, hb])]
  rw [hb]
theorem with_self {l : List Int} {i n : Nat} (h : i + n ≤ l.length) : withL l i (sub l i n) = l := by
  unfold withL
  rw [sub_length h]
  unfold sub
  rw [← List.drop_drop, List.take_append_drop, List.take_append_drop]
theorem rd_nat (l : List Int) (j : Nat) : rd l (j : Int) = l.getD j 0 := by unfold rd; rw [Int.toNat_natCast]
theorem getD_with {l b : List Int} {i : Nat} (h : i + b.length ≤ l.length) (j : Nat) : (withL l i b).getD j 0 = if i ≤ j ∧ j < i + b.length then b.getD (j - i) 0 else l.getD j 0 := by
  have ht := take_with h
  unfold withL
  simp only [List.getD_eq_getElem?_getD]
  by_cases h1 : j < i
  · rw [if_neg (by omega), List.getElem?_append_left (by omega), List.getElem?_take, if_pos h1]
  · rw [List.getElem?_append_right (by omega), ht]
    by_cases h2 : j < i + b.length
    · rw [if_pos (by omega), List.getElem?_append_left (by omega)]
    · rw [if_neg (by omega), List.getElem?_append_right (by omega), List.getElem?_drop, show i + b.length + (j - i - b.length) = j by omega]
theorem getD_sub (l : List Int) (i n j : Nat) : (sub l i n).getD j 0 = if j < n then l.getD (i + j) 0 else 0 := by
  unfold sub
  simp only [List.getD_eq_getElem?_getD, List.getElem?_take, List.getElem?_drop]
  split <;> rfl
theorem ext_getD {a b : List Int} (hl : a.length = b.length) (h : ∀ j, j < a.length → a.getD j 0 = b.getD j 0) : a = b := by
  apply List.ext_getElem hl
  intro j h1 h2
  have := h j h1
  simpa [List.getD_eq_getElem?_getD, List.getElem?_eq_getElem h1, List.getElem?_eq_getElem h2] using this
theorem num_bytes (n : Nat) : ∀ u : Nat, num (bytesN n u) = ((u % 256 ^ n : Nat) : Int) := by
  induction n with
  | zero => intro u; simp [bytesN, num, Nat.mod_one]
  | succ n ih =>
    intro u
    rw [bytesN, num, ih]
    have h1 : u % 256 ^ (n + 1) = u % 256 + 256 * (u / 256 % 256 ^ n) := by rw [Nat.pow_succ, Nat.mul_comm, Nat.mod_mul]
    rw [h1]; omega
theorem bytes_num (s : List Int) (h : Byt s) : bytesN s.length (num s).toNat = s := by
  induction s with
  | nil => rfl
  | cons b r ih =>
    have hb := h b (List.mem_cons_self)
    have hr : Byt r := fun x hx => h x (List.mem_cons_of_mem _ hx)
    have h0 := (num_range r hr).1
    rw [List.length_cons, bytesN, num]
    have e1 : (b + 256 * num r).toNat % 256 = b.toNat := by omega
    have e2 : (b + 256 * num r).toNat / 256 = (num r).toNat := by omega
    rw [e1, e2, ih hr]
    congr 1
    omega
theorem wrap_un (x : Int) (h : -9223372036854775808 ≤ x ∧ x ≤ 9223372036854775807) : wrap64 ((un x : Nat) : Int) = x := by unfold un wrap64; omega
theorem un_wrap (N : Nat) (h : N < 18446744073709551616) : un (wrap64 (N : Int)) = N := by unfold un wrap64; omega
theorem un_lt (x : Int) : un x < 18446744073709551616 := by unfold un; omega
theorem num_word (x : Int) (h : -9223372036854775808 ≤ x ∧ x ≤ 9223372036854775807) : wrap64 (num (wordL x)) = x := by
  unfold wordL
  rw [num_bytes, show 256 ^ 8 = 18446744073709551616 from rfl, Nat.mod_eq_of_lt (un_lt x), wrap_un x h]
theorem word_num (s : List Int) (h : Byt s) (hl : s.length = 8) : wordL (wrap64 (num s)) = s := by
  have hr := num_range s h
  rw [hl] at hr
  have e : (num s) = ((num s).toNat : Int) := by omega
  have h2 : (2 : Int) ^ (8 * 8) = 18446744073709551616 := rfl
  unfold wordL
  rw [e, un_wrap _ (by omega)]
  have := bytes_num s h
  rwa [hl] at this

theorem put_len (l : List Int) (a x : Int) : (putL l a x).length = l.length := by
  unfold putL
  split
  · rename_i h
    have ht := there_true.1 (getE_zero.1 h).1
    exact with_length (by rw [word_length]; omega)
  · rfl
theorem there_len {l l' : List Int} (h : l'.length = l.length) (a n : Int) : thereB l' a n = thereB l a n := by unfold thereB; rw [h]
theorem getE_len {l l' : List Int} (h : l'.length = l.length) (a : Int) : getE l' a = getE l a := by unfold getE; rw [there_len h]
theorem get_put {l : List Int} {a x : Int} (h : getE l a = 0) (hx : -9223372036854775808 ≤ x ∧ x ≤ 9223372036854775807) : getV (putL l a x) a = x := by
  have ht := there_true.1 (getE_zero.1 h).1
  unfold getV
  rw [getE_len (put_len l a x), if_pos h]
  unfold putL
  rw [if_pos h]
  have := sub_with (l := l) (b := wordL x) (i := a.toNat) (by rw [word_length]; omega)
  rw [word_length] at this
  rw [this, num_word x hx]
theorem put_back {l : List Int} {a x : Int} (hy : Byt l) (h : getE l a = 0) : putL (putL l a x) a (getV l a) = l := by
  have ht := there_true.1 (getE_zero.1 h).1
  have hs : (sub l a.toNat 8).length = 8 := sub_length (by omega)
  have e : putL (putL l a x) a (getV l a) = withL (putL l a x) a.toNat (wordL (getV l a)) := by unfold putL; rw [if_pos (by have := getE_len (put_len l a x) a; unfold putL at this; rw [this]; exact h)]
  rw [e]
  unfold putL getV
  rw [if_pos h, if_pos h, word_num _ (sub_byte hy _ _) hs, with_with (by rw [word_length]; omega) (by rw [word_length, hs]), with_self (by omega)]
end Go.Proofs.Ytipflebjooanpaa.Mem
