/- The document's functions of layer 3, at what they answer by name: there, place, Get, Byte, New, own, Fill1, Fill, PutByte. No condition beyond a slice's own bound. -/
import Derived.Test.YtipflebjooanpaaMemAs
namespace Go.Proofs.Ytipflebjooanpaa.Mem
open Go.RowKit Go.Proofs.Ytipflebjooanpaa.PMemIs Go.Proofs.YtipflebjooanpaaW.PrintWords Go.Proofs.YtipflebjooanpaaW.PrintLast Go.Proofs.YtipflebjooanpaaW.PrintMore Go.Proofs.Ytipflebjooanpaa.Arith
set_option linter.unusedSimpArgs false
set_option linter.unusedVariables false

/-! ### there, place -/
theorem there_is (l : List Int) (a n : Int) (hm : l.length ≤ 9223372036854775807) : tenterhookref03_there.f l a n = some (thereB l a n) := by
  unfold tenterhookref03_there.f
  split
  · split
    · split
      · rw [wrap64_in (by omega) (by omega)]
        congr 1
        unfold thereB
        rw [decide_eq_decide]; omega
      · rw [there_false.2 (by omega)]
    · rw [there_false.2 (by omega)]
  · rw [there_false.2 (by omega)]
theorem place_is (l : List Int) (a : Int) (hm : l.length ≤ 9223372036854775807) : tenterhookref03_place.f l a = some (getE l a) := by
  unfold tenterhookref03_place.f
  rw [there_is l a 8 hm, Option.bind_some]
  unfold getE
  split
  · rename_i h
    have := there_true.1 h
    rw [Int.tmod_eq_emod_of_nonneg (by omega)]
    split <;> rfl
  · rfl
theorem ref_there (A : Option Addr) (c : Nat) (l : List Int) (a n : Int) (b : Bool) (hb : thereB l a n = b) (w : World) (hs : Sl w A c l) :
    Calls Try.prog 54 #[.slice A l.length c, .int .i64 a, .int .i64 n] w fun e w' => e = .returned (.bool b) ∧ Drawn0 w w' :=
  tenterhookref03_there.calls A c l a n b w hs.C hs.cap (hb ▸ there_is l a n hs.len)
theorem ref_place (A : Option Addr) (c : Nat) (l : List Int) (a g : Int) (hg : getE l a = g) (w : World) (hs : Sl w A c l) :
    Calls Try.prog 51 #[.slice A l.length c, .int .i64 a] w fun e w' => e = .returned (.int .i64 g) ∧ Drawn0 w w' :=
  tenterhookref03_place.calls A c l a g w hs.C hs.cap (hg ▸ place_is l a hs.len)

/-! ### Get, Byte -/
theorem num_drop (b : List Int) (i : Nat) (h : i < b.length) : num (b.drop i) = rd b (i : Int) + 256 * num (b.drop (i + 1)) := by
  rw [List.drop_eq_getElem_cons h, num]
  congr 1
  simp [rd, List.getD_eq_getElem?_getD, h]
theorem drop_range (b : List Int) (hy : Byt b) (i : Nat) : 0 ≤ num (b.drop i) ∧ num (b.drop i) < 2 ^ (8 * (b.length - i)) := by
  have := num_range (b.drop i) (fun x hx => hy x (List.mem_of_mem_drop hx))
  rwa [List.length_drop] at this
theorem rd_sub (l : List Int) (a n i : Nat) (h : i < n) : rd (sub l a n) (i : Int) = rd l ((a + i : Nat) : Int) := by
  rw [rd_nat, rd_nat]
  unfold sub
  simp [List.getD_eq_getElem?_getD, List.getElem?_take, h]
theorem get_loop (l : List Int) (a : Nat) (hy : Byt l) (hf : a + 8 ≤ l.length) (hm : l.length ≤ 9223372036854775807) : ∀ (j k : Nat), j < k → j ≤ 8 →
    tenterhookref03_Get.l0 k l (a : Int) (num ((sub l a 8).drop j)) ((j : Int) - 1) = some (wrap64 (num (sub l a 8)), 0) := by
  have hl : (sub l a 8).length = 8 := sub_length hf
  have hb := sub_byte hy a 8
  intro j
  induction j with
  | zero =>
    intro k hk _
    obtain ⟨k, rfl⟩ : ∃ k', k = k' + 1 := ⟨k - 1, by omega⟩
    unfold tenterhookref03_Get.l0
    rw [if_neg (by decide), List.drop_zero]
  | succ j ih =>
    intro k hk h8
    obtain ⟨k, rfl⟩ : ∃ k', k = k' + 1 := ⟨k - 1, by omega⟩
    unfold tenterhookref03_Get.l0
    have e0 : (((j + 1 : Nat) : Int) - 1) = (j : Int) := by omega
    have e1 : wrap64 ((a : Int) + (j : Int)) = ((a + j : Nat) : Int) := by rw [wrap64_in (by omega) (by omega)]; omega
    have e2 : wrap64 ((j : Int) - 1) = (j : Int) - 1 := wrap64_in (by omega) (by omega)
    rw [e0, if_pos (by omega), e1, if_pos (by omega), if_pos (by omega), e2]
    have hr := drop_range _ hb j
    have hr1 := drop_range _ hb (j + 1)
    have hd := num_drop (sub l a 8) j (by omega)
    rw [rd_sub l a 8 j (by omega)] at hd
    have hx := rd_byte hy ((a + j : Nat) : Int)
    have hp : (2 : Int) ^ (8 * ((sub l a 8).length - j)) ≤ 2 ^ 64 := by
      have := Nat.pow_le_pow_right (n := 2) (by decide) (show 8 * ((sub l a 8).length - j) ≤ 64 by omega)
      exact_mod_cast this
    have h64 : num ((sub l a 8).drop j) < 18446744073709551616 := by
      have := hr.2
      have e : (2 : Int) ^ 64 = 18446744073709551616 := by decide
      omega
    have e3 : IntKind.u64.wrap (IntKind.u64.wrap (num ((sub l a 8).drop (j + 1)) * 256) + IntKind.u64.wrap (rd l ((a + j : Nat) : Int))) = num ((sub l a 8).drop j) := by
      rw [u64w, u64w, u64w]; omega
    rw [e3]
    exact ih k (by omega) (by omega)
theorem get_is (l : List Int) (a : Int) (hy : Byt l) (hm : l.length ≤ 9223372036854775807) : tenterhookref03_Get.f 9 l a = some (getV l a, getE l a) := by
  unfold tenterhookref03_Get.f
  rw [place_is l a hm, Option.bind_some]
  unfold getV
  split
  · rename_i h
    have ht := there_true.1 (getE_zero.1 h).1
    have e : a = ((a.toNat : Nat) : Int) := by omega
    have hl : (sub l a.toNat 8).length = 8 := sub_length (by omega)
    have := get_loop l a.toNat hy (by omega) hm 8 9 (by omega) (by omega)
    rw [← e, List.drop_of_length_le (by omega)] at this
    rw [h]
    exact this
  · rfl
theorem byte_is (l : List Int) (a : Int) (hm : l.length ≤ 9223372036854775807) : tenterhookref03_Byte.f l a = some (byteV l a, isE (thereB l a 1)) := by
  unfold tenterhookref03_Byte.f
  rw [there_is l a 1 hm, Option.bind_some]
  unfold byteV isE
  split
  · rename_i h
    have := there_true.1 h
    rw [if_pos (by omega), if_pos (by omega)]
  · rfl
theorem ref_get (A : Option Addr) (c : Nat) (l : List Int) (a v g : Int) (hv : getV l a = v) (hg : getE l a = g) (w : World) (hs : Sl w A c l) (hy : Byt l) :
    Calls Try.prog 21 #[.slice A l.length c, .int .i64 a] w fun e w' => e = .returned (.tuple #[.int .i64 v, .int .i64 g]) ∧ Drawn0 w w' :=
  tenterhookref03_Get.calls 9 A c l a v g w hs.C hs.cap (hv ▸ hg ▸ get_is l a hy hs.len)
theorem ref_byte (A : Option Addr) (c : Nat) (l : List Int) (a v g : Int) (hv : byteV l a = v) (hg : isE (thereB l a 1) = g) (w : World) (hs : Sl w A c l) :
    Calls Try.prog 25 #[.slice A l.length c, .int .i64 a] w fun e w' => e = .returned (.tuple #[.int .i64 v, .int .i64 g]) ∧ Drawn0 w w' :=
  tenterhookref03_Byte.calls A c l a v g w hs.C hs.cap (hv ▸ hg ▸ byte_is l a hs.len)

/-! ### New -/
theorem ref_new (n : Int) (w : World) : Calls Try.prog 27 #[.int .i64 n] w fun e w' => ∃ A' c', e = .returned (.slice A' (newL n).length c') ∧ Below w.heap.size w w' ∧ Sl w' A' c' (newL n) := by
  have hr : 0 ≤ mx 0 (mn n 5120) ∧ mx 0 (mn n 5120) ≤ 5120 := by unfold mx mn; repeat' split <;> omega
  have h : tenterhookref03_New.f n = some (newL n) := by
    unfold tenterhookref03_New.f newL
    rw [if_pos hr.1, if_pos (by omega)]
  refine (tenterhookref03_New.calls n _ w h).mono ?_
  rintro e w' ⟨v, rfl, hR, hb⟩
  obtain ⟨A, c, rfl, hc, hC⟩ := Kd.R_reads hR
  refine ⟨A, c, rfl, hb, ⟨⟨rfl, ?_, fun h0 => ?_⟩, hc⟩⟩
  · unfold newL; rw [List.length_replicate]; omega
  · obtain ⟨ad, rfl, _⟩ := Kd.at_int hC 0 (by omega) (by omega)
    refine ⟨ad, rfl, fun j hj => ?_⟩
    obtain ⟨ad', e, hx⟩ := Kd.at_int hC (j : Int) (by omega) (by omega)
    cases e
    exact hx

/-! ### own: a row of its own, whose bytes are written -/
/-- The row of its own. -/
def Ow (w0 w : World) (A : Option Addr) (L : Nat) (p : List Int) : Prop :=
  0 < L → ∃ g cur, A = some ⟨g, 0, none⟩ ∧ w0.heap.size ≤ g ∧ w.heap[g]? = some (.cells cur 5 (0, 0)) ∧ cur.toList.take L = nums .u8 p
theorem Ow.sl {w0 w : World} {A : Option Addr} {L c : Nat} {p : List Int} (h : Ow w0 w A L p) (hl : p.length = L) (hc : L ≤ c) (hm : L ≤ 9223372036854775807) : Sl w A c p := by
  subst hl
  rcases Nat.eq_zero_or_pos p.length with h0 | h0
  · exact ⟨⟨rfl, hm, fun h => by omega⟩, hc⟩
  · obtain ⟨g, cur, rfl, _, hh, ht⟩ := h h0
    exact ⟨blk_first (cs := cur.toList) (by simpa using hh) p.length ht rfl hm, hc⟩
theorem own_call (A : Option Addr) (c : Nat) (l : List Int) (w : World) (hs : Sl w A c l) (hl : l.length < 140737488355328) :
    Calls Try.prog 53 #[.slice A l.length c] w fun e w' => ∃ A' cap, e = .returned (.slice A' l.length cap) ∧ Below w.heap.size w w' ∧ l.length ≤ cap ∧ Ow w w' A' l.length l := by
  have h : tenterhookref03_own.f l = some l := by
    unfold tenterhookref03_own.f
    rw [Option.bind_some, if_pos (by simpa using hl), List.nil_append]
  refine (tenterhookref03_own.calls A c l l w hs.C hs.cap h).mono ?_
  rintro e w' ⟨v, rfl, hR, hB⟩
  have ho := Kd.own_of_R hR
  rcases ho.2 with ⟨rfl, h0⟩ | ⟨g, cap, cur, rfl, hg, hh, hnc, _, _, ht⟩
  · exact ⟨none, 0, by rw [h0], hB, by omega, fun h => by omega⟩
  · exact ⟨_, cap, rfl, hB, hnc, fun _ => ⟨g, cur, rfl, hg, hh, by simpa [encs, nums] using ht⟩⟩
/-- A byte more is written. -/
theorem with_snoc (l b : List Int) (a : Nat) (v : Int) (h : a + b.length < l.length) : (withL l a b).set (a + b.length) v = withL l a (b ++ [v]) := by
  have ht : (l.take a).length = a := by rw [List.length_take]; omega
  unfold withL
  rw [List.set_append_right _ _ (by omega), ht, Nat.add_sub_cancel_left, List.set_append_right _ _ (by omega), Nat.sub_self, List.drop_eq_getElem_cons h, List.set_cons_zero, List.length_append, List.length_singleton, List.append_assoc]
  rfl
theorem Ow.cell {w : World} {g : Nat} {cur : Array Value} {L : Nat} {p : List Int} (hh : w.heap[g]? = some (.cells cur 5 (0, 0))) (ht : cur.toList.take L = nums .u8 p) (hl : p.length = L) (j : Nat) (hj : j < L) : w.cell? ⟨g, j, none⟩ = some (.int .u8 (rd p (j : Int))) := by
  rw [blk_cell hh j]
  have e : (cur.toList.take L)[j]? = (nums .u8 p)[j]? := by rw [ht]
  rw [List.getElem?_take, if_pos hj] at e
  rw [← Array.getElem?_toList, e]
  have : j < p.length := by omega
  simp [nums, rd, List.getD_eq_getElem?_getD, this]
theorem Ow.put {w0 w : World} {g : Nat} {cur : Array Value} {l b : List Int} {a : Nat} (hg : w0.heap.size ≤ g) (hh : w.heap[g]? = some (.cells cur 5 (0, 0))) (ht : cur.toList.take l.length = nums .u8 (withL l a b)) (v : Int) (hj : a + b.length < l.length) :
    Ow w0 (w.setCell ⟨g, a + b.length, none⟩ (.int .u8 v)) (some ⟨g, 0, none⟩) l.length (withL l a (b ++ [v])) := fun _ =>
  ⟨g, _, rfl, hg, blk_put hh _ _ rfl, by rw [Array.toList_setIfInBounds, List.take_set, ht, ← with_snoc l b a v hj]; simp [nums, List.map_set]⟩
end Go.Proofs.Ytipflebjooanpaa.Mem
