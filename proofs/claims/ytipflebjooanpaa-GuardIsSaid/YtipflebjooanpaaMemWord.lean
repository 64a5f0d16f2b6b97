/- The functions of package mem that make bytes: word, with, Put: for every slice of bytes and all whole numbers. No condition beyond a slice's own bound. -/
import Derived.Test.YtipflebjooanpaaMemRead
import Derived.WalkSpells
import Derived.Laws.CopyOwn
namespace Go.Proofs.Ytipflebjooanpaa.Mem
open Go.RowKit Go.Proofs.Ytipflebjooanpaa.PMemIs Go.Proofs.YtipflebjooanpaaW.PrintWords Go.Proofs.YtipflebjooanpaaW.PrintLast Go.Proofs.YtipflebjooanpaaW.PrintMore Go.Proofs.Ytipflebjooanpaa.Arith
set_option linter.unusedSimpArgs false

/-- The array of a cell's bytes, the first i of them written. -/
def fillW (x : Int) (i : Nat) : List Int := (wordL x).take i ++ List.replicate (8 - i) 0
theorem fillW_length (x : Int) (i : Nat) (h : i ≤ 8) : (fillW x i).length = 8 := by
  have := word_length x
  unfold fillW; rw [List.length_append, List.length_take, List.length_replicate]; omega
theorem bytesN_rd (n : Nat) : ∀ (u i : Nat), i < n → (bytesN n u)[i]? = some ((u / 256 ^ i % 256 : Nat) : Int) := by
  induction n with
  | zero => intro u i h; omega
  | succ n ih =>
    intro u i h
    cases i with
    | zero => simp [bytesN]
    | succ i =>
      rw [bytesN, List.getElem?_cons_succ, ih _ _ (by omega), Nat.div_div_eq_div_mul, Nat.pow_succ, Nat.mul_comm]
theorem fillW_set (x : Int) (i : Nat) (h : i < 8) : (fillW x i).set i ((un x / 256 ^ i % 256 : Nat) : Int) = fillW x (i + 1) := by
  have hw := word_length x
  have hb := bytesN_rd 8 (un x) i h
  unfold fillW
  have h1 : ((wordL x).take i).length = i := by rw [List.length_take]; omega
  rw [List.set_append_right _ _ (by omega), h1, Nat.sub_self, show 8 - i = (8 - (i + 1)) + 1 by omega, List.replicate_succ, List.set_cons_zero, List.take_succ_eq_append_getElem (by omega), List.append_assoc]
  congr 1
  have : (wordL x)[i]'(by omega) = ((un x / 256 ^ i % 256 : Nat) : Int) := by
    have h2 : (wordL x)[i]? = some ((un x / 256 ^ i % 256 : Nat) : Int) := hb
    rw [List.getElem?_eq_getElem (by omega)] at h2
    exact Option.some.inj h2
  rw [this]; rfl

/-- A block of bytes, read from a place on. -/
theorem blk_num {w : World} {g : Nat} {T : TypeId} {l : List Int} (h : w.heap[g]? = some (.cells (nums .u8 l).toArray T (0, 0))) (j : Nat) (hj : j < l.length) : w.cell? ⟨g, j, none⟩ = some (.int .u8 (rd l j)) := by
  rw [blk_cell h j]
  simp [nums, rd, List.getD_eq_getElem?_getD, hj]
theorem blk_reads {w : World} {g : Nat} {T : TypeId} {l : List Int} (h : w.heap[g]? = some (.cells (nums .u8 l).toArray T (0, 0))) (n : Nat) (hn : n ≤ l.length) (hm : n ≤ 9223372036854775807) : ReadsInt w .u8 (some ⟨g, 0, none⟩) n (l.take n) := by
  refine ⟨by rw [List.length_take]; omega, hm, fun _ => ⟨_, rfl, fun j hj => ?_⟩⟩
  rw [add_plain, blk_num h j (by omega)]
  simp [rd, List.getD_eq_getElem?_getD, hj]

set_option maxHeartbeats 2000000 in
set_option maxRecDepth 100000 in
theorem word_call (x : Int) (w : World) :
    Calls Try.prog 52 #[.int .i64 x] w fun e w' => ∃ A', e = .returned (.slice A' 8 8) ∧ Below w.heap.size w w' ∧ ReadsInt w' .u8 A' 8 (wordL x) := by
  go_enter Try.func52, Try.ntmps52
  go_wp2
  go_loopg [5] 8 (fun j v5 wr => ∃ i : Nat, i + j = 8 ∧ v5 = .int .i64 i ∧ Aside0 (wr.heap[w.heap.size]? = some (.cells (nums .u8 (fillW x i)).toArray 77 (0, 0))) ∧ Aside0 (Below w.heap.size w wr))
  case atStart => exact ⟨0, rfl, rfl, ⟨blk_new w _⟩, ⟨below_alloc (Below.refl _ _) _⟩⟩
  case round =>
    obtain ⟨i, hi, rfl, BK, HB⟩ := hrel
    cases gk with
    | zero =>
      obtain rfl : i = 8 := by omega
      go_wp2
      go_ret
      refine ⟨_, rfl, HB.out, ?_⟩
      have h := blk_reads BK.out 8 (by rw [fillW_length x 8 (by omega)]; omega) (by omega)
      have e : (fillW x 8).take 8 = wordL x := by
        have := word_length x
        unfold fillW
        rw [Nat.sub_self, List.replicate_zero, List.append_nil, List.take_of_length_le (by rw [List.length_take]; omega), List.take_of_length_le (by omega)]
      rw [e] at h
      exact h
    | succ j =>
      have h8 : i < 8 := by omega
      have hcz : wr.cell? ⟨w.heap.size, i, none⟩ = some (.int .u8 (rd (fillW x i) i)) := blk_num BK.out i (by rw [fillW_length x i (by omega)]; omega)
      have hfz := blk_frozen BK.out i
      go_wp2
      go_roundg j
      case measure => omega
      case rel =>
        refine ⟨i + 1, by omega, by simp, ⟨?_⟩, ⟨below_set HB.out (Nat.le_refl _)⟩⟩
        refine blk_put (cs := (nums .u8 (fillW x i)).toArray) BK.out i _ ?_
        have hv : IntKind.u64.wrap x / 2 ^ (i * 8) % 256 = ((un x / 256 ^ i % 256 : Nat) : Int) := by
          have hu : IntKind.u64.wrap x = ((un x : Nat) : Int) := by rw [u64w]; unfold un; omega
          have e2 : (2 : Int) ^ (8 * i) = ((256 ^ i : Nat) : Int) := by
            rw [Int.pow_mul, show (2 : Int) ^ 8 = 256 from rfl]; simp
          rw [hu, Nat.mul_comm i 8, e2, Int.natCast_emod, Int.natCast_ediv]
          rfl
        rw [hv, ← fillW_set x i h8]
        simp [nums, List.map_set]

/-! ### bytes.Clone: what comes back is nil of nothing, or a row of its own -/
set_option maxHeartbeats 2000000 in
set_option maxRecDepth 100000 in
theorem clone_call (A : Option Addr) (c : Nat) (l : List Int) (w : World) (hs : Sl w A c l) (hl : l.length ≤ 140737488355328) :
    Calls Try.prog 60 #[.slice A l.length c] w fun e w' => ∃ v, e = .returned v ∧ Below w.heap.size w w' ∧ w'.ownsRow w.heap.size 5 1 v l.length (nums .u8 l) := by
  have q22 : ∀ (w : World) (a : Option Addr) (n c n' c' : Nat), (binOp .eql 22 (.slice a n c) (.slice none n' c')).run Try.prog w = .ok (.bool a.isNone) w := fun w a n c n' c' => Lib.run_eql_slice_nil w _ _ a n c n' c' Try.underlying22
  have HR := Aside0.mk hs.reads
  clear hs
  cases A with
  | none =>
    have h0 : l.length = 0 := by
      rcases Nat.eq_zero_or_pos l.length with h | h
      · exact h
      · obtain ⟨_, h, _⟩ := HR.out.2.2 h; cases h
    obtain rfl : l = [] := List.eq_nil_of_length_eq_zero h0
    clear h0 HR hl
    go_enter Try.func60, Try.ntmps60
    go_wp2
    go_ret
    exact ⟨_, rfl, Below.refl _ _, own_nil _ _ _ _⟩
  | some ad =>
    have HO := Aside0.mk (own_lit w w.heap.size 5 .u8 [] (Nat.le_refl _) (by simp))
    have HL := Aside0.mk hl
    clear hl
    go_enter Try.func60, Try.ntmps60
    go_wp2_with (at_builtin; refine print_append_row (w0 := w) w.heap.size rfl (.tmp 5) (.tmp 6) 22 5 .u8 1 rfl Try.underlying22 info5 (by decide) _ [] l (some ad) l.length c rfl rfl HO.out (HR.out.below (below_alloc (Below.refl _ _) _)) (below_alloc (Below.refl _ _) _) (by simp) (by have := HL.out; simp; omega) ?_; intro v1 w1 hown hB hg hat; have H1 := Aside0.mk hown; have H2 := Aside0.mk hB; clear hown hB hg hat)
    go_ret
    exact ⟨_, rfl, H2.out, by simpa using H1.out⟩

/-- What Clone hands back, in one form for nil and all else. -/
theorem clone_any (A : Option Addr) (c : Nat) (l : List Int) (w : World) (hs : Sl w A c l) (hl : l.length ≤ 140737488355328) :
    Calls Try.prog 60 #[.slice A l.length c] w fun e w' => ∃ A' cap, e = .returned (.slice A' l.length cap) ∧ Below w.heap.size w w' ∧ l.length ≤ cap ∧
      (0 < l.length → ∃ g cur, A' = some ⟨g, 0, none⟩ ∧ w.heap.size ≤ g ∧ w'.heap[g]? = some (.cells cur 5 (0, 0)) ∧ cur.toList.take l.length = nums .u8 l) := by
  refine (clone_call A c l w hs hl).mono ?_
  rintro e w' ⟨v, rfl, hB, ho⟩
  rcases ho.2 with ⟨rfl, h0⟩ | ⟨g, cap, cur, rfl, hg, hh, hnc, _, _, ht⟩
  · exact ⟨none, 0, by rw [h0], hB, by omega, fun h => by omega⟩
  · exact ⟨_, cap, rfl, hB, hnc, fun _ => ⟨g, cur, rfl, hg, hh, by simpa using ht⟩⟩

theorem blk_first {w : World} {g : Nat} {T : TypeId} {cs : List Value} {l : List Int} (h : w.heap[g]? = some (.cells cs.toArray T (0, 0))) (n : Nat) (ht : cs.take n = nums .u8 l) (hl : l.length = n) (hm : n ≤ 9223372036854775807) : ReadsInt w .u8 (some ⟨g, 0, none⟩) n l := by
  refine ⟨hl, hm, fun _ => ⟨_, rfl, fun j hj => ?_⟩⟩
  rw [add_plain, blk_cell h j]
  have e : (cs.take n)[j]? = (nums .u8 l)[j]? := by rw [ht]
  rw [List.getElem?_take, if_pos hj] at e
  rw [List.getElem?_toArray, e]
  have : j < l.length := by omega
  simp [nums, List.getD_eq_getElem?_getD, this]
theorem splice_with (cs : List Value) (l b : List Int) (i : Nat) (ht : cs.take l.length = nums .u8 l) (hfit : i + b.length ≤ l.length) :
    (splice cs i (nums .u8 b)).take l.length = nums .u8 (withL l i b) := by
  have hn : (nums .u8 b).length = b.length := nums_length _ _
  have e1 : cs.take i = nums .u8 (l.take i) := by
    have : (cs.take l.length).take i = cs.take i := by rw [List.take_take, Nat.min_eq_left (by omega)]
    rw [← this, ht]; simp [nums, List.map_take]
  have e2 : (cs.drop (i + b.length)).take (l.length - (i + b.length)) = nums .u8 (l.drop (i + b.length)) := by
    rw [← List.drop_take, ht]; simp [nums, List.map_drop]
  unfold splice withL
  rw [hn, e1, nums_append, nums_append]
  have h1 : (nums .u8 (l.take i)).length = i := by rw [nums_length, List.length_take]; omega
  rw [List.take_append, h1, List.take_of_length_le (l := nums .u8 (l.take i)) (by omega), List.take_append, hn, List.take_of_length_le (l := nums .u8 b) (by omega), show l.length - i - b.length = l.length - (i + b.length) by omega, e2]

/-- 'xs[i:]' of a row: where it begins, if anything is left. -/
theorem cut_from (A : Option Addr) (n c i : Nat) (hi : i ≤ n) (hc : n ≤ c) :
    ∃ A' : Option Addr, (∀ W : World, (Instr.slice 22 (.slice A n c) (some (.int .i64 (i : Int))) none none).run Try.prog W = .ok (.slice A' (n - i) (c - i)) W) ∧ (i < n → A' = A.map (·.add i)) := by
  refine ⟨if c = i then A else A.map (·.add (i * 1)), fun W => ?_, fun h => ?_⟩
  · have hel : Try.prog.elem 22 = 5 := by simp [Program.elem, Try.underlying22]
    have hu : Try.prog.underlying 22 = some (.slice (Try.prog.elem 22)) := by rw [hel]; exact Try.underlying22
    have hz : (sizeOf 5).run Try.prog W = .ok 1 W := by kernel_rfl
    rw [run_slice_l W 22 A n c hu .i64 (i : Int) (by omega) (by omega), hel, hz]
    simp only [Result.andThen, sliced, Int.toNat_natCast]
  · rw [if_neg (by omega), Nat.mul_one]
theorem nums_one (k : IntKind) (b : List Int) : ∀ v ∈ nums k b, v.oneCell' = true := by
  intro v hv
  simp only [nums, List.mem_map] at hv
  obtain ⟨x, _, rfl⟩ := hv
  rfl
theorem copy_fit {cs : List Value} {l : List Int} {k : Nat} (h : cs.take l.length = nums .u8 l) (hk : k ≤ l.length) : k ≤ cs.length := by
  have e : (cs.take l.length).length = l.length := by rw [h, nums_length]
  rw [List.length_take] at e
  omega
theorem copy_src {w : World} {g i n L : Nat} {A A2 : Option Addr} {b : List Int} (hb : b.length = n) (hA : i < L → A = (some (⟨g, 0, none⟩ : Addr)).map (·.add i)) (hf : i + n ≤ L) (hr : ReadsInt w .u8 A2 n b) :
    0 < (nums .u8 b).length → A = some ⟨g, i, none⟩ ∧ ∃ ad, A2 = some ad ∧ ∀ j v, (nums .u8 b)[j]? = some v → w.cell? (ad.add j) = some v := by
  intro hp
  rw [nums_length] at hp
  obtain ⟨ad, e, hc⟩ := hr.2.2 (by omega)
  refine ⟨by rw [hA (by omega)]; simp [add_plain], ad, e, fun j v hv => ?_⟩
  have hj : j < b.length := by
    have := (List.getElem?_eq_some_iff.1 hv).1
    rwa [nums_length] at this
  rw [hc j (by omega)]
  simp [nums, hj] at hv
  rw [← hv]
  simp [List.getD_eq_getElem?_getD, hj]
set_option maxHeartbeats 4000000 in
set_option maxRecDepth 100000 in
theorem with_call (A : Option Addr) (c : Nat) (l : List Int) (a : Int) (i : Nat) (hi : a = i) (A2 : Option Addr) (n c2 : Nat) (b : List Int) (w : World) (hs : Sl w A c l) (hr : ReadsInt w .u8 A2 n b) (hfit : i + n ≤ l.length) (hl : l.length ≤ 140737488355328) :
    Calls Try.prog 48 #[.slice A l.length c, .int .i64 a, .slice A2 n c2] w fun e w' => ∃ A' c', e = .returned (.slice A' l.length c') ∧ Below w.heap.size w w' ∧ l.length ≤ c' ∧ ReadsInt w' .u8 A' l.length (withL l i b) := by
  subst hi
  have hbn : b.length = n := hr.1
  have HS := Aside0.mk hs
  have HR := Aside0.mk hr
  have HL := Aside0.mk hl
  have HF := Aside0.mk hfit
  have HB := Aside0.mk hbn
  obtain ⟨i0, hi0, _, hsz0, _⟩ := info_parts info5
  have HI := Aside0.mk hi0
  have HZ := Aside0.mk hsz0
  clear hs hr hl hi0 hsz0
  by_cases h0 : l.length = 0
  · have hi0 : i = 0 := by omega
    have hn0 : n = 0 := by omega
    subst hi0 hn0
    have H0 := Aside0.mk h0
    clear h0 hfit hbn
    go_enter Try.func48, Try.ntmps48
    go_wp2_with (first | (go_at_call 60; (with_reducible refine (clone_any A c l _ HS.out HL.out).mono ?_); rintro e w1 ⟨A', cap, rfl, hB, hcap, _⟩; have H2 := Aside0.mk hB; have H3 := Aside0.mk hcap; clear hB hcap) | (refine wpList_copy_nothing rfl (.tmp 12) (.tmp 13) 22 22 rfl 5 Try.underlying22 (by rw [HI.out]; exact congrArg some HZ.out) A' A2 l.length cap 0 c2 rfl rfl (Nat.zero_min _) ?_))
    go_ret
    exact ⟨_, _, rfl, H2.out, H3.out, ⟨with_length (by have := HF.out; have := HB.out; omega), by have := H0.out; omega, fun h => by have := H0.out; omega⟩⟩
  · have hpos : 0 < l.length := by omega
    have HP := Aside0.mk hpos
    have G1 := Aside0.mk (show i ≤ l.length by omega)
    clear h0 hpos hfit hbn
    have hbn' := HB.out
    have HBN := Aside0.mk hbn'
    clear hbn'
    go_enter Try.func48, Try.ntmps48
    go_wp2_with (first | (go_at_call 60; (with_reducible refine (clone_any A c l _ HS.out HL.out).mono ?_); rintro e w1 ⟨A', cap, rfl, hB, hcap, hb⟩; obtain ⟨g, cur, rfl, hg, hh, ht⟩ := hb HP.out; obtain ⟨A'', hcut, hA⟩ := cut_from (some ⟨g, 0, none⟩) l.length cap i G1.out hcap; have H2 := Aside0.mk hB; have H3 := Aside0.mk hcap; have H4 := Aside0.mk hg; have H5 := Aside0.mk hh; have H6 := Aside0.mk ht; have H7 := Aside0.mk hA; clear hB hcap hb hg hh ht hA) | (refine wpList_copy_splice rfl (.tmp 12) (.tmp 13) 22 22 rfl 5 Try.underlying22 (by rw [HI.out]; exact congrArg some HZ.out) A'' A2 (l.length - i) (cap - i) n c2 rfl rfl g i cur.toList 5 (by simpa using H5.out) (nums .u8 b) ?n1 ?n2 ?n3 ?n4 w.heap.size w H2.out H4.out ?_; (case n1 => rw [nums_length, HB.out]; exact (Nat.min_eq_left (by have := HF.out; omega)).symm); (case n2 => exact copy_src HBN.out H7.out HF.out (HR.out.below H2.out)); (case n3 => exact copy_fit H6.out (by rw [nums_length, HB.out]; exact HF.out)); (case n4 => exact nums_one _ _); intro w2 hg2 hb2; have K1 := Aside0.mk hg2.out; have K2 := Aside0.mk hb2; clear hg2 hb2))
    go_ret
    exact ⟨_, _, rfl, K2.out, H3.out, blk_first K1.out l.length (splice_with cur.toList l b i H6.out (by rw [HB.out]; exact HF.out)) (with_length (by rw [HB.out]; exact HF.out)) (by have := HL.out; omega)⟩

/-! ### Put -/
set_option maxHeartbeats 4000000 in
set_option maxRecDepth 100000 in
theorem put_call (A : Option Addr) (c : Nat) (l : List Int) (a x : Int) (w : World) (hs : Sl w A c l) (hl : l.length ≤ 140737488355328) :
    Calls Try.prog 22 #[.slice A l.length c, .int .i64 a, .int .i64 x] w fun e w' => ∃ A' c', e = .returned (.tuple #[.slice A' (putL l a x).length c', .int .i64 (getE l a)]) ∧ Below w.heap.size w w' ∧ Sl w' A' c' (putL l a x) := by
  have HS := Aside0.mk hs
  have HL := Aside0.mk hl
  clear hs hl
  by_cases hn : getE l a = 0
  · have e1 : putL l a x = withL l a.toNat (wordL x) := by unfold putL; rw [if_pos hn]
    have hth := there_true.1 (getE_zero.1 hn).1
    have hlen : (withL l a.toNat (wordL x)).length = l.length := with_length (by rw [word_length]; omega)
    have HA := Aside0.mk (show a = (a.toNat : Int) by omega)
    have HF := Aside0.mk (show a.toNat + 8 ≤ l.length by omega)
    rw [e1, hlen, hn]
    have HN := Aside0.mk hn
    have HE := Aside0.mk hlen
    clear hn e1 hth hlen
    generalize a.toNat = i at *
    go_enter Try.func22, Try.ntmps22
    go_wp2_with (first | (go_at_call 50; (with_reducible refine (slot_yes A c l a _ HS.out HN.out).mono ?_); rintro e w1 ⟨A1, rfl, ⟨nd, rfl⟩, hr⟩; clear hr) | (go_at_call 52; (with_reducible refine (word_call x _).mono ?_); rintro e w2 ⟨A2, rfl, hb, hr⟩; have R2 := Aside0.mk hr; have B2 := Aside0.mk hb; clear hr hb) | (go_at_call 48; (with_reducible refine (with_call A c l a i HA.out A2 8 8 (wordL x) _ ((HS.out.drawnN nd).below B2.out) R2.out HF.out HL.out).mono ?_); rintro e w3 ⟨A3, c3, rfl, hb, hc, hr⟩; have B3 := Aside0.mk (below_step (below_step (pw_below_drewN (Below.refl _ _) nd) B2.out) hb); have R3 := Aside0.mk hr; have C3 := Aside0.mk hc; clear hb hr hc))
    go_ret2
    exact ⟨_, _, rfl, B3.out, ⟨by rw [HE.out]; exact R3.out, by rw [HE.out]; exact C3.out⟩⟩
  · have e1 : putL l a x = l := by unfold putL; rw [if_neg hn]
    rw [e1]
    have q : (getE l a == 0) = false := beq_eq_false_iff_ne.2 hn
    have q' : (getE l a != 0) = true := bne_iff_ne.2 hn
    have HN := Aside0.mk hn
    clear hn e1
    go_enter Try.func22, Try.ntmps22
    go_wp2_with (first | (go_at_call 50; (with_reducible refine (slot_no A c l a _ HS.out HN.out).mono ?_); rintro e w1 ⟨rfl, ⟨nd, rfl⟩⟩))
    go_ret2
    exact ⟨_, _, rfl, by repeat (first | exact Below.refl _ _ | apply pw_below_drewN), HS.out.below (by repeat (first | exact Below.refl _ _ | apply pw_below_drewN))⟩
end Go.Proofs.Ytipflebjooanpaa.Mem
