/- bytes.Repeat of one byte, and the functions of package mem that fill: for up to 8192 bytes. -/
import Derived.Test.YtipflebjooanpaaMemMove
import Derived.Lib.MakeNoZero
import Derived.Deep.RegionLaw
namespace Go.Proofs.Ytipflebjooanpaa.Mem
open Go.RowKit Go.Proofs.Ytipflebjooanpaa.PMemIs Go.Proofs.YtipflebjooanpaaW.PrintWords Go.Proofs.YtipflebjooanpaaW.PrintLast Go.Proofs.YtipflebjooanpaaW.PrintMore Go.Proofs.Ytipflebjooanpaa.Arith
attribute [local go_sem] max2_int min2_int max_two min_two max_three min_three max_four min_four
set_option linter.unusedSimpArgs false

theorem mul_one_is (n : Nat) (h : n < 4294967296) : bits_Mul.f 1 (n : Int) = some (0, (n : Int)) := by
  have hw : ∀ m : Int, 0 ≤ m → m < 2 ^ 64 → IntKind.u64.wrap m = m := fun m h0 h1 => by rw [u64w]; omega
  have m1 : bits .and .u64 1 4294967295 = 1 := by decide +kernel
  have m2 : bits .and .u64 (n : Int) 4294967295 = (n : Int) := by
    have e := bits_mask .u64 64 (by decide) hw 32 (by decide) (n : Int) (by omega) (by omega)
    rw [show ((2 : Int) ^ 32 - 1) = 4294967295 from rfl] at e
    rw [e]; omega
  have d1 : (1 : Int) / 4294967296 = 0 := by decide
  have d2 : (n : Int) / 4294967296 = 0 := by omega
  have m0 : bits .and .u64 0 4294967295 = 0 := by decide +kernel
  unfold bits_Mul.f bits_Mul64.f
  rw [m1, m2, d1, d2]
  have w0 : IntKind.u64.wrap 0 = 0 := by decide +kernel
  have wn : IntKind.u64.wrap (n : Int) = (n : Int) := hw _ (by omega) (by omega)
  simp only [Int.zero_mul, Int.mul_zero, Int.one_mul, w0, wn, d2, Int.zero_add, m0, Option.bind_some, Int.zero_ediv, Int.add_zero]

set_option maxHeartbeats 2000000 in
set_option maxRecDepth 100000 in
theorem repeat_zero (A : Option Addr) (n c : Nat) (w : World) :
    Calls Try.prog 49 #[.slice A n c, .int .i64 0] w fun e w' => ∃ A' c', e = .returned (.slice A' 0 c') ∧ Below w.heap.size w w' ∧ ReadsInt w' .u8 A' 0 [] := by
  go_enter Try.func49, Try.ntmps49
  go_wp2
  go_ret
  exact ⟨_, _, rfl, by repeat (first | exact Below.refl _ _ | apply below_alloc | apply pw_below_drewN), ⟨rfl, by omega, fun h => by omega⟩⟩

/-- 'bytealg.MakeNoZero(n)[:n:n]': a new row of whatever bytes. -/
theorem fresh_run (W : World) (n : Nat) (h1 : 1 ≤ n) (h8 : n ≤ 8192) : ∃ cs : Array Value,
    (callFunc 62 #[.int .i64 (n : Int)]).run Try.prog W = .ok (.value (.slice (some ⟨W.heap.size, 0, none⟩) n cs.size)) ((W.alloc (.cells cs 5)).drewN 2) ∧
    (∀ W' : World, (Instr.slice 22 (.slice (some ⟨W.heap.size, 0, none⟩) n cs.size) none (some (.int .i64 (n : Int))) (some (.int .i64 (n : Int)))).run Try.prog W' = .ok (.slice (some ⟨W.heap.size, 0, none⟩) n n) W') ∧ n ≤ cs.size := by
  obtain ⟨cs, hrunM, hle, _⟩ := Lib.run_makeNoZero (P := Try.prog) W #[3] 22 5 Try.underlying22 n (by omega)
  refine ⟨cs, ?_, fun W' => ?_, hle⟩
  · rw [run_callFunc_extern Try.func62 (by kernel_rfl) (by kernel_rfl) (by kernel_rfl) (e := Extern.BytealgMakeNoZero.makeNoZero #[3] #[22]) (by kernel_rfl), hrunM]
    rfl
  · have hel : Try.prog.elem 22 = 5 := by simp [Program.elem, Try.underlying22]
    have hu : Try.prog.underlying 22 = some (.slice (Try.prog.elem 22)) := by rw [hel]; exact Try.underlying22
    have hz : (sizeOf 5).run Try.prog W' = .ok 1 W' := by kernel_rfl
    rw [run_slice_hm W' 22 _ n cs.size hu .i64 .i64 (n : Int) (n : Int) (by omega) (by omega) (by omega), hel, hz]
    have : ¬ n = 0 := by omega
    simp [Result.andThen, sliced, this, add_plain]
theorem blk_list {w : World} {g : Nat} {T : TypeId} {cs : Array Value} (h : w.heap[g]? = some (.cells cs T (0, 0))) : w.heap[g]? = some (.cells cs.toList.toArray T (0, 0)) := by simpa using h
/-- A row of n bytes at least, the first p of them filled. -/
def Rep (g : Nat) (w : World) (n p : Nat) (b : Int) : Prop := ∃ cur : List Value, w.heap[g]? = some (.cells cur.toArray 5 (0, 0)) ∧ cur.take p = List.replicate p (.int .u8 b) ∧ n ≤ cur.length
theorem Rep.reads {g : Nat} {w : World} {n : Nat} {b : Int} (h : Rep g w n n b) (hm : n ≤ 9223372036854775807) : ReadsInt w .u8 (some ⟨g, 0, none⟩) n (List.replicate n b) := by
  obtain ⟨cur, hc, ht, _⟩ := h
  exact blk_first hc n (by rw [ht]; simp [nums]) (by simp) hm
/-- The first p cells hold the byte. -/
def Fl (cur : List Value) (p : Nat) (b : Int) : Prop := cur.take p = List.replicate p (.int .u8 b)
theorem two_cuts (h n p : Nat) (hp : 1 ≤ p) (hlt : p < n) :
    (∀ W : World, (Instr.slice 22 (.slice (some ⟨h, 0, none⟩) n n) (some (.int .i64 (p : Int))) none none).run Try.prog W = .ok (.slice (some ⟨h, p, none⟩) (n - p) (n - p)) W) ∧
    (∀ W : World, (Instr.slice 22 (.slice (some ⟨h, 0, none⟩) n n) none (some (.int .i64 (p : Int))) none).run Try.prog W = .ok (.slice (some ⟨h, 0, none⟩) p n) W) := by
  have hel : Try.prog.elem 22 = 5 := by simp [Program.elem, Try.underlying22]
  have hu : Try.prog.underlying 22 = some (.slice (Try.prog.elem 22)) := by rw [hel]; exact Try.underlying22
  have hz : ∀ W, (sizeOf 5).run Try.prog W = .ok 1 W := fun W => by kernel_rfl
  refine ⟨fun W => ?_, fun W => ?_⟩
  · rw [run_slice_l W 22 _ n n hu .i64 (p : Int) (by omega) (by omega), hel, hz]
    have : ¬ n = p := by omega
    simp [Result.andThen, sliced, this, add_plain]
  · rw [run_slice_h W 22 _ n n hu .i64 (p : Int) (by omega) (by omega), hel, hz]
    have : ¬ n = 0 := by omega
    simp [Result.andThen, sliced, this, add_plain]
theorem rep_src {w : World} {g p m : Nat} {b : Int} {cur : List Value} (h : w.heap[g]? = some (.cells cur.toArray 5 (0, 0))) (ht : Fl cur p b) (hm : m ≤ p) :
    some (⟨g, p, none⟩ : Addr) = some ⟨g, p, none⟩ ∧ ∃ ad, some (⟨g, 0, none⟩ : Addr) = some ad ∧ ∀ i v, (List.replicate m (Value.int .u8 b))[i]? = some v → w.cell? (ad.add i) = some v := by
  refine ⟨rfl, _, rfl, fun i v hv => ?_⟩
  have hi : i < m := by have := (List.getElem?_eq_some_iff.1 hv).1; rwa [List.length_replicate] at this
  rw [List.getElem?_replicate, if_pos hi] at hv
  rw [add_plain, blk_cell h i, List.getElem?_toArray, ← hv]
  have e : (cur.take p)[i]? = (List.replicate p (Value.int .u8 b))[i]? := by rw [show cur.take p = _ from ht]
  rw [List.getElem?_take, if_pos (by omega), List.getElem?_replicate, if_pos (by omega)] at e
  exact e
theorem rep_on {w : World} {g n p m : Nat} {b : Int} {cur : List Value} (h : w.heap[g]? = some (.cells (splice cur p (List.replicate m (Value.int .u8 b))).toArray 5 (0, 0))) (ht : Fl cur p b) (hl : n ≤ cur.length)
    (hm : p + m ≤ n := by omega) : Rep g w n (p + m) b := by
  refine ⟨_, h, ?_, by rw [length_splice _ _ _ (by rw [List.length_replicate]; omega)]; exact hl⟩
  unfold splice
  rw [show cur.take p = _ from ht, ← List.append_assoc, List.replicate_append_replicate, List.take_append_of_le_length (by simp), List.take_of_length_le (by simp)]
set_option maxHeartbeats 4000000 in
set_option maxRecDepth 100000 in
theorem repeat_call (A : Option Addr) (c : Nat) (b : Int) (n : Nat) (w : World) (hr : ReadsInt w .u8 A 1 [b]) (h1 : 1 ≤ n) (h8 : n ≤ 8192) :
    Calls Try.prog 49 #[.slice A 1 c, .int .i64 n] w fun e w' => ∃ A' c', e = .returned (.slice A' n c') ∧ Below w.heap.size w w' ∧ ReadsInt w' .u8 A' n (List.replicate n b) := by
  have HM := Aside0.mk (mul_one_is n (by omega))
  have HR := Aside0.mk hr
  obtain ⟨i0, hi0, _, hsz0, _⟩ := info_parts info5
  have HI := Aside0.mk hi0
  have HZ := Aside0.mk hsz0
  clear hr hi0 hsz0
  have g0 : (n == 0) = false := beq_eq_false_iff_ne.2 (by omega)
  have g1 : decide (8192 < n) = false := decide_eq_false (by omega)
  go_enter Try.func49, Try.ntmps49
  go_wp2_with (first | (go_at_call 61; (with_reducible refine (bits_Mul.calls 1 (n : Int) 0 (n : Int) _ HM.out).mono ?_); rintro e w1 ⟨rfl, ⟨nd, rfl⟩⟩; obtain ⟨cs, hcall, hcut, hle⟩ := fresh_run (w.drewN nd) n h1 h8) | (refine wpList_copy_splice rfl (.tmp 58) (.tmp 59) 22 22 rfl 5 Try.underlying22 (by rw [HI.out]; exact congrArg some HZ.out) (some ⟨w.heap.size, 0, none⟩) A n n 1 c rfl rfl w.heap.size 0 cs.toList 5 ?n0 [Value.int .u8 b] ?n1 ?n2 ?n3 ?n4 w.heap.size w ?n5 (Nat.le_refl _) ?_; (case n0 => exact blk_list (blk_new w (.cells cs 5))); (case n1 => exact (Nat.min_eq_left h1).symm); (case n2 => exact copy_src (b := [b]) (L := n) rfl (fun _ => by simp [add_plain]) (by omega) (HR.out.below (by repeat (first | exact Below.refl _ _ | apply pw_below_drewN | apply below_alloc)))); (case n3 => simp; omega); (case n4 => exact nums_one .u8 [b]); (case n5 => repeat (first | exact Below.refl _ _ | apply pw_below_drewN | apply below_alloc)); intro w2 hg2 hb2; have K1 := Aside0.mk hg2.out; have K2 := Aside0.mk hb2; clear hg2 hb2 hcall hcut))
  have hstart : Rep w.heap.size w2 n 1 b := ⟨_, K1.out, by simp [splice], by rw [length_splice _ _ _ (by simp; omega)]; simpa using hle⟩
  clear K1 hle HM
  go_loopg [10] (n - 1) (fun j v10 wr => ∃ p : Nat, 1 ≤ p ∧ p + j = n ∧ v10 = .int .i64 p ∧ Aside0 (Rep w.heap.size wr n p b) ∧ Aside0 (Below w.heap.size w wr))
  case atStart => exact ⟨1, by omega, by omega, rfl, ⟨hstart⟩, K2⟩
  case round =>
    clear hstart K2
    obtain ⟨p, hp1, hpn, rfl, HP, HB⟩ := hrel
    cases gk with
    | zero =>
      obtain rfl : p = n := by omega
      go_wp2
      go_ret
      exact ⟨_, _, rfl, HB.out, HP.out.reads (by omega)⟩
    | succ j =>
      have hlt : p < n := by omega
      obtain ⟨cur, hcur, htake, hlen⟩ := HP.out
      have HC := Aside0.mk hcur
      clear hcur HP
      obtain ⟨cut1, cut2⟩ := two_cuts w.heap.size n p hp1 hlt
      have HS5 : (Try.prog.info? 5).map (·.size) = some 1 := by rw [HI.out]; exact congrArg some HZ.out
      have H5 := Aside0.mk HS5
      obtain ⟨m, hm⟩ : ∃ m, m = min p (n - p) := ⟨_, rfl⟩
      have m1 : 1 ≤ m := by omega
      have m2 : m ≤ p := by omega
      have m3 : p + m ≤ n := by omega
      have H1 : Aside0 ((List.replicate m (Value.int .u8 b)).length = Nat.min p (n - p)) := ⟨by rw [List.length_replicate]; exact hm⟩
      have HT : Aside0 (Fl cur p b) := ⟨htake⟩
      have H3 : Aside0 (p + (List.replicate m (Value.int .u8 b)).length ≤ cur.length) := ⟨by rw [List.length_replicate]; omega⟩
      have H4 : Aside0 (∀ v ∈ List.replicate m (Value.int .u8 b), v.oneCell' = true) := ⟨fun v hv => by rw [List.eq_of_mem_replicate hv]; rfl⟩
      have H6 : Aside0 (∀ w4 : World, w4.heap[w.heap.size]? = some (.cells (splice cur p (List.replicate m (Value.int .u8 b))).toArray 5 (0, 0)) → Rep w.heap.size w4 n (p + m) b) := ⟨fun w4 h4 => rep_on h4 htake hlen m3⟩
      have hw : IntKind.i64.wrap ((p : Int) + (m : Int)) = ((p + m : Nat) : Int) := by rw [i64w, wrap64_in (by omega) (by omega)]; omega
      have HW := Aside0.mk hw
      clear HS5 htake hlen hm hw
      go_wp2
      have hw := HW.out
      go_region_law (refine step_copy_splice rfl (.tmp 70) (.tmp 73) 22 22 rfl 5 Try.underlying22 H5.out (some ⟨w.heap.size, p, none⟩) (some ⟨w.heap.size, 0, none⟩) (n - p) (n - p) p n (by simp [Act.eval, Act.put]) (by simp [Act.eval, Act.put]) w.heap.size p cur 5 HC.out (List.replicate m (.int .u8 b)) H1.out (fun _ => rep_src (w := wr.drew) HC.out HT.out m2) H3.out H4.out w.heap.size w (by repeat (first | exact HB.out | apply below_drew)) (Nat.le_refl _) ?_; intro w4 hg4 hb4)
      have K1 := Aside0.mk (H6.out _ hg4.out)
      have K2 := Aside0.mk hb4
      clear hg4 hb4 H6 hw
      go_wp2
      go_roundg (n - (p + m))
      case measure => omega
      case rel => exact ⟨p + m, by omega, by omega, by first | rfl | (simp; done) | go_num, K1, K2⟩
theorem repeat_any (A : Option Addr) (c : Nat) (b n : Int) (k : Nat) (hk : n = k) (w : World) (hr : ReadsInt w .u8 A 1 [b]) (h8 : k ≤ 8192) :
    Calls Try.prog 49 #[.slice A 1 c, .int .i64 n] w fun e w' => ∃ A' c', e = .returned (.slice A' k c') ∧ Below w.heap.size w w' ∧ ReadsInt w' .u8 A' k (List.replicate k b) := by
  subst hk
  rcases Nat.eq_zero_or_pos k with rfl | h
  · exact repeat_zero A 1 c w
  · exact repeat_call A c b k w hr h h8

/-! ### Fill -/
theorem one_byte (w : World) (x : Int) : ReadsInt (w.alloc (.cells #[.int .u8 x] 5)) .u8 (some ⟨w.heap.size, 0, none⟩) 1 [x] := blk_reads (l := [x]) (T := 5) (blk_new w (.cells #[.int .u8 x] 5)) 1 (by simp) (by omega)
theorem one_byte' (w : World) (x : Int) (n : Nat) : ReadsInt ((w.drewN n).alloc (.cells #[.int .u8 x] 5)) .u8 (some ⟨w.heap.size, 0, none⟩) 1 [x] := one_byte (w.drewN n) x
set_option maxHeartbeats 4000000 in
set_option maxRecDepth 100000 in
theorem fill_call (A : Option Addr) (c : Nat) (l : List Int) (a n x : Int) (w : World) (hs : Sl w A c l) (hl : l.length ≤ 8192) :
    Calls Try.prog 18 #[.slice A l.length c, .int .i64 a, .int .i64 n, .int .i64 x] w fun e w' => ∃ A' c', e = .returned (.tuple #[.slice A' (fillL l a n x).length c', .int .i64 (isE (thereB l a n))]) ∧ Below w.heap.size w w' ∧ Sl w' A' c' (fillL l a n x) := by
  have HS := Aside0.mk hs
  have HL := Aside0.mk (show l.length ≤ 140737488355328 by omega)
  have hm := hs.len
  clear hs
  by_cases hn : thereB l a n = true
  · obtain ⟨ea, en, hf⟩ := there_nat hn
    have e1 : fillL l a n x = withL l a.toNat (List.replicate n.toNat (x % 256)) := by unfold fillL; rw [if_pos hn]
    have hlen : (withL l a.toNat (List.replicate n.toNat (x % 256))).length = l.length := with_length (by rw [List.length_replicate]; exact hf)
    rw [e1, hlen, hn]
    have EA := Aside0.mk ea
    have EN := Aside0.mk en
    have HF := Aside0.mk hf
    have HE := Aside0.mk hlen
    have H8 := Aside0.mk (show n.toNat ≤ 8192 by omega)
    clear hn e1 hlen ea en hf hl
    generalize a.toNat = i at *
    generalize n.toNat = k at *
    go_enter Try.func18, Try.ntmps18
    go_wp2_with (first | (go_at_call 47; (with_reducible refine (span_yes A c l a n i k EA.out EN.out _ HS.out HF.out).mono ?_); rintro e w1 ⟨A1, rfl, ⟨n1, rfl⟩, hr⟩; clear hr) | (go_at_call 49; (with_reducible refine (repeat_any _ _ (x % 256) n k EN.out _ (one_byte' w (x % 256) n1) H8.out).mono ?_); rintro e w2 ⟨A2, c2, rfl, hb, hr⟩; have R2 := Aside0.mk hr; have B2 : Aside0 (Below w.heap.size w w2) := Aside0.mk (below_step (below_alloc (pw_below_drewN (Below.refl _ _) n1) _) hb); clear hr hb) | (go_at_call 48; (with_reducible refine (with_call A c l a i EA.out A2 k c2 _ _ (HS.out.below B2.out) R2.out HF.out HL.out).mono ?_); rintro e w3 ⟨A3, c3, rfl, hb, hc, hr⟩; have B3 : Aside0 (Below w.heap.size w w3) := Aside0.mk (below_step B2.out hb); have R3 := Aside0.mk hr; have C3 := Aside0.mk hc; clear hb hr hc))
    go_ret2
    exact ⟨_, _, rfl, B3.out, ⟨by rw [HE.out]; exact R3.out, by rw [HE.out]; exact C3.out⟩⟩
  · have hf : thereB l a n = false := by simpa using hn
    have e1 : fillL l a n x = l := by unfold fillL; rw [if_neg hn]
    rw [e1, hf]
    have HN := Aside0.mk hf
    clear hn e1 hf
    go_enter Try.func18, Try.ntmps18
    go_wp2_with (first | (go_at_call 47; (with_reducible refine (span_no A c l a n _ hm HN.out).mono ?_); rintro e w1 ⟨rfl, ⟨n1, rfl⟩⟩))
    go_ret2
    exact ⟨_, _, rfl, by repeat (first | exact Below.refl _ _ | apply pw_below_drewN), HS.out.below (by repeat (first | exact Below.refl _ _ | apply pw_below_drewN))⟩

set_option maxHeartbeats 4000000 in
set_option maxRecDepth 100000 in
theorem putbyte_call (A : Option Addr) (c : Nat) (l : List Int) (a x : Int) (w : World) (hs : Sl w A c l) (hl : l.length ≤ 8192) :
    Calls Try.prog 30 #[.slice A l.length c, .int .i64 a, .int .i64 x] w fun e w' => ∃ A' c', e = .returned (.tuple #[.slice A' (fillL l a 1 x).length c', .int .i64 (isE (thereB l a 1))]) ∧ Below w.heap.size w w' ∧ Sl w' A' c' (fillL l a 1 x) := by
  have HS := Aside0.mk hs
  have HL := Aside0.mk hl
  clear hs hl
  go_enter Try.func30, Try.ntmps30
  go_wp2_with (first | (go_at_call 18; (with_reducible refine (fill_call A c l a 1 x _ HS.out HL.out).mono ?_); rintro e w1 ⟨A1, c1, rfl, hb, hs1⟩; have B1 := Aside0.mk hb; have S1 := Aside0.mk hs1; clear hb hs1))
  go_ret2
  exact ⟨_, _, rfl, B1.out, S1.out⟩

/-! ### New, and the document's example -/
def newL (n : Int) : List Int := List.replicate (mx 0 (mn n 5120)).toNat 0
theorem new_call (n : Int) (w : World) : Calls Try.prog 26 #[.int .i64 n] w fun e w' => ∃ A' c', e = .returned (.slice A' (newL n).length c') ∧ Below w.heap.size w w' ∧ Sl w' A' c' (newL n) := by
  have hr : 0 ≤ mx 0 (mn n 5120) ∧ mx 0 (mn n 5120) ≤ 5120 := by unfold mx mn; repeat' split <;> omega
  have h : mem_New.f n = some (newL n) := by
    unfold mem_New.f newL
    rw [if_pos hr.1, if_pos (by omega)]
  refine (mem_New.calls n _ w h).mono ?_
  rintro e w' ⟨v, rfl, hR, hb⟩
  obtain ⟨A, c, rfl, hc, hC⟩ := Kd.R_reads hR
  refine ⟨A, c, rfl, hb, ⟨⟨rfl, ?_, fun h0 => ?_⟩, hc⟩⟩
  · unfold newL; rw [List.length_replicate]; omega
  · obtain ⟨ad, rfl, _⟩ := Kd.at_int hC 0 (by omega) (by omega)
    refine ⟨ad, rfl, fun j hj => ?_⟩
    obtain ⟨ad', e, hx⟩ := Kd.at_int hC (j : Int) (by omega) (by omega)
    cases e
    exact hx
end Go.Proofs.Ytipflebjooanpaa.Mem
