/- What the functions of package mem answer, as plain functions of lists, and what a slice reads as. No condition. -/
import Derived.Test.YtipflebjooanpaaPMemIsx1
import Derived.Test.YtipflebjooanpaaArith
namespace Go.Proofs.Ytipflebjooanpaa.Mem
open Go.RowKit Go.Proofs.YtipflebjooanpaaW.PrintWords Go.Proofs.YtipflebjooanpaaW.PrintLast Go.Proofs.YtipflebjooanpaaW.PrintMore Go.Proofs.Ytipflebjooanpaa.Arith

/-! ### Lists -/
def sub (l : List Int) (a n : Nat) : List Int := (l.drop a).take n
def thereB (l : List Int) (a n : Int) : Bool := decide (0 ≤ a ∧ 0 ≤ n ∧ a ≤ (l.length : Int) ∧ n ≤ (l.length : Int) - a)
/-- The number of bytes, the lowest first. -/
def num : List Int → Int
  | [] => 0
  | b :: r => b + 256 * num r
def un (a : Int) : Nat := (a % 18446744073709551616).toNat
/-- The n lowest bytes of a number. -/
def bytesN : Nat → Nat → List Int
  | 0, _ => []
  | n + 1, x => ((x % 256 : Nat) : Int) :: bytesN n (x / 256)
def wordL (x : Int) : List Int := bytesN 8 (un x)
def withL (l : List Int) (a : Nat) (b : List Int) : List Int := l.take a ++ (b ++ l.drop (a + b.length))
def getE (l : List Int) (a : Int) : Int := if thereB l a 8 = true then (if a % 8 = 0 then 0 else -23) else -9
def getV (l : List Int) (a : Int) : Int := if getE l a = 0 then wrap64 (num (sub l a.toNat 8)) else 0
def putL (l : List Int) (a x : Int) : List Int := if getE l a = 0 then withL l a.toNat (wordL x) else l
def isE (b : Bool) : Int := if b = true then 0 else -9
def byteV (l : List Int) (a : Int) : Int := if thereB l a 1 = true then wrap64 (rd l a) else 0
def fillL (l : List Int) (a n x : Int) : List Int := if thereB l a n = true then withL l a.toNat (List.replicate n.toNat (x % 256)) else l
def moveB (l : List Int) (f t n : Int) : Bool := thereB l f n && thereB l t n
def moveL (l : List Int) (f t n : Int) : List Int := if moveB l f t n = true then withL l t.toNat (sub l f.toNat n.toNat) else l
def textL (l : List Int) (a n : Int) : List Int := if thereB l a n = true then sub l a.toNat n.toNat else []
def swapB (l : List Int) (a o : Int) : Bool := getE l a == 0 && getV l a == o
def swapL (l : List Int) (a o x : Int) : List Int := if swapB l a o = true then putL l a x else l
def swapV (l : List Int) (a o : Int) : Int := if swapB l a o = true then -1 else 0
/-- Bytes. -/
def Byt (l : List Int) : Prop := ∀ x ∈ l, 0 ≤ x ∧ x < 256

theorem there_true {l : List Int} {a n : Int} : thereB l a n = true ↔ 0 ≤ a ∧ 0 ≤ n ∧ a ≤ (l.length : Int) ∧ n ≤ (l.length : Int) - a := by unfold thereB; exact decide_eq_true_iff
theorem there_false {l : List Int} {a n : Int} : thereB l a n = false ↔ ¬ (0 ≤ a ∧ 0 ≤ n ∧ a ≤ (l.length : Int) ∧ n ≤ (l.length : Int) - a) := by rw [← there_true]; simp
theorem sub_length {l : List Int} {a n : Nat} (h : a + n ≤ l.length) : (sub l a n).length = n := by unfold sub; rw [List.length_take, List.length_drop]; omega
theorem with_length {l b : List Int} {a : Nat} (h : a + b.length ≤ l.length) : (withL l a b).length = l.length := by unfold withL; rw [List.length_append, List.length_append, List.length_take, List.length_drop]; omega
theorem bytesN_length (n : Nat) : ∀ x, (bytesN n x).length = n := by
  induction n with
  | zero => intro x; rfl
  | succ n ih => intro x; simp [bytesN, ih]
theorem word_length (x : Int) : (wordL x).length = 8 := bytesN_length 8 _
theorem getE_zero {l : List Int} {a : Int} : getE l a = 0 ↔ thereB l a 8 = true ∧ a % 8 = 0 := by
  unfold getE
  by_cases h : thereB l a 8 = true
  · rw [if_pos h]
    by_cases h2 : a % 8 = 0
    · rw [if_pos h2]; exact ⟨fun _ => ⟨h, h2⟩, fun _ => rfl⟩
    · rw [if_neg h2]; exact ⟨fun h3 => by omega, fun h3 => absurd h3.2 h2⟩
  · rw [if_neg h]; exact ⟨fun h3 => by omega, fun h3 => absurd h3.1 h⟩

/-! ### A slice of bytes that is read -/
structure Sl (w : World) (A : Option Addr) (c : Nat) (l : List Int) : Prop where
  reads : ReadsInt w .u8 A l.length l
  cap : l.length ≤ c
theorem Sl.below {w w1 : World} {A : Option Addr} {c : Nat} {l : List Int} (h : Sl w A c l) (hb : Below w.heap.size w w1) : Sl w1 A c l := ⟨h.reads.below hb, h.cap⟩
theorem Sl.drawnN {w : World} {A : Option Addr} {c : Nat} {l : List Int} (h : Sl w A c l) (n : Nat) : Sl (w.drewN n) A c l := h.below (pw_below_drewN (Below.refl _ _) n)
theorem Sl.C {w : World} {A : Option Addr} {c : Nat} {l : List Int} (h : Sl w A c l) : Kd.C (Kd.int .u8) w A l.length l := Kd.C_of_reads (d := (0 : Int)) (h1 := fun _ => rfl) h.reads
theorem Sl.none (w : World) : Sl w Option.none 0 [] := ⟨⟨rfl, by simp, fun h => by simp at h⟩, Nat.le_refl _⟩
theorem Sl.at_ {w : World} {A : Option Addr} {c : Nat} {l : List Int} (h : Sl w A c l) (i : Int) (h0 : 0 ≤ i) (h1 : i < l.length) : ∃ ad, A = some ad ∧ w.cell? (ad.add i.toNat) = some (.int .u8 (rd l i)) := h.reads.at_ i h0 h1
/-- A cut with its own capacity. -/
theorem Sl.len {w : World} {A : Option Addr} {c : Nat} {l : List Int} (h : Sl w A c l) : l.length ≤ 9223372036854775807 := h.reads.2.1
theorem Sl.cut {w : World} {A : Option Addr} {c : Nat} {l : List Int} (h : Sl w A c l) (a n : Nat) (hn : a + n ≤ l.length) : Sl w (if a + n = a then A else A.map (·.add (a * 1))) n (sub l a n) := by
  have hr := h.reads
  have hl : (sub l a n).length = n := sub_length hn
  refine ⟨⟨rfl, by have := hr.2.1; omega, fun hp => ?_⟩, by omega⟩
  obtain ⟨ad, rfl, hcell⟩ := hr.2.2 (by omega)
  rw [if_neg (by omega)]
  refine ⟨ad.add (a * 1), rfl, fun j hj => ?_⟩
  have ha : (ad.add (a * 1)).add j = ad.add (a + j) := by
    unfold Addr.add
    by_cases h1 : a = 0 <;> by_cases h2 : j = 0 <;> simp [h1, h2, Nat.add_assoc]
  rw [ha, hcell (a + j) (by omega)]
  have : j < n := by omega
  simp [sub, List.getD_eq_getElem?_getD, this]

/-- What lives through a walk: old memory, and slices that are read. -/
structure Lv (w0 w : World) (S : List (Option Addr × Nat × List Int)) : Prop where
  below : Below w0.heap.size w0 w
  all : ∀ s ∈ S, Sl w s.1 s.2.1 s.2.2
theorem Lv.start (w : World) : Lv w w [] := ⟨Below.refl _ _, fun _ h => by cases h⟩
theorem Lv.put {w0 w : World} {S : List (Option Addr × Nat × List Int)} (h : Lv w0 w S) {A : Option Addr} {c : Nat} {l : List Int} (hs : Sl w A c l) : Lv w0 w ((A, c, l) :: S) :=
  ⟨h.below, fun s hm => by rcases List.mem_cons.1 hm with rfl | hm; exact hs; exact h.all s hm⟩
theorem Lv.on {w0 w w1 : World} {S : List (Option Addr × Nat × List Int)} (h : Lv w0 w S) (hb : Below w.heap.size w w1) : Lv w0 w1 S := ⟨below_step h.below hb, fun s hm => (h.all s hm).below hb⟩
theorem Lv.drawnN {w0 w : World} {S : List (Option Addr × Nat × List Int)} (h : Lv w0 w S) (n : Nat) : Lv w0 (w.drewN n) S := h.on (pw_below_drewN (Below.refl _ _) n)
theorem Lv.alloc {w0 w : World} {S : List (Option Addr × Nat × List Int)} (h : Lv w0 w S) (o : Obj) : Lv w0 (w.alloc o) S := h.on (below_alloc (Below.refl _ _) o)
theorem Lv.at_ {w0 w : World} {S : List (Option Addr × Nat × List Int)} (h : Lv w0 w S) {A : Option Addr} {c : Nat} {l : List Int} (hm : (A, c, l) ∈ S) : Sl w A c l := h.all _ hm

/-! ### span -/
set_option maxHeartbeats 2000000 in
set_option maxRecDepth 100000 in
theorem span_no (A : Option Addr) (c : Nat) (l : List Int) (a n : Int) (w : World) (hl : l.length ≤ 9223372036854775807) (hn : thereB l a n = false) :
    Calls Try.prog 47 #[.slice A l.length c, .int .i64 a, .int .i64 n] w fun e w' => e = .returned (.tuple #[.slice none 0 0, .bool false]) ∧ Drawn0 w w' := by
  have hn' := there_false.1 hn
  clear hn
  by_cases h0 : a < 0
  · have g0 := decide_eq_true h0
    go_enter Try.func47, Try.ntmps47
    go_wp2
    go_ret2
    exact ⟨rfl, by repeat (first | exact Drawn0.refl _ | apply Drawn0.step)⟩
  · have g0 := decide_eq_false h0
    by_cases h1 : n < 0
    · have g1 := decide_eq_true h1
      go_enter Try.func47, Try.ntmps47
      go_wp2
      go_ret2
      exact ⟨rfl, by repeat (first | exact Drawn0.refl _ | apply Drawn0.step)⟩
    · have g1 := decide_eq_false h1
      by_cases h2 : (l.length : Int) < a
      · have g2 := decide_eq_true h2
        go_enter Try.func47, Try.ntmps47
        go_wp2
        go_ret2
        exact ⟨rfl, by repeat (first | exact Drawn0.refl _ | apply Drawn0.step)⟩
      · have g2 := decide_eq_false h2
        have g3 : decide ((l.length : Int) - a < n) = true := decide_eq_true (by omega)
        have b0 : 0 ≤ a := by omega
        have b1 : a ≤ (l.length : Int) := by omega
        clear hn'
        go_enter Try.func47, Try.ntmps47
        go_wp2
        go_ret2
        exact ⟨rfl, by repeat (first | exact Drawn0.refl _ | apply Drawn0.step)⟩
set_option maxHeartbeats 2000000 in
set_option maxRecDepth 100000 in
theorem span_yes (A : Option Addr) (c : Nat) (l : List Int) (a n : Int) (i k : Nat) (hi : a = i) (hk : n = k) (w : World) (hs : Sl w A c l) (hle : i + k ≤ l.length) :
    Calls Try.prog 47 #[.slice A l.length c, .int .i64 a, .int .i64 n] w fun e w' => ∃ A', e = .returned (.tuple #[.slice A' k k, .bool true]) ∧ Drawn0 w w' ∧ ReadsInt w' .u8 A' k (sub l i k) := by
  subst hi hk
  have hl := hs.reads.2.1
  have hc := hs.cap
  have hlen := sub_length hle
  have hcut := (hs.cut i k hle).reads
  rw [hlen] at hcut
  obtain ⟨A', hA'⟩ : ∃ A', A' = (if i + k = i then A else A.map (·.add (i * 1))) := ⟨_, rfl⟩
  rw [← hA'] at hcut
  have CUT := Aside0.mk hcut
  clear hcut
  have e1 : IntKind.i64.wrap ((i : Int) + (k : Int)) = ((i + k : Nat) : Int) := by rw [i64w, wrap64_in (by omega) (by omega)]; omega
  have run : ∀ W : World, (Instr.slice 22 (.slice A l.length c) (some (.int .i64 (i : Int))) (some (.int .i64 ((i : Int) + (k : Int)))) (some (.int .i64 ((i : Int) + (k : Int))))).run Try.prog W = .ok (.slice A' k k) W := by
    intro W
    have hel : Try.prog.elem 22 = 5 := by simp [Program.elem, Try.underlying22]
    have hu : Try.prog.underlying 22 = some (.slice (Try.prog.elem 22)) := by rw [hel]; exact Try.underlying22
    have hz : (sizeOf 5).run Try.prog W = .ok 1 W := by kernel_rfl
    rw [run_slice_lhm W 22 A l.length c hu .i64 .i64 .i64 (i : Int) ((i : Int) + (k : Int)) ((i : Int) + (k : Int)) (by omega) (by omega) (by omega) (by omega), hel, hz]
    have t1 : ((i : Int) + (k : Int)).toNat = i + k := by omega
    simp only [Result.andThen, sliced, Int.toNat_natCast, t1]
    rw [hA', Nat.add_sub_cancel_left]
  clear hA' e1 hlen hs
  have RUN := Aside0.mk run
  clear run
  have g0 : decide ((i : Int) < 0) = false := decide_eq_false (by omega)
  have g1 : decide ((k : Int) < 0) = false := decide_eq_false (by omega)
  have g2 : decide (l.length < i) = false := decide_eq_false (by omega)
  have g3 : decide ((l.length : Int) - (i : Int) < (k : Int)) = false := decide_eq_false (by omega)
  have run := RUN.out
  go_enter Try.func47, Try.ntmps47
  go_wp2
  go_ret2
  exact ⟨A', rfl, by repeat (first | exact Drawn0.refl _ | apply Drawn0.step), CUT.out.below (by repeat (first | exact Below.refl _ _ | apply pw_below_drewN))⟩
end Go.Proofs.Ytipflebjooanpaa.Mem
