/- The calls of package mem, at what they answer by name; a row's slice opened. No condition beyond a slice's own bound. -/
import Derived.Test.YtipflebjooanpaaMemMath
namespace Go.Proofs.Ytipflebjooanpaa.Mem
open Go.RowKit Go.Proofs.YtipflebjooanpaaW.PrintWords Go.Proofs.YtipflebjooanpaaW.PrintLast Go.Proofs.YtipflebjooanpaaW.PrintMore Go.Proofs.Ytipflebjooanpaa.Arith

theorem byt_wf {l : List Int} (h : ∀ x ∈ l, (Lit.int .u8 x).wf = true) : Byt l := fun x hx => by
  have := h x hx
  simp only [Lit.wf, IntKind.min, IntKind.max, IntKind.signed, IntKind.bits, Bool.and_eq_true] at this
  simp at this
  omega
/-- What a row hands over. -/
theorem row_opens {A : Option Addr} {len c : Nat} {zs : List Int} {w : World}
    (hrow : (A = none ∧ len = 0 ∧ c = 0 ∧ zs = []) ∨ ∃ x, A = some x ∧ len ≤ c ∧ c ≤ maxLen ∧ zs.length = c ∧ (∀ i, i < zs.length → w.cell? (x.add i) = some (.int .u8 (zs.getD i 0))) ∧ ∀ n ∈ zs, (Lit.int .u8 n).wf = true)
    (hy : len * 1 ≤ 140737488351232) : ∃ l : List Int, len = l.length ∧ Sl w A c l ∧ Byt l ∧ l.length ≤ 140737488355328 := by
  obtain ⟨l, rfl, hr, _, hw, hc⟩ := ReadsInt.ofRowC hrow
  exact ⟨l, rfl, ⟨hr, hc⟩, byt_wf hw, by omega⟩
theorem Sl.strN {w : World} {A : Option Addr} {c : Nat} {l : List Int} (h : Sl w A c l) (n : Nat) : (convert 22 9 (.slice A l.length c)).run Try.prog (w.drewN n) = .ok (.string (strOfNums l)) (w.drewN n) := (h.drawnN n).str
theorem get_as (A : Option Addr) (c : Nat) (l : List Int) (a v g : Int) (hv : getV l a = v) (hg : getE l a = g) (w : World) (hs : Sl w A c l) (hy : Byt l) :
    Calls Try.prog 20 #[.slice A l.length c, .int .i64 a] w fun e w' => e = .returned (.tuple #[.int .i64 v, .int .i64 g]) ∧ Drawn0 w w' := by
  subst hv hg
  exact get_call A c l a w hs hy
theorem byte_as (A : Option Addr) (c : Nat) (l : List Int) (a v g : Int) (hv : byteV l a = v) (hg : isE (thereB l a 1) = g) (w : World) (hs : Sl w A c l) :
    Calls Try.prog 24 #[.slice A l.length c, .int .i64 a] w fun e w' => e = .returned (.tuple #[.int .i64 v, .int .i64 g]) ∧ Drawn0 w w' := by
  subst hv hg
  exact byte_call A c l a w hs
theorem text_as (A : Option Addr) (c : Nat) (l : List Int) (a n : Int) (s : List Int) (g : Int) (hv : textL l a n = s) (hg : isE (thereB l a n) = g) (w : World) (hs : Sl w A c l) :
    Calls Try.prog 19 #[.slice A l.length c, .int .i64 a, .int .i64 n] w fun e w' => e = .returned (.tuple #[.string (strOfNums s), .int .i64 g]) ∧ Drawn0 w w' := by
  subst hv hg
  exact text_call A c l a n w hs
theorem put_as (A : Option Addr) (c : Nat) (l : List Int) (a x : Int) (p : List Int) (g : Int) (hp : putL l a x = p) (hg : getE l a = g) (w : World) (hs : Sl w A c l) (hl : l.length ≤ 140737488355328) :
    Calls Try.prog 22 #[.slice A l.length c, .int .i64 a, .int .i64 x] w fun e w' => ∃ A' c', e = .returned (.tuple #[.slice A' p.length c', .int .i64 g]) ∧ Below w.heap.size w w' ∧ Sl w' A' c' p := by
  subst hp hg
  exact put_call A c l a x w hs hl
theorem move_as (A : Option Addr) (c : Nat) (l : List Int) (f t n : Int) (p : List Int) (g : Int) (hp : moveL l f t n = p) (hg : isE (moveB l f t n) = g) (w : World) (hs : Sl w A c l) (hl : l.length ≤ 140737488355328) :
    Calls Try.prog 17 #[.slice A l.length c, .int .i64 f, .int .i64 t, .int .i64 n] w fun e w' => ∃ A' c', e = .returned (.tuple #[.slice A' p.length c', .int .i64 g]) ∧ Below w.heap.size w w' ∧ Sl w' A' c' p := by
  subst hp hg
  exact move_call A c l f t n w hs hl
theorem fill_as (A : Option Addr) (c : Nat) (l : List Int) (a n x : Int) (p : List Int) (g : Int) (hp : fillL l a n x = p) (hg : isE (thereB l a n) = g) (w : World) (hs : Sl w A c l) (hl : l.length ≤ 8192) :
    Calls Try.prog 18 #[.slice A l.length c, .int .i64 a, .int .i64 n, .int .i64 x] w fun e w' => ∃ A' c', e = .returned (.tuple #[.slice A' p.length c', .int .i64 g]) ∧ Below w.heap.size w w' ∧ Sl w' A' c' p := by
  subst hp hg
  exact fill_call A c l a n x w hs hl
theorem putbyte_as (A : Option Addr) (c : Nat) (l : List Int) (a x : Int) (p : List Int) (g : Int) (hp : fillL l a 1 x = p) (hg : isE (thereB l a 1) = g) (w : World) (hs : Sl w A c l) (hl : l.length ≤ 8192) :
    Calls Try.prog 30 #[.slice A l.length c, .int .i64 a, .int .i64 x] w fun e w' => ∃ A' c', e = .returned (.tuple #[.slice A' p.length c', .int .i64 g]) ∧ Below w.heap.size w w' ∧ Sl w' A' c' p := by
  subst hp hg
  exact putbyte_call A c l a x w hs hl
theorem fill_len (l : List Int) (a n x : Int) : (fillL l a n x).length = l.length := by
  unfold fillL
  split
  · rename_i h
    have ht := there_true.1 h
    exact with_length (by rw [List.length_replicate]; omega)
  · rfl
theorem move_len (l : List Int) (f t n : Int) : (moveL l f t n).length = l.length := by
  unfold moveL
  split
  · rename_i h
    unfold moveB at h
    rw [Bool.and_eq_true] at h
    obtain ⟨_, _, h1⟩ := there_nat h.1
    obtain ⟨_, _, h2⟩ := there_nat h.2
    exact with_length (by rw [sub_length h1]; exact h2)
  · rfl
theorem move_true {l : List Int} {f t n : Int} : moveB l f t n = true ↔ thereB l f n = true ∧ thereB l t n = true := by unfold moveB; rw [Bool.and_eq_true]
theorem isE_true {b : Bool} (h : b = true) : isE b = 0 := by rw [h]; rfl
theorem isE_false {b : Bool} (h : b = false) : isE b = -9 := by rw [h]; rfl
end Go.Proofs.Ytipflebjooanpaa.Mem
