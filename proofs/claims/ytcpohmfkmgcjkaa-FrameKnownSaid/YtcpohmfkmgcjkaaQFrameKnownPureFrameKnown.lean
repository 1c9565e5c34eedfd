/- Proves FrameKnown: this frame's bits are just these; with others in their places it is refused as it must (no condition on the inputs). -/
import Derived.Test.YtcpohmfkmgcjkaaQFrameKnownRefs
import Derived.Test.YtcpohmfkmgcjkaaQFrameKnownPx28
namespace Go.Proofs.Ytcpohmfkmgcjkaa.Pure
open Go.RowKit Go.Proofs.Ytcpohmfkmgcjkaa.P Go.Proofs.YtcpohmfkmgcjkaaW.PrintWords Go.Proofs.YtcpohmfkmgcjkaaW.PrintLast
def knownL : List UInt8 := [49, 49, 48, 48, 48, 48, 48, 48, 48, 48, 48, 48, 48, 48, 48, 49, 48, 49, 48, 48, 48, 49, 49, 48, 49, 48, 48, 48, 48, 48, 48, 49, 49, 49]
def rowsL : List (List UInt8) := [[48, 48, 48, 48, 48, 48, 48, 48, 48, 48, 48, 48, 48, 48, 48, 49, 48, 49, 48, 48, 48, 49, 49, 48, 48, 48, 48, 48, 48, 48, 48, 48, 48, 48], [49, 49, 48, 48, 48, 48, 48, 48, 48, 48, 48, 48, 48, 48, 48, 49, 48, 49, 48, 48, 48, 49, 49, 48, 49, 49, 48, 48, 48, 48, 48, 48, 48, 48], [49, 49, 48, 48, 48, 48, 48, 48, 48, 48, 48, 48, 48, 48, 48, 49, 48, 49, 48, 48, 48, 49, 49, 48, 48, 48, 48, 48, 48, 48, 48, 48, 48, 48], [49, 49, 48, 48, 48, 48, 48, 48, 48, 48, 48, 48, 48, 48, 48, 49, 48, 49, 48, 48, 48, 49, 49, 48, 48, 49, 48, 48, 48, 48, 48, 48, 48, 49], [49, 49, 48, 48, 48, 48, 48, 48, 48, 48, 48, 48, 48, 48, 48, 49, 48, 49, 48, 48, 48, 49, 49, 48, 49, 48, 48, 48, 48, 48, 48, 49, 49, 49, 48], [49, 49, 48, 48, 48, 48, 48, 48, 48, 48, 48, 48, 48, 48, 48, 49, 48, 49, 48, 48, 48, 49, 49, 48, 49, 48, 48, 48, 48, 48, 48, 49, 49], [48, 49, 48, 48, 48, 48, 48, 48, 48, 48, 48, 48, 48, 48, 48, 49, 48, 49, 48, 48, 48, 49, 49, 48, 48, 48, 48, 48, 48, 48, 48, 48, 48, 48], [49, 49, 48, 48, 48, 48, 48, 48, 48, 48, 48, 48, 48, 48, 48, 49, 48, 49, 48, 48, 48, 49, 49, 49, 49, 48, 48, 48, 48, 48, 48, 49, 49, 49], [48, 49, 48, 48, 48, 48, 48, 48, 48, 48, 48, 48, 48, 48, 48, 49, 48, 49, 48, 48, 48, 48, 48, 49, 48, 48, 48, 48, 48, 48, 48, 48, 48, 48], [49, 49, 48, 48, 48, 48, 48, 48, 48, 48, 48, 48, 48, 48, 48, 49, 48, 49, 48, 48, 48, 48, 48, 49, 49, 48, 48, 48, 48, 48, 48, 49, 49, 49]]
def wants : List Int := [6, 1, 1, 1, 2, 3, 6, 1, 0, 2]
def rowsB : List ByteArray := ([(⟨#[48, 48, 48, 48, 48, 48, 48, 48, 48, 48, 48, 48, 48, 48, 48, 49, 48, 49, 48, 48, 48, 49, 49, 48, 48, 48, 48, 48, 48, 48, 48, 48, 48, 48]⟩ : ByteArray), (⟨#[49, 49, 48, 48, 48, 48, 48, 48, 48, 48, 48, 48, 48, 48, 48, 49, 48, 49, 48, 48, 48, 49, 49, 48]⟩ : ByteArray) ++ (⟨#[49, 49, 48, 48, 48, 48, 48, 48, 48, 48]⟩ : ByteArray), (⟨#[49, 49, 48, 48, 48, 48, 48, 48, 48, 48, 48, 48, 48, 48, 48, 49, 48, 49, 48, 48, 48, 49, 49, 48]⟩ : ByteArray) ++ (⟨#[48, 48, 48, 48, 48, 48, 48, 48, 48, 48]⟩ : ByteArray), (⟨#[49, 49, 48, 48, 48, 48, 48, 48, 48, 48, 48, 48, 48, 48, 48, 49, 48, 49, 48, 48, 48, 49, 49, 48]⟩ : ByteArray) ++ (⟨#[48, 49, 48, 48, 48, 48, 48, 48, 48, 49]⟩ : ByteArray), (⟨#[49, 49, 48, 48, 48, 48, 48, 48, 48, 48, 48, 48, 48, 48, 48, 49, 48, 49, 48, 48, 48, 49, 49, 48]⟩ : ByteArray) ++ (⟨#[49, 48, 48, 48, 48, 48, 48, 49, 49, 49, 48]⟩ : ByteArray), (⟨#[49, 49, 48, 48, 48, 48, 48, 48, 48, 48, 48, 48, 48, 48, 48, 49, 48, 49, 48, 48, 48, 49, 49, 48]⟩ : ByteArray) ++ (⟨#[49, 48, 48, 48, 48, 48, 48, 49, 49]⟩ : ByteArray), (⟨#[48, 49, 48, 48, 48, 48, 48, 48, 48, 48, 48, 48, 48, 48, 48, 49, 48, 49, 48, 48, 48, 49, 49, 48, 48, 48, 48, 48, 48, 48, 48, 48, 48, 48]⟩ : ByteArray), (⟨#[49, 49, 48, 48, 48, 48, 48, 48, 48, 48, 48, 48, 48, 48, 48, 49, 48, 49, 48, 48, 48, 49, 49, 49, 49, 48, 48, 48, 48, 48, 48, 49, 49, 49]⟩ : ByteArray), (⟨#[48, 49, 48, 48, 48, 48, 48, 48, 48, 48, 48, 48, 48, 48, 48, 49, 48, 49, 48, 48, 48, 48, 48, 49, 48, 48, 48, 48, 48, 48, 48, 48, 48, 48]⟩ : ByteArray), (⟨#[49, 49, 48, 48, 48, 48, 48, 48, 48, 48, 48, 48, 48, 48, 48, 49, 48, 49, 48, 48, 48, 48, 48, 49, 49, 48, 48, 48, 48, 48, 48, 49, 49, 49]⟩ : ByteArray)] : List ByteArray)
theorem known_bytes : (((⟨#[49, 49, 48, 48, 48, 48, 48, 48, 48, 48, 48, 48, 48, 48, 48, 49, 48, 49, 48, 48, 48, 49, 49, 48]⟩ : ByteArray) ++ (⟨#[49, 48]⟩ : ByteArray)) ++ (⟨#[48, 48, 48, 48, 48, 49, 49, 49]⟩ : ByteArray)) = ofL knownL := by decide +kernel
theorem rows_bytes : ∀ m : Nat, m < 10 → rdOf ByteArray.empty rowsB (m : Int) = ofL (rowsL.getD m []) := by decide +kernel
theorem known_bits : ∀ c ∈ knownL, isBit c = true := by decide +kernel
theorem rows_bits : ∀ m : Nat, m < 10 → ∀ c ∈ rowsL.getD m [], isBit c = true := by decide +kernel
theorem rows_length : ∀ m : Nat, m < 10 → (rowsL.getD m []).length ≤ 100 := by decide +kernel
theorem known_read : readB 6 4 0 0 0 [2] knownL = (3, 5, 6, 2, 7, [], 0) := by kernel_rfl
theorem rows_read : ∀ m : Nat, m < 10 → ((readB 6 4 0 0 0 [2] (rowsL.getD m [])).2.2.2.2.2.2 == rd wants (m : Int)) = true := by decide +kernel
theorem read_of (l : List UInt8) (hb : ∀ c ∈ l, isBit c = true) (hl : l.length ≤ 100) : frame_Read.f 6 4 0 0 0 [2] (ofL (wrapL l)) = some (readB 6 4 0 0 0 [2] l) := by
  rw [frame_Read_eq 6 4 0 0 0 [2] _ (by decide) (by decide) (by decide) (by rw [ofL_size, wrapL_length]; omega), toL_ofL]
  unfold readL
  rw [openL_wrapL l hb, if_pos rfl]
theorem FrameKnown : plaitinglaw5_FrameKnown.Pure := by
  intro a0 _
  have hm2 := mod_bounds a0 10 (by decide)
  obtain ⟨m, hm⟩ := Int.eq_ofNat_of_zero_le hm2.1
  rw [hm] at hm2
  have h10 : m < 10 := by omega
  have hW0 := r2_Wrap_eq 230 knownL (by decide) known_bits (by decide)
  have hW1 := r2_Wrap_eq 230 (rowsL.getD m []) (by have := rows_length m h10; omega) (rows_bits m h10) (by have := rows_length m h10; omega)
  have hR0 := read_of knownL known_bits (by decide)
  have hR1 := read_of (rowsL.getD m []) (rows_bits m h10) (rows_length m h10)
  have hS := frame_Same_eq 3 5 6 2 7 [] 3 5 6 2 7 [] (by decide) 300 (by decide)
  rw [known_read] at hR0
  refine ⟨300, ?_⟩
  unfold plaitinglaw5_FrameKnown.f
  rw [known5, Option.bind_some, if_pos rfl, Option.bind_some, if_pos (by decide), if_pos (by decide), known_bytes, hW0, Option.bind_some, hR0, Option.bind_some, if_pos (by decide), if_pos (by decide), if_pos (by decide), Option.bind_some, Option.bind_some]
  show ((plaitinglaw5_within.f a0 ((10 : Nat) : Int)).bind fun t => if 0 ≤ t then (if t < ((10 : Nat) : Int) then ((plaitingref2_Wrap.f 300 (rdOf ByteArray.empty rowsB t)).bind fun t25 => ((frame_Read.f 6 4 0 0 0 [2] t25).bind fun b => (if (0 : Int) = 0 then ((frame_Same.f 300 3 5 6 2 7 [] 3 5 6 2 7 []).bind fun q => (if q = true then (if t < ((10 : Nat) : Int) then (some (b.2.2.2.2.2.2 == rd wants t)) else none) else (some false))) else (some false)))) else none) else none) = some true
  rw [l5_within a0 ((10 : Nat) : Int) (by decide) (by decide), Option.bind_some, show ((10 : Nat) : Int) = 10 from rfl, hm, if_pos (by omega), if_pos (by omega), rows_bytes m h10, hW1, Option.bind_some, hR1, Option.bind_some, if_pos rfl, hS, Option.bind_some, if_pos (by decide), if_pos (by omega)]
  exact congrArg some (rows_read m h10)
end Go.Proofs.Ytcpohmfkmgcjkaa.Pure
