/- Printed by a program of this session (myprint) out of the translation: the functions as plain Lean functions, and that the calls compute them. What counts is Lean's check. -/
import Derived.Lib.OthersKept
import Derived.Lib.Strings
import Derived.Lib.ItoaWalk
import Derived.Test.YtcpohmfkmgcjkaaQFrameChecksPx0
import Derived.Test.YtcpohmfkmgcjkaaQFrameChecksPx6
import Derived.Test.YtcpohmfkmgcjkaaQFrameChecksShort
namespace Go.Proofs.Ytcpohmfkmgcjkaa.P
open Go.RowKit Go.Proofs.YtcpohmfkmgcjkaaW.PrintWords Go.Proofs.YtcpohmfkmgcjkaaW.PrintLast Go.Proofs.YtcpohmfkmgcjkaaW.PrintMore
attribute [local go_sem] max2_int min2_int max_two min_two max_three min_three max_four min_four
set_option linter.unusedVariables false
set_option linter.unusedSimpArgs false
attribute [-simp] ByteArray.size_extract ByteArray.size_append ByteArray.extract_append_extract
attribute [-go_sem] ByteArray.size_append'
def crcStep (n : Int) (c : UInt8) : Int :=
 if (n / 32768 != Go.bits .and .i64 ((c.toNat : Int) - 48) 1) = true then Go.bits .xor .i64 (Go.bits .and .i64 (wrap64 (n * 2)) 65535) 4129 else Go.bits .and .i64 (wrap64 (n * 2)) 65535
def crc_Sum.f (a0 : ByteArray) : Option Int := if a0.data.toList.all (fun c => decide (c.toNat < 128)) = true then some (a0.data.toList.foldl crcStep 65535) else none
theorem byte_all {s : ByteArray} {q : UInt8 → Prop} [DecidablePred q] (h : s.data.toList.all (fun c => decide (q c)) = true) (i : Nat) (hi : i < s.size) : q (s[i]'hi) := by
 have hL : i < s.data.toList.length := hi
 rw [List.all_eq_true] at h
 have := h (s.data.toList[i]'hL) (List.getElem_mem hL)
 exact of_decide_eq_true this
theorem byte_at (s : ByteArray) (i : Nat) (hi : i < s.size) : s.data.toList[i]'(show i < s.data.toList.length from hi) = s[i]'hi := rfl
theorem fold_snoc {α β : Type} (f : α → β → α) (a : α) (l : List β) (k : Nat) (h : k < l.length) : (l.take (k + 1)).foldl f a = f ((l.take k).foldl f a) l[k] := by
 rw [List.take_add_one, List.foldl_append, List.getElem?_eq_getElem h]
 rfl
set_option maxHeartbeats 6400000 in
set_option maxRecDepth 100000 in
theorem crc_Sum.calls (a0 : ByteArray) (r : Int) (w : World) (h : crc_Sum.f a0 = some r) :
  Calls Try.prog 79 #[.string a0] w fun e w' => e = .returned (.int .i64 r) ∧ Below w.heap.size w w' := by
 unfold crc_Sum.f at h
 split at h
 case isFalse => exact absurd h (by simp)
 case isTrue hall =>
 obtain rfl := Option.some.inj h
 clear h
 have hLn : a0.data.toList.length = a0.size := (Lib.size_eq a0).symm
 have hk0 : (w.iter a0 0).heap[w.heap.size]? = some (.stringIter a0 0) := World.iter_heap w a0 0
 have hb0 : Below w.heap.size w (w.iter a0 0) := (Below.refl _ w).alloc (by simp) _
 go_enter Try.func79, Try.ntmps79
 go_wp2
 go_loopw [3, 5, 6] (fun s3 _ _ wr => ∃ pos : Nat, pos ≤ a0.size ∧ wr.heap[w.heap.size]? = some (.stringIter a0 pos) ∧ s3 = .int .i64 ((a0.data.toList.take pos).foldl crcStep 65535) ∧ Below w.heap.size w wr)
  (fun _ _ _ wr => a0.size - wr.iterPos (w.heap.size))
 case atStart => exact ⟨0, Nat.zero_le _, hk0, rfl, hb0⟩
 case round =>
  obtain ⟨pos, hps, hk, rfl, hnx⟩ := hrel
  clear hk0 hb0
  by_cases hp : pos < a0.size
  ·
   have h128 : (a0[pos]'hp).toNat < 128 := byte_all hall pos hp
   have hnext : ∀ ty, (Instr.next (.pointer (some ⟨w.heap.size, 0, none⟩)) true ty).run Try.prog wr = _ := fun ty => Lib.run_next_ascii_at wr (w.heap.size) a0 pos ty hk hp h128
   have hk1 := Lib.iterAt_heap wr (w.heap.size) a0 pos (pos + 1) hk
   have hnx1 : Below w.heap.size w (wr.iterAt (w.heap.size) a0 (pos + 1)) := Lib.below_iterAt hnx (by omega) a0 (pos + 1)
   have hmu : wr.iterPos (w.heap.size) = pos := by simp [World.iterPos, hk]
   generalize wr.iterAt (w.heap.size) a0 (pos + 1) = W1 at hnext hk1 hnx1
   go_wp2
   all_goals
    go_roundw
    case rel =>
     refine ⟨pos + 1, by omega, hk1, ?_, hnx1⟩
     rw [fold_snoc crcStep _ _ pos (show pos < a0.data.toList.length from hp), byte_at a0 pos hp]
     unfold crcStep
     first
      | rw [if_pos (by assumption)]
      | rw [if_neg (by rw [‹(_ != _) = false›]; decide)]
    case measure =>
     have hmu2 : W1.iterPos (w.heap.size) = pos + 1 := by simp [World.iterPos, hk1]
     rw [hmu, hmu2]
     omega
  ·
   have hnext : ∀ ty, (Instr.next (.pointer (some ⟨w.heap.size, 0, none⟩)) true ty).run Try.prog wr = _ := fun ty => Lib.run_next_end_at wr (w.heap.size) a0 pos ty hk hp
   have hall2 : a0.data.toList.take pos = a0.data.toList := List.take_of_length_le (by omega)
   rw [hall2]
   go_wp2
   go_ret
   exact ⟨rfl, hnx⟩
def crc_Wrap.f (k : Nat) (a0 : ByteArray) : Option (ByteArray) := (crc_Sum.f a0).bind fun tAb => ((sym_Bits.f k tAb 16).bind fun tAa => (if a0.size + tAa.size ≤ 9223372036854775807 then (if (a0 ++ tAa).size + 1 ≤ 9223372036854775807 then (some ((a0 ++ tAa) ++ (⟨#[35]⟩ : ByteArray))) else (none)) else (none)))
set_option maxHeartbeats 8000000 in
set_option maxRecDepth 100000 in
theorem crc_Wrap.calls (k : Nat) (a0 : ByteArray) (r : ByteArray) (w : World) (h : crc_Wrap.f k a0 = some r) :
  Calls Try.prog 58 #[.string a0] w fun e w' => e = .returned (.string r) ∧ Below w.heap.size w w' := by
 have HB := Aside0.mk (Below.refl w.heap.size w)
 have H : ((crc_Sum.f a0).bind fun tAb => ((sym_Bits.f k tAb 16).bind fun tAa => (if a0.size + tAa.size ≤ 9223372036854775807 then (if (a0 ++ tAa).size + 1 ≤ 9223372036854775807 then (some ((a0 ++ tAa) ++ (⟨#[35]⟩ : ByteArray))) else (none)) else (none)))) = some r := h
 clear h
 replace H := Option.bind_eq_some_iff.mp H
 obtain ⟨tAb, A20, H⟩ := H
 replace H : ((sym_Bits.f k tAb 16).bind fun tAa => (if a0.size + tAa.size ≤ 9223372036854775807 then (if (a0 ++ tAa).size + 1 ≤ 9223372036854775807 then (some ((a0 ++ tAa) ++ (⟨#[35]⟩ : ByteArray))) else (none)) else (none))) = some r := H
 have A2 := Aside0.mk A20
 clear A20
 replace H := Option.bind_eq_some_iff.mp H
 obtain ⟨tAa, A30, H⟩ := H
 replace H : (if a0.size + tAa.size ≤ 9223372036854775807 then (if (a0 ++ tAa).size + 1 ≤ 9223372036854775807 then (some ((a0 ++ tAa) ++ (⟨#[35]⟩ : ByteArray))) else (none)) else (none)) = some r := H
 have A3 := Aside0.mk A30
 clear A30
 by_cases c4 : a0.size + tAa.size ≤ 9223372036854775807
 ·
  rw [if_pos c4] at H
  have c4b0 := eq_true c4
  have c4b1 : decide (a0.size + tAa.size ≤ 9223372036854775807) = true := decide_eq_true c4
  try have c4b2 : (9223372036854775807 < a0.size + tAa.size) = False := eq_false (Nat.not_lt.2 c4)
  by_cases c5 : (a0 ++ tAa).size + 1 ≤ 9223372036854775807
  ·
   rw [if_pos c5] at H
   have c5b0 := eq_true c5
   have c5b1 : decide ((a0 ++ tAa).size + 1 ≤ 9223372036854775807) = true := decide_eq_true c5
   try have c5b2 : (9223372036854775807 < (a0 ++ tAa).size + 1) = False := eq_false (Nat.not_lt.2 c5)
   obtain rfl := Option.some.inj H
   go_enter Try.func58, Try.ntmps58
   go_wp2_with (first | ((with_reducible refine gate_callee (f := 79) rfl ?_); refine gL_ 5 Try.func79 #[.string a0] ?_; (with_reducible refine (crc_Sum.calls a0 tAb _ A2.out).mono ?_); rintro e w6 ⟨rfl, hb⟩; refine ⟨_, rfl, ?_⟩; have n0_ := Aside0.mk (below_step (by repeat (first | (with_reducible first | exact HB.out | apply below_alloc | apply pw_below_drewN | apply below_drew1) | exact HB.out)) hb); clear HB; have HB := n0_; clear n0_; (try clear hb); (try clear hb2); (try clear hk); (try clear hi)) | ((with_reducible refine gate_callee (f := 56) rfl ?_); refine gL_ 6 Try.func56 #[.int .i64 tAb, .int .i64 16] ?_; (with_reducible refine (sym_Bits.calls k tAb 16 tAa _ A3.out).mono ?_); rintro e w7 ⟨rfl, hb⟩; refine ⟨_, rfl, ?_⟩; have n0_ := Aside0.mk (below_step (by repeat (first | (with_reducible first | exact HB.out | apply below_alloc | apply pw_below_drewN | apply below_drew1) | exact HB.out)) hb); clear HB; have HB := n0_; clear n0_; (try clear hb); (try clear hb2); (try clear hk); (try clear hi)))
   go_ret
   exact ⟨by first | rfl | (simp [errW_none, errW_some] <;> rfl) | (simp [*, errW_none, errW_some] <;> rfl), by repeat (first | (with_reducible first | exact HB.out | apply below_alloc | apply pw_below_drewN | apply below_drew1) | exact HB.out)⟩
  ·
   rw [if_neg c5] at H
   exact absurd H (by simp)
 ·
  rw [if_neg c4] at H
  exact absurd H (by simp)
end Go.Proofs.Ytcpohmfkmgcjkaa.P
