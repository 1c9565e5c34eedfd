/- Printed by a program of this session (myprint) out of the translation: the functions as plain Lean functions, and that the calls compute them. What counts is Lean's check. -/
import Derived.Test.YtcpohmfkmgcjkaaQFrameOtherPx6
namespace Go.Proofs.Ytcpohmfkmgcjkaa.P
open Go.RowKit Go.Proofs.YtcpohmfkmgcjkaaW.PrintWords Go.Proofs.YtcpohmfkmgcjkaaW.PrintLast Go.Proofs.YtcpohmfkmgcjkaaW.PrintMore
attribute [local go_sem] max2_int min2_int max_two min_two max_three min_three max_four min_four
set_option linter.unusedVariables false
set_option linter.unusedSimpArgs false
attribute [-simp] ByteArray.size_extract ByteArray.size_append ByteArray.extract_append_extract
attribute [-go_sem] ByteArray.size_append'
def crcStep (n : Int) (c : UInt8) : Int :=
 if (n / 32768 != Go.bits .and .i64 ((c.toNat : Int) - 48) 1) = true then Go.bits .xor .i64 (Go.bits .and .i64 (wrap64 (n * 2)) 65535) 4129 else Go.bits .and .i64 (wrap64 (n * 2)) 65535
def crc_Sum.f (a0 : ByteArray) : Option Int := if a0.data.toList.all (fun c => decide (c.toNat < 128)) = true then some (a0.data.toList.foldl crcStep 65535) else none
theorem byte_all {s : ByteArray} {q : UInt8 → Prop} [DecidablePred q] (h : s.data.toList.all (fun c => decide (q c)) = true) (i : Nat) (hi : i < s.size) : q (s[i]'hi) := by
 have hL : i < s.data.toList.length := hi
 rw [List.all_eq_true] at h
 have := h (s.data.toList[i]'hL) (List.getElem_mem hL)
 exact of_decide_eq_true this
theorem byte_at (s : ByteArray) (i : Nat) (hi : i < s.size) : s.data.toList[i]'(show i < s.data.toList.length from hi) = s[i]'hi := rfl
theorem fold_snoc {α β : Type} (f : α → β → α) (a : α) (l : List β) (k : Nat) (h : k < l.length) : (l.take (k + 1)).foldl f a = f ((l.take k).foldl f a) l[k] := by
 rw [List.take_add_one, List.foldl_append, List.getElem?_eq_getElem h]
 rfl
set_option maxHeartbeats 6400000 in
set_option maxRecDepth 100000 in
theorem crc_Sum.calls (a0 : ByteArray) (r : Int) (w : World) (h : crc_Sum.f a0 = some r) :
  Calls Try.prog 79 #[.string a0] w fun e w' => e = .returned (.int .i64 r) ∧ Below w.heap.size w w' := by
 unfold crc_Sum.f at h
 split at h
 case isFalse => exact absurd h (by simp)
 case isTrue hall =>
 obtain rfl := Option.some.inj h
 clear h
 have hLn : a0.data.toList.length = a0.size := (Lib.size_eq a0).symm
 have hk0 : (w.iter a0 0).heap[w.heap.size]? = some (.stringIter a0 0) := World.iter_heap w a0 0
 have hb0 : Below w.heap.size w (w.iter a0 0) := (Below.refl _ w).alloc (by simp) _
 go_enter Try.func79, Try.ntmps79
 go_wp2
 go_loopw [3, 5, 6] (fun s3 _ _ wr => ∃ pos : Nat, pos ≤ a0.size ∧ wr.heap[w.heap.size]? = some (.stringIter a0 pos) ∧ s3 = .int .i64 ((a0.data.toList.take pos).foldl crcStep 65535) ∧ Below w.heap.size w wr)
  (fun _ _ _ wr => a0.size - wr.iterPos (w.heap.size))
 case atStart => exact ⟨0, Nat.zero_le _, hk0, rfl, hb0⟩
 case round =>
  obtain ⟨pos, hps, hk, rfl, hnx⟩ := hrel
  clear hk0 hb0
  by_cases hp : pos < a0.size
  ·
   have h128 : (a0[pos]'hp).toNat < 128 := byte_all hall pos hp
   have hnext : ∀ ty, (Instr.next (.pointer (some ⟨w.heap.size, 0, none⟩)) true ty).run Try.prog wr = _ := fun ty => Lib.run_next_ascii_at wr (w.heap.size) a0 pos ty hk hp h128
   have hk1 := Lib.iterAt_heap wr (w.heap.size) a0 pos (pos + 1) hk
   have hnx1 : Below w.heap.size w (wr.iterAt (w.heap.size) a0 (pos + 1)) := Lib.below_iterAt hnx (by omega) a0 (pos + 1)
   have hmu : wr.iterPos (w.heap.size) = pos := by simp [World.iterPos, hk]
   generalize wr.iterAt (w.heap.size) a0 (pos + 1) = W1 at hnext hk1 hnx1
   go_wp2
   all_goals
    go_roundw
    case rel =>
     refine ⟨pos + 1, by omega, hk1, ?_, hnx1⟩
     rw [fold_snoc crcStep _ _ pos (show pos < a0.data.toList.length from hp), byte_at a0 pos hp]
     unfold crcStep
     first
      | rw [if_pos (by assumption)]
      | rw [if_neg (by rw [‹(_ != _) = false›]; decide)]
    case measure =>
     have hmu2 : W1.iterPos (w.heap.size) = pos + 1 := by simp [World.iterPos, hk1]
     rw [hmu, hmu2]
     omega
  ·
   have hnext : ∀ ty, (Instr.next (.pointer (some ⟨w.heap.size, 0, none⟩)) true ty).run Try.prog wr = _ := fun ty => Lib.run_next_end_at wr (w.heap.size) a0 pos ty hk hp
   have hall2 : a0.data.toList.take pos = a0.data.toList := List.take_of_length_le (by omega)
   rw [hall2]
   go_wp2
   go_ret
   exact ⟨rfl, hnx⟩
def crc_Wrap.f (k : Nat) (a0 : ByteArray) : Option (ByteArray) := (crc_Sum.f a0).bind fun tAd => ((sym_Bits.f k tAd 16).bind fun tAa => (if a0.size + tAa.size ≤ 9223372036854775807 then (if (a0 ++ tAa).size + 1 ≤ 9223372036854775807 then (some ((a0 ++ tAa) ++ (⟨#[35]⟩ : ByteArray))) else (none)) else (none)))
set_option maxHeartbeats 8000000 in
set_option maxRecDepth 100000 in
theorem crc_Wrap.calls (k : Nat) (a0 : ByteArray) (r : ByteArray) (w : World) (h : crc_Wrap.f k a0 = some r) :
  Calls Try.prog 58 #[.string a0] w fun e w' => e = .returned (.string r) ∧ Below w.heap.size w w' := by
 have HB := Aside0.mk (Below.refl w.heap.size w)
 have H : ((crc_Sum.f a0).bind fun tAd => ((sym_Bits.f k tAd 16).bind fun tAa => (if a0.size + tAa.size ≤ 9223372036854775807 then (if (a0 ++ tAa).size + 1 ≤ 9223372036854775807 then (some ((a0 ++ tAa) ++ (⟨#[35]⟩ : ByteArray))) else (none)) else (none)))) = some r := h
 clear h
 replace H := Option.bind_eq_some_iff.mp H
 obtain ⟨tAd, A20, H⟩ := H
 try dsimp only at H
 have A2 := Aside0.mk A20
 clear A20
 replace H := Option.bind_eq_some_iff.mp H
 obtain ⟨tAa, A30, H⟩ := H
 try dsimp only at H
 have A3 := Aside0.mk A30
 clear A30
 by_cases c4 : a0.size + tAa.size ≤ 9223372036854775807
 ·
  rw [if_pos c4] at H
  have c4b0 := eq_true c4
  have c4b1 : decide (a0.size + tAa.size ≤ 9223372036854775807) = true := decide_eq_true c4
  try have c4b2 : (9223372036854775807 < a0.size + tAa.size) = False := eq_false (Nat.not_lt.2 c4)
  by_cases c5 : (a0 ++ tAa).size + 1 ≤ 9223372036854775807
  ·
   rw [if_pos c5] at H
   have c5b0 := eq_true c5
   have c5b1 : decide ((a0 ++ tAa).size + 1 ≤ 9223372036854775807) = true := decide_eq_true c5
   try have c5b2 : (9223372036854775807 < (a0 ++ tAa).size + 1) = False := eq_false (Nat.not_lt.2 c5)
   obtain rfl := Option.some.inj H
   go_enter Try.func58, Try.ntmps58
   go_wp2_with (first | ((with_reducible refine gate_callee (f := 79) rfl ?_); refine gL_ 5 Try.func79 #[.string a0] ?_; (with_reducible refine (crc_Sum.calls a0 tAd _ A2.out).mono ?_); rintro e w6 ⟨rfl, hb⟩; refine ⟨_, rfl, ?_⟩; have n0_ := bs_ HB hb; clear HB; have HB := n0_; clear n0_; (try clear hb); (try clear hb2); (try clear hk); (try clear hi)) | ((with_reducible refine gate_callee (f := 56) rfl ?_); refine gL_ 6 Try.func56 #[.int .i64 tAd, .int .i64 16] ?_; (with_reducible refine (sym_Bits.calls k tAd 16 tAa _ A3.out).mono ?_); rintro e w7 ⟨rfl, hb⟩; refine ⟨_, rfl, ?_⟩; have n0_ := bs_ HB hb; clear HB; have HB := n0_; clear n0_; (try clear hb); (try clear hb2); (try clear hk); (try clear hi)))
   go_ret
   exact ⟨by first | rfl | (simp [errW_none, errW_some] <;> rfl) | (simp [*, errW_none, errW_some] <;> rfl), pH_ HB.out⟩
  ·
   rw [if_neg c5] at H
   exact absurd H (by simp)
 ·
  rw [if_neg c4] at H
  exact absurd H (by simp)
def crc_Open.f (k : Nat) (a0 : ByteArray) : Option (ByteArray × Int) := (sym_Whole.f a0).bind fun tAe => (if tAe = true then (if (wrap64 ((wrap64 ((a0.size : Int) - 1)) - 16)) < 0 then (some ((⟨#[]⟩ : ByteArray), 3)) else (if 0 ≤ (wrap64 ((wrap64 ((a0.size : Int) - 1)) - 16)) then (if (wrap64 ((wrap64 ((a0.size : Int) - 1)) - 16)) ≤ (a0.size : Int) then ((crc_Sum.f (a0.extract 0 ((wrap64 ((wrap64 ((a0.size : Int) - 1)) - 16)) : Int).toNat)).bind fun tAc => ((sym_Bits.f k tAc 16).bind fun tAb => (if (wrap64 ((wrap64 ((a0.size : Int) - 1)) - 16)) ≤ (wrap64 ((a0.size : Int) - 1)) then (if (wrap64 ((a0.size : Int) - 1)) ≤ (a0.size : Int) then (if tAb.toList = (a0.extract ((wrap64 ((wrap64 ((a0.size : Int) - 1)) - 16)) : Int).toNat ((wrap64 ((a0.size : Int) - 1)) : Int).toNat).toList then (some (a0.extract 0 ((wrap64 ((wrap64 ((a0.size : Int) - 1)) - 16)) : Int).toNat, 0)) else (some ((⟨#[]⟩ : ByteArray), 5))) else (none)) else (none)))) else (none)) else (none))) else (some ((⟨#[]⟩ : ByteArray), 4)))
def crc_Open.T6 : Bool × List (List Nat × List Nat) := (true, [([], []), ([], []), ([0, 1], [0, 1]), ([2], [2]), ([3, 3], [3]), ([], []), ([], []), ([], []), ([7], [7]), ([8], [8]), ([5, 6, 9], [5, 6, 9]), ([4, 10], [4, 10])])
def crc_Open.B6 : List Nat := [0, 0, 3, 7, 15, 0, 0, 0, 128, 384, 992, 2047]
theorem crc_Open.tab6 : rtab .any (opsOf Try.f66 6) = crc_Open.T6 := by kernel_rfl
theorem crc_Open.bits6 : waitsOk crc_Open.T6.2 crc_Open.B6 = true := by kernel_rfl
set_option maxHeartbeats 8000000 in
set_option maxRecDepth 100000 in
theorem crc_Open.calls (k : Nat) (a0 : ByteArray) (r1 : ByteArray) (r2 : Int) (w : World) (h : crc_Open.f k a0 = some (r1, r2)) :
  Calls Try.prog 66 #[.string a0] w fun e w' => e = .returned (.tuple #[.string r1, .int .i64 r2]) ∧ Below w.heap.size w w' := by
 have HB := Aside0.mk (Below.refl w.heap.size w)
 have H : ((sym_Whole.f a0).bind fun tAe => (if tAe = true then (if (wrap64 ((wrap64 ((a0.size : Int) - 1)) - 16)) < 0 then (some ((⟨#[]⟩ : ByteArray), 3)) else (if 0 ≤ (wrap64 ((wrap64 ((a0.size : Int) - 1)) - 16)) then (if (wrap64 ((wrap64 ((a0.size : Int) - 1)) - 16)) ≤ (a0.size : Int) then ((crc_Sum.f (a0.extract 0 ((wrap64 ((wrap64 ((a0.size : Int) - 1)) - 16)) : Int).toNat)).bind fun tAc => ((sym_Bits.f k tAc 16).bind fun tAb => (if (wrap64 ((wrap64 ((a0.size : Int) - 1)) - 16)) ≤ (wrap64 ((a0.size : Int) - 1)) then (if (wrap64 ((a0.size : Int) - 1)) ≤ (a0.size : Int) then (if tAb.toList = (a0.extract ((wrap64 ((wrap64 ((a0.size : Int) - 1)) - 16)) : Int).toNat ((wrap64 ((a0.size : Int) - 1)) : Int).toNat).toList then (some (a0.extract 0 ((wrap64 ((wrap64 ((a0.size : Int) - 1)) - 16)) : Int).toNat, 0)) else (some ((⟨#[]⟩ : ByteArray), 5))) else (none)) else (none)))) else (none)) else (none))) else (some ((⟨#[]⟩ : ByteArray), 4)))) = some (r1, r2) := h
 clear h
 replace H := Option.bind_eq_some_iff.mp H
 obtain ⟨tAe, A20, H⟩ := H
 try dsimp only at H
 have A2 := Aside0.mk A20
 clear A20
 by_cases c3 : tAe = true
 ·
  subst c3
  have H1 : (if (wrap64 ((wrap64 ((a0.size : Int) - 1)) - 16)) < 0 then (some ((⟨#[]⟩ : ByteArray), 3)) else (if 0 ≤ (wrap64 ((wrap64 ((a0.size : Int) - 1)) - 16)) then (if (wrap64 ((wrap64 ((a0.size : Int) - 1)) - 16)) ≤ (a0.size : Int) then ((crc_Sum.f (a0.extract 0 ((wrap64 ((wrap64 ((a0.size : Int) - 1)) - 16)) : Int).toNat)).bind fun tAc => ((sym_Bits.f k tAc 16).bind fun tAb => (if (wrap64 ((wrap64 ((a0.size : Int) - 1)) - 16)) ≤ (wrap64 ((a0.size : Int) - 1)) then (if (wrap64 ((a0.size : Int) - 1)) ≤ (a0.size : Int) then (if tAb.toList = (a0.extract ((wrap64 ((wrap64 ((a0.size : Int) - 1)) - 16)) : Int).toNat ((wrap64 ((a0.size : Int) - 1)) : Int).toNat).toList then (some (a0.extract 0 ((wrap64 ((wrap64 ((a0.size : Int) - 1)) - 16)) : Int).toNat, 0)) else (some ((⟨#[]⟩ : ByteArray), 5))) else (none)) else (none)))) else (none)) else (none))) = some (r1, r2) := by rw [if_pos rfl] at H; exact H
  clear H
  have H := H1
  clear H1
  by_cases c4 : (wrap64 ((wrap64 ((a0.size : Int) - 1)) - 16)) < 0
  ·
   rw [if_pos c4] at H
   have c4b0 : decide ((wrap64 ((wrap64 ((a0.size : Int) - 1)) - 16)) < 0) = true := decide_eq_true c4
   clear c4
   simp only [Option.some.injEq, Prod.mk.injEq] at H
   obtain ⟨rfl, rfl⟩ := H
   go_enter Try.func66, Try.ntmps66
   go_wp2_with (first | ((with_reducible refine gate_callee (f := 81) rfl ?_); refine gL_ 6 Try.func81 #[.string a0] ?_; (with_reducible refine (sym_Whole.calls a0 true _ A2.out).mono ?_); rintro e w5 ⟨rfl, hb⟩; refine ⟨_, rfl, ?_⟩; have n0_ := bs_ HB hb; clear HB; have HB := n0_; clear n0_; (try clear hb); (try clear hb2); (try clear hk); (try clear hi)))
   go_ret2
   exact ⟨by first | rfl | (simp [errW_none, errW_some] <;> rfl) | (simp [*, errW_none, errW_some] <;> rfl), pH_ HB.out⟩
  ·
   rw [if_neg c4] at H
   have c4b0 : decide ((wrap64 ((wrap64 ((a0.size : Int) - 1)) - 16)) < 0) = false := decide_eq_false c4
   clear c4
   obtain ⟨ji6, hji6⟩ : ∃ j_ : Int, (wrap64 ((wrap64 ((a0.size : Int) - 1)) - 16)) = j_ := ⟨_, rfl⟩
   replace H : (if 0 ≤ (ji6) then (if (ji6) ≤ (a0.size : Int) then ((crc_Sum.f (a0.extract 0 ((ji6) : Int).toNat)).bind fun tAc => ((sym_Bits.f k tAc 16).bind fun tAb => (if (ji6) ≤ (wrap64 ((a0.size : Int) - 1)) then (if (wrap64 ((a0.size : Int) - 1)) ≤ (a0.size : Int) then (if tAb.toList = (a0.extract ((ji6) : Int).toNat ((wrap64 ((a0.size : Int) - 1)) : Int).toNat).toList then (some (a0.extract 0 ((ji6) : Int).toNat, 0)) else (some ((⟨#[]⟩ : ByteArray), 5))) else (none)) else (none)))) else (none)) else (none)) = some (r1, r2) := by first | (rw [hji6] at H; exact H) | (simp only [hji6] at H ⊢; exact H)
   (try rw [hji6] at c4b0)
   (try rw [hji6] at A2)
   have hji6w : (IntKind.i64.wrap ((wrap64 ((a0.size : Int) - 1)) - 16)) = ji6 := (i64_w _).trans hji6
   by_cases c7 : 0 ≤ (ji6)
   ·
    rw [if_pos c7] at H
    have c7b0 := eq_true c7
    have c7b1 : decide (0 ≤ (ji6)) = true := decide_eq_true c7
    clear c7
    by_cases c8 : (ji6) ≤ (a0.size : Int)
    ·
     rw [if_pos c8] at H
     have c8b0 := eq_true c8
     have c8b1 : decide ((ji6) ≤ (a0.size : Int)) = true := decide_eq_true c8
     clear c8
     replace H := Option.bind_eq_some_iff.mp H
     obtain ⟨tAc, A90, H⟩ := H
     try dsimp only at H
     have A9 := Aside0.mk A90
     clear A90
     replace H := Option.bind_eq_some_iff.mp H
     obtain ⟨tAb, A100, H⟩ := H
     try dsimp only at H
     have A10 := Aside0.mk A100
     clear A100
     have c11b0 := eq_true (of_decide_eq_true (by first | (with_reducible assumption) | assumption) : 0 ≤ (ji6))
     by_cases c12 : (ji6) ≤ (wrap64 ((a0.size : Int) - 1))
     ·
      rw [if_pos c12] at H
      have c12b0 := eq_true c12
      have c12b1 : decide ((ji6) ≤ (wrap64 ((a0.size : Int) - 1))) = true := decide_eq_true c12
      clear c12
      by_cases c13 : (wrap64 ((a0.size : Int) - 1)) ≤ (a0.size : Int)
      ·
       rw [if_pos c13] at H
       have c13b0 := eq_true c13
       have c13b1 : decide ((wrap64 ((a0.size : Int) - 1)) ≤ (a0.size : Int)) = true := decide_eq_true c13
       clear c13
       by_cases c14 : tAb.toList = (a0.extract ((ji6) : Int).toNat ((wrap64 ((a0.size : Int) - 1)) : Int).toNat).toList
       ·
        rw [if_pos c14] at H
        have c14b0 : (tAb.toList == (a0.extract ((ji6) : Int).toNat ((wrap64 ((a0.size : Int) - 1)) : Int).toNat).toList) = true := beq_iff_eq.mpr c14
        have c14b1 : (tAb.toList != (a0.extract ((ji6) : Int).toNat ((wrap64 ((a0.size : Int) - 1)) : Int).toNat).toList) = false := bne_eq_false_iff_eq.mpr c14
        clear c14
        have c15b0 := eq_true (of_decide_eq_true (by first | (with_reducible assumption) | assumption) : 0 ≤ (ji6))
        have c16b0 := eq_true (of_decide_eq_true (by first | (with_reducible assumption) | assumption) : (ji6) ≤ (a0.size : Int))
        simp only [Option.some.injEq, Prod.mk.injEq] at H
        obtain ⟨rfl, rfl⟩ := H
        go_enter Try.func66, Try.ntmps66
        try go_wp2_with (first | ((with_reducible refine gate_callee (f := 81) rfl ?_); refine gL_ 6 Try.func81 #[.string a0] ?_; (with_reducible refine (sym_Whole.calls a0 true _ A2.out).mono ?_); rintro e w17 ⟨rfl, hb⟩; refine ⟨_, rfl, ?_⟩; have n0_ := bs_ HB hb; clear HB; have HB := n0_; clear n0_; (try clear hb); (try clear hb2); (try clear hk); (try clear hi)))
        have n0_ := Aside0.mk (below_drew1 HB.out)
        clear HB
        have HB := n0_
        clear n0_
        refine start_ (n := 12) (S := fun w' => True) (ds := []) #[false, false, false, false, false, false, false, false, false, false, false, false] (by kernel_rfl) rfl rfl trivial (fun hHeld => ?_); refine with_tabW crc_Open.tab6 crc_Open.bits6 (fun HT_ HW_ => ?_)
        generalize w17.drew = w18 at HB hHeld ⊢
        refine pq_ 0 14 HT_ ?_
        refine pq_ 1 15 HT_ ?_
        refine pq_ 2 16 HT_ ?_
        refine pq_ 5 19 HT_ ?_
        refine pq_ 6 20 HT_ ?_
        refine pq_ 7 21 HT_ ?_
        refine pq_ 8 22 HT_ ?_
        refine pq_ 9 23 HT_ ?_
        refine pq_ 10 24 HT_ ?_
        refine oq_ 3 17 HT_ (fun K hK => ?_)
        refine goes_ Try.func79 (by kernel_rfl) rfl #[.string (a0.extract 0 ((ji6) : Int).toNat)] (by rfl) rfl rfl (by (try simp only [List.map_toArray, List.map_cons, List.map_nil]); first | done | (simp only [hji6]; rfl) | rfl | (simp only [List.length_drop, List.length_take]; rfl)) ?_
        with_reducible refine (crc_Sum.calls (a0.extract 0 ((ji6) : Int).toNat) tAc _ A9.out).mono ?_
        rintro e w19 ⟨rfl, hb⟩
        refine ⟨_, rfl, ?_⟩
        have n0_ := bs_ HB hb
        clear HB
        have HB := n0_
        clear n0_
        (try clear hb)
        (try clear hb2)
        (try clear hk)
        (try clear hi)
        refine hK.out _ _ trivial (fun hHeld => ?_)
        clear hK K
        refine nq_ 17 ?_
        refine oq_ 4 18 HT_ (fun K hK => ?_)
        refine gs_ Try.func56 #[.int .i64 tAc, .int .i64 16] ?_
        with_reducible refine (sym_Bits.calls k tAc 16 tAb _ A10.out).mono ?_
        rintro e w20 ⟨rfl, hb⟩
        refine ⟨_, rfl, ?_⟩
        have n0_ := bs_ HB hb
        clear HB
        have HB := n0_
        clear n0_
        (try clear hb)
        (try clear hb2)
        (try clear hk)
        (try clear hi)
        refine hK.out _ _ trivial (fun hHeld => ?_)
        clear hK K
        refine nq_ 18 ?_
        refine pq_ 11 25 HT_ ?_
        refine done_ (done_of HT_.out (by kernel_rfl)) ?_
        try go_wp2
        go_ret2
        exact ⟨by first | rfl | (simp [errW_none, errW_some] <;> rfl) | (simp only [← hji6]; first | rfl | (simp [errW_none, errW_some] <;> rfl)) | (simp [*, errW_none, errW_some] <;> rfl), pH_ HB.out⟩
       ·
        rw [if_neg c14] at H
        have c14b0 : (tAb.toList == (a0.extract ((ji6) : Int).toNat ((wrap64 ((a0.size : Int) - 1)) : Int).toNat).toList) = false := beq_eq_false_iff_ne.mpr c14
        have c14b1 : (tAb.toList != (a0.extract ((ji6) : Int).toNat ((wrap64 ((a0.size : Int) - 1)) : Int).toNat).toList) = true := bne_iff_ne.mpr c14
        simp only [Option.some.injEq, Prod.mk.injEq] at H
        obtain ⟨rfl, rfl⟩ := H
        go_enter Try.func66, Try.ntmps66
        try go_wp2_with (first | ((with_reducible refine gate_callee (f := 81) rfl ?_); refine gL_ 6 Try.func81 #[.string a0] ?_; (with_reducible refine (sym_Whole.calls a0 true _ A2.out).mono ?_); rintro e w21 ⟨rfl, hb⟩; refine ⟨_, rfl, ?_⟩; have n0_ := bs_ HB hb; clear HB; have HB := n0_; clear n0_; (try clear hb); (try clear hb2); (try clear hk); (try clear hi)))
        have n0_ := Aside0.mk (below_drew1 HB.out)
        clear HB
        have HB := n0_
        clear n0_
        refine start_ (n := 12) (S := fun w' => True) (ds := []) #[false, false, false, false, false, false, false, false, false, false, false, false] (by kernel_rfl) rfl rfl trivial (fun hHeld => ?_); refine with_tabW crc_Open.tab6 crc_Open.bits6 (fun HT_ HW_ => ?_)
        generalize w21.drew = w22 at HB hHeld ⊢
        refine pq_ 0 14 HT_ ?_
        refine pq_ 1 15 HT_ ?_
        refine pq_ 2 16 HT_ ?_
        refine pq_ 5 19 HT_ ?_
        refine pq_ 6 20 HT_ ?_
        refine pq_ 7 21 HT_ ?_
        refine pq_ 8 22 HT_ ?_
        refine pq_ 9 23 HT_ ?_
        refine pq_ 10 24 HT_ ?_
        refine oq_ 3 17 HT_ (fun K hK => ?_)
        refine goes_ Try.func79 (by kernel_rfl) rfl #[.string (a0.extract 0 ((ji6) : Int).toNat)] (by rfl) rfl rfl (by (try simp only [List.map_toArray, List.map_cons, List.map_nil]); first | done | (simp only [hji6]; rfl) | rfl | (simp only [List.length_drop, List.length_take]; rfl)) ?_
        with_reducible refine (crc_Sum.calls (a0.extract 0 ((ji6) : Int).toNat) tAc _ A9.out).mono ?_
        rintro e w23 ⟨rfl, hb⟩
        refine ⟨_, rfl, ?_⟩
        have n0_ := bs_ HB hb
        clear HB
        have HB := n0_
        clear n0_
        (try clear hb)
        (try clear hb2)
        (try clear hk)
        (try clear hi)
        refine hK.out _ _ trivial (fun hHeld => ?_)
        clear hK K
        refine nq_ 17 ?_
        refine oq_ 4 18 HT_ (fun K hK => ?_)
        refine gs_ Try.func56 #[.int .i64 tAc, .int .i64 16] ?_
        with_reducible refine (sym_Bits.calls k tAc 16 tAb _ A10.out).mono ?_
        rintro e w24 ⟨rfl, hb⟩
        refine ⟨_, rfl, ?_⟩
        have n0_ := bs_ HB hb
        clear HB
        have HB := n0_
        clear n0_
        (try clear hb)
        (try clear hb2)
        (try clear hk)
        (try clear hi)
        refine hK.out _ _ trivial (fun hHeld => ?_)
        clear hK K
        refine nq_ 18 ?_
        refine pq_ 11 25 HT_ ?_
        refine done_ (done_of HT_.out (by kernel_rfl)) ?_
        try go_wp2
        go_ret2
        exact ⟨by first | rfl | (simp [errW_none, errW_some] <;> rfl) | (simp only [← hji6]; first | rfl | (simp [errW_none, errW_some] <;> rfl)) | (simp [*, errW_none, errW_some] <;> rfl), pH_ HB.out⟩
      ·
       rw [if_neg c13] at H
       exact absurd H (by simp)
     ·
      rw [if_neg c12] at H
      exact absurd H (by simp)
    ·
     rw [if_neg c8] at H
     exact absurd H (by simp)
   ·
    rw [if_neg c7] at H
    exact absurd H (by simp)
 ·
  replace c3 := Bool.eq_false_iff.mpr c3
  subst c3
  have H1 : (some ((⟨#[]⟩ : ByteArray), 4)) = some (r1, r2) := by rw [if_neg (show ¬ (false = true) by decide)] at H; exact H
  clear H
  have H := H1
  clear H1
  simp only [Option.some.injEq, Prod.mk.injEq] at H
  obtain ⟨rfl, rfl⟩ := H
  go_enter Try.func66, Try.ntmps66
  go_wp2_with (first | ((with_reducible refine gate_callee (f := 81) rfl ?_); refine gL_ 6 Try.func81 #[.string a0] ?_; (with_reducible refine (sym_Whole.calls a0 false _ A2.out).mono ?_); rintro e w25 ⟨rfl, hb⟩; refine ⟨_, rfl, ?_⟩; have n0_ := bs_ HB hb; clear HB; have HB := n0_; clear n0_; (try clear hb); (try clear hb2); (try clear hk); (try clear hi)))
  go_ret2
  exact ⟨by first | rfl | (simp [errW_none, errW_some] <;> rfl) | (simp [*, errW_none, errW_some] <;> rfl), pH_ HB.out⟩
end Go.Proofs.Ytcpohmfkmgcjkaa.P
