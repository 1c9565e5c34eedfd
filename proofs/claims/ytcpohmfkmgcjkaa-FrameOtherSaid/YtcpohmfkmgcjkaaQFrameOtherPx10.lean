/- Printed by a program of this session (myprint) out of the translation: the functions as plain Lean functions, and that the calls compute them. What counts is Lean's check. -/
import Derived.Test.YtcpohmfkmgcjkaaQFrameOtherPx9
import Derived.Test.YtcpohmfkmgcjkaaQFrameOtherShort
namespace Go.Proofs.Ytcpohmfkmgcjkaa.P
open Go.RowKit Go.Proofs.YtcpohmfkmgcjkaaW.PrintWords Go.Proofs.YtcpohmfkmgcjkaaW.PrintLast Go.Proofs.YtcpohmfkmgcjkaaW.PrintMore
attribute [local go_sem] max2_int min2_int max_two min_two max_three min_three max_four min_four
set_option linter.unusedVariables false
set_option linter.unusedSimpArgs false
attribute [-simp] ByteArray.size_extract ByteArray.size_append ByteArray.extract_append_extract
attribute [-go_sem] ByteArray.size_append'
mutual
def plaitinglaw3_Make.j0 : Nat → Int → Int → Int → Int → Int → List Int → Int → Int → Int → Int → Int → Option (Int × Int × Int × Int × Int × List Int)
 | 0, _, _, _, _, _, _, _, _, _, _, _ => none
 | k + 1, xAc000, xAc001, xAc002, xAc003, xAc004, xAc005, xAd000, xAd001, xAd002, xAd003, xAd004 => (plaitinglaw3_within.f xAc001 100).bind fun tAi => (plaitinglaw3_Make.l0 k 0 xAc000 xAc001 xAc002 xAc003 xAc004 xAc005 xAd000 (wrap64 ((wrap64 (4 * (wrap64 ((wrap64 (xAd002 + xAd003)) + 1)))) + tAi)) xAd002 xAd003 xAd004 ([] : List Int))
def plaitinglaw3_Make.l0 : Nat → Int → Int → Int → Int → Int → Int → List Int → Int → Int → Int → Int → Int → List Int → Option (Int × Int × Int × Int × Int × List Int)
 | 0, _, _, _, _, _, _, _, _, _, _, _, _, _ => none
 | k + 1, x4, xAc000, xAc001, xAc002, xAc003, xAc004, xAc005, xAd000, xAd001, xAd002, xAd003, xAd004, xAd005 => if x4 < (xAc005.length : Int) then (if x4 < 3 then (if 0 ≤ x4 then ((plaitinglaw3_within.f (rd xAc005 x4) (wrap64 (xAd000 + 1))).bind fun tAn => (if xAd005.length < 17592186044416 then (plaitinglaw3_Make.l0 k (wrap64 (x4 + 1)) xAc000 xAc001 xAc002 xAc003 xAc004 xAc005 xAd000 xAd001 xAd002 xAd003 xAd004 (xAd005 ++ [wrap64 (tAn - 1)])) else (none))) else (none)) else (some (xAd000, xAd001, xAd002, xAd003, xAd004, xAd005))) else (some (xAd000, xAd001, xAd002, xAd003, xAd004, xAd005))
end
def plaitinglaw3_Make.f (k : Nat) (a0_0 : Int) (a0_1 : Int) (a0_2 : Int) (a0_3 : Int) (a0_4 : Int) (l0_5 : List Int) : Option (Int × Int × Int × Int × Int × List Int) := (plaitinglaw3_within.f a0_0 7).bind fun tAe => ((plaitinglaw3_within.f a0_2 21).bind fun tAf => ((plaitinglaw3_within.f a0_3 21).bind fun tAg => ((plaitinglaw3_within.f a0_4 65536).bind fun tAj => ((plaitinglaw3_within.f a0_4 3).bind fun tAd => (if tAd = 0 then ((plaitinglaw3_within.f a0_4 40).bind fun tAm => (plaitinglaw3_Make.j0 k a0_0 a0_1 a0_2 a0_3 a0_4 l0_5 (wrap64 (6 + tAe)) 0 tAf tAg (wrap64 (65535 - tAm)))) else (plaitinglaw3_Make.j0 k a0_0 a0_1 a0_2 a0_3 a0_4 l0_5 (wrap64 (6 + tAe)) 0 tAf tAg tAj))))))
def plaitinglaw3_Make.T1 : Bool × List (List Nat × List Nat) := (true, [([], []), ([0], [0]), ([1], [1]), ([2], [2]), ([], []), ([4], [4]), ([5, 2], [5]), ([], []), ([7], [7]), ([8, 6], [8]), ([], []), ([10], [10]), ([11, 9], [11]), ([3, 6, 9, 12], [3, 6, 9, 12]), ([], []), ([14, 13, 12, 0, 1, 2, 3, 4, 5, 6, 7, 8, 9, 10, 11, 12, 13, 14], [13, 14])])
def plaitinglaw3_Make.B1 : List Nat := [0, 1, 3, 7, 0, 16, 55, 0, 128, 503, 0, 1024, 4087, 8191, 0, 32767]
theorem plaitinglaw3_Make.tab1 : rtab .any (opsOf Try.f20 1) = plaitinglaw3_Make.T1 := by kernel_rfl
theorem plaitinglaw3_Make.bits1 : waitsOk plaitinglaw3_Make.T1.2 plaitinglaw3_Make.B1 = true := by kernel_rfl
def plaitinglaw3_Make.T4 : Bool × List (List Nat × List Nat) := (true, [([], []), ([0], [0]), ([], []), ([2], [2]), ([1, 3], [1, 3]), ([4], [4]), ([5], [5]), ([], []), ([7], [7]), ([8], [8]), ([6, 9], [6, 9]), ([0, 1, 2, 3, 4, 5, 6, 7, 8, 9, 10], []), ([11, 10, 9, 0, 1, 2, 3, 4, 5, 6, 7, 8, 9, 10], [10, 11])])
def plaitinglaw3_Make.B4 : List Nat := [0, 1, 0, 4, 15, 31, 63, 0, 128, 384, 1023, 2047, 4095]
theorem plaitinglaw3_Make.tab4 : rtab .any (opsOf Try.f20 4) = plaitinglaw3_Make.T4 := by kernel_rfl
theorem plaitinglaw3_Make.bits4 : waitsOk plaitinglaw3_Make.T4.2 plaitinglaw3_Make.B4 = true := by kernel_rfl
def plaitinglaw3_Make.T8 : Bool × List (List Nat × List Nat) := (true, [([], []), ([0], [0]), ([], []), ([2], [2]), ([], []), ([3, 4], [3, 4]), ([5], [5]), ([], []), ([7], [7]), ([8], [8]), ([6, 9], [6, 9]), ([10], [10]), ([11], [11]), ([1, 12, 10], [1, 12]), ([0, 1, 2, 3, 4, 5, 6, 7, 8, 9, 10, 11, 12, 13], []), ([14, 13, 13, 0, 1, 2, 3, 4, 5, 6, 7, 8, 9, 10, 11, 12, 13], [13, 14])])
def plaitinglaw3_Make.B8 : List Nat := [0, 1, 0, 4, 0, 28, 60, 0, 128, 384, 1020, 2044, 4092, 8191, 16383, 32767]
theorem plaitinglaw3_Make.tab8 : rtab .any (opsOf Try.f20 8) = plaitinglaw3_Make.T8 := by kernel_rfl
theorem plaitinglaw3_Make.bits8 : waitsOk plaitinglaw3_Make.T8.2 plaitinglaw3_Make.B8 = true := by kernel_rfl
set_option maxHeartbeats 8000000 in
set_option maxRecDepth 100000 in
theorem plaitinglaw3_Make.calls (k : Nat) (a0_0 : Int) (a0_1 : Int) (a0_2 : Int) (a0_3 : Int) (a0_4 : Int) (A0_5 : Option Addr) (c0_5 : Nat) (l0_5 : List Int) (r1 : Int) (r2 : Int) (r3 : Int) (r4 : Int) (r5 : Int) (r6 : List Int) (w : World) (hr0_5 : Kd.C (Kd.int .i64) w A0_5 l0_5.length l0_5) (hc0_5 : l0_5.length ≤ c0_5) (h : plaitinglaw3_Make.f k a0_0 a0_1 a0_2 a0_3 a0_4 l0_5 = some (r1, r2, r3, r4, r5, r6)) :
  Calls Try.prog 20 #[.agg #[.int .i64 a0_0, .int .i64 a0_1, .int .i64 a0_2, .int .i64 a0_3, .int .i64 a0_4, .slice A0_5 l0_5.length c0_5]] w fun e w' => ∃ v5_ : Value, e = .returned (.agg #[.int .i64 r1, .int .i64 r2, .int .i64 r3, .int .i64 r4, .int .i64 r5, v5_]) ∧ Kd.R (Kd.int .i64) 3 w' w.heap.size (fun _ => True) v5_ r6 ∧ Below w.heap.size w w' := by
 have hu24 := Try.underlying24
 have HR0_5 := Aside0.mk hr0_5
 have HC0_5 := Aside0.mk hc0_5
 clear hr0_5 hc0_5
 have HB := Aside0.mk (Below.refl w.heap.size w)
 have H : ((plaitinglaw3_within.f a0_0 7).bind fun tAe => ((plaitinglaw3_within.f a0_2 21).bind fun tAf => ((plaitinglaw3_within.f a0_3 21).bind fun tAg => ((plaitinglaw3_within.f a0_4 65536).bind fun tAj => ((plaitinglaw3_within.f a0_4 3).bind fun tAd => (if tAd = 0 then ((plaitinglaw3_within.f a0_4 40).bind fun tAm => (plaitinglaw3_Make.j0 k a0_0 a0_1 a0_2 a0_3 a0_4 l0_5 (wrap64 (6 + tAe)) 0 tAf tAg (wrap64 (65535 - tAm)))) else (plaitinglaw3_Make.j0 k a0_0 a0_1 a0_2 a0_3 a0_4 l0_5 (wrap64 (6 + tAe)) 0 tAf tAg tAj))))))) = some (r1, r2, r3, r4, r5, r6) := h
 clear h
 replace H := Option.bind_eq_some_iff.mp H
 obtain ⟨tAe, A20, H⟩ := H
 try dsimp only at H
 have A2 := Aside0.mk A20
 clear A20
 replace H := Option.bind_eq_some_iff.mp H
 obtain ⟨tAf, A30, H⟩ := H
 try dsimp only at H
 have A3 := Aside0.mk A30
 clear A30
 replace H := Option.bind_eq_some_iff.mp H
 obtain ⟨tAg, A40, H⟩ := H
 try dsimp only at H
 have A4 := Aside0.mk A40
 clear A40
 replace H := Option.bind_eq_some_iff.mp H
 obtain ⟨tAj, A50, H⟩ := H
 try dsimp only at H
 have A5 := Aside0.mk A50
 clear A50
 replace H := Option.bind_eq_some_iff.mp H
 obtain ⟨tAd, A60, H⟩ := H
 try dsimp only at H
 have A6 := Aside0.mk A60
 clear A60
 have HC7 := Aside0.mk H
 clear H
 go_enter Try.func20, Try.ntmps20
 try go_wp2_with (first | ((with_reducible refine gate_dst (N := 1) rfl ?_); refine be_ 1 #[.int .i64 a0_0, .int .i64 a0_1, .int .i64 a0_2, .int .i64 a0_3, .int .i64 a0_4, .slice A0_5 l0_5.length c0_5] 24 ?_; intro gbAa hg w8 hbox hb; have BKAa := Aside0.mk (hbox); have GWAa := Aside0.mk ((by rw [hg]; exact (below_size (pH_ HB.out)) : w.heap.size ≤ gbAa)); have GEAa := Aside0.mk ((by rw [hg]; exact (below_size (pH_ HB.out)) : w.heap.size ≤ gbAa)); replace HB := bs_ HB hb; clear hb hbox hg) | ((with_reducible refine gate_dst (N := 2) rfl ?_); refine be_ 2 #[.int .i64 0, .int .i64 0, .int .i64 0, .int .i64 0, .int .i64 0, .slice none 0 0] 24 ?_; intro gbAc hg w9 hbox hb; have BKAc := Aside0.mk (hbox); have GWAc := Aside0.mk ((by rw [hg]; exact (below_size (pH_ HB.out)) : w.heap.size ≤ gbAc)); have GEAc := Aside0.mk ((by rw [hg]; exact (below_size (pH_ HB.out)) : w.heap.size ≤ gbAc)); have NBAa_Ac := Aside0.mk (ltB_ hg BKAa.out); have NBAc_Aa := Aside0.mk (ltB_ hg BKAa.out).symm; replace BKAa := bb_ BKAa hb; replace HB := bs_ HB hb; clear hb hbox hg))
 replace BKAa := Aside0.mk (blk_drew BKAa.out)
 replace BKAc := Aside0.mk (blk_drew BKAc.out)
 replace HB := Aside0.mk (below_drew1 HB.out)
 refine start_ (n := 16) (S := fun w' => w'.cell? ⟨gbAa, 0, none⟩ = some (.int .i64 a0_0) ∧ w'.cell? ⟨gbAa, 1, none⟩ = some (.int .i64 a0_1) ∧ w'.cell? ⟨gbAa, 2, none⟩ = some (.int .i64 a0_2) ∧ w'.cell? ⟨gbAa, 3, none⟩ = some (.int .i64 a0_3) ∧ w'.cell? ⟨gbAa, 4, none⟩ = some (.int .i64 a0_4) ∧ w'.cell? ⟨gbAa, 5, none⟩ = some (.slice A0_5 l0_5.length c0_5)) (ds := []) #[false, false, false, false, false, false, false, false, false, false, false, false, false, false, false, false] (by kernel_rfl) rfl rfl ⟨bc_ BKAa 0, bc_ BKAa 1, bc_ BKAa 2, bc_ BKAa 3, bc_ BKAa 4, bc_ BKAa 5⟩ (fun hHeld => ?_); refine with_tabW plaitinglaw3_Make.tab1 plaitinglaw3_Make.bits1 (fun HT_ HW_ => ?_)
 generalize w9.drew = w10 at BKAa BKAc HB hHeld ⊢
 refine pq_ 0 5 HT_ ?_
 refine pq_ 4 9 HT_ ?_
 refine pq_ 7 12 HT_ ?_
 refine pq_ 10 15 HT_ ?_
 refine tq_ 1 6 HT_ HW_ hHeld ?_
 refine tq_ 5 10 HT_ HW_ hHeld ?_
 refine tq_ 8 13 HT_ HW_ hHeld ?_
 refine tq_ 11 16 HT_ HW_ hHeld ?_
 refine join_ (σ := Nat) 1 #[true, true, true, true, true, true, true, true, true, true, true, true, true, true, true, false] (fun s_ => [(7, .int .i64 tAe), (11, .int .i64 tAf), (14, .int .i64 tAg), (17, .int .i64 tAj), (3, .pointer (some ⟨s_, 0, none⟩)), (8, .int .i64 (wrap64 (6 + tAe))), (18, .agg #[.int .i64 (wrap64 (6 + tAe)), .int .i64 0, .int .i64 tAf, .int .i64 tAg, .int .i64 tAj, .slice none 0 0])]) (fun s_ w' => (w'.cell? ⟨gbAa, 0, none⟩ = some (.int .i64 a0_0) ∧ w'.cell? ⟨gbAa, 1, none⟩ = some (.int .i64 a0_1) ∧ w'.cell? ⟨gbAa, 2, none⟩ = some (.int .i64 a0_2) ∧ w'.cell? ⟨gbAa, 3, none⟩ = some (.int .i64 a0_3) ∧ w'.cell? ⟨gbAa, 4, none⟩ = some (.int .i64 a0_4) ∧ w'.cell? ⟨gbAa, 5, none⟩ = some (.slice A0_5 l0_5.length c0_5)) ∧ (w'.heap[gbAa]? = some (.cells #[.int .i64 a0_0, .int .i64 a0_1, .int .i64 a0_2, .int .i64 a0_3, .int .i64 a0_4, .slice A0_5 l0_5.length c0_5] 24 (0, 0))) ∧ (w'.heap[gbAc]? = some (.cells #[.int .i64 0, .int .i64 0, .int .i64 0, .int .i64 0, .int .i64 0, .slice none 0 0] 24 (0, 0))) ∧ (w'.heap[s_]? = some (.cells #[.int .i64 0, .int .i64 0, .int .i64 0, .int .i64 0, .int .i64 0, .slice none 0 0] 24 (0, 0))) ∧ (w.heap.size ≤ s_) ∧ (w.heap.size ≤ s_) ∧ (gbAa ≠ s_) ∧ (s_ ≠ gbAa) ∧ (gbAc ≠ s_) ∧ (s_ ≠ gbAc) ∧ (Below w.heap.size w w')) ?_ ?_
 rotate_left
 ·
  intro hJ2_6_9_12_14
  refine join_ (σ := Unit) 2 #[true, true, true, true, true, true, true, true, true, true, true, true, true, true, false, false] (fun s_ => [(7, .int .i64 tAe), (11, .int .i64 tAf), (14, .int .i64 tAg), (17, .int .i64 tAj), (8, .int .i64 (wrap64 (6 + tAe))), (18, .agg #[.int .i64 (wrap64 (6 + tAe)), .int .i64 0, .int .i64 tAf, .int .i64 tAg, .int .i64 tAj, .slice none 0 0])]) (fun s_ w' => (w'.cell? ⟨gbAa, 0, none⟩ = some (.int .i64 a0_0) ∧ w'.cell? ⟨gbAa, 1, none⟩ = some (.int .i64 a0_1) ∧ w'.cell? ⟨gbAa, 2, none⟩ = some (.int .i64 a0_2) ∧ w'.cell? ⟨gbAa, 3, none⟩ = some (.int .i64 a0_3) ∧ w'.cell? ⟨gbAa, 4, none⟩ = some (.int .i64 a0_4) ∧ w'.cell? ⟨gbAa, 5, none⟩ = some (.slice A0_5 l0_5.length c0_5)) ∧ (w'.heap[gbAa]? = some (.cells #[.int .i64 a0_0, .int .i64 a0_1, .int .i64 a0_2, .int .i64 a0_3, .int .i64 a0_4, .slice A0_5 l0_5.length c0_5] 24 (0, 0))) ∧ (w'.heap[gbAc]? = some (.cells #[.int .i64 0, .int .i64 0, .int .i64 0, .int .i64 0, .int .i64 0, .slice none 0 0] 24 (0, 0))) ∧ (Below w.heap.size w w')) ?_ ?_
  rotate_left
  ·
   intro hJ2_6_9_12
   refine join_ (σ := Nat) 3 #[true, true, true, true, true, true, true, true, true, true, true, true, false, false, true, false] (fun s_ => [(7, .int .i64 tAe), (11, .int .i64 tAf), (14, .int .i64 tAg), (3, .pointer (some ⟨s_, 0, none⟩)), (8, .int .i64 (wrap64 (6 + tAe)))]) (fun s_ w' => (w'.cell? ⟨gbAa, 0, none⟩ = some (.int .i64 a0_0) ∧ w'.cell? ⟨gbAa, 1, none⟩ = some (.int .i64 a0_1) ∧ w'.cell? ⟨gbAa, 2, none⟩ = some (.int .i64 a0_2) ∧ w'.cell? ⟨gbAa, 3, none⟩ = some (.int .i64 a0_3) ∧ w'.cell? ⟨gbAa, 4, none⟩ = some (.int .i64 a0_4) ∧ w'.cell? ⟨gbAa, 5, none⟩ = some (.slice A0_5 l0_5.length c0_5)) ∧ (w'.heap[gbAa]? = some (.cells #[.int .i64 a0_0, .int .i64 a0_1, .int .i64 a0_2, .int .i64 a0_3, .int .i64 a0_4, .slice A0_5 l0_5.length c0_5] 24 (0, 0))) ∧ (w'.heap[gbAc]? = some (.cells #[.int .i64 0, .int .i64 0, .int .i64 0, .int .i64 0, .int .i64 0, .slice none 0 0] 24 (0, 0))) ∧ (w'.heap[s_]? = some (.cells #[.int .i64 0, .int .i64 0, .int .i64 0, .int .i64 0, .int .i64 0, .slice none 0 0] 24 (0, 0))) ∧ (w.heap.size ≤ s_) ∧ (w.heap.size ≤ s_) ∧ (gbAa ≠ s_) ∧ (s_ ≠ gbAa) ∧ (gbAc ≠ s_) ∧ (s_ ≠ gbAc) ∧ (Below w.heap.size w w')) ?_ ?_
   rotate_left
   ·
    intro hJ2_6_9_14
    refine join_ (σ := Unit) 4 #[true, true, true, true, true, true, true, true, true, true, true, true, false, false, false, false] (fun s_ => [(7, .int .i64 tAe), (11, .int .i64 tAf), (14, .int .i64 tAg), (8, .int .i64 (wrap64 (6 + tAe)))]) (fun s_ w' => (w'.cell? ⟨gbAa, 0, none⟩ = some (.int .i64 a0_0) ∧ w'.cell? ⟨gbAa, 1, none⟩ = some (.int .i64 a0_1) ∧ w'.cell? ⟨gbAa, 2, none⟩ = some (.int .i64 a0_2) ∧ w'.cell? ⟨gbAa, 3, none⟩ = some (.int .i64 a0_3) ∧ w'.cell? ⟨gbAa, 4, none⟩ = some (.int .i64 a0_4) ∧ w'.cell? ⟨gbAa, 5, none⟩ = some (.slice A0_5 l0_5.length c0_5)) ∧ (w'.heap[gbAa]? = some (.cells #[.int .i64 a0_0, .int .i64 a0_1, .int .i64 a0_2, .int .i64 a0_3, .int .i64 a0_4, .slice A0_5 l0_5.length c0_5] 24 (0, 0))) ∧ (w'.heap[gbAc]? = some (.cells #[.int .i64 0, .int .i64 0, .int .i64 0, .int .i64 0, .int .i64 0, .slice none 0 0] 24 (0, 0))) ∧ (Below w.heap.size w w')) ?_ ?_
    rotate_left
    ·
     intro hJ2_6_9
     refine join_ (σ := Nat) 4 #[true, true, true, true, true, true, true, true, true, false, true, true, false, false, true, false] (fun s_ => [(7, .int .i64 tAe), (11, .int .i64 tAf), (3, .pointer (some ⟨s_, 0, none⟩)), (8, .int .i64 (wrap64 (6 + tAe)))]) (fun s_ w' => (w'.cell? ⟨gbAa, 0, none⟩ = some (.int .i64 a0_0) ∧ w'.cell? ⟨gbAa, 1, none⟩ = some (.int .i64 a0_1) ∧ w'.cell? ⟨gbAa, 2, none⟩ = some (.int .i64 a0_2) ∧ w'.cell? ⟨gbAa, 3, none⟩ = some (.int .i64 a0_3) ∧ w'.cell? ⟨gbAa, 4, none⟩ = some (.int .i64 a0_4) ∧ w'.cell? ⟨gbAa, 5, none⟩ = some (.slice A0_5 l0_5.length c0_5)) ∧ (w'.heap[gbAa]? = some (.cells #[.int .i64 a0_0, .int .i64 a0_1, .int .i64 a0_2, .int .i64 a0_3, .int .i64 a0_4, .slice A0_5 l0_5.length c0_5] 24 (0, 0))) ∧ (w'.heap[gbAc]? = some (.cells #[.int .i64 0, .int .i64 0, .int .i64 0, .int .i64 0, .int .i64 0, .slice none 0 0] 24 (0, 0))) ∧ (w'.heap[s_]? = some (.cells #[.int .i64 0, .int .i64 0, .int .i64 0, .int .i64 0, .int .i64 0, .slice none 0 0] 24 (0, 0))) ∧ (w.heap.size ≤ s_) ∧ (w.heap.size ≤ s_) ∧ (gbAa ≠ s_) ∧ (s_ ≠ gbAa) ∧ (gbAc ≠ s_) ∧ (s_ ≠ gbAc) ∧ (Below w.heap.size w w')) ?_ ?_
     rotate_left
     ·
      intro hJ2_6_14
      refine join_ (σ := Unit) 5 #[true, true, true, true, true, true, true, true, true, false, true, true, false, false, false, false] (fun s_ => [(7, .int .i64 tAe), (11, .int .i64 tAf), (8, .int .i64 (wrap64 (6 + tAe)))]) (fun s_ w' => (w'.cell? ⟨gbAa, 0, none⟩ = some (.int .i64 a0_0) ∧ w'.cell? ⟨gbAa, 1, none⟩ = some (.int .i64 a0_1) ∧ w'.cell? ⟨gbAa, 2, none⟩ = some (.int .i64 a0_2) ∧ w'.cell? ⟨gbAa, 3, none⟩ = some (.int .i64 a0_3) ∧ w'.cell? ⟨gbAa, 4, none⟩ = some (.int .i64 a0_4) ∧ w'.cell? ⟨gbAa, 5, none⟩ = some (.slice A0_5 l0_5.length c0_5)) ∧ (w'.heap[gbAa]? = some (.cells #[.int .i64 a0_0, .int .i64 a0_1, .int .i64 a0_2, .int .i64 a0_3, .int .i64 a0_4, .slice A0_5 l0_5.length c0_5] 24 (0, 0))) ∧ (w'.heap[gbAc]? = some (.cells #[.int .i64 0, .int .i64 0, .int .i64 0, .int .i64 0, .int .i64 0, .slice none 0 0] 24 (0, 0))) ∧ (Below w.heap.size w w')) ?_ ?_
      rotate_left
      ·
       intro hJ2_6
       refine join_ (σ := Nat) 5 #[true, true, true, true, true, true, false, true, true, false, true, true, false, false, true, false] (fun s_ => [(7, .int .i64 tAe), (3, .pointer (some ⟨s_, 0, none⟩)), (8, .int .i64 (wrap64 (6 + tAe)))]) (fun s_ w' => (w'.cell? ⟨gbAa, 0, none⟩ = some (.int .i64 a0_0) ∧ w'.cell? ⟨gbAa, 1, none⟩ = some (.int .i64 a0_1) ∧ w'.cell? ⟨gbAa, 2, none⟩ = some (.int .i64 a0_2) ∧ w'.cell? ⟨gbAa, 3, none⟩ = some (.int .i64 a0_3) ∧ w'.cell? ⟨gbAa, 4, none⟩ = some (.int .i64 a0_4) ∧ w'.cell? ⟨gbAa, 5, none⟩ = some (.slice A0_5 l0_5.length c0_5)) ∧ (w'.heap[gbAa]? = some (.cells #[.int .i64 a0_0, .int .i64 a0_1, .int .i64 a0_2, .int .i64 a0_3, .int .i64 a0_4, .slice A0_5 l0_5.length c0_5] 24 (0, 0))) ∧ (w'.heap[gbAc]? = some (.cells #[.int .i64 0, .int .i64 0, .int .i64 0, .int .i64 0, .int .i64 0, .slice none 0 0] 24 (0, 0))) ∧ (w'.heap[s_]? = some (.cells #[.int .i64 0, .int .i64 0, .int .i64 0, .int .i64 0, .int .i64 0, .slice none 0 0] 24 (0, 0))) ∧ (w.heap.size ≤ s_) ∧ (w.heap.size ≤ s_) ∧ (gbAa ≠ s_) ∧ (s_ ≠ gbAa) ∧ (gbAc ≠ s_) ∧ (s_ ≠ gbAc) ∧ (Below w.heap.size w w')) ?_ ?_
       rotate_left
       ·
        intro hJ2_14
        refine join_ (σ := Unit) 6 #[true, true, true, true, true, true, false, true, true, false, true, true, false, false, false, false] (fun s_ => [(7, .int .i64 tAe), (8, .int .i64 (wrap64 (6 + tAe)))]) (fun s_ w' => (w'.cell? ⟨gbAa, 0, none⟩ = some (.int .i64 a0_0) ∧ w'.cell? ⟨gbAa, 1, none⟩ = some (.int .i64 a0_1) ∧ w'.cell? ⟨gbAa, 2, none⟩ = some (.int .i64 a0_2) ∧ w'.cell? ⟨gbAa, 3, none⟩ = some (.int .i64 a0_3) ∧ w'.cell? ⟨gbAa, 4, none⟩ = some (.int .i64 a0_4) ∧ w'.cell? ⟨gbAa, 5, none⟩ = some (.slice A0_5 l0_5.length c0_5)) ∧ (w'.heap[gbAa]? = some (.cells #[.int .i64 a0_0, .int .i64 a0_1, .int .i64 a0_2, .int .i64 a0_3, .int .i64 a0_4, .slice A0_5 l0_5.length c0_5] 24 (0, 0))) ∧ (w'.heap[gbAc]? = some (.cells #[.int .i64 0, .int .i64 0, .int .i64 0, .int .i64 0, .int .i64 0, .slice none 0 0] 24 (0, 0))) ∧ (Below w.heap.size w w')) ?_ ?_
        rotate_left
        ·
         intro hJ2
         refine join_ (σ := Nat) 7 #[true, true, false, false, true, true, false, true, true, false, true, true, false, false, true, false] (fun s_ => [(3, .pointer (some ⟨s_, 0, none⟩))]) (fun s_ w' => (w'.cell? ⟨gbAa, 0, none⟩ = some (.int .i64 a0_0) ∧ w'.cell? ⟨gbAa, 1, none⟩ = some (.int .i64 a0_1) ∧ w'.cell? ⟨gbAa, 2, none⟩ = some (.int .i64 a0_2) ∧ w'.cell? ⟨gbAa, 3, none⟩ = some (.int .i64 a0_3) ∧ w'.cell? ⟨gbAa, 4, none⟩ = some (.int .i64 a0_4) ∧ w'.cell? ⟨gbAa, 5, none⟩ = some (.slice A0_5 l0_5.length c0_5)) ∧ (w'.heap[gbAa]? = some (.cells #[.int .i64 a0_0, .int .i64 a0_1, .int .i64 a0_2, .int .i64 a0_3, .int .i64 a0_4, .slice A0_5 l0_5.length c0_5] 24 (0, 0))) ∧ (w'.heap[gbAc]? = some (.cells #[.int .i64 0, .int .i64 0, .int .i64 0, .int .i64 0, .int .i64 0, .slice none 0 0] 24 (0, 0))) ∧ (w'.heap[s_]? = some (.cells #[.int .i64 0, .int .i64 0, .int .i64 0, .int .i64 0, .int .i64 0, .slice none 0 0] 24 (0, 0))) ∧ (w.heap.size ≤ s_) ∧ (w.heap.size ≤ s_) ∧ (gbAa ≠ s_) ∧ (s_ ≠ gbAa) ∧ (gbAc ≠ s_) ∧ (s_ ≠ gbAc) ∧ (Below w.heap.size w w')) ?_ ?_
         rotate_left
         ·
          intro hJ14
          refine two_ (i := 2) (j := 14) (Ni := some 7) (Nj := some 3) #[true, true, true, false, true, true, false, true, true, false, true, true, false, false, false, false] #[true, true, false, false, true, true, false, true, true, false, true, true, false, false, true, false] rfl rfl rfl rfl (two_of HT_.out (by kernel_rfl)) (by decide) (by decide) (fun K hK => ?_) (fun K hK => ?_)
          ·
           skip
           refine gs_ Try.func45 #[.int .i64 a0_0, .int .i64 7] ?_
           with_reducible refine (plaitinglaw3_within.calls a0_0 7 tAe _ A2.out).mono ?_
           rintro e w' ⟨rfl, ⟨nd, rfl⟩⟩
           refine ⟨_, rfl, ?_⟩
           refine hK.out _ _ ⟨bc_ BKAa 0, bc_ BKAa 1, bc_ BKAa 2, bc_ BKAa 3, bc_ BKAa 4, bc_ BKAa 5⟩ (fun hHeld => ?_)
           clear hK K
           refine nq_ 7 ?_
           refine pq_ 3 8 HT_ ?_
           exact norm2_ (hJ2 () _ ⟨hHeld, (pB_ BKAa.out), (pB_ BKAc.out), (pH_ HB.out)⟩)
          skip
          refine box_step ?hg (N := 3) ?hd (cs := #[.int .i64 0, .int .i64 0, .int .i64 0, .int .i64 0, .int .i64 0, .slice none 0 0]) (t := 24) ?hr ?_; (case hd => rfl); (case hg => rfl); (case hr => first | (go_simp; done) | (go_simp; rfl))
          intro gbAb hg w11 hbox hb
          have BKAb := Aside0.mk (hbox)
          have GWAb := Aside0.mk ((by rw [hg]; exact (below_size (pH_ HB.out)) : w.heap.size ≤ gbAb))
          have GEAb := Aside0.mk ((by rw [hg]; exact (below_size (pH_ HB.out)) : w.heap.size ≤ gbAb))
          have NBAa_Ab := Aside0.mk (ltB_ hg BKAa.out)
          have NBAb_Aa := Aside0.mk (ltB_ hg BKAa.out).symm
          have NBAc_Ab := Aside0.mk (ltB_ hg BKAc.out)
          have NBAb_Ac := Aside0.mk (ltB_ hg BKAc.out).symm
          replace BKAa := bb_ BKAa hb
          replace BKAc := bb_ BKAc hb
          replace HB := bs_ HB hb
          clear hb hbox hg
          refine hK.out _ _ ⟨bc_ BKAa 0, bc_ BKAa 1, bc_ BKAa 2, bc_ BKAa 3, bc_ BKAa 4, bc_ BKAa 5⟩ (fun hHeld => ?_)
          clear hK K
          refine nq_ 3 ?_
          exact norm2_ (hJ14 (gbAb) _ ⟨hHeld, (pB_ BKAa.out), (pB_ BKAc.out), (pB_ BKAb.out), GWAb.out, GEAb.out, NBAa_Ab.out, NBAb_Aa.out, NBAc_Ab.out, NBAb_Ac.out, (pH_ HB.out)⟩)
         skip
         rintro gbAb w12 ⟨hS_, h0_, h1_, h2_, h3_, h4_, h5_, h6_, h7_, h8_, h9_⟩
         have n0_ : Aside0 (w12.heap[gbAa]? = some (.cells #[.int .i64 a0_0, .int .i64 a0_1, .int .i64 a0_2, .int .i64 a0_3, .int .i64 a0_4, .slice A0_5 l0_5.length c0_5] 24 (0, 0))) := ⟨h0_⟩
         have n1_ : Aside0 (w12.heap[gbAc]? = some (.cells #[.int .i64 0, .int .i64 0, .int .i64 0, .int .i64 0, .int .i64 0, .slice none 0 0] 24 (0, 0))) := ⟨h1_⟩
         have n2_ : Aside0 (w12.heap[gbAb]? = some (.cells #[.int .i64 0, .int .i64 0, .int .i64 0, .int .i64 0, .int .i64 0, .slice none 0 0] 24 (0, 0))) := ⟨h2_⟩
         have n3_ : Aside0 (w.heap.size ≤ gbAb) := ⟨h3_⟩
         have n4_ : Aside0 (w.heap.size ≤ gbAb) := ⟨h4_⟩
         have n5_ : Aside0 (gbAa ≠ gbAb) := ⟨h5_⟩
         have n6_ : Aside0 (gbAb ≠ gbAa) := ⟨h6_⟩
         have n7_ : Aside0 (gbAc ≠ gbAb) := ⟨h7_⟩
         have n8_ : Aside0 (gbAb ≠ gbAc) := ⟨h8_⟩
         have n9_ : Aside0 (Below w.heap.size w w12) := ⟨h9_⟩
         clear BKAa
         clear BKAc
         clear HB
         clear h0_ h1_ h2_ h3_ h4_ h5_ h6_ h7_ h8_ h9_
         have BKAa := n0_
         have BKAc := n1_
         have BKAb := n2_
         have GWAb := n3_
         have GEAb := n4_
         have NBAa_Ab := n5_
         have NBAb_Aa := n6_
         have NBAc_Ab := n7_
         have NBAb_Ac := n8_
         have HB := n9_
         clear n0_ n1_ n2_ n3_ n4_ n5_ n6_ n7_ n8_ n9_
         have hHeld : w12.cell? ⟨gbAa, 0, none⟩ = some (.int .i64 a0_0) ∧ w12.cell? ⟨gbAa, 1, none⟩ = some (.int .i64 a0_1) ∧ w12.cell? ⟨gbAa, 2, none⟩ = some (.int .i64 a0_2) ∧ w12.cell? ⟨gbAa, 3, none⟩ = some (.int .i64 a0_3) ∧ w12.cell? ⟨gbAa, 4, none⟩ = some (.int .i64 a0_4) ∧ w12.cell? ⟨gbAa, 5, none⟩ = some (.slice A0_5 l0_5.length c0_5) := hS_
         refine norm_ (a' := ?_) ?_ ?_
         rotate_left
         ·
          simp only [putAll, Act.put, List.setIfInBounds_toArray, List.set_cons_zero, List.set_cons_succ]
          rfl
         refine oq_ 2 7 HT_ (fun K hK => ?_)
         refine gs_ Try.func45 #[.int .i64 a0_0, .int .i64 7] ?_
         with_reducible refine (plaitinglaw3_within.calls a0_0 7 tAe _ A2.out).mono ?_
         rintro e w' ⟨rfl, ⟨nd, rfl⟩⟩
         refine ⟨_, rfl, ?_⟩
         refine hK.out _ _ ⟨bc_ BKAa 0, bc_ BKAa 1, bc_ BKAa 2, bc_ BKAa 3, bc_ BKAa 4, bc_ BKAa 5⟩ (fun hHeld => ?_)
         clear hK K
         refine nq_ 7 ?_
         refine pq_ 3 8 HT_ ?_
         exact norm2_ (hJ2_14 (gbAb) _ ⟨hHeld, (pB_ BKAa.out), (pB_ BKAc.out), (pB_ BKAb.out), GWAb.out, GEAb.out, NBAa_Ab.out, NBAb_Aa.out, NBAc_Ab.out, NBAb_Ac.out, (pH_ HB.out)⟩)
        skip
        rintro _ w11 ⟨hS_, h0_, h1_, h2_⟩
        have n0_ : Aside0 (w11.heap[gbAa]? = some (.cells #[.int .i64 a0_0, .int .i64 a0_1, .int .i64 a0_2, .int .i64 a0_3, .int .i64 a0_4, .slice A0_5 l0_5.length c0_5] 24 (0, 0))) := ⟨h0_⟩
        have n1_ : Aside0 (w11.heap[gbAc]? = some (.cells #[.int .i64 0, .int .i64 0, .int .i64 0, .int .i64 0, .int .i64 0, .slice none 0 0] 24 (0, 0))) := ⟨h1_⟩
        have n2_ : Aside0 (Below w.heap.size w w11) := ⟨h2_⟩
        clear BKAa
        clear BKAc
        clear HB
        clear h0_ h1_ h2_
        have BKAa := n0_
        have BKAc := n1_
        have HB := n2_
        clear n0_ n1_ n2_
        have hHeld : w11.cell? ⟨gbAa, 0, none⟩ = some (.int .i64 a0_0) ∧ w11.cell? ⟨gbAa, 1, none⟩ = some (.int .i64 a0_1) ∧ w11.cell? ⟨gbAa, 2, none⟩ = some (.int .i64 a0_2) ∧ w11.cell? ⟨gbAa, 3, none⟩ = some (.int .i64 a0_3) ∧ w11.cell? ⟨gbAa, 4, none⟩ = some (.int .i64 a0_4) ∧ w11.cell? ⟨gbAa, 5, none⟩ = some (.slice A0_5 l0_5.length c0_5) := hS_
        refine norm_ (a' := ?_) ?_ ?_
        rotate_left
        ·
         simp only [putAll, Act.put, List.setIfInBounds_toArray, List.set_cons_zero, List.set_cons_succ]
         rfl
        refine two_ (i := 6) (j := 14) (Ni := some 11) (Nj := some 3) #[true, true, true, true, true, true, true, true, true, false, true, true, false, false, false, false] #[true, true, true, true, true, true, false, true, true, false, true, true, false, false, true, false] rfl rfl rfl rfl (two_of HT_.out (by kernel_rfl)) (by decide) (by decide) (fun K hK => ?_) (fun K hK => ?_)
        ·
         skip
         refine gs_ Try.func45 #[.int .i64 a0_2, .int .i64 21] ?_
         with_reducible refine (plaitinglaw3_within.calls a0_2 21 tAf _ A3.out).mono ?_
         rintro e w' ⟨rfl, ⟨nd, rfl⟩⟩
         refine ⟨_, rfl, ?_⟩
         refine hK.out _ _ ⟨bc_ BKAa 0, bc_ BKAa 1, bc_ BKAa 2, bc_ BKAa 3, bc_ BKAa 4, bc_ BKAa 5⟩ (fun hHeld => ?_)
         clear hK K
         refine nq_ 11 ?_
         exact norm2_ (hJ2_6 () _ ⟨hHeld, (pB_ BKAa.out), (pB_ BKAc.out), (pH_ HB.out)⟩)
        skip
        refine box_step ?hg (N := 3) ?hd (cs := #[.int .i64 0, .int .i64 0, .int .i64 0, .int .i64 0, .int .i64 0, .slice none 0 0]) (t := 24) ?hr ?_; (case hd => rfl); (case hg => rfl); (case hr => first | (go_simp; done) | (go_simp; rfl))
        intro gbAb hg w12 hbox hb
        have BKAb := Aside0.mk (hbox)
        have GWAb := Aside0.mk ((by rw [hg]; exact (below_size (pH_ HB.out)) : w.heap.size ≤ gbAb))
        have GEAb := Aside0.mk ((by rw [hg]; exact (below_size (pH_ HB.out)) : w.heap.size ≤ gbAb))
        have NBAa_Ab := Aside0.mk (ltB_ hg BKAa.out)
        have NBAb_Aa := Aside0.mk (ltB_ hg BKAa.out).symm
        have NBAc_Ab := Aside0.mk (ltB_ hg BKAc.out)
        have NBAb_Ac := Aside0.mk (ltB_ hg BKAc.out).symm
        replace BKAa := bb_ BKAa hb
        replace BKAc := bb_ BKAc hb
        replace HB := bs_ HB hb
        clear hb hbox hg
        refine hK.out _ _ ⟨bc_ BKAa 0, bc_ BKAa 1, bc_ BKAa 2, bc_ BKAa 3, bc_ BKAa 4, bc_ BKAa 5⟩ (fun hHeld => ?_)
        clear hK K
        refine nq_ 3 ?_
        exact norm2_ (hJ2_14 (gbAb) _ ⟨hHeld, (pB_ BKAa.out), (pB_ BKAc.out), (pB_ BKAb.out), GWAb.out, GEAb.out, NBAa_Ab.out, NBAb_Aa.out, NBAc_Ab.out, NBAb_Ac.out, (pH_ HB.out)⟩)
       skip
       rintro gbAb w12 ⟨hS_, h0_, h1_, h2_, h3_, h4_, h5_, h6_, h7_, h8_, h9_⟩
       have n0_ : Aside0 (w12.heap[gbAa]? = some (.cells #[.int .i64 a0_0, .int .i64 a0_1, .int .i64 a0_2, .int .i64 a0_3, .int .i64 a0_4, .slice A0_5 l0_5.length c0_5] 24 (0, 0))) := ⟨h0_⟩
       have n1_ : Aside0 (w12.heap[gbAc]? = some (.cells #[.int .i64 0, .int .i64 0, .int .i64 0, .int .i64 0, .int .i64 0, .slice none 0 0] 24 (0, 0))) := ⟨h1_⟩
       have n2_ : Aside0 (w12.heap[gbAb]? = some (.cells #[.int .i64 0, .int .i64 0, .int .i64 0, .int .i64 0, .int .i64 0, .slice none 0 0] 24 (0, 0))) := ⟨h2_⟩
       have n3_ : Aside0 (w.heap.size ≤ gbAb) := ⟨h3_⟩
       have n4_ : Aside0 (w.heap.size ≤ gbAb) := ⟨h4_⟩
       have n5_ : Aside0 (gbAa ≠ gbAb) := ⟨h5_⟩
       have n6_ : Aside0 (gbAb ≠ gbAa) := ⟨h6_⟩
       have n7_ : Aside0 (gbAc ≠ gbAb) := ⟨h7_⟩
       have n8_ : Aside0 (gbAb ≠ gbAc) := ⟨h8_⟩
       have n9_ : Aside0 (Below w.heap.size w w12) := ⟨h9_⟩
       clear BKAa
       clear BKAc
       clear HB
       clear h0_ h1_ h2_ h3_ h4_ h5_ h6_ h7_ h8_ h9_
       have BKAa := n0_
       have BKAc := n1_
       have BKAb := n2_
       have GWAb := n3_
       have GEAb := n4_
       have NBAa_Ab := n5_
       have NBAb_Aa := n6_
       have NBAc_Ab := n7_
       have NBAb_Ac := n8_
       have HB := n9_
       clear n0_ n1_ n2_ n3_ n4_ n5_ n6_ n7_ n8_ n9_
       have hHeld : w12.cell? ⟨gbAa, 0, none⟩ = some (.int .i64 a0_0) ∧ w12.cell? ⟨gbAa, 1, none⟩ = some (.int .i64 a0_1) ∧ w12.cell? ⟨gbAa, 2, none⟩ = some (.int .i64 a0_2) ∧ w12.cell? ⟨gbAa, 3, none⟩ = some (.int .i64 a0_3) ∧ w12.cell? ⟨gbAa, 4, none⟩ = some (.int .i64 a0_4) ∧ w12.cell? ⟨gbAa, 5, none⟩ = some (.slice A0_5 l0_5.length c0_5) := hS_
       refine norm_ (a' := ?_) ?_ ?_
       rotate_left
       ·
        simp only [putAll, Act.put, List.setIfInBounds_toArray, List.set_cons_zero, List.set_cons_succ]
        rfl
       refine oq_ 6 11 HT_ (fun K hK => ?_)
       refine gs_ Try.func45 #[.int .i64 a0_2, .int .i64 21] ?_
       with_reducible refine (plaitinglaw3_within.calls a0_2 21 tAf _ A3.out).mono ?_
       rintro e w' ⟨rfl, ⟨nd, rfl⟩⟩
       refine ⟨_, rfl, ?_⟩
       refine hK.out _ _ ⟨bc_ BKAa 0, bc_ BKAa 1, bc_ BKAa 2, bc_ BKAa 3, bc_ BKAa 4, bc_ BKAa 5⟩ (fun hHeld => ?_)
       clear hK K
       refine nq_ 11 ?_
       exact norm2_ (hJ2_6_14 (gbAb) _ ⟨hHeld, (pB_ BKAa.out), (pB_ BKAc.out), (pB_ BKAb.out), GWAb.out, GEAb.out, NBAa_Ab.out, NBAb_Aa.out, NBAc_Ab.out, NBAb_Ac.out, (pH_ HB.out)⟩)
      skip
      rintro _ w11 ⟨hS_, h0_, h1_, h2_⟩
      have n0_ : Aside0 (w11.heap[gbAa]? = some (.cells #[.int .i64 a0_0, .int .i64 a0_1, .int .i64 a0_2, .int .i64 a0_3, .int .i64 a0_4, .slice A0_5 l0_5.length c0_5] 24 (0, 0))) := ⟨h0_⟩
      have n1_ : Aside0 (w11.heap[gbAc]? = some (.cells #[.int .i64 0, .int .i64 0, .int .i64 0, .int .i64 0, .int .i64 0, .slice none 0 0] 24 (0, 0))) := ⟨h1_⟩
      have n2_ : Aside0 (Below w.heap.size w w11) := ⟨h2_⟩
      clear BKAa
      clear BKAc
      clear HB
      clear h0_ h1_ h2_
      have BKAa := n0_
      have BKAc := n1_
      have HB := n2_
      clear n0_ n1_ n2_
      have hHeld : w11.cell? ⟨gbAa, 0, none⟩ = some (.int .i64 a0_0) ∧ w11.cell? ⟨gbAa, 1, none⟩ = some (.int .i64 a0_1) ∧ w11.cell? ⟨gbAa, 2, none⟩ = some (.int .i64 a0_2) ∧ w11.cell? ⟨gbAa, 3, none⟩ = some (.int .i64 a0_3) ∧ w11.cell? ⟨gbAa, 4, none⟩ = some (.int .i64 a0_4) ∧ w11.cell? ⟨gbAa, 5, none⟩ = some (.slice A0_5 l0_5.length c0_5) := hS_
      refine norm_ (a' := ?_) ?_ ?_
      rotate_left
      ·
       simp only [putAll, Act.put, List.setIfInBounds_toArray, List.set_cons_zero, List.set_cons_succ]
       rfl
      refine two_ (i := 9) (j := 14) (Ni := some 14) (Nj := some 3) #[true, true, true, true, true, true, true, true, true, true, true, true, false, false, false, false] #[true, true, true, true, true, true, true, true, true, false, true, true, false, false, true, false] rfl rfl rfl rfl (two_of HT_.out (by kernel_rfl)) (by decide) (by decide) (fun K hK => ?_) (fun K hK => ?_)
      ·
       skip
       refine gs_ Try.func45 #[.int .i64 a0_3, .int .i64 21] ?_
       with_reducible refine (plaitinglaw3_within.calls a0_3 21 tAg _ A4.out).mono ?_
       rintro e w' ⟨rfl, ⟨nd, rfl⟩⟩
       refine ⟨_, rfl, ?_⟩
       refine hK.out _ _ ⟨bc_ BKAa 0, bc_ BKAa 1, bc_ BKAa 2, bc_ BKAa 3, bc_ BKAa 4, bc_ BKAa 5⟩ (fun hHeld => ?_)
       clear hK K
       refine nq_ 14 ?_
       exact norm2_ (hJ2_6_9 () _ ⟨hHeld, (pB_ BKAa.out), (pB_ BKAc.out), (pH_ HB.out)⟩)
      skip
      refine box_step ?hg (N := 3) ?hd (cs := #[.int .i64 0, .int .i64 0, .int .i64 0, .int .i64 0, .int .i64 0, .slice none 0 0]) (t := 24) ?hr ?_; (case hd => rfl); (case hg => rfl); (case hr => first | (go_simp; done) | (go_simp; rfl))
      intro gbAb hg w12 hbox hb
      have BKAb := Aside0.mk (hbox)
      have GWAb := Aside0.mk ((by rw [hg]; exact (below_size (pH_ HB.out)) : w.heap.size ≤ gbAb))
      have GEAb := Aside0.mk ((by rw [hg]; exact (below_size (pH_ HB.out)) : w.heap.size ≤ gbAb))
      have NBAa_Ab := Aside0.mk (ltB_ hg BKAa.out)
      have NBAb_Aa := Aside0.mk (ltB_ hg BKAa.out).symm
      have NBAc_Ab := Aside0.mk (ltB_ hg BKAc.out)
      have NBAb_Ac := Aside0.mk (ltB_ hg BKAc.out).symm
      replace BKAa := bb_ BKAa hb
      replace BKAc := bb_ BKAc hb
      replace HB := bs_ HB hb
      clear hb hbox hg
      refine hK.out _ _ ⟨bc_ BKAa 0, bc_ BKAa 1, bc_ BKAa 2, bc_ BKAa 3, bc_ BKAa 4, bc_ BKAa 5⟩ (fun hHeld => ?_)
      clear hK K
      refine nq_ 3 ?_
      exact norm2_ (hJ2_6_14 (gbAb) _ ⟨hHeld, (pB_ BKAa.out), (pB_ BKAc.out), (pB_ BKAb.out), GWAb.out, GEAb.out, NBAa_Ab.out, NBAb_Aa.out, NBAc_Ab.out, NBAb_Ac.out, (pH_ HB.out)⟩)
     skip
     rintro gbAb w12 ⟨hS_, h0_, h1_, h2_, h3_, h4_, h5_, h6_, h7_, h8_, h9_⟩
     have n0_ : Aside0 (w12.heap[gbAa]? = some (.cells #[.int .i64 a0_0, .int .i64 a0_1, .int .i64 a0_2, .int .i64 a0_3, .int .i64 a0_4, .slice A0_5 l0_5.length c0_5] 24 (0, 0))) := ⟨h0_⟩
     have n1_ : Aside0 (w12.heap[gbAc]? = some (.cells #[.int .i64 0, .int .i64 0, .int .i64 0, .int .i64 0, .int .i64 0, .slice none 0 0] 24 (0, 0))) := ⟨h1_⟩
     have n2_ : Aside0 (w12.heap[gbAb]? = some (.cells #[.int .i64 0, .int .i64 0, .int .i64 0, .int .i64 0, .int .i64 0, .slice none 0 0] 24 (0, 0))) := ⟨h2_⟩
     have n3_ : Aside0 (w.heap.size ≤ gbAb) := ⟨h3_⟩
     have n4_ : Aside0 (w.heap.size ≤ gbAb) := ⟨h4_⟩
     have n5_ : Aside0 (gbAa ≠ gbAb) := ⟨h5_⟩
     have n6_ : Aside0 (gbAb ≠ gbAa) := ⟨h6_⟩
     have n7_ : Aside0 (gbAc ≠ gbAb) := ⟨h7_⟩
     have n8_ : Aside0 (gbAb ≠ gbAc) := ⟨h8_⟩
     have n9_ : Aside0 (Below w.heap.size w w12) := ⟨h9_⟩
     clear BKAa
     clear BKAc
     clear HB
     clear h0_ h1_ h2_ h3_ h4_ h5_ h6_ h7_ h8_ h9_
     have BKAa := n0_
     have BKAc := n1_
     have BKAb := n2_
     have GWAb := n3_
     have GEAb := n4_
     have NBAa_Ab := n5_
     have NBAb_Aa := n6_
     have NBAc_Ab := n7_
     have NBAb_Ac := n8_
     have HB := n9_
     clear n0_ n1_ n2_ n3_ n4_ n5_ n6_ n7_ n8_ n9_
     have hHeld : w12.cell? ⟨gbAa, 0, none⟩ = some (.int .i64 a0_0) ∧ w12.cell? ⟨gbAa, 1, none⟩ = some (.int .i64 a0_1) ∧ w12.cell? ⟨gbAa, 2, none⟩ = some (.int .i64 a0_2) ∧ w12.cell? ⟨gbAa, 3, none⟩ = some (.int .i64 a0_3) ∧ w12.cell? ⟨gbAa, 4, none⟩ = some (.int .i64 a0_4) ∧ w12.cell? ⟨gbAa, 5, none⟩ = some (.slice A0_5 l0_5.length c0_5) := hS_
     refine norm_ (a' := ?_) ?_ ?_
     rotate_left
     ·
      simp only [putAll, Act.put, List.setIfInBounds_toArray, List.set_cons_zero, List.set_cons_succ]
      rfl
     refine oq_ 9 14 HT_ (fun K hK => ?_)
     refine gs_ Try.func45 #[.int .i64 a0_3, .int .i64 21] ?_
     with_reducible refine (plaitinglaw3_within.calls a0_3 21 tAg _ A4.out).mono ?_
     rintro e w' ⟨rfl, ⟨nd, rfl⟩⟩
     refine ⟨_, rfl, ?_⟩
     refine hK.out _ _ ⟨bc_ BKAa 0, bc_ BKAa 1, bc_ BKAa 2, bc_ BKAa 3, bc_ BKAa 4, bc_ BKAa 5⟩ (fun hHeld => ?_)
     clear hK K
     refine nq_ 14 ?_
     exact norm2_ (hJ2_6_9_14 (gbAb) _ ⟨hHeld, (pB_ BKAa.out), (pB_ BKAc.out), (pB_ BKAb.out), GWAb.out, GEAb.out, NBAa_Ab.out, NBAb_Aa.out, NBAc_Ab.out, NBAb_Ac.out, (pH_ HB.out)⟩)
    skip
    rintro _ w11 ⟨hS_, h0_, h1_, h2_⟩
    have n0_ : Aside0 (w11.heap[gbAa]? = some (.cells #[.int .i64 a0_0, .int .i64 a0_1, .int .i64 a0_2, .int .i64 a0_3, .int .i64 a0_4, .slice A0_5 l0_5.length c0_5] 24 (0, 0))) := ⟨h0_⟩
    have n1_ : Aside0 (w11.heap[gbAc]? = some (.cells #[.int .i64 0, .int .i64 0, .int .i64 0, .int .i64 0, .int .i64 0, .slice none 0 0] 24 (0, 0))) := ⟨h1_⟩
    have n2_ : Aside0 (Below w.heap.size w w11) := ⟨h2_⟩
    clear BKAa
    clear BKAc
    clear HB
    clear h0_ h1_ h2_
    have BKAa := n0_
    have BKAc := n1_
    have HB := n2_
    clear n0_ n1_ n2_
    have hHeld : w11.cell? ⟨gbAa, 0, none⟩ = some (.int .i64 a0_0) ∧ w11.cell? ⟨gbAa, 1, none⟩ = some (.int .i64 a0_1) ∧ w11.cell? ⟨gbAa, 2, none⟩ = some (.int .i64 a0_2) ∧ w11.cell? ⟨gbAa, 3, none⟩ = some (.int .i64 a0_3) ∧ w11.cell? ⟨gbAa, 4, none⟩ = some (.int .i64 a0_4) ∧ w11.cell? ⟨gbAa, 5, none⟩ = some (.slice A0_5 l0_5.length c0_5) := hS_
    refine norm_ (a' := ?_) ?_ ?_
    rotate_left
    ·
     simp only [putAll, Act.put, List.setIfInBounds_toArray, List.set_cons_zero, List.set_cons_succ]
     rfl
    refine two_ (i := 12) (j := 14) (Ni := some 17) (Nj := some 3) #[true, true, true, true, true, true, true, true, true, true, true, true, true, false, false, false] #[true, true, true, true, true, true, true, true, true, true, true, true, false, false, true, false] rfl rfl rfl rfl (two_of HT_.out (by kernel_rfl)) (by decide) (by decide) (fun K hK => ?_) (fun K hK => ?_)
    ·
     skip
     refine gs_ Try.func45 #[.int .i64 a0_4, .int .i64 65536] ?_
     with_reducible refine (plaitinglaw3_within.calls a0_4 65536 tAj _ A5.out).mono ?_
     rintro e w' ⟨rfl, ⟨nd, rfl⟩⟩
     refine ⟨_, rfl, ?_⟩
     refine hK.out _ _ ⟨bc_ BKAa 0, bc_ BKAa 1, bc_ BKAa 2, bc_ BKAa 3, bc_ BKAa 4, bc_ BKAa 5⟩ (fun hHeld => ?_)
     clear hK K
     refine nq_ 17 ?_
     refine pq_ 13 18 HT_ ?_
     exact norm2_ (hJ2_6_9_12 () _ ⟨hHeld, (pB_ BKAa.out), (pB_ BKAc.out), (pH_ HB.out)⟩)
    skip
    refine box_step ?hg (N := 3) ?hd (cs := #[.int .i64 0, .int .i64 0, .int .i64 0, .int .i64 0, .int .i64 0, .slice none 0 0]) (t := 24) ?hr ?_; (case hd => rfl); (case hg => rfl); (case hr => first | (go_simp; done) | (go_simp; rfl))
    intro gbAb hg w12 hbox hb
    have BKAb := Aside0.mk (hbox)
    have GWAb := Aside0.mk ((by rw [hg]; exact (below_size (pH_ HB.out)) : w.heap.size ≤ gbAb))
    have GEAb := Aside0.mk ((by rw [hg]; exact (below_size (pH_ HB.out)) : w.heap.size ≤ gbAb))
    have NBAa_Ab := Aside0.mk (ltB_ hg BKAa.out)
    have NBAb_Aa := Aside0.mk (ltB_ hg BKAa.out).symm
    have NBAc_Ab := Aside0.mk (ltB_ hg BKAc.out)
    have NBAb_Ac := Aside0.mk (ltB_ hg BKAc.out).symm
    replace BKAa := bb_ BKAa hb
    replace BKAc := bb_ BKAc hb
    replace HB := bs_ HB hb
    clear hb hbox hg
    refine hK.out _ _ ⟨bc_ BKAa 0, bc_ BKAa 1, bc_ BKAa 2, bc_ BKAa 3, bc_ BKAa 4, bc_ BKAa 5⟩ (fun hHeld => ?_)
    clear hK K
    refine nq_ 3 ?_
    exact norm2_ (hJ2_6_9_14 (gbAb) _ ⟨hHeld, (pB_ BKAa.out), (pB_ BKAc.out), (pB_ BKAb.out), GWAb.out, GEAb.out, NBAa_Ab.out, NBAb_Aa.out, NBAc_Ab.out, NBAb_Ac.out, (pH_ HB.out)⟩)
   skip
   rintro gbAb w12 ⟨hS_, h0_, h1_, h2_, h3_, h4_, h5_, h6_, h7_, h8_, h9_⟩
   have n0_ : Aside0 (w12.heap[gbAa]? = some (.cells #[.int .i64 a0_0, .int .i64 a0_1, .int .i64 a0_2, .int .i64 a0_3, .int .i64 a0_4, .slice A0_5 l0_5.length c0_5] 24 (0, 0))) := ⟨h0_⟩
   have n1_ : Aside0 (w12.heap[gbAc]? = some (.cells #[.int .i64 0, .int .i64 0, .int .i64 0, .int .i64 0, .int .i64 0, .slice none 0 0] 24 (0, 0))) := ⟨h1_⟩
   have n2_ : Aside0 (w12.heap[gbAb]? = some (.cells #[.int .i64 0, .int .i64 0, .int .i64 0, .int .i64 0, .int .i64 0, .slice none 0 0] 24 (0, 0))) := ⟨h2_⟩
   have n3_ : Aside0 (w.heap.size ≤ gbAb) := ⟨h3_⟩
   have n4_ : Aside0 (w.heap.size ≤ gbAb) := ⟨h4_⟩
   have n5_ : Aside0 (gbAa ≠ gbAb) := ⟨h5_⟩
   have n6_ : Aside0 (gbAb ≠ gbAa) := ⟨h6_⟩
   have n7_ : Aside0 (gbAc ≠ gbAb) := ⟨h7_⟩
   have n8_ : Aside0 (gbAb ≠ gbAc) := ⟨h8_⟩
   have n9_ : Aside0 (Below w.heap.size w w12) := ⟨h9_⟩
   clear BKAa
   clear BKAc
   clear HB
   clear h0_ h1_ h2_ h3_ h4_ h5_ h6_ h7_ h8_ h9_
   have BKAa := n0_
   have BKAc := n1_
   have BKAb := n2_
   have GWAb := n3_
   have GEAb := n4_
   have NBAa_Ab := n5_
   have NBAb_Aa := n6_
   have NBAc_Ab := n7_
   have NBAb_Ac := n8_
   have HB := n9_
   clear n0_ n1_ n2_ n3_ n4_ n5_ n6_ n7_ n8_ n9_
   have hHeld : w12.cell? ⟨gbAa, 0, none⟩ = some (.int .i64 a0_0) ∧ w12.cell? ⟨gbAa, 1, none⟩ = some (.int .i64 a0_1) ∧ w12.cell? ⟨gbAa, 2, none⟩ = some (.int .i64 a0_2) ∧ w12.cell? ⟨gbAa, 3, none⟩ = some (.int .i64 a0_3) ∧ w12.cell? ⟨gbAa, 4, none⟩ = some (.int .i64 a0_4) ∧ w12.cell? ⟨gbAa, 5, none⟩ = some (.slice A0_5 l0_5.length c0_5) := hS_
   refine norm_ (a' := ?_) ?_ ?_
   rotate_left
   ·
    simp only [putAll, Act.put, List.setIfInBounds_toArray, List.set_cons_zero, List.set_cons_succ]
    rfl
   refine oq_ 12 17 HT_ (fun K hK => ?_)
   refine gs_ Try.func45 #[.int .i64 a0_4, .int .i64 65536] ?_
   with_reducible refine (plaitinglaw3_within.calls a0_4 65536 tAj _ A5.out).mono ?_
   rintro e w' ⟨rfl, ⟨nd, rfl⟩⟩
   refine ⟨_, rfl, ?_⟩
   refine hK.out _ _ ⟨bc_ BKAa 0, bc_ BKAa 1, bc_ BKAa 2, bc_ BKAa 3, bc_ BKAa 4, bc_ BKAa 5⟩ (fun hHeld => ?_)
   clear hK K
   refine nq_ 17 ?_
   refine pq_ 13 18 HT_ ?_
   exact norm2_ (hJ2_6_9_12_14 (gbAb) _ ⟨hHeld, (pB_ BKAa.out), (pB_ BKAc.out), (pB_ BKAb.out), GWAb.out, GEAb.out, NBAa_Ab.out, NBAb_Aa.out, NBAc_Ab.out, NBAb_Ac.out, (pH_ HB.out)⟩)
  skip
  rintro _ w11 ⟨hS_, h0_, h1_, h2_⟩
  have n0_ : Aside0 (w11.heap[gbAa]? = some (.cells #[.int .i64 a0_0, .int .i64 a0_1, .int .i64 a0_2, .int .i64 a0_3, .int .i64 a0_4, .slice A0_5 l0_5.length c0_5] 24 (0, 0))) := ⟨h0_⟩
  have n1_ : Aside0 (w11.heap[gbAc]? = some (.cells #[.int .i64 0, .int .i64 0, .int .i64 0, .int .i64 0, .int .i64 0, .slice none 0 0] 24 (0, 0))) := ⟨h1_⟩
  have n2_ : Aside0 (Below w.heap.size w w11) := ⟨h2_⟩
  clear BKAa
  clear BKAc
  clear HB
  clear h0_ h1_ h2_
  have BKAa := n0_
  have BKAc := n1_
  have HB := n2_
  clear n0_ n1_ n2_
  have hHeld : w11.cell? ⟨gbAa, 0, none⟩ = some (.int .i64 a0_0) ∧ w11.cell? ⟨gbAa, 1, none⟩ = some (.int .i64 a0_1) ∧ w11.cell? ⟨gbAa, 2, none⟩ = some (.int .i64 a0_2) ∧ w11.cell? ⟨gbAa, 3, none⟩ = some (.int .i64 a0_3) ∧ w11.cell? ⟨gbAa, 4, none⟩ = some (.int .i64 a0_4) ∧ w11.cell? ⟨gbAa, 5, none⟩ = some (.slice A0_5 l0_5.length c0_5) := hS_
  refine norm_ (a' := ?_) ?_ ?_
  rotate_left
  ·
   simp only [putAll, Act.put, List.setIfInBounds_toArray, List.set_cons_zero, List.set_cons_succ]
   rfl
  refine oq_ 14 3 HT_ (fun K hK => ?_)
  refine box_step ?hg (N := 3) ?hd (cs := #[.int .i64 0, .int .i64 0, .int .i64 0, .int .i64 0, .int .i64 0, .slice none 0 0]) (t := 24) ?hr ?_; (case hd => rfl); (case hg => rfl); (case hr => first | (go_simp; done) | (go_simp; rfl))
  intro gbAb hg w12 hbox hb
  have BKAb := Aside0.mk (hbox)
  have GWAb := Aside0.mk ((by rw [hg]; exact (below_size (pH_ HB.out)) : w.heap.size ≤ gbAb))
  have GEAb := Aside0.mk ((by rw [hg]; exact (below_size (pH_ HB.out)) : w.heap.size ≤ gbAb))
  have NBAa_Ab := Aside0.mk (ltB_ hg BKAa.out)
  have NBAb_Aa := Aside0.mk (ltB_ hg BKAa.out).symm
  have NBAc_Ab := Aside0.mk (ltB_ hg BKAc.out)
  have NBAb_Ac := Aside0.mk (ltB_ hg BKAc.out).symm
  replace BKAa := bb_ BKAa hb
  replace BKAc := bb_ BKAc hb
  replace HB := bs_ HB hb
  clear hb hbox hg
  refine hK.out _ _ ⟨bc_ BKAa 0, bc_ BKAa 1, bc_ BKAa 2, bc_ BKAa 3, bc_ BKAa 4, bc_ BKAa 5⟩ (fun hHeld => ?_)
  clear hK K
  refine nq_ 3 ?_
  exact norm2_ (hJ2_6_9_12_14 (gbAb) _ ⟨hHeld, (pB_ BKAa.out), (pB_ BKAc.out), (pB_ BKAb.out), GWAb.out, GEAb.out, NBAa_Ab.out, NBAb_Aa.out, NBAc_Ab.out, NBAb_Ac.out, (pH_ HB.out)⟩)
 rintro gbAb w12 ⟨hS_, h0_, h1_, h2_, h3_, h4_, h5_, h6_, h7_, h8_, h9_⟩
 have n0_ : Aside0 (w12.heap[gbAa]? = some (.cells #[.int .i64 a0_0, .int .i64 a0_1, .int .i64 a0_2, .int .i64 a0_3, .int .i64 a0_4, .slice A0_5 l0_5.length c0_5] 24 (0, 0))) := ⟨h0_⟩
 have n1_ : Aside0 (w12.heap[gbAc]? = some (.cells #[.int .i64 0, .int .i64 0, .int .i64 0, .int .i64 0, .int .i64 0, .slice none 0 0] 24 (0, 0))) := ⟨h1_⟩
 have n2_ : Aside0 (w12.heap[gbAb]? = some (.cells #[.int .i64 0, .int .i64 0, .int .i64 0, .int .i64 0, .int .i64 0, .slice none 0 0] 24 (0, 0))) := ⟨h2_⟩
 have n3_ : Aside0 (w.heap.size ≤ gbAb) := ⟨h3_⟩
 have n4_ : Aside0 (w.heap.size ≤ gbAb) := ⟨h4_⟩
 have n5_ : Aside0 (gbAa ≠ gbAb) := ⟨h5_⟩
 have n6_ : Aside0 (gbAb ≠ gbAa) := ⟨h6_⟩
 have n7_ : Aside0 (gbAc ≠ gbAb) := ⟨h7_⟩
 have n8_ : Aside0 (gbAb ≠ gbAc) := ⟨h8_⟩
 have n9_ : Aside0 (Below w.heap.size w w12) := ⟨h9_⟩
 clear BKAa
 clear BKAc
 clear HB
 clear h0_ h1_ h2_ h3_ h4_ h5_ h6_ h7_ h8_ h9_
 have BKAa := n0_
 have BKAc := n1_
 have BKAb := n2_
 have GWAb := n3_
 have GEAb := n4_
 have NBAa_Ab := n5_
 have NBAb_Aa := n6_
 have NBAc_Ab := n7_
 have NBAb_Ac := n8_
 have HB := n9_
 clear n0_ n1_ n2_ n3_ n4_ n5_ n6_ n7_ n8_ n9_
 have hHeld : w12.cell? ⟨gbAa, 0, none⟩ = some (.int .i64 a0_0) ∧ w12.cell? ⟨gbAa, 1, none⟩ = some (.int .i64 a0_1) ∧ w12.cell? ⟨gbAa, 2, none⟩ = some (.int .i64 a0_2) ∧ w12.cell? ⟨gbAa, 3, none⟩ = some (.int .i64 a0_3) ∧ w12.cell? ⟨gbAa, 4, none⟩ = some (.int .i64 a0_4) ∧ w12.cell? ⟨gbAa, 5, none⟩ = some (.slice A0_5 l0_5.length c0_5) := hS_
 refine norm_ (a' := ?_) ?_ ?_
 rotate_left
 ·
  simp only [putAll, Act.put, List.setIfInBounds_toArray, List.set_cons_zero, List.set_cons_succ]
  rfl
 refine one_ (i := 15) (N := none) #[true, true, true, true, true, true, true, true, true, true, true, true, true, true, true, true] rfl rfl (one_of HT_.out (by kernel_rfl)) (by decide) (fun K hK => ?_)
 have hs13 : w12.cell? ⟨gbAb, 0, none⟩ = some (.int .i64 0) := bc_ BKAb 0
 have hfs13 := blk_frozen BKAb.out 0
 have hns13_0 := NBAa_Ab.out
 have hns13_1 := NBAc_Ab.out
 have hms13_0 := NBAb_Aa.out
 have hms13_1 := NBAb_Ac.out
 have hs14 : w12.cell? ⟨gbAb, 1, none⟩ = some (.int .i64 0) := bc_ BKAb 1
 have hfs14 := blk_frozen BKAb.out 1
 have hns14_0 := NBAa_Ab.out
 have hns14_1 := NBAc_Ab.out
 have hms14_0 := NBAb_Aa.out
 have hms14_1 := NBAb_Ac.out
 have hs15 : w12.cell? ⟨gbAb, 2, none⟩ = some (.int .i64 0) := bc_ BKAb 2
 have hfs15 := blk_frozen BKAb.out 2
 have hns15_0 := NBAa_Ab.out
 have hns15_1 := NBAc_Ab.out
 have hms15_0 := NBAb_Aa.out
 have hms15_1 := NBAb_Ac.out
 have hs16 : w12.cell? ⟨gbAb, 3, none⟩ = some (.int .i64 0) := bc_ BKAb 3
 have hfs16 := blk_frozen BKAb.out 3
 have hns16_0 := NBAa_Ab.out
 have hns16_1 := NBAc_Ab.out
 have hms16_0 := NBAb_Aa.out
 have hms16_1 := NBAb_Ac.out
 have hs17 : w12.cell? ⟨gbAb, 4, none⟩ = some (.int .i64 0) := bc_ BKAb 4
 have hfs17 := blk_frozen BKAb.out 4
 have hns17_0 := NBAa_Ab.out
 have hns17_1 := NBAc_Ab.out
 have hms17_0 := NBAb_Aa.out
 have hms17_1 := NBAb_Ac.out
 have hs18 : w12.cell? ⟨gbAb, 5, none⟩ = some (.slice none 0 0) := bc_ BKAb 5
 have hfs18 := blk_frozen BKAb.out 5
 have hns18_0 := NBAa_Ab.out
 have hns18_1 := NBAc_Ab.out
 have hms18_0 := NBAb_Aa.out
 have hms18_1 := NBAb_Ac.out
 refine skip_ (w1 := ?_) (by rfl) rfl ?_ ?_
 rotate_left
 ·
  go_simp
  rfl
 refine hK.out _ _ ⟨((cell_far (p := ⟨gbAb, _, none⟩) NBAa_Ab.out _).trans (((cell_far (p := ⟨gbAb, _, none⟩) NBAa_Ab.out _).trans (((cell_far (p := ⟨gbAb, _, none⟩) NBAa_Ab.out _).trans (((cell_far (p := ⟨gbAb, _, none⟩) NBAa_Ab.out _).trans (((cell_far (p := ⟨gbAb, _, none⟩) NBAa_Ab.out _).trans (((cell_far (p := ⟨gbAb, _, none⟩) NBAa_Ab.out _).trans (hHeld.1)))))))))))), ((cell_far (p := ⟨gbAb, _, none⟩) NBAa_Ab.out _).trans (((cell_far (p := ⟨gbAb, _, none⟩) NBAa_Ab.out _).trans (((cell_far (p := ⟨gbAb, _, none⟩) NBAa_Ab.out _).trans (((cell_far (p := ⟨gbAb, _, none⟩) NBAa_Ab.out _).trans (((cell_far (p := ⟨gbAb, _, none⟩) NBAa_Ab.out _).trans (((cell_far (p := ⟨gbAb, _, none⟩) NBAa_Ab.out _).trans (hHeld.2.1)))))))))))), ((cell_far (p := ⟨gbAb, _, none⟩) NBAa_Ab.out _).trans (((cell_far (p := ⟨gbAb, _, none⟩) NBAa_Ab.out _).trans (((cell_far (p := ⟨gbAb, _, none⟩) NBAa_Ab.out _).trans (((cell_far (p := ⟨gbAb, _, none⟩) NBAa_Ab.out _).trans (((cell_far (p := ⟨gbAb, _, none⟩) NBAa_Ab.out _).trans (((cell_far (p := ⟨gbAb, _, none⟩) NBAa_Ab.out _).trans (hHeld.2.2.1)))))))))))), ((cell_far (p := ⟨gbAb, _, none⟩) NBAa_Ab.out _).trans (((cell_far (p := ⟨gbAb, _, none⟩) NBAa_Ab.out _).trans (((cell_far (p := ⟨gbAb, _, none⟩) NBAa_Ab.out _).trans (((cell_far (p := ⟨gbAb, _, none⟩) NBAa_Ab.out _).trans (((cell_far (p := ⟨gbAb, _, none⟩) NBAa_Ab.out _).trans (((cell_far (p := ⟨gbAb, _, none⟩) NBAa_Ab.out _).trans (hHeld.2.2.2.1)))))))))))), ((cell_far (p := ⟨gbAb, _, none⟩) NBAa_Ab.out _).trans (((cell_far (p := ⟨gbAb, _, none⟩) NBAa_Ab.out _).trans (((cell_far (p := ⟨gbAb, _, none⟩) NBAa_Ab.out _).trans (((cell_far (p := ⟨gbAb, _, none⟩) NBAa_Ab.out _).trans (((cell_far (p := ⟨gbAb, _, none⟩) NBAa_Ab.out _).trans (((cell_far (p := ⟨gbAb, _, none⟩) NBAa_Ab.out _).trans (hHeld.2.2.2.2.1)))))))))))), ((cell_far (p := ⟨gbAb, _, none⟩) NBAa_Ab.out _).trans (((cell_far (p := ⟨gbAb, _, none⟩) NBAa_Ab.out _).trans (((cell_far (p := ⟨gbAb, _, none⟩) NBAa_Ab.out _).trans (((cell_far (p := ⟨gbAb, _, none⟩) NBAa_Ab.out _).trans (((cell_far (p := ⟨gbAb, _, none⟩) NBAa_Ab.out _).trans (((cell_far (p := ⟨gbAb, _, none⟩) NBAa_Ab.out _).trans (hHeld.2.2.2.2.2))))))))))))⟩ (fun hHeld => ?_)
 clear hK K
 refine done_ (done_of HT_.out (by kernel_rfl)) ?_
 have hnb19 := NBAa_Ac.out
 have hnc19 := NBAc_Aa.out
 have hnb20 := NBAa_Ab.out
 have hnc20 := NBAb_Aa.out
 obtain ⟨hcz21_0, hcz21_1, hcz21_2, hcz21_3, hcz21_4, hcz21_5⟩ := c6_ BKAa
 obtain ⟨hfz21_0, hfz21_1, hfz21_2, hfz21_3, hfz21_4, hfz21_5⟩ := f6_ BKAa
 go_upto_if 22 with (first | ((with_reducible refine gate_callee (f := 45) rfl ?_); refine gL_ 21 Try.func45 #[.int .i64 a0_4, .int .i64 3] ?_; (with_reducible refine (plaitinglaw3_within.calls a0_4 3 tAd _ A6.out).mono ?_); rintro e w' ⟨rfl, ⟨nd, rfl⟩⟩; refine ⟨_, rfl, ?_⟩))
 (try simp only [Act.put, List.setIfInBounds_toArray, List.set_cons_zero, List.set_cons_succ])
 go_cut [] (fun wc => ∃ (kq : Nat) (x40108004_6 : Int), Aside0 (plaitinglaw3_Make.j0 kq a0_0 a0_1 a0_2 a0_3 a0_4 l0_5 (wrap64 (6 + tAe)) 0 tAf tAg x40108004_6 = some (r1, r2, r3, r4, r5, r6)) ∧ Aside0 (kq ≤ k) ∧ Aside0 (wc.heap[gbAa]? = some (.cells #[.int .i64 a0_0, .int .i64 a0_1, .int .i64 a0_2, .int .i64 a0_3, .int .i64 a0_4, (.slice A0_5 l0_5.length c0_5)] 24 (0, 0))) ∧ Aside0 (wc.heap[gbAc]? = some (.cells #[.int .i64 0, .int .i64 0, .int .i64 0, .int .i64 0, .int .i64 0, (.slice none 0 0)] 24 (0, 0))) ∧ Aside0 (wc.heap[gbAb]? = some (.cells #[.int .i64 (wrap64 (6 + tAe)), .int .i64 0, .int .i64 tAf, .int .i64 tAg, .int .i64 x40108004_6, (.slice none 0 0)] 24 (0, 0))) ∧ Aside0 (Below w.heap.size w wc))
 case first =>
  have H := HC7.out
  clear HC7
  by_cases c22 : tAd = 0
  rotate_left
  ·
   rw [if_neg c22] at H
   have c22b0 : (tAd == 0) = false := beq_eq_false_iff_ne.mpr c22
   have c22b1 : (tAd != 0) = true := bne_iff_ne.mpr c22
   (first | rw [c22b0] | (simp only [i64_w, i32_w]; rw [c22b0]) | skip)
   have H' := Aside0.mk H
   clear H
   go_wp2
   go_meet
   case rel => exact ⟨_, (tAj), H', ⟨by first | omega | exact Nat.le_refl _⟩, ⟨bF_ BKAa.out NBAa_Ab.out⟩, ⟨bF_ BKAc.out NBAc_Ab.out⟩, ⟨by (with_reducible repeat (first | refine blk_drewN ?_ _ | refine blk_drew ?_ | refine blk_alloc ?_ _)); refine blk_put (cs := #[.int .i64 (wrap64 (6 + tAe)), .int .i64 0, .int .i64 tAf, .int .i64 tAg, .int .i64 tAj, .slice none 0 0]) ?_ 5 _ rfl; (with_reducible repeat (first | refine blk_drewN ?_ _ | refine blk_drew ?_ | refine blk_alloc ?_ _)); refine blk_put (cs := #[.int .i64 (wrap64 (6 + tAe)), .int .i64 0, .int .i64 tAf, .int .i64 tAg, .int .i64 0, .slice none 0 0]) ?_ 4 _ rfl; (with_reducible repeat (first | refine blk_drewN ?_ _ | refine blk_drew ?_ | refine blk_alloc ?_ _)); refine blk_put (cs := #[.int .i64 (wrap64 (6 + tAe)), .int .i64 0, .int .i64 tAf, .int .i64 0, .int .i64 0, .slice none 0 0]) ?_ 3 _ rfl; (with_reducible repeat (first | refine blk_drewN ?_ _ | refine blk_drew ?_ | refine blk_alloc ?_ _)); refine blk_put (cs := #[.int .i64 (wrap64 (6 + tAe)), .int .i64 0, .int .i64 0, .int .i64 0, .int .i64 0, .slice none 0 0]) ?_ 2 _ rfl; (with_reducible repeat (first | refine blk_drewN ?_ _ | refine blk_drew ?_ | refine blk_alloc ?_ _)); refine blk_put (cs := #[.int .i64 (wrap64 (6 + tAe)), .int .i64 0, .int .i64 0, .int .i64 0, .int .i64 0, .slice none 0 0]) ?_ 1 _ rfl; (with_reducible repeat (first | refine blk_drewN ?_ _ | refine blk_drew ?_ | refine blk_alloc ?_ _)); refine blk_put (cs := #[.int .i64 0, .int .i64 0, .int .i64 0, .int .i64 0, .int .i64 0, .slice none 0 0]) ?_ 0 _ rfl; (with_reducible repeat (first | refine blk_drewN ?_ _ | refine blk_drew ?_ | refine blk_alloc ?_ _)); exact BKAb.out⟩, ⟨pH_ HB.out⟩⟩
  rw [if_pos c22] at H
  have c22b0 : (tAd == 0) = true := beq_iff_eq.mpr c22
  have c22b1 : (tAd != 0) = false := bne_eq_false_iff_eq.mpr c22
  clear c22
  (first | rw [c22b0] | (simp only [i64_w, i32_w]; rw [c22b0]) | skip)
  replace H := Option.bind_eq_some_iff.mp H
  obtain ⟨tAm, A230, H⟩ := H
  try dsimp only at H
  have A23 := Aside0.mk A230
  clear A230
  have H' := Aside0.mk H
  clear H
  have hnb24 := NBAa_Ac.out
  have hnc24 := NBAc_Aa.out
  have hnb25 := NBAa_Ab.out
  have hnc25 := NBAb_Aa.out
  obtain ⟨hcz26_0, hcz26_1, hcz26_2, hcz26_3, hcz26_4, hcz26_5⟩ := c6_ BKAa
  obtain ⟨hfz26_0, hfz26_1, hfz26_2, hfz26_3, hfz26_4, hfz26_5⟩ := f6_ BKAa
  go_wp2_with (first | ((with_reducible refine gate_callee (f := 45) rfl ?_); refine gL_ 25 Try.func45 #[.int .i64 a0_4, .int .i64 40] ?_; (with_reducible refine (plaitinglaw3_within.calls a0_4 40 tAm _ A23.out).mono ?_); rintro e w' ⟨rfl, ⟨nd, rfl⟩⟩; refine ⟨_, rfl, ?_⟩; have hnb27 := NBAb_Ac.out; have hnc27 := NBAc_Ab.out; obtain ⟨hcz28_0, hcz28_1, hcz28_2, hcz28_3, hcz28_4, hcz28_5⟩ := c6_ BKAb; obtain ⟨hfz28_0, hfz28_1, hfz28_2, hfz28_3, hfz28_4, hfz28_5⟩ := f6_ BKAb))
  go_meet
  case rel => exact ⟨_, (wrap64 (65535 - tAm)), H', ⟨by first | omega | exact Nat.le_refl _⟩, ⟨bF_ BKAa.out NBAa_Ab.out⟩, ⟨bF_ BKAc.out NBAc_Ab.out⟩, ⟨by (with_reducible repeat (first | refine blk_drewN ?_ _ | refine blk_drew ?_ | refine blk_alloc ?_ _)); refine blk_put (cs := #[.int .i64 (wrap64 (6 + tAe)), .int .i64 0, .int .i64 tAf, .int .i64 tAg, .int .i64 tAj, .slice none 0 0]) ?_ 4 _ rfl; (with_reducible repeat (first | refine blk_drewN ?_ _ | refine blk_drew ?_ | refine blk_alloc ?_ _)); refine blk_put (cs := #[.int .i64 (wrap64 (6 + tAe)), .int .i64 0, .int .i64 tAf, .int .i64 tAg, .int .i64 tAj, .slice none 0 0]) ?_ 5 _ rfl; (with_reducible repeat (first | refine blk_drewN ?_ _ | refine blk_drew ?_ | refine blk_alloc ?_ _)); refine blk_put (cs := #[.int .i64 (wrap64 (6 + tAe)), .int .i64 0, .int .i64 tAf, .int .i64 tAg, .int .i64 0, .slice none 0 0]) ?_ 4 _ rfl; (with_reducible repeat (first | refine blk_drewN ?_ _ | refine blk_drew ?_ | refine blk_alloc ?_ _)); refine blk_put (cs := #[.int .i64 (wrap64 (6 + tAe)), .int .i64 0, .int .i64 tAf, .int .i64 0, .int .i64 0, .slice none 0 0]) ?_ 3 _ rfl; (with_reducible repeat (first | refine blk_drewN ?_ _ | refine blk_drew ?_ | refine blk_alloc ?_ _)); refine blk_put (cs := #[.int .i64 (wrap64 (6 + tAe)), .int .i64 0, .int .i64 0, .int .i64 0, .int .i64 0, .slice none 0 0]) ?_ 2 _ rfl; (with_reducible repeat (first | refine blk_drewN ?_ _ | refine blk_drew ?_ | refine blk_alloc ?_ _)); refine blk_put (cs := #[.int .i64 (wrap64 (6 + tAe)), .int .i64 0, .int .i64 0, .int .i64 0, .int .i64 0, .slice none 0 0]) ?_ 1 _ rfl; (with_reducible repeat (first | refine blk_drewN ?_ _ | refine blk_drew ?_ | refine blk_alloc ?_ _)); refine blk_put (cs := #[.int .i64 0, .int .i64 0, .int .i64 0, .int .i64 0, .int .i64 0, .slice none 0 0]) ?_ 0 _ rfl; (with_reducible repeat (first | refine blk_drewN ?_ _ | refine blk_drew ?_ | refine blk_alloc ?_ _)); exact BKAb.out⟩, ⟨pH_ HB.out⟩⟩
 case rest =>
  clear HC7
  try clear c1
  try clear c2
  try clear p2
  try clear c4
  try clear p6
  try clear c19
  try clear c20
  try clear c22
  try clear c22b0
  try clear c22b1
  try clear c24
  try clear c25
  try clear c27
  try clear hcz21_0 hcz21_1 hcz21_2 hcz21_3 hcz21_4 hcz21_5
  try clear hcz26_0 hcz26_1 hcz26_2 hcz26_3 hcz26_4 hcz26_5
  try clear hcz28_0 hcz28_1 hcz28_2 hcz28_3 hcz28_4 hcz28_5
  try clear hfz21_0 hfz21_1 hfz21_2 hfz21_3 hfz21_4 hfz21_5
  try clear hfz26_0 hfz26_1 hfz26_2 hfz26_3 hfz26_4 hfz26_5
  try clear hfz28_0 hfz28_1 hfz28_2 hfz28_3 hfz28_4 hfz28_5
  obtain ⟨kq, x40108004_6, HA, HJ6, BKAa, BKAc, BKAb, HB⟩ := hcut
  cases kq with
  | zero => exact absurd HA.out (by simp [plaitinglaw3_Make.j0])
  | succ kj6 =>
   have H := HA.out
   clear HA
   simp only [plaitinglaw3_Make.j0] at H
   replace H := Option.bind_eq_some_iff.mp H
   obtain ⟨tAi, A290, H⟩ := H
   try dsimp only at H
   have A29 := Aside0.mk A290
   clear A290
   have H' := Aside0.mk H
   clear H
   try go_wp2
   replace BKAa := Aside0.mk (blk_drew BKAa.out)
   replace BKAc := Aside0.mk (blk_drew BKAc.out)
   replace BKAb := Aside0.mk (blk_drew BKAb.out)
   replace HB := Aside0.mk (below_drew1 HB.out)
   refine start_ (n := 13) (S := fun w' => w'.cell? ⟨gbAb, 0, none⟩ = some (.int .i64 (wrap64 (6 + tAe))) ∧ w'.cell? ⟨gbAb, 1, none⟩ = some (.int .i64 0) ∧ w'.cell? ⟨gbAb, 2, none⟩ = some (.int .i64 tAf) ∧ w'.cell? ⟨gbAb, 3, none⟩ = some (.int .i64 tAg) ∧ w'.cell? ⟨gbAb, 4, none⟩ = some (.int .i64 x40108004_6) ∧ w'.cell? ⟨gbAb, 5, none⟩ = some (.slice none 0 0) ∧ w'.cell? ⟨gbAa, 0, none⟩ = some (.int .i64 a0_0) ∧ w'.cell? ⟨gbAa, 1, none⟩ = some (.int .i64 a0_1) ∧ w'.cell? ⟨gbAa, 2, none⟩ = some (.int .i64 a0_2) ∧ w'.cell? ⟨gbAa, 3, none⟩ = some (.int .i64 a0_3) ∧ w'.cell? ⟨gbAa, 4, none⟩ = some (.int .i64 a0_4) ∧ w'.cell? ⟨gbAa, 5, none⟩ = some (.slice A0_5 l0_5.length c0_5)) (ds := [12]) #[false, false, false, false, false, false, false, false, false, false, false, false, false] (by kernel_rfl) rfl rfl ⟨bc_ BKAb 0, bc_ BKAb 1, bc_ BKAb 2, bc_ BKAb 3, bc_ BKAb 4, bc_ BKAb 5, bc_ BKAa 0, bc_ BKAa 1, bc_ BKAa 2, bc_ BKAa 3, bc_ BKAa 4, bc_ BKAa 5⟩ (fun hHeld => ?_); refine with_tabW plaitinglaw3_Make.tab4 plaitinglaw3_Make.bits4 (fun HT_ HW_ => ?_)
   generalize wc.drew = w30 at BKAa BKAc BKAb HB hHeld ⊢
   refine pq_ 0 28 HT_ ?_
   refine pq_ 2 30 HT_ ?_
   refine pq_ 7 35 HT_ ?_
   refine tq_ 1 29 HT_ HW_ hHeld ?_
   refine tq_ 3 31 HT_ HW_ hHeld ?_
   refine pq_ 4 32 HT_ ?_
   refine pq_ 5 33 HT_ ?_
   refine pq_ 6 34 HT_ ?_
   refine tq_ 8 36 HT_ HW_ hHeld ?_
   refine oq_ 9 37 HT_ (fun K hK => ?_)
   refine gs_ Try.func45 #[.int .i64 a0_1, .int .i64 100] ?_
   with_reducible refine (plaitinglaw3_within.calls a0_1 100 tAi _ A29.out).mono ?_
   rintro e w' ⟨rfl, ⟨nd, rfl⟩⟩
   refine ⟨_, rfl, ?_⟩
   refine hK.out _ _ ⟨bc_ BKAb 0, bc_ BKAb 1, bc_ BKAb 2, bc_ BKAb 3, bc_ BKAb 4, bc_ BKAb 5, bc_ BKAa 0, bc_ BKAa 1, bc_ BKAa 2, bc_ BKAa 3, bc_ BKAa 4, bc_ BKAa 5⟩ (fun hHeld => ?_)
   clear hK K
   refine nq_ 37 ?_
   refine pq_ 10 38 HT_ ?_
   refine pq_ 11 39 HT_ ?_
   refine last_ (i := 12) (N := none) #[true, true, true, true, true, true, true, true, true, true, true, true, true] rfl rfl (one_of HT_.out (by kernel_rfl)) (by decide) (fun K hK => ?_)
   have hs31 : w30.cell? ⟨gbAb, 1, none⟩ = some (.int .i64 0) := bc_ BKAb 1
   have hfs31 := blk_frozen BKAb.out 1
   have hns31_0 := NBAa_Ab.out
   have hns31_1 := NBAc_Ab.out
   have hms31_0 := NBAb_Aa.out
   have hms31_1 := NBAb_Ac.out
   refine skip_ (w1 := ?_) (by rfl) rfl ?_ ?_
   rotate_left
   ·
    go_simp
    rfl
   refine hK.out _ _ ?_
   clear hK K
   refine done_ (done_of HT_.out (by kernel_rfl)) ?_
   try go_wp2
   go_loopg [4] kj6 (fun kq v4 w' => ∃ (x4_2 : Int) (x40108005_2 : List Int) (uAd005 : Value), v4 = .int .i64 x4_2 ∧ Aside0 (plaitinglaw3_Make.l0 kq x4_2 a0_0 a0_1 a0_2 a0_3 a0_4 l0_5 (wrap64 (6 + tAe)) (wrap64 ((wrap64 (4 * (wrap64 ((wrap64 (tAf + tAg)) + 1)))) + tAi)) tAf tAg x40108004_6 x40108005_2 = some (r1, r2, r3, r4, r5, r6)) ∧ Aside0 (kq ≤ kj6) ∧ Aside0 (Kd.R (Kd.int .i64) 3 w' w.heap.size (fun _ => True) uAd005 x40108005_2) ∧ Aside0 (w'.heap[gbAa]? = some (.cells #[.int .i64 a0_0, .int .i64 a0_1, .int .i64 a0_2, .int .i64 a0_3, .int .i64 a0_4, (.slice A0_5 l0_5.length c0_5)] 24 (0, 0))) ∧ Aside0 (w'.heap[gbAc]? = some (.cells #[.int .i64 0, .int .i64 0, .int .i64 0, .int .i64 0, .int .i64 0, (.slice none 0 0)] 24 (0, 0))) ∧ Aside0 (w'.heap[gbAb]? = some (.cells #[.int .i64 (wrap64 (6 + tAe)), .int .i64 (wrap64 ((wrap64 (4 * (wrap64 ((wrap64 (tAf + tAg)) + 1)))) + tAi)), .int .i64 tAf, .int .i64 tAg, .int .i64 x40108004_6, uAd005] 24 (0, 0))) ∧ Aside0 (Below w.heap.size w w'))
   case atStart => exact ⟨(0), (([] : List Int)), (.slice none 0 0), (by first | rfl | (simp; done) | (simp [*]; done)), H', ⟨Nat.le_refl _⟩, ⟨by first | exact Kd.R_nil _ _ _ _ _ | exact Kd.N_nil _ _ _ _ _ | exact Kd.V_nil _ _ _ _ _ | exact Kd.Q_nil _ _ _ _ _ | exact Kd.S_nil _ _ _ _ _⟩, ⟨bF_ BKAa.out NBAa_Ab.out⟩, ⟨bF_ BKAc.out NBAc_Ab.out⟩, ⟨by (with_reducible repeat (first | refine blk_drewN ?_ _ | refine blk_drew ?_ | refine blk_alloc ?_ _)); refine blk_put (cs := #[.int .i64 (wrap64 (6 + tAe)), .int .i64 0, .int .i64 tAf, .int .i64 tAg, .int .i64 x40108004_6, .slice none 0 0]) ?_ 1 _ rfl; (with_reducible repeat (first | refine blk_drewN ?_ _ | refine blk_drew ?_ | refine blk_alloc ?_ _)); exact BKAb.out⟩, ⟨pH_ HB.out⟩⟩
   case round =>
    clear H'
    try clear c1
    try clear c2
    try clear p2
    try clear c4
    try clear p6
    try clear c19
    try clear c20
    try clear c22
    try clear c22b0
    try clear c22b1
    try clear c24
    try clear c25
    try clear c27
    try clear hcz21_0 hcz21_1 hcz21_2 hcz21_3 hcz21_4 hcz21_5
    try clear hcz26_0 hcz26_1 hcz26_2 hcz26_3 hcz26_4 hcz26_5
    try clear hcz28_0 hcz28_1 hcz28_2 hcz28_3 hcz28_4 hcz28_5
    try clear hfz21_0 hfz21_1 hfz21_2 hfz21_3 hfz21_4 hfz21_5
    try clear hfz26_0 hfz26_1 hfz26_2 hfz26_3 hfz26_4 hfz26_5
    try clear hfz28_0 hfz28_1 hfz28_2 hfz28_3 hfz28_4 hfz28_5
    try clear p2
    try clear p6
    obtain ⟨x4_2, x40108005_2, uAd005, rfl, HA, HK2, HO_Ad005, BKAa, BKAc, BKAb, HB⟩ := hrel
    cases gk with
    | zero => exact absurd HA.out (by simp [plaitinglaw3_Make.l0])
    | succ k2 =>
     have H := HA.out
     clear HA
     simp only [plaitinglaw3_Make.l0] at H
     by_cases c32 : x4_2 < (l0_5.length : Int)
     ·
      rw [if_pos c32] at H
      have c32b0 : decide (x4_2 < (l0_5.length : Int)) = true := decide_eq_true c32
      clear c32
      by_cases c33 : x4_2 < 3
      ·
       rw [if_pos c33] at H
       have c33b0 : decide (x4_2 < 3) = true := decide_eq_true c33
       clear c33
       by_cases c34 : 0 ≤ x4_2
       rotate_left
       ·
        rw [if_neg c34] at H
        exact absurd H (by simp)
       rw [if_pos c34] at H
       have c34b0 : decide (0 ≤ x4_2) = true := decide_eq_true c34
       clear c34
       replace H := Option.bind_eq_some_iff.mp H
       obtain ⟨tAn, A350, H⟩ := H
       try dsimp only at H
       have A35 := Aside0.mk A350
       clear A350
       by_cases c36 : x40108005_2.length < 17592186044416
       rotate_left
       ·
        rw [if_neg c36] at H
        exact absurd H (by simp)
       rw [if_pos c36] at H
       have LMc36 := Aside0.mk c36
       clear c36
       obtain ⟨yAk, hyAk⟩ : ∃ y_ : List Int, y_ = (x40108005_2 ++ [wrap64 (tAn - 1)]) := ⟨_, rfl⟩
       replace H : (plaitinglaw3_Make.l0 k2 (wrap64 (x4_2 + 1)) a0_0 a0_1 a0_2 a0_3 a0_4 l0_5 (wrap64 (6 + tAe)) (wrap64 ((wrap64 (4 * (wrap64 ((wrap64 (tAf + tAg)) + 1)))) + tAi)) tAf tAg x40108004_6 yAk) = some (r1, r2, r3, r4, r5, r6) := by first | (rw [hyAk]; with_reducible exact H) | (have H2_ := (Option.bind_some _ _).symm.trans H; rw [hyAk]; with_reducible exact H2_) | (have H2_ := (Option.bind_some _ _).symm.trans H; with_reducible exact H2_) | with_reducible exact H | (rw [hyAk]; exact H) | exact H
       have NyAk := Aside0.mk hyAk
       clear hyAk
       have H' := Aside0.mk H
       clear H
       have hnb37 := NBAa_Ac.out
       have hnc37 := NBAc_Aa.out
       have hnb38 := NBAa_Ab.out
       have hnc38 := NBAb_Aa.out
       obtain ⟨hcz39_0, hcz39_1, hcz39_2, hcz39_3, hcz39_4, hcz39_5⟩ := c6_ BKAa
       obtain ⟨hfz39_0, hfz39_1, hfz39_2, hfz39_3, hfz39_4, hfz39_5⟩ := f6_ BKAa
       try go_wp2
       replace HO_Ad005 := Aside0.mk (Kd.R_drew HO_Ad005.out)
       replace BKAa := Aside0.mk (blk_drew BKAa.out)
       replace BKAc := Aside0.mk (blk_drew BKAc.out)
       replace BKAb := Aside0.mk (blk_drew BKAb.out)
       replace HB := Aside0.mk (below_drew1 HB.out)
       have pAh : 0 ≤ (x4_2 : Int) := of_decide_eq_true (by first | (with_reducible assumption) | assumption)
       have qAh : x4_2 < (l0_5.length : Int) := of_decide_eq_true (by first | (with_reducible assumption) | assumption)
       obtain ⟨adAh, eAh, hxAh_0⟩ := Kd.at_int HR0_5.out x4_2 pAh qAh
       have hwAh_0 := hxAh_0
       cases eAh
       replace hxAh_0 := (HB.out.cell (World.block_lt_of_cell? w _ hxAh_0)).trans hxAh_0
       replace pAh := eq_true pAh
       replace qAh := eq_true qAh
       refine start_ (n := 16) (S := fun w' => w'.cell? ⟨gbAb, 0, none⟩ = some (.int .i64 (wrap64 (6 + tAe))) ∧ w'.cell? ⟨gbAb, 1, none⟩ = some (.int .i64 (wrap64 ((wrap64 (4 * (wrap64 ((wrap64 (tAf + tAg)) + 1)))) + tAi))) ∧ w'.cell? ⟨gbAb, 2, none⟩ = some (.int .i64 tAf) ∧ w'.cell? ⟨gbAb, 3, none⟩ = some (.int .i64 tAg) ∧ w'.cell? ⟨gbAb, 4, none⟩ = some (.int .i64 x40108004_6) ∧ w'.cell? ⟨gbAb, 5, none⟩ = some (uAd005) ∧ w'.cell? ⟨gbAa, 0, none⟩ = some (.int .i64 a0_0) ∧ w'.cell? ⟨gbAa, 1, none⟩ = some (.int .i64 a0_1) ∧ w'.cell? ⟨gbAa, 2, none⟩ = some (.int .i64 a0_2) ∧ w'.cell? ⟨gbAa, 3, none⟩ = some (.int .i64 a0_3) ∧ w'.cell? ⟨gbAa, 4, none⟩ = some (.int .i64 a0_4) ∧ w'.cell? ⟨gbAa, 5, none⟩ = some (.slice (some adAh) l0_5.length c0_5) ∧ w'.cell? (adAh.add (x4_2).toNat) = some (.int .i64 (rd l0_5 x4_2))) (ds := [15]) #[false, false, false, false, false, false, false, false, false, false, false, false, false, false, false, false] (by kernel_rfl) rfl rfl ⟨bc_ BKAb 0, bc_ BKAb 1, bc_ BKAb 2, bc_ BKAb 3, bc_ BKAb 4, bc_ BKAb 5, bc_ BKAa 0, bc_ BKAa 1, bc_ BKAa 2, bc_ BKAa 3, bc_ BKAa 4, bc_ BKAa 5, ((HB.out.cell (World.block_lt_of_cell? w _ hwAh_0)).trans hwAh_0)⟩ (fun hHeld => ?_); refine with_tabW plaitinglaw3_Make.tab8 plaitinglaw3_Make.bits8 (fun HT_ HW_ => ?_)
       generalize wr.drew = w40 at HO_Ad005 BKAa BKAc BKAb HB hxAh_0 hHeld ⊢
       refine pq_ 0 51 HT_ ?_
       refine pq_ 2 53 HT_ ?_
       refine pq_ 4 55 HT_ ?_
       refine pq_ 7 58 HT_ ?_
       refine tq_ 1 52 HT_ HW_ hHeld ?_
       refine tq_ 3 54 HT_ HW_ hHeld ?_
       refine pq_ 5 56 HT_ ?_
       refine tq_ 6 57 HT_ HW_ hHeld ?_
       refine tq_ 8 59 HT_ HW_ hHeld ?_
       refine pq_ 9 60 HT_ ?_
       refine oq_ 10 61 HT_ (fun K hK => ?_)
       refine gs_ Try.func45 #[.int .i64 (rd l0_5 x4_2), .int .i64 (wrap64 ((wrap64 (6 + tAe)) + 1))] ?_
       with_reducible refine (plaitinglaw3_within.calls (rd l0_5 x4_2) (wrap64 ((wrap64 (6 + tAe)) + 1)) tAn _ A35.out).mono ?_
       rintro e w' ⟨rfl, ⟨nd, rfl⟩⟩
       refine ⟨_, rfl, ?_⟩
       refine hK.out _ _ ⟨bc_ BKAb 0, bc_ BKAb 1, bc_ BKAb 2, bc_ BKAb 3, bc_ BKAb 4, bc_ BKAb 5, bc_ BKAa 0, bc_ BKAa 1, bc_ BKAa 2, bc_ BKAa 3, bc_ BKAa 4, bc_ BKAa 5, ((HB.out.cell (World.block_lt_of_cell? w _ hwAh_0)).trans hwAh_0)⟩ (fun hHeld => ?_)
       clear hK K
       refine nq_ 61 ?_
       refine pq_ 11 62 HT_ ?_
       refine oq_ 12 63 HT_ (fun K hK => ?_)
       refine value_ (w1 := ?_) (v := ?_) (by rfl) rfl ?_ ?_
       rotate_left 2
       ·
        go_simp
        constructor
        · rfl
        rfl
       refine hK.out _ _ ⟨(blk_cell (blk_alloc BKAb.out _) 0).trans rfl, (blk_cell (blk_alloc BKAb.out _) 1).trans rfl, (blk_cell (blk_alloc BKAb.out _) 2).trans rfl, (blk_cell (blk_alloc BKAb.out _) 3).trans rfl, (blk_cell (blk_alloc BKAb.out _) 4).trans rfl, (blk_cell (blk_alloc BKAb.out _) 5).trans rfl, (blk_cell (blk_alloc BKAa.out _) 0).trans rfl, (blk_cell (blk_alloc BKAa.out _) 1).trans rfl, (blk_cell (blk_alloc BKAa.out _) 2).trans rfl, (blk_cell (blk_alloc BKAa.out _) 3).trans rfl, (blk_cell (blk_alloc BKAa.out _) 4).trans rfl, (blk_cell (blk_alloc BKAa.out _) 5).trans rfl, (World.cell?_alloc_lt _ _ _ (World.block_lt_of_cell? _ _ (((HB.out.cell (World.block_lt_of_cell? w _ hwAh_0)).trans hwAh_0)))).trans (((HB.out.cell (World.block_lt_of_cell? w _ hwAh_0)).trans hwAh_0))⟩ (fun hHeld => ?_)
       clear hK K
       refine nq_ 63 ?_
       refine oq_ 13 64 HT_ (fun K hK => ?_)
       refine Kd.R_append_step (Kd.int .i64) (w0 := w) w.heap.size (by rfl) (.tmp 52) (.tmp 63) 22 3 (.int .i64 0) 8 rfl Try.underlying22 info3 rfl (by decide) (by omega) uAd005 x40108005_2 (wrap64 (tAn - 1)) [.int .i64 (wrap64 (tAn - 1))] (fun _ => True) (fun _ => False) rfl rfl ?aP (fun _ hk => hk.elim) ?aF ?aO ?aB ?aS ?aL ?_
       (case aP => exact rfl)
       (case aB => exact (pH_ HB.out))
       (case aF => exact (fun _ _ => trivial))
       (case aO => exact (pR_ HO_Ad005.out))
       (case aS => exact (below_size (pH_ HB.out)))
       (case aL => have := LMc36.out; omega)
       intro vAq w41 ho hb hg hat
       rw [← NyAk.out] at ho
       have n0_ := Aside0.mk (blk_grown (g := gbAa) (o := .cells #[.int .i64 a0_0, .int .i64 a0_1, .int .i64 a0_2, .int .i64 a0_3, .int .i64 a0_4, .slice (some adAh) l0_5.length c0_5] 24 (0, 0)) (pB_ BKAa.out) hg (Kd.R_ne HO_Ad005.out BKAa.out (by decide)))
       have n1_ := Aside0.mk (blk_grown (g := gbAc) (o := .cells #[.int .i64 0, .int .i64 0, .int .i64 0, .int .i64 0, .int .i64 0, .slice none 0 0] 24 (0, 0)) (pB_ BKAc.out) hg (Kd.R_ne HO_Ad005.out BKAc.out (by decide)))
       have n2_ := Aside0.mk (blk_grown (g := gbAb) (o := .cells #[.int .i64 (wrap64 (6 + tAe)), .int .i64 (wrap64 ((wrap64 (4 * (wrap64 ((wrap64 (tAf + tAg)) + 1)))) + tAi)), .int .i64 tAf, .int .i64 tAg, .int .i64 x40108004_6, uAd005] 24 (0, 0)) (pB_ BKAb.out) hg (Kd.R_ne HO_Ad005.out BKAb.out (by decide)))
       have n3_ := Aside0.mk (hb)
       have n4_ := Aside0.mk (ho)
       clear BKAa
       clear BKAc
       clear BKAb
       clear HB
       clear HO_Ad005
       have BKAa := n0_
       have BKAc := n1_
       have BKAb := n2_
       have HB := n3_
       have HOAp := n4_
       clear n0_ n1_ n2_ n3_ n4_
       clear ho hb hg hat
       obtain ⟨Ao42, co42, eo42⟩ := Kd.R_slice HOAp.out
       (first | subst eo42 | (injection eo42 with f1_ f2_ f3_; have f4_ := f1_.symm; have f5_ := f3_.symm; clear f1_ f2_ f3_; subst f4_; subst f5_))
       refine hK.out _ _ ⟨bc_ BKAb 0, bc_ BKAb 1, bc_ BKAb 2, bc_ BKAb 3, bc_ BKAb 4, bc_ BKAb 5, bc_ BKAa 0, bc_ BKAa 1, bc_ BKAa 2, bc_ BKAa 3, bc_ BKAa 4, bc_ BKAa 5, ((HB.out.cell (World.block_lt_of_cell? w _ hwAh_0)).trans hwAh_0)⟩ (fun hHeld => ?_)
       clear hK K
       refine nq_ 64 ?_
       refine pq_ 14 65 HT_ ?_
       refine last_ (i := 15) (N := none) #[true, true, true, true, true, true, true, true, true, true, true, true, true, true, true, true] rfl rfl (one_of HT_.out (by kernel_rfl)) (by decide) (fun K hK => ?_)
       have hs43 : w41.cell? ⟨gbAb, 5, none⟩ = some (uAd005) := bc_ BKAb 5
       have hfs43 := blk_frozen BKAb.out 5
       have hns43_0 := NBAa_Ab.out
       have hns43_1 := NBAc_Ab.out
       have hms43_0 := NBAb_Aa.out
       have hms43_1 := NBAb_Ac.out
       refine skip_ (w1 := ?_) (by rfl) rfl ?_ ?_
       rotate_left
       ·
        go_simp
        rfl
       refine hK.out _ _ ?_
       clear hK K
       refine done_ (done_of HT_.out (by kernel_rfl)) ?_
       try go_wp2
       go_roundg k2
       case measure => have := HJ6.out; have := HK2.out; omega
       case rel => exact ⟨(wrap64 (x4_2 + 1)), (yAk), (.slice Ao42 yAk.length co42), (by first | rfl | (simp; done) | (simp [*]; done)), H', ⟨by have := HJ6.out; have := HK2.out; omega⟩, ⟨by (with_reducible repeat (first | apply Kd.R_alloc | apply Kd.R_drewN | apply Kd.R_drew)); exact Kd.R_mono (Kd.R_far (p := ⟨gbAb, 5, none⟩) (Kd.R_types HOAp.out BKAb.out (by decide)) (fun _ hk => hk.2) (.slice Ao42 yAk.length co42)) (fun _ hk => trivial)⟩, ⟨bF_ BKAa.out NBAa_Ab.out⟩, ⟨bF_ BKAc.out NBAc_Ab.out⟩, ⟨by (with_reducible repeat (first | refine blk_drewN ?_ _ | refine blk_drew ?_ | refine blk_alloc ?_ _)); refine blk_put (cs := #[.int .i64 (wrap64 (6 + tAe)), .int .i64 (wrap64 ((wrap64 (4 * (wrap64 ((wrap64 (tAf + tAg)) + 1)))) + tAi)), .int .i64 tAf, .int .i64 tAg, .int .i64 x40108004_6, uAd005]) ?_ 5 _ rfl; (with_reducible repeat (first | refine blk_drewN ?_ _ | refine blk_drew ?_ | refine blk_alloc ?_ _)); exact BKAb.out⟩, ⟨pH_ HB.out⟩⟩
      rw [if_neg c33] at H
      have c33b0 : decide (x4_2 < 3) = false := decide_eq_false c33
      clear c33
      simp only [Option.some.injEq, Prod.mk.injEq] at H
      obtain ⟨rfl, rfl, rfl, rfl, rfl, rfl⟩ := H
      have hnb44 := NBAa_Ac.out
      have hnc44 := NBAc_Aa.out
      have hnb45 := NBAa_Ab.out
      have hnc45 := NBAb_Aa.out
      obtain ⟨hcz46_0, hcz46_1, hcz46_2, hcz46_3, hcz46_4, hcz46_5⟩ := c6_ BKAa
      obtain ⟨hfz46_0, hfz46_1, hfz46_2, hfz46_3, hfz46_4, hfz46_5⟩ := f6_ BKAa
      have hnb47 := NBAb_Ac.out
      have hnc47 := NBAc_Ab.out
      have hcz48_0 : wr.cell? ⟨gbAb, 0, none⟩ = some (.int .i64 (wrap64 (6 + tAe))) := bc_ BKAb 0
      have hcz48_1 : wr.cell? ⟨gbAb, 1, none⟩ = some (.int .i64 (wrap64 ((wrap64 (4 * (wrap64 ((wrap64 (tAf + tAg)) + 1)))) + tAi))) := bc_ BKAb 1
      have hcz48_2 : wr.cell? ⟨gbAb, 2, none⟩ = some (.int .i64 tAf) := bc_ BKAb 2
      have hcz48_3 : wr.cell? ⟨gbAb, 3, none⟩ = some (.int .i64 tAg) := bc_ BKAb 3
      have hcz48_4 : wr.cell? ⟨gbAb, 4, none⟩ = some (.int .i64 x40108004_6) := bc_ BKAb 4
      have hcz48_5 : wr.cell? ⟨gbAb, 5, none⟩ = some (uAd005) := bc_ BKAb 5
      obtain ⟨hfz48_0, hfz48_1, hfz48_2, hfz48_3, hfz48_4, hfz48_5⟩ := f6_ BKAb
      obtain ⟨hcz49_0, hcz49_1, hcz49_2, hcz49_3, hcz49_4, hcz49_5⟩ := c6_ BKAc
      obtain ⟨hfz49_0, hfz49_1, hfz49_2, hfz49_3, hfz49_4, hfz49_5⟩ := f6_ BKAc
      obtain ⟨Ao50, co50, eo50⟩ := Kd.R_slice HO_Ad005.out
      subst eo50
      go_wp2
      refine bodyPost_ret (results_cell_row rfl _ _ gbAc 24 #[.int .i64 (wrap64 (6 + tAe)), .int .i64 (wrap64 ((wrap64 (4 * (wrap64 ((wrap64 (tAf + tAg)) + 1)))) + tAi)), .int .i64 tAf, .int .i64 tAg, .int .i64 x40108004_6, .slice Ao50 x40108005_2.length co50] (0, 0) _ rfl (by (with_reducible repeat (first | refine blk_drewN ?_ _ | refine blk_drew ?_ | refine blk_alloc ?_ _)); refine blk_put (cs := #[.int .i64 (wrap64 (6 + tAe)), .int .i64 (wrap64 ((wrap64 (4 * (wrap64 ((wrap64 (tAf + tAg)) + 1)))) + tAi)), .int .i64 tAf, .int .i64 tAg, .int .i64 x40108004_6, .slice none 0 0]) ?_ 5 _ rfl; (with_reducible repeat (first | refine blk_drewN ?_ _ | refine blk_drew ?_ | refine blk_alloc ?_ _)); refine blk_put (cs := #[.int .i64 (wrap64 (6 + tAe)), .int .i64 (wrap64 ((wrap64 (4 * (wrap64 ((wrap64 (tAf + tAg)) + 1)))) + tAi)), .int .i64 tAf, .int .i64 tAg, .int .i64 0, .slice none 0 0]) ?_ 4 _ rfl; (with_reducible repeat (first | refine blk_drewN ?_ _ | refine blk_drew ?_ | refine blk_alloc ?_ _)); refine blk_put (cs := #[.int .i64 (wrap64 (6 + tAe)), .int .i64 (wrap64 ((wrap64 (4 * (wrap64 ((wrap64 (tAf + tAg)) + 1)))) + tAi)), .int .i64 tAf, .int .i64 0, .int .i64 0, .slice none 0 0]) ?_ 3 _ rfl; (with_reducible repeat (first | refine blk_drewN ?_ _ | refine blk_drew ?_ | refine blk_alloc ?_ _)); refine blk_put (cs := #[.int .i64 (wrap64 (6 + tAe)), .int .i64 (wrap64 ((wrap64 (4 * (wrap64 ((wrap64 (tAf + tAg)) + 1)))) + tAi)), .int .i64 0, .int .i64 0, .int .i64 0, .slice none 0 0]) ?_ 2 _ rfl; (with_reducible repeat (first | refine blk_drewN ?_ _ | refine blk_drew ?_ | refine blk_alloc ?_ _)); refine blk_put (cs := #[.int .i64 (wrap64 (6 + tAe)), .int .i64 0, .int .i64 0, .int .i64 0, .int .i64 0, .slice none 0 0]) ?_ 1 _ rfl; (with_reducible repeat (first | refine blk_drewN ?_ _ | refine blk_drew ?_ | refine blk_alloc ?_ _)); refine blk_put (cs := #[.int .i64 0, .int .i64 0, .int .i64 0, .int .i64 0, .int .i64 0, .slice none 0 0]) ?_ 0 _ rfl; (with_reducible repeat (first | refine blk_drewN ?_ _ | refine blk_drew ?_ | refine blk_alloc ?_ _)); exact BKAc.out) Try.underlying24 rfl (by kernel_rfl)) rfl ?_
      exact ⟨_, by first | rfl | (simp [errW_none, errW_some] <;> rfl) | (simp [*, errW_none, errW_some] <;> rfl), by (with_reducible repeat (first | apply Kd.R_alloc | apply Kd.R_drewN | apply Kd.R_drew)); exact Kd.R_mono (Kd.R_far (p := ⟨gbAc, 5, none⟩) (Kd.R_far (p := ⟨gbAc, 4, none⟩) (Kd.R_far (p := ⟨gbAc, 3, none⟩) (Kd.R_far (p := ⟨gbAc, 2, none⟩) (Kd.R_far (p := ⟨gbAc, 1, none⟩) (Kd.R_far (p := ⟨gbAc, 0, none⟩) (Kd.R_types HO_Ad005.out BKAc.out (by decide)) (fun _ hk => hk.2) (.int .i64 (wrap64 (6 + tAe)))) (fun _ hk => hk.2) (.int .i64 (wrap64 ((wrap64 (4 * (wrap64 ((wrap64 (tAf + tAg)) + 1)))) + tAi)))) (fun _ hk => hk.2) (.int .i64 tAf)) (fun _ hk => hk.2) (.int .i64 tAg)) (fun _ hk => hk.2) (.int .i64 x40108004_6)) (fun _ hk => hk.2) (.slice Ao50 x40108005_2.length co50)) (fun _ hk => trivial), pH_ HB.out⟩
     rw [if_neg c32] at H
     have c32b0 : decide (x4_2 < (l0_5.length : Int)) = false := decide_eq_false c32
     clear c32
     simp only [Option.some.injEq, Prod.mk.injEq] at H
     obtain ⟨rfl, rfl, rfl, rfl, rfl, rfl⟩ := H
     have hnb51 := NBAa_Ac.out
     have hnc51 := NBAc_Aa.out
     have hnb52 := NBAa_Ab.out
     have hnc52 := NBAb_Aa.out
     obtain ⟨hcz53_0, hcz53_1, hcz53_2, hcz53_3, hcz53_4, hcz53_5⟩ := c6_ BKAa
     obtain ⟨hfz53_0, hfz53_1, hfz53_2, hfz53_3, hfz53_4, hfz53_5⟩ := f6_ BKAa
     have hnb54 := NBAb_Ac.out
     have hnc54 := NBAc_Ab.out
     have hcz55_0 : wr.cell? ⟨gbAb, 0, none⟩ = some (.int .i64 (wrap64 (6 + tAe))) := bc_ BKAb 0
     have hcz55_1 : wr.cell? ⟨gbAb, 1, none⟩ = some (.int .i64 (wrap64 ((wrap64 (4 * (wrap64 ((wrap64 (tAf + tAg)) + 1)))) + tAi))) := bc_ BKAb 1
     have hcz55_2 : wr.cell? ⟨gbAb, 2, none⟩ = some (.int .i64 tAf) := bc_ BKAb 2
     have hcz55_3 : wr.cell? ⟨gbAb, 3, none⟩ = some (.int .i64 tAg) := bc_ BKAb 3
     have hcz55_4 : wr.cell? ⟨gbAb, 4, none⟩ = some (.int .i64 x40108004_6) := bc_ BKAb 4
     have hcz55_5 : wr.cell? ⟨gbAb, 5, none⟩ = some (uAd005) := bc_ BKAb 5
     obtain ⟨hfz55_0, hfz55_1, hfz55_2, hfz55_3, hfz55_4, hfz55_5⟩ := f6_ BKAb
     obtain ⟨hcz56_0, hcz56_1, hcz56_2, hcz56_3, hcz56_4, hcz56_5⟩ := c6_ BKAc
     obtain ⟨hfz56_0, hfz56_1, hfz56_2, hfz56_3, hfz56_4, hfz56_5⟩ := f6_ BKAc
     obtain ⟨Ao57, co57, eo57⟩ := Kd.R_slice HO_Ad005.out
     subst eo57
     go_wp2
     refine bodyPost_ret (results_cell_row rfl _ _ gbAc 24 #[.int .i64 (wrap64 (6 + tAe)), .int .i64 (wrap64 ((wrap64 (4 * (wrap64 ((wrap64 (tAf + tAg)) + 1)))) + tAi)), .int .i64 tAf, .int .i64 tAg, .int .i64 x40108004_6, .slice Ao57 x40108005_2.length co57] (0, 0) _ rfl (by (with_reducible repeat (first | refine blk_drewN ?_ _ | refine blk_drew ?_ | refine blk_alloc ?_ _)); refine blk_put (cs := #[.int .i64 (wrap64 (6 + tAe)), .int .i64 (wrap64 ((wrap64 (4 * (wrap64 ((wrap64 (tAf + tAg)) + 1)))) + tAi)), .int .i64 tAf, .int .i64 tAg, .int .i64 x40108004_6, .slice none 0 0]) ?_ 5 _ rfl; (with_reducible repeat (first | refine blk_drewN ?_ _ | refine blk_drew ?_ | refine blk_alloc ?_ _)); refine blk_put (cs := #[.int .i64 (wrap64 (6 + tAe)), .int .i64 (wrap64 ((wrap64 (4 * (wrap64 ((wrap64 (tAf + tAg)) + 1)))) + tAi)), .int .i64 tAf, .int .i64 tAg, .int .i64 0, .slice none 0 0]) ?_ 4 _ rfl; (with_reducible repeat (first | refine blk_drewN ?_ _ | refine blk_drew ?_ | refine blk_alloc ?_ _)); refine blk_put (cs := #[.int .i64 (wrap64 (6 + tAe)), .int .i64 (wrap64 ((wrap64 (4 * (wrap64 ((wrap64 (tAf + tAg)) + 1)))) + tAi)), .int .i64 tAf, .int .i64 0, .int .i64 0, .slice none 0 0]) ?_ 3 _ rfl; (with_reducible repeat (first | refine blk_drewN ?_ _ | refine blk_drew ?_ | refine blk_alloc ?_ _)); refine blk_put (cs := #[.int .i64 (wrap64 (6 + tAe)), .int .i64 (wrap64 ((wrap64 (4 * (wrap64 ((wrap64 (tAf + tAg)) + 1)))) + tAi)), .int .i64 0, .int .i64 0, .int .i64 0, .slice none 0 0]) ?_ 2 _ rfl; (with_reducible repeat (first | refine blk_drewN ?_ _ | refine blk_drew ?_ | refine blk_alloc ?_ _)); refine blk_put (cs := #[.int .i64 (wrap64 (6 + tAe)), .int .i64 0, .int .i64 0, .int .i64 0, .int .i64 0, .slice none 0 0]) ?_ 1 _ rfl; (with_reducible repeat (first | refine blk_drewN ?_ _ | refine blk_drew ?_ | refine blk_alloc ?_ _)); refine blk_put (cs := #[.int .i64 0, .int .i64 0, .int .i64 0, .int .i64 0, .int .i64 0, .slice none 0 0]) ?_ 0 _ rfl; (with_reducible repeat (first | refine blk_drewN ?_ _ | refine blk_drew ?_ | refine blk_alloc ?_ _)); exact BKAc.out) Try.underlying24 rfl (by kernel_rfl)) rfl ?_
     exact ⟨_, by first | rfl | (simp [errW_none, errW_some] <;> rfl) | (simp [*, errW_none, errW_some] <;> rfl), by (with_reducible repeat (first | apply Kd.R_alloc | apply Kd.R_drewN | apply Kd.R_drew)); exact Kd.R_mono (Kd.R_far (p := ⟨gbAc, 5, none⟩) (Kd.R_far (p := ⟨gbAc, 4, none⟩) (Kd.R_far (p := ⟨gbAc, 3, none⟩) (Kd.R_far (p := ⟨gbAc, 2, none⟩) (Kd.R_far (p := ⟨gbAc, 1, none⟩) (Kd.R_far (p := ⟨gbAc, 0, none⟩) (Kd.R_types HO_Ad005.out BKAc.out (by decide)) (fun _ hk => hk.2) (.int .i64 (wrap64 (6 + tAe)))) (fun _ hk => hk.2) (.int .i64 (wrap64 ((wrap64 (4 * (wrap64 ((wrap64 (tAf + tAg)) + 1)))) + tAi)))) (fun _ hk => hk.2) (.int .i64 tAf)) (fun _ hk => hk.2) (.int .i64 tAg)) (fun _ hk => hk.2) (.int .i64 x40108004_6)) (fun _ hk => hk.2) (.slice Ao57 x40108005_2.length co57)) (fun _ hk => trivial), pH_ HB.out⟩
end Go.Proofs.Ytcpohmfkmgcjkaa.P
