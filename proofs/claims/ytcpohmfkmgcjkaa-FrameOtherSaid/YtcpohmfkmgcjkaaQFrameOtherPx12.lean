/- Printed by a program of this session (myprint) out of the translation: the functions as plain Lean functions, and that the calls compute them. What counts is Lean's check. -/
import Derived.Test.YtcpohmfkmgcjkaaQFrameOtherPx8
import Derived.Test.YtcpohmfkmgcjkaaQFrameOtherPx11
namespace Go.Proofs.Ytcpohmfkmgcjkaa.P
open Go.RowKit Go.Proofs.YtcpohmfkmgcjkaaW.PrintWords Go.Proofs.YtcpohmfkmgcjkaaW.PrintLast Go.Proofs.YtcpohmfkmgcjkaaW.PrintMore
attribute [local go_sem] max2_int min2_int max_two min_two max_three min_three max_four min_four
set_option linter.unusedVariables false
set_option linter.unusedSimpArgs false
attribute [-simp] ByteArray.size_extract ByteArray.size_append ByteArray.extract_append_extract
attribute [-go_sem] ByteArray.size_append'
mutual
def plaitinglaw5_Make.j0 : Nat → List Int → Int → Int → Int → Int → Int → List Int → Int → Int → Int → Int → Int → List (S26) → Int → Int → Int → Int → Int → Option (Int × Int × Int × Int × Int × (List (S26)))
 | 0, _, _, _, _, _, _, _, _, _, _, _, _, _, _, _, _, _, _ => none
 | k + 1, x2, xAb000, xAb001, xAb002, xAb003, xAb004, xAb005, xAd000, xAd001, xAd002, xAd003, xAd004, xAd005, xAe000, xAe001, xAe002, xAe003, xAe004 => if xAe000 = 3 then ((plaitinglaw5_Item.f k xAd004 true).bind fun btAe => (plaitinglaw5_Make.l0 k x2 0 xAb000 xAb001 xAb002 xAb003 xAb004 xAb005 xAe000 xAe001 xAe002 btAe.1 btAe.2 ([] : List (S26)))) else (some (xAe000, xAe001, xAe002, xAe003, xAe004, ([] : List (S26))))
def plaitinglaw5_Make.l0 : Nat → List Int → Int → Int → Int → Int → Int → Int → List Int → Int → Int → Int → Int → Int → List (S26) → Option (Int × Int × Int × Int × Int × (List (S26)))
 | 0, _, _, _, _, _, _, _, _, _, _, _, _, _, _ => none
 | k + 1, x2, x8, xAb000, xAb001, xAb002, xAb003, xAb004, xAb005, xAe000, xAe001, xAe002, xAe003, xAe004, xAe005 => (plaitingref3_Slots.f xAb000 xAb001 xAb002 xAb003 xAb004 xAb005).bind fun tAr => (if x8 < tAr then (plaitinglaw5_Make.j2 k x2 x8 (decide (xAe002 < xAb000)) xAb000 xAb001 xAb002 xAb003 xAb004 xAb005 xAe000 xAe001 xAe002 xAe003 xAe004 xAe005) else (plaitinglaw5_Make.j2 k x2 x8 false xAb000 xAb001 xAb002 xAb003 xAb004 xAb005 xAe000 xAe001 xAe002 xAe003 xAe004 xAe005))
def plaitinglaw5_Make.j2 : Nat → List Int → Int → Bool → Int → Int → Int → Int → Int → List Int → Int → Int → Int → Int → Int → List (S26) → Option (Int × Int × Int × Int × Int × (List (S26)))
 | 0, _, _, _, _, _, _, _, _, _, _, _, _, _, _, _ => none
 | k + 1, x2, x8, x48, xAb000, xAb001, xAb002, xAb003, xAb004, xAb005, xAe000, xAe001, xAe002, xAe003, xAe004, xAe005 => if x48 = true then (if (x2.length : Int) > 0 then (if (x2.length : Int) = 0 then (none) else (if 0 ≤ (Int.tmod x8 (x2.length : Int)) then (if (Int.tmod x8 (x2.length : Int)) < (x2.length : Int) then (if (wrap64 (1 + x8)) = 0 then (none) else ((plaitinglaw5_Item.f k (wrap64 ((wrap64 (Int.tdiv (rd x2 (Int.tmod x8 (x2.length : Int))) (wrap64 (1 + x8)))) + x8)) false).bind fun btAm => (if xAe005.length < 8796093022208 then (plaitinglaw5_Make.l0 k x2 (wrap64 (x8 + 1)) xAb000 xAb001 xAb002 xAb003 xAb004 xAb005 xAe000 xAe001 xAe002 xAe003 xAe004 (xAe005 ++ [(⟨btAm.1, btAm.2⟩ : S26)])) else (none)))) else (none)) else (none))) else ((plaitinglaw5_Item.f k x8 false).bind fun btAq => (if xAe005.length < 8796093022208 then (plaitinglaw5_Make.l0 k x2 (wrap64 (x8 + 1)) xAb000 xAb001 xAb002 xAb003 xAb004 xAb005 xAe000 xAe001 xAe002 xAe003 xAe004 (xAe005 ++ [(⟨btAq.1, btAq.2⟩ : S26)])) else (none)))) else (some (xAe000, xAe001, xAe002, xAe003, xAe004, xAe005))
end
def plaitinglaw5_Make.f (k : Nat) (a0_0 : Int) (a0_1 : Int) (a0_2 : Int) (a0_3 : Int) (a0_4 : Int) (l0_5 : List Int) (a1_0 : Int) (a1_1 : Int) (a1_2 : Int) (a1_3 : Int) (a1_4 : Int) (l1_5 : List (S26)) (l2 : List Int) : Option (Int × Int × Int × Int × Int × (List (S26))) := (plaitinglaw5_within.f a1_0 3).bind fun tAh => ((plaitinglaw5_within.f a1_1 65536).bind fun tAf => ((plaitingref3_Slots.f a0_0 a0_1 a0_2 a0_3 a0_4 l0_5).bind fun tAj => ((plaitinglaw5_within.f a1_2 tAj).bind fun tAg => (if tAg ≥ a0_0 then (plaitinglaw5_Make.j0 k l2 a0_0 a0_1 a0_2 a0_3 a0_4 l0_5 a1_0 a1_1 a1_2 a1_3 a1_4 l1_5 3 tAf tAg 0 0) else (plaitinglaw5_Make.j0 k l2 a0_0 a0_1 a0_2 a0_3 a0_4 l0_5 a1_0 a1_1 a1_2 a1_3 a1_4 l1_5 (wrap64 (1 + tAh)) tAf tAg 0 0)))))
def plaitinglaw5_Make.T1 : Bool × List (List Nat × List Nat) := (true, [([], []), ([0], [0]), ([1], [1]), ([2], [2]), ([], []), ([4], [4]), ([5, 2], [5]), ([], []), ([7], [7]), ([], []), ([9, 6], [9]), ([8, 10, 10], [8, 10]), ([3, 6, 11], [3, 6, 11]), ([], []), ([13, 12, 11, 0, 1, 2, 3, 4, 5, 6, 7, 8, 9, 10, 11, 12, 13], [12, 13])])
def plaitinglaw5_Make.B1 : List Nat := [0, 1, 3, 7, 0, 16, 55, 0, 128, 0, 631, 2039, 4095, 0, 16383]
theorem plaitinglaw5_Make.tab1 : rtab .any (opsOf Try.f21 1) = plaitinglaw5_Make.T1 := by kernel_rfl
theorem plaitinglaw5_Make.bits1 : waitsOk plaitinglaw5_Make.T1.2 plaitinglaw5_Make.B1 = true := by kernel_rfl
def plaitinglaw5_Make.T13 : Bool × List (List Nat × List Nat) := (true, [([], []), ([0], [0]), ([], []), ([2], [2]), ([3], [3]), ([1, 4, 3], [1, 4]), ([0, 1, 2, 3, 4, 5], []), ([6, 5, 5, 0, 1, 2, 3, 4, 5], [5, 6])])
def plaitinglaw5_Make.B13 : List Nat := [0, 1, 0, 4, 12, 31, 63, 127]
theorem plaitinglaw5_Make.tab13 : rtab .any (opsOf Try.f21 13) = plaitinglaw5_Make.T13 := by kernel_rfl
theorem plaitinglaw5_Make.bits13 : waitsOk plaitinglaw5_Make.T13.2 plaitinglaw5_Make.B13 = true := by kernel_rfl
set_option maxHeartbeats 8000000 in
set_option maxRecDepth 100000 in
theorem plaitinglaw5_Make.calls (k : Nat) (a0_0 : Int) (a0_1 : Int) (a0_2 : Int) (a0_3 : Int) (a0_4 : Int) (A0_5 : Option Addr) (c0_5 : Nat) (l0_5 : List Int) (a1_0 : Int) (a1_1 : Int) (a1_2 : Int) (a1_3 : Int) (a1_4 : Int) (A1_5 : Option Addr) (c1_5 : Nat) (l1_5 : List (S26)) (A2 : Option Addr) (c2 : Nat) (l2 : List Int) (r1 : Int) (r2 : Int) (r3 : Int) (r4 : Int) (r5 : Int) (r6 : List (S26)) (w : World) (hr0_5 : Kd.C (Kd.int .i64) w A0_5 l0_5.length l0_5) (hc0_5 : l0_5.length ≤ c0_5) (hr1_5 : Kd.C k26 w A1_5 l1_5.length l1_5) (hc1_5 : l1_5.length ≤ c1_5) (hr2 : Kd.C (Kd.int .i64) w A2 l2.length l2) (hc2 : l2.length ≤ c2) (h : plaitinglaw5_Make.f k a0_0 a0_1 a0_2 a0_3 a0_4 l0_5 a1_0 a1_1 a1_2 a1_3 a1_4 l1_5 l2 = some (r1, r2, r3, r4, r5, r6)) :
  Calls Try.prog 21 #[.agg #[.int .i64 a0_0, .int .i64 a0_1, .int .i64 a0_2, .int .i64 a0_3, .int .i64 a0_4, .slice A0_5 l0_5.length c0_5], .agg #[.int .i64 a1_0, .int .i64 a1_1, .int .i64 a1_2, .int .i64 a1_3, .int .i64 a1_4, .slice A1_5 l1_5.length c1_5], .slice A2 l2.length c2] w fun e w' => ∃ v5_ : Value, e = .returned (.agg #[.int .i64 r1, .int .i64 r2, .int .i64 r3, .int .i64 r4, .int .i64 r5, v5_]) ∧ Kd.R k26 26 w' w.heap.size (fun _ => True) v5_ r6 ∧ Below w.heap.size w w' := by
 have hu24 := Try.underlying24
 have hu29 := Try.underlying29
 have hu26 := Try.underlying26
 have HR0_5 := Aside0.mk hr0_5
 have HC0_5 := Aside0.mk hc0_5
 clear hr0_5 hc0_5
 have HR1_5 := Aside0.mk hr1_5
 have HC1_5 := Aside0.mk hc1_5
 clear hr1_5 hc1_5
 have HR2 := Aside0.mk hr2
 have HC2 := Aside0.mk hc2
 clear hr2 hc2
 have HB := Aside0.mk (Below.refl w.heap.size w)
 have H : ((plaitinglaw5_within.f a1_0 3).bind fun tAh => ((plaitinglaw5_within.f a1_1 65536).bind fun tAf => ((plaitingref3_Slots.f a0_0 a0_1 a0_2 a0_3 a0_4 l0_5).bind fun tAj => ((plaitinglaw5_within.f a1_2 tAj).bind fun tAg => (if tAg ≥ a0_0 then (plaitinglaw5_Make.j0 k l2 a0_0 a0_1 a0_2 a0_3 a0_4 l0_5 a1_0 a1_1 a1_2 a1_3 a1_4 l1_5 3 tAf tAg 0 0) else (plaitinglaw5_Make.j0 k l2 a0_0 a0_1 a0_2 a0_3 a0_4 l0_5 a1_0 a1_1 a1_2 a1_3 a1_4 l1_5 (wrap64 (1 + tAh)) tAf tAg 0 0)))))) = some (r1, r2, r3, r4, r5, r6) := h
 clear h
 replace H := Option.bind_eq_some_iff.mp H
 obtain ⟨tAh, A40, H⟩ := H
 try dsimp only at H
 have A4 := Aside0.mk A40
 clear A40
 replace H := Option.bind_eq_some_iff.mp H
 obtain ⟨tAf, A50, H⟩ := H
 try dsimp only at H
 have A5 := Aside0.mk A50
 clear A50
 replace H := Option.bind_eq_some_iff.mp H
 obtain ⟨tAj, A60, H⟩ := H
 try dsimp only at H
 have A6 := Aside0.mk A60
 clear A60
 replace H := Option.bind_eq_some_iff.mp H
 obtain ⟨tAg, A70, H⟩ := H
 try dsimp only at H
 have A7 := Aside0.mk A70
 clear A70
 have HC8 := Aside0.mk H
 clear H
 go_enter Try.func21, Try.ntmps21
 try go_wp2_with (first | ((with_reducible refine gate_dst (N := 3) rfl ?_); refine be_ 3 #[.int .i64 a0_0, .int .i64 a0_1, .int .i64 a0_2, .int .i64 a0_3, .int .i64 a0_4, .slice A0_5 l0_5.length c0_5] 24 ?_; intro gbAc hg w9 hbox hb; have BKAc := Aside0.mk (hbox); have GWAc := Aside0.mk ((by rw [hg]; exact (below_size (pH_ HB.out)) : w.heap.size ≤ gbAc)); have GEAc := Aside0.mk ((by rw [hg]; exact (below_size (pH_ HB.out)) : w.heap.size ≤ gbAc)); replace HB := bs_ HB hb; clear hb hbox hg) | ((with_reducible refine gate_dst (N := 4) rfl ?_); refine be_ 4 #[.int .i64 a1_0, .int .i64 a1_1, .int .i64 a1_2, .int .i64 a1_3, .int .i64 a1_4, .slice A1_5 l1_5.length c1_5] 29 ?_; intro gbAb hg w10 hbox hb; have BKAb := Aside0.mk (hbox); have GWAb := Aside0.mk ((by rw [hg]; exact (below_size (pH_ HB.out)) : w.heap.size ≤ gbAb)); have GEAb := Aside0.mk ((by rw [hg]; exact (below_size (pH_ HB.out)) : w.heap.size ≤ gbAb)); have NBAc_Ab := Aside0.mk (ltB_ hg BKAc.out); have NBAb_Ac := Aside0.mk (ltB_ hg BKAc.out).symm; replace BKAc := bb_ BKAc hb; replace HB := bs_ HB hb; clear hb hbox hg) | ((with_reducible refine gate_dst (N := 6) rfl ?_); refine be_ 6 #[.int .i64 0, .int .i64 0, .int .i64 0, .int .i64 0, .int .i64 0, .slice none 0 0] 29 ?_; intro gbAd hg w11 hbox hb; have BKAd := Aside0.mk (hbox); have GWAd := Aside0.mk ((by rw [hg]; exact (below_size (pH_ HB.out)) : w.heap.size ≤ gbAd)); have GEAd := Aside0.mk ((by rw [hg]; exact (below_size (pH_ HB.out)) : w.heap.size ≤ gbAd)); have NBAc_Ad := Aside0.mk (ltB_ hg BKAc.out); have NBAd_Ac := Aside0.mk (ltB_ hg BKAc.out).symm; have NBAb_Ad := Aside0.mk (ltB_ hg BKAb.out); have NBAd_Ab := Aside0.mk (ltB_ hg BKAb.out).symm; replace BKAc := bb_ BKAc hb; replace BKAb := bb_ BKAb hb; replace HB := bs_ HB hb; clear hb hbox hg))
 replace BKAc := Aside0.mk (blk_drew BKAc.out)
 replace BKAb := Aside0.mk (blk_drew BKAb.out)
 replace BKAd := Aside0.mk (blk_drew BKAd.out)
 replace HB := Aside0.mk (below_drew1 HB.out)
 refine start_ (n := 15) (S := fun w' => w'.cell? ⟨gbAb, 0, none⟩ = some (.int .i64 a1_0) ∧ w'.cell? ⟨gbAb, 1, none⟩ = some (.int .i64 a1_1) ∧ w'.cell? ⟨gbAb, 2, none⟩ = some (.int .i64 a1_2) ∧ w'.cell? ⟨gbAb, 3, none⟩ = some (.int .i64 a1_3) ∧ w'.cell? ⟨gbAb, 4, none⟩ = some (.int .i64 a1_4) ∧ w'.cell? ⟨gbAb, 5, none⟩ = some (.slice A1_5 l1_5.length c1_5) ∧ w'.cell? ⟨gbAc, 0, none⟩ = some (.int .i64 a0_0) ∧ w'.cell? ⟨gbAc, 1, none⟩ = some (.int .i64 a0_1) ∧ w'.cell? ⟨gbAc, 2, none⟩ = some (.int .i64 a0_2) ∧ w'.cell? ⟨gbAc, 3, none⟩ = some (.int .i64 a0_3) ∧ w'.cell? ⟨gbAc, 4, none⟩ = some (.int .i64 a0_4) ∧ w'.cell? ⟨gbAc, 5, none⟩ = some (.slice A0_5 l0_5.length c0_5)) (ds := []) #[false, false, false, false, false, false, false, false, false, false, false, false, false, false, false] (by kernel_rfl) rfl rfl ⟨bc_ BKAb 0, bc_ BKAb 1, bc_ BKAb 2, bc_ BKAb 3, bc_ BKAb 4, bc_ BKAb 5, bc_ BKAc 0, bc_ BKAc 1, bc_ BKAc 2, bc_ BKAc 3, bc_ BKAc 4, bc_ BKAc 5⟩ (fun hHeld => ?_); refine with_tabW plaitinglaw5_Make.tab1 plaitinglaw5_Make.bits1 (fun HT_ HW_ => ?_)
 generalize w11.drew = w12 at BKAc BKAb BKAd HB hHeld ⊢
 refine pq_ 0 10 HT_ ?_
 refine pq_ 4 14 HT_ ?_
 refine pq_ 7 17 HT_ ?_
 refine tq_ 1 11 HT_ HW_ hHeld ?_
 refine tq_ 5 15 HT_ HW_ hHeld ?_
 refine tq_ 8 18 HT_ HW_ hHeld ?_
 refine tq_ 9 19 HT_ HW_ hHeld ?_
 refine join_ (σ := Nat) 1 #[true, true, true, true, true, true, true, true, true, true, true, true, true, true, false] (fun s_ => [(12, .int .i64 tAh), (16, .int .i64 tAf), (20, .int .i64 tAj), (21, .int .i64 tAg), (7, .pointer (some ⟨s_, 0, none⟩)), (13, .int .i64 (wrap64 (1 + tAh))), (22, .agg #[.int .i64 (wrap64 (1 + tAh)), .int .i64 tAf, .int .i64 tAg, .int .i64 0, .int .i64 0, .slice none 0 0])]) (fun s_ w' => (w'.cell? ⟨gbAb, 0, none⟩ = some (.int .i64 a1_0) ∧ w'.cell? ⟨gbAb, 1, none⟩ = some (.int .i64 a1_1) ∧ w'.cell? ⟨gbAb, 2, none⟩ = some (.int .i64 a1_2) ∧ w'.cell? ⟨gbAb, 3, none⟩ = some (.int .i64 a1_3) ∧ w'.cell? ⟨gbAb, 4, none⟩ = some (.int .i64 a1_4) ∧ w'.cell? ⟨gbAb, 5, none⟩ = some (.slice A1_5 l1_5.length c1_5) ∧ w'.cell? ⟨gbAc, 0, none⟩ = some (.int .i64 a0_0) ∧ w'.cell? ⟨gbAc, 1, none⟩ = some (.int .i64 a0_1) ∧ w'.cell? ⟨gbAc, 2, none⟩ = some (.int .i64 a0_2) ∧ w'.cell? ⟨gbAc, 3, none⟩ = some (.int .i64 a0_3) ∧ w'.cell? ⟨gbAc, 4, none⟩ = some (.int .i64 a0_4) ∧ w'.cell? ⟨gbAc, 5, none⟩ = some (.slice A0_5 l0_5.length c0_5)) ∧ (w'.heap[gbAc]? = some (.cells #[.int .i64 a0_0, .int .i64 a0_1, .int .i64 a0_2, .int .i64 a0_3, .int .i64 a0_4, .slice A0_5 l0_5.length c0_5] 24 (0, 0))) ∧ (w'.heap[gbAb]? = some (.cells #[.int .i64 a1_0, .int .i64 a1_1, .int .i64 a1_2, .int .i64 a1_3, .int .i64 a1_4, .slice A1_5 l1_5.length c1_5] 29 (0, 0))) ∧ (w'.heap[gbAd]? = some (.cells #[.int .i64 0, .int .i64 0, .int .i64 0, .int .i64 0, .int .i64 0, .slice none 0 0] 29 (0, 0))) ∧ (w'.heap[s_]? = some (.cells #[.int .i64 0, .int .i64 0, .int .i64 0, .int .i64 0, .int .i64 0, .slice none 0 0] 29 (0, 0))) ∧ (w.heap.size ≤ s_) ∧ (w.heap.size ≤ s_) ∧ (gbAc ≠ s_) ∧ (s_ ≠ gbAc) ∧ (gbAb ≠ s_) ∧ (s_ ≠ gbAb) ∧ (gbAd ≠ s_) ∧ (s_ ≠ gbAd) ∧ (Below w.heap.size w w')) ?_ ?_
 rotate_left
 ·
  intro hJ2_6_10_11_13
  refine join_ (σ := Unit) 2 #[true, true, true, true, true, true, true, true, true, true, true, true, true, false, false] (fun s_ => [(12, .int .i64 tAh), (16, .int .i64 tAf), (20, .int .i64 tAj), (21, .int .i64 tAg), (13, .int .i64 (wrap64 (1 + tAh))), (22, .agg #[.int .i64 (wrap64 (1 + tAh)), .int .i64 tAf, .int .i64 tAg, .int .i64 0, .int .i64 0, .slice none 0 0])]) (fun s_ w' => (w'.cell? ⟨gbAb, 0, none⟩ = some (.int .i64 a1_0) ∧ w'.cell? ⟨gbAb, 1, none⟩ = some (.int .i64 a1_1) ∧ w'.cell? ⟨gbAb, 2, none⟩ = some (.int .i64 a1_2) ∧ w'.cell? ⟨gbAb, 3, none⟩ = some (.int .i64 a1_3) ∧ w'.cell? ⟨gbAb, 4, none⟩ = some (.int .i64 a1_4) ∧ w'.cell? ⟨gbAb, 5, none⟩ = some (.slice A1_5 l1_5.length c1_5) ∧ w'.cell? ⟨gbAc, 0, none⟩ = some (.int .i64 a0_0) ∧ w'.cell? ⟨gbAc, 1, none⟩ = some (.int .i64 a0_1) ∧ w'.cell? ⟨gbAc, 2, none⟩ = some (.int .i64 a0_2) ∧ w'.cell? ⟨gbAc, 3, none⟩ = some (.int .i64 a0_3) ∧ w'.cell? ⟨gbAc, 4, none⟩ = some (.int .i64 a0_4) ∧ w'.cell? ⟨gbAc, 5, none⟩ = some (.slice A0_5 l0_5.length c0_5)) ∧ (w'.heap[gbAc]? = some (.cells #[.int .i64 a0_0, .int .i64 a0_1, .int .i64 a0_2, .int .i64 a0_3, .int .i64 a0_4, .slice A0_5 l0_5.length c0_5] 24 (0, 0))) ∧ (w'.heap[gbAb]? = some (.cells #[.int .i64 a1_0, .int .i64 a1_1, .int .i64 a1_2, .int .i64 a1_3, .int .i64 a1_4, .slice A1_5 l1_5.length c1_5] 29 (0, 0))) ∧ (w'.heap[gbAd]? = some (.cells #[.int .i64 0, .int .i64 0, .int .i64 0, .int .i64 0, .int .i64 0, .slice none 0 0] 29 (0, 0))) ∧ (Below w.heap.size w w')) ?_ ?_
  rotate_left
  ·
   intro hJ2_6_10_11
   refine join_ (σ := Nat) 3 #[true, true, true, true, true, true, true, true, true, true, true, false, false, true, false] (fun s_ => [(12, .int .i64 tAh), (16, .int .i64 tAf), (20, .int .i64 tAj), (7, .pointer (some ⟨s_, 0, none⟩)), (13, .int .i64 (wrap64 (1 + tAh)))]) (fun s_ w' => (w'.cell? ⟨gbAb, 0, none⟩ = some (.int .i64 a1_0) ∧ w'.cell? ⟨gbAb, 1, none⟩ = some (.int .i64 a1_1) ∧ w'.cell? ⟨gbAb, 2, none⟩ = some (.int .i64 a1_2) ∧ w'.cell? ⟨gbAb, 3, none⟩ = some (.int .i64 a1_3) ∧ w'.cell? ⟨gbAb, 4, none⟩ = some (.int .i64 a1_4) ∧ w'.cell? ⟨gbAb, 5, none⟩ = some (.slice A1_5 l1_5.length c1_5) ∧ w'.cell? ⟨gbAc, 0, none⟩ = some (.int .i64 a0_0) ∧ w'.cell? ⟨gbAc, 1, none⟩ = some (.int .i64 a0_1) ∧ w'.cell? ⟨gbAc, 2, none⟩ = some (.int .i64 a0_2) ∧ w'.cell? ⟨gbAc, 3, none⟩ = some (.int .i64 a0_3) ∧ w'.cell? ⟨gbAc, 4, none⟩ = some (.int .i64 a0_4) ∧ w'.cell? ⟨gbAc, 5, none⟩ = some (.slice A0_5 l0_5.length c0_5)) ∧ (w'.heap[gbAc]? = some (.cells #[.int .i64 a0_0, .int .i64 a0_1, .int .i64 a0_2, .int .i64 a0_3, .int .i64 a0_4, .slice A0_5 l0_5.length c0_5] 24 (0, 0))) ∧ (w'.heap[gbAb]? = some (.cells #[.int .i64 a1_0, .int .i64 a1_1, .int .i64 a1_2, .int .i64 a1_3, .int .i64 a1_4, .slice A1_5 l1_5.length c1_5] 29 (0, 0))) ∧ (w'.heap[gbAd]? = some (.cells #[.int .i64 0, .int .i64 0, .int .i64 0, .int .i64 0, .int .i64 0, .slice none 0 0] 29 (0, 0))) ∧ (w'.heap[s_]? = some (.cells #[.int .i64 0, .int .i64 0, .int .i64 0, .int .i64 0, .int .i64 0, .slice none 0 0] 29 (0, 0))) ∧ (w.heap.size ≤ s_) ∧ (w.heap.size ≤ s_) ∧ (gbAc ≠ s_) ∧ (s_ ≠ gbAc) ∧ (gbAb ≠ s_) ∧ (s_ ≠ gbAb) ∧ (gbAd ≠ s_) ∧ (s_ ≠ gbAd) ∧ (Below w.heap.size w w')) ?_ ?_
   rotate_left
   ·
    intro hJ2_6_10_13
    refine join_ (σ := Unit) 4 #[true, true, true, true, true, true, true, true, true, true, true, false, false, false, false] (fun s_ => [(12, .int .i64 tAh), (16, .int .i64 tAf), (20, .int .i64 tAj), (13, .int .i64 (wrap64 (1 + tAh)))]) (fun s_ w' => (w'.cell? ⟨gbAb, 0, none⟩ = some (.int .i64 a1_0) ∧ w'.cell? ⟨gbAb, 1, none⟩ = some (.int .i64 a1_1) ∧ w'.cell? ⟨gbAb, 2, none⟩ = some (.int .i64 a1_2) ∧ w'.cell? ⟨gbAb, 3, none⟩ = some (.int .i64 a1_3) ∧ w'.cell? ⟨gbAb, 4, none⟩ = some (.int .i64 a1_4) ∧ w'.cell? ⟨gbAb, 5, none⟩ = some (.slice A1_5 l1_5.length c1_5) ∧ w'.cell? ⟨gbAc, 0, none⟩ = some (.int .i64 a0_0) ∧ w'.cell? ⟨gbAc, 1, none⟩ = some (.int .i64 a0_1) ∧ w'.cell? ⟨gbAc, 2, none⟩ = some (.int .i64 a0_2) ∧ w'.cell? ⟨gbAc, 3, none⟩ = some (.int .i64 a0_3) ∧ w'.cell? ⟨gbAc, 4, none⟩ = some (.int .i64 a0_4) ∧ w'.cell? ⟨gbAc, 5, none⟩ = some (.slice A0_5 l0_5.length c0_5)) ∧ (w'.heap[gbAc]? = some (.cells #[.int .i64 a0_0, .int .i64 a0_1, .int .i64 a0_2, .int .i64 a0_3, .int .i64 a0_4, .slice A0_5 l0_5.length c0_5] 24 (0, 0))) ∧ (w'.heap[gbAb]? = some (.cells #[.int .i64 a1_0, .int .i64 a1_1, .int .i64 a1_2, .int .i64 a1_3, .int .i64 a1_4, .slice A1_5 l1_5.length c1_5] 29 (0, 0))) ∧ (w'.heap[gbAd]? = some (.cells #[.int .i64 0, .int .i64 0, .int .i64 0, .int .i64 0, .int .i64 0, .slice none 0 0] 29 (0, 0))) ∧ (Below w.heap.size w w')) ?_ ?_
    rotate_left
    ·
     intro hJ2_6_10
     refine join_ (σ := Nat) 4 #[true, true, true, true, true, true, true, true, true, true, false, false, false, true, false] (fun s_ => [(12, .int .i64 tAh), (16, .int .i64 tAf), (7, .pointer (some ⟨s_, 0, none⟩)), (13, .int .i64 (wrap64 (1 + tAh)))]) (fun s_ w' => (w'.cell? ⟨gbAb, 0, none⟩ = some (.int .i64 a1_0) ∧ w'.cell? ⟨gbAb, 1, none⟩ = some (.int .i64 a1_1) ∧ w'.cell? ⟨gbAb, 2, none⟩ = some (.int .i64 a1_2) ∧ w'.cell? ⟨gbAb, 3, none⟩ = some (.int .i64 a1_3) ∧ w'.cell? ⟨gbAb, 4, none⟩ = some (.int .i64 a1_4) ∧ w'.cell? ⟨gbAb, 5, none⟩ = some (.slice A1_5 l1_5.length c1_5) ∧ w'.cell? ⟨gbAc, 0, none⟩ = some (.int .i64 a0_0) ∧ w'.cell? ⟨gbAc, 1, none⟩ = some (.int .i64 a0_1) ∧ w'.cell? ⟨gbAc, 2, none⟩ = some (.int .i64 a0_2) ∧ w'.cell? ⟨gbAc, 3, none⟩ = some (.int .i64 a0_3) ∧ w'.cell? ⟨gbAc, 4, none⟩ = some (.int .i64 a0_4) ∧ w'.cell? ⟨gbAc, 5, none⟩ = some (.slice A0_5 l0_5.length c0_5)) ∧ (w'.heap[gbAc]? = some (.cells #[.int .i64 a0_0, .int .i64 a0_1, .int .i64 a0_2, .int .i64 a0_3, .int .i64 a0_4, .slice A0_5 l0_5.length c0_5] 24 (0, 0))) ∧ (w'.heap[gbAb]? = some (.cells #[.int .i64 a1_0, .int .i64 a1_1, .int .i64 a1_2, .int .i64 a1_3, .int .i64 a1_4, .slice A1_5 l1_5.length c1_5] 29 (0, 0))) ∧ (w'.heap[gbAd]? = some (.cells #[.int .i64 0, .int .i64 0, .int .i64 0, .int .i64 0, .int .i64 0, .slice none 0 0] 29 (0, 0))) ∧ (w'.heap[s_]? = some (.cells #[.int .i64 0, .int .i64 0, .int .i64 0, .int .i64 0, .int .i64 0, .slice none 0 0] 29 (0, 0))) ∧ (w.heap.size ≤ s_) ∧ (w.heap.size ≤ s_) ∧ (gbAc ≠ s_) ∧ (s_ ≠ gbAc) ∧ (gbAb ≠ s_) ∧ (s_ ≠ gbAb) ∧ (gbAd ≠ s_) ∧ (s_ ≠ gbAd) ∧ (Below w.heap.size w w')) ?_ ?_
     rotate_left
     ·
      intro hJ2_6_13
      refine join_ (σ := Unit) 5 #[true, true, true, true, true, true, true, true, true, true, false, false, false, false, false] (fun s_ => [(12, .int .i64 tAh), (16, .int .i64 tAf), (13, .int .i64 (wrap64 (1 + tAh)))]) (fun s_ w' => (w'.cell? ⟨gbAb, 0, none⟩ = some (.int .i64 a1_0) ∧ w'.cell? ⟨gbAb, 1, none⟩ = some (.int .i64 a1_1) ∧ w'.cell? ⟨gbAb, 2, none⟩ = some (.int .i64 a1_2) ∧ w'.cell? ⟨gbAb, 3, none⟩ = some (.int .i64 a1_3) ∧ w'.cell? ⟨gbAb, 4, none⟩ = some (.int .i64 a1_4) ∧ w'.cell? ⟨gbAb, 5, none⟩ = some (.slice A1_5 l1_5.length c1_5) ∧ w'.cell? ⟨gbAc, 0, none⟩ = some (.int .i64 a0_0) ∧ w'.cell? ⟨gbAc, 1, none⟩ = some (.int .i64 a0_1) ∧ w'.cell? ⟨gbAc, 2, none⟩ = some (.int .i64 a0_2) ∧ w'.cell? ⟨gbAc, 3, none⟩ = some (.int .i64 a0_3) ∧ w'.cell? ⟨gbAc, 4, none⟩ = some (.int .i64 a0_4) ∧ w'.cell? ⟨gbAc, 5, none⟩ = some (.slice A0_5 l0_5.length c0_5)) ∧ (w'.heap[gbAc]? = some (.cells #[.int .i64 a0_0, .int .i64 a0_1, .int .i64 a0_2, .int .i64 a0_3, .int .i64 a0_4, .slice A0_5 l0_5.length c0_5] 24 (0, 0))) ∧ (w'.heap[gbAb]? = some (.cells #[.int .i64 a1_0, .int .i64 a1_1, .int .i64 a1_2, .int .i64 a1_3, .int .i64 a1_4, .slice A1_5 l1_5.length c1_5] 29 (0, 0))) ∧ (w'.heap[gbAd]? = some (.cells #[.int .i64 0, .int .i64 0, .int .i64 0, .int .i64 0, .int .i64 0, .slice none 0 0] 29 (0, 0))) ∧ (Below w.heap.size w w')) ?_ ?_
      rotate_left
      ·
       intro hJ2_6
       refine join_ (σ := Nat) 5 #[true, true, true, true, true, true, false, true, true, true, false, false, false, true, false] (fun s_ => [(12, .int .i64 tAh), (7, .pointer (some ⟨s_, 0, none⟩)), (13, .int .i64 (wrap64 (1 + tAh)))]) (fun s_ w' => (w'.cell? ⟨gbAb, 0, none⟩ = some (.int .i64 a1_0) ∧ w'.cell? ⟨gbAb, 1, none⟩ = some (.int .i64 a1_1) ∧ w'.cell? ⟨gbAb, 2, none⟩ = some (.int .i64 a1_2) ∧ w'.cell? ⟨gbAb, 3, none⟩ = some (.int .i64 a1_3) ∧ w'.cell? ⟨gbAb, 4, none⟩ = some (.int .i64 a1_4) ∧ w'.cell? ⟨gbAb, 5, none⟩ = some (.slice A1_5 l1_5.length c1_5) ∧ w'.cell? ⟨gbAc, 0, none⟩ = some (.int .i64 a0_0) ∧ w'.cell? ⟨gbAc, 1, none⟩ = some (.int .i64 a0_1) ∧ w'.cell? ⟨gbAc, 2, none⟩ = some (.int .i64 a0_2) ∧ w'.cell? ⟨gbAc, 3, none⟩ = some (.int .i64 a0_3) ∧ w'.cell? ⟨gbAc, 4, none⟩ = some (.int .i64 a0_4) ∧ w'.cell? ⟨gbAc, 5, none⟩ = some (.slice A0_5 l0_5.length c0_5)) ∧ (w'.heap[gbAc]? = some (.cells #[.int .i64 a0_0, .int .i64 a0_1, .int .i64 a0_2, .int .i64 a0_3, .int .i64 a0_4, .slice A0_5 l0_5.length c0_5] 24 (0, 0))) ∧ (w'.heap[gbAb]? = some (.cells #[.int .i64 a1_0, .int .i64 a1_1, .int .i64 a1_2, .int .i64 a1_3, .int .i64 a1_4, .slice A1_5 l1_5.length c1_5] 29 (0, 0))) ∧ (w'.heap[gbAd]? = some (.cells #[.int .i64 0, .int .i64 0, .int .i64 0, .int .i64 0, .int .i64 0, .slice none 0 0] 29 (0, 0))) ∧ (w'.heap[s_]? = some (.cells #[.int .i64 0, .int .i64 0, .int .i64 0, .int .i64 0, .int .i64 0, .slice none 0 0] 29 (0, 0))) ∧ (w.heap.size ≤ s_) ∧ (w.heap.size ≤ s_) ∧ (gbAc ≠ s_) ∧ (s_ ≠ gbAc) ∧ (gbAb ≠ s_) ∧ (s_ ≠ gbAb) ∧ (gbAd ≠ s_) ∧ (s_ ≠ gbAd) ∧ (Below w.heap.size w w')) ?_ ?_
       rotate_left
       ·
        intro hJ2_13
        refine join_ (σ := Unit) 6 #[true, true, true, true, true, true, false, true, true, true, false, false, false, false, false] (fun s_ => [(12, .int .i64 tAh), (13, .int .i64 (wrap64 (1 + tAh)))]) (fun s_ w' => (w'.cell? ⟨gbAb, 0, none⟩ = some (.int .i64 a1_0) ∧ w'.cell? ⟨gbAb, 1, none⟩ = some (.int .i64 a1_1) ∧ w'.cell? ⟨gbAb, 2, none⟩ = some (.int .i64 a1_2) ∧ w'.cell? ⟨gbAb, 3, none⟩ = some (.int .i64 a1_3) ∧ w'.cell? ⟨gbAb, 4, none⟩ = some (.int .i64 a1_4) ∧ w'.cell? ⟨gbAb, 5, none⟩ = some (.slice A1_5 l1_5.length c1_5) ∧ w'.cell? ⟨gbAc, 0, none⟩ = some (.int .i64 a0_0) ∧ w'.cell? ⟨gbAc, 1, none⟩ = some (.int .i64 a0_1) ∧ w'.cell? ⟨gbAc, 2, none⟩ = some (.int .i64 a0_2) ∧ w'.cell? ⟨gbAc, 3, none⟩ = some (.int .i64 a0_3) ∧ w'.cell? ⟨gbAc, 4, none⟩ = some (.int .i64 a0_4) ∧ w'.cell? ⟨gbAc, 5, none⟩ = some (.slice A0_5 l0_5.length c0_5)) ∧ (w'.heap[gbAc]? = some (.cells #[.int .i64 a0_0, .int .i64 a0_1, .int .i64 a0_2, .int .i64 a0_3, .int .i64 a0_4, .slice A0_5 l0_5.length c0_5] 24 (0, 0))) ∧ (w'.heap[gbAb]? = some (.cells #[.int .i64 a1_0, .int .i64 a1_1, .int .i64 a1_2, .int .i64 a1_3, .int .i64 a1_4, .slice A1_5 l1_5.length c1_5] 29 (0, 0))) ∧ (w'.heap[gbAd]? = some (.cells #[.int .i64 0, .int .i64 0, .int .i64 0, .int .i64 0, .int .i64 0, .slice none 0 0] 29 (0, 0))) ∧ (Below w.heap.size w w')) ?_ ?_
        rotate_left
        ·
         intro hJ2
         refine join_ (σ := Nat) 7 #[true, true, false, false, true, true, false, true, true, true, false, false, false, true, false] (fun s_ => [(7, .pointer (some ⟨s_, 0, none⟩))]) (fun s_ w' => (w'.cell? ⟨gbAb, 0, none⟩ = some (.int .i64 a1_0) ∧ w'.cell? ⟨gbAb, 1, none⟩ = some (.int .i64 a1_1) ∧ w'.cell? ⟨gbAb, 2, none⟩ = some (.int .i64 a1_2) ∧ w'.cell? ⟨gbAb, 3, none⟩ = some (.int .i64 a1_3) ∧ w'.cell? ⟨gbAb, 4, none⟩ = some (.int .i64 a1_4) ∧ w'.cell? ⟨gbAb, 5, none⟩ = some (.slice A1_5 l1_5.length c1_5) ∧ w'.cell? ⟨gbAc, 0, none⟩ = some (.int .i64 a0_0) ∧ w'.cell? ⟨gbAc, 1, none⟩ = some (.int .i64 a0_1) ∧ w'.cell? ⟨gbAc, 2, none⟩ = some (.int .i64 a0_2) ∧ w'.cell? ⟨gbAc, 3, none⟩ = some (.int .i64 a0_3) ∧ w'.cell? ⟨gbAc, 4, none⟩ = some (.int .i64 a0_4) ∧ w'.cell? ⟨gbAc, 5, none⟩ = some (.slice A0_5 l0_5.length c0_5)) ∧ (w'.heap[gbAc]? = some (.cells #[.int .i64 a0_0, .int .i64 a0_1, .int .i64 a0_2, .int .i64 a0_3, .int .i64 a0_4, .slice A0_5 l0_5.length c0_5] 24 (0, 0))) ∧ (w'.heap[gbAb]? = some (.cells #[.int .i64 a1_0, .int .i64 a1_1, .int .i64 a1_2, .int .i64 a1_3, .int .i64 a1_4, .slice A1_5 l1_5.length c1_5] 29 (0, 0))) ∧ (w'.heap[gbAd]? = some (.cells #[.int .i64 0, .int .i64 0, .int .i64 0, .int .i64 0, .int .i64 0, .slice none 0 0] 29 (0, 0))) ∧ (w'.heap[s_]? = some (.cells #[.int .i64 0, .int .i64 0, .int .i64 0, .int .i64 0, .int .i64 0, .slice none 0 0] 29 (0, 0))) ∧ (w.heap.size ≤ s_) ∧ (w.heap.size ≤ s_) ∧ (gbAc ≠ s_) ∧ (s_ ≠ gbAc) ∧ (gbAb ≠ s_) ∧ (s_ ≠ gbAb) ∧ (gbAd ≠ s_) ∧ (s_ ≠ gbAd) ∧ (Below w.heap.size w w')) ?_ ?_
         rotate_left
         ·
          intro hJ13
          refine two_ (i := 2) (j := 13) (Ni := some 12) (Nj := some 7) #[true, true, true, false, true, true, false, true, true, true, false, false, false, false, false] #[true, true, false, false, true, true, false, true, true, true, false, false, false, true, false] rfl rfl rfl rfl (two_of HT_.out (by kernel_rfl)) (by decide) (by decide) (fun K hK => ?_) (fun K hK => ?_)
          ·
           skip
           refine gs_ Try.func24 #[.int .i64 a1_0, .int .i64 3] ?_
           with_reducible refine (plaitinglaw5_within.calls a1_0 3 tAh _ A4.out).mono ?_
           rintro e w' ⟨rfl, ⟨nd, rfl⟩⟩
           refine ⟨_, rfl, ?_⟩
           refine hK.out _ _ ⟨bc_ BKAb 0, bc_ BKAb 1, bc_ BKAb 2, bc_ BKAb 3, bc_ BKAb 4, bc_ BKAb 5, bc_ BKAc 0, bc_ BKAc 1, bc_ BKAc 2, bc_ BKAc 3, bc_ BKAc 4, bc_ BKAc 5⟩ (fun hHeld => ?_)
           clear hK K
           refine nq_ 12 ?_
           refine pq_ 3 13 HT_ ?_
           exact norm2_ (hJ2 () _ ⟨hHeld, (pB_ BKAc.out), (pB_ BKAb.out), (pB_ BKAd.out), (pH_ HB.out)⟩)
          skip
          refine box_step ?hg (N := 7) ?hd (cs := #[.int .i64 0, .int .i64 0, .int .i64 0, .int .i64 0, .int .i64 0, .slice none 0 0]) (t := 29) ?hr ?_; (case hd => rfl); (case hg => rfl); (case hr => first | (go_simp; done) | (go_simp; rfl))
          intro gbAa hg w13 hbox hb
          have BKAa := Aside0.mk (hbox)
          have GWAa := Aside0.mk ((by rw [hg]; exact (below_size (pH_ HB.out)) : w.heap.size ≤ gbAa))
          have GEAa := Aside0.mk ((by rw [hg]; exact (below_size (pH_ HB.out)) : w.heap.size ≤ gbAa))
          have NBAc_Aa := Aside0.mk (ltB_ hg BKAc.out)
          have NBAa_Ac := Aside0.mk (ltB_ hg BKAc.out).symm
          have NBAb_Aa := Aside0.mk (ltB_ hg BKAb.out)
          have NBAa_Ab := Aside0.mk (ltB_ hg BKAb.out).symm
          have NBAd_Aa := Aside0.mk (ltB_ hg BKAd.out)
          have NBAa_Ad := Aside0.mk (ltB_ hg BKAd.out).symm
          replace BKAc := bb_ BKAc hb
          replace BKAb := bb_ BKAb hb
          replace BKAd := bb_ BKAd hb
          replace HB := bs_ HB hb
          clear hb hbox hg
          refine hK.out _ _ ⟨bc_ BKAb 0, bc_ BKAb 1, bc_ BKAb 2, bc_ BKAb 3, bc_ BKAb 4, bc_ BKAb 5, bc_ BKAc 0, bc_ BKAc 1, bc_ BKAc 2, bc_ BKAc 3, bc_ BKAc 4, bc_ BKAc 5⟩ (fun hHeld => ?_)
          clear hK K
          refine nq_ 7 ?_
          exact norm2_ (hJ13 (gbAa) _ ⟨hHeld, (pB_ BKAc.out), (pB_ BKAb.out), (pB_ BKAd.out), (pB_ BKAa.out), GWAa.out, GEAa.out, NBAc_Aa.out, NBAa_Ac.out, NBAb_Aa.out, NBAa_Ab.out, NBAd_Aa.out, NBAa_Ad.out, (pH_ HB.out)⟩)
         skip
         rintro gbAa w14 ⟨hS_, h0_, h1_, h2_, h3_, h4_, h5_, h6_, h7_, h8_, h9_, h10_, h11_, h12_⟩
         have n0_ : Aside0 (w14.heap[gbAc]? = some (.cells #[.int .i64 a0_0, .int .i64 a0_1, .int .i64 a0_2, .int .i64 a0_3, .int .i64 a0_4, .slice A0_5 l0_5.length c0_5] 24 (0, 0))) := ⟨h0_⟩
         have n1_ : Aside0 (w14.heap[gbAb]? = some (.cells #[.int .i64 a1_0, .int .i64 a1_1, .int .i64 a1_2, .int .i64 a1_3, .int .i64 a1_4, .slice A1_5 l1_5.length c1_5] 29 (0, 0))) := ⟨h1_⟩
         have n2_ : Aside0 (w14.heap[gbAd]? = some (.cells #[.int .i64 0, .int .i64 0, .int .i64 0, .int .i64 0, .int .i64 0, .slice none 0 0] 29 (0, 0))) := ⟨h2_⟩
         have n3_ : Aside0 (w14.heap[gbAa]? = some (.cells #[.int .i64 0, .int .i64 0, .int .i64 0, .int .i64 0, .int .i64 0, .slice none 0 0] 29 (0, 0))) := ⟨h3_⟩
         have n4_ : Aside0 (w.heap.size ≤ gbAa) := ⟨h4_⟩
         have n5_ : Aside0 (w.heap.size ≤ gbAa) := ⟨h5_⟩
         have n6_ : Aside0 (gbAc ≠ gbAa) := ⟨h6_⟩
         have n7_ : Aside0 (gbAa ≠ gbAc) := ⟨h7_⟩
         have n8_ : Aside0 (gbAb ≠ gbAa) := ⟨h8_⟩
         have n9_ : Aside0 (gbAa ≠ gbAb) := ⟨h9_⟩
         have n10_ : Aside0 (gbAd ≠ gbAa) := ⟨h10_⟩
         have n11_ : Aside0 (gbAa ≠ gbAd) := ⟨h11_⟩
         have n12_ : Aside0 (Below w.heap.size w w14) := ⟨h12_⟩
         clear BKAc
         clear BKAb
         clear BKAd
         clear HB
         clear h0_ h1_ h2_ h3_ h4_ h5_ h6_ h7_ h8_ h9_ h10_ h11_ h12_
         have BKAc := n0_
         have BKAb := n1_
         have BKAd := n2_
         have BKAa := n3_
         have GWAa := n4_
         have GEAa := n5_
         have NBAc_Aa := n6_
         have NBAa_Ac := n7_
         have NBAb_Aa := n8_
         have NBAa_Ab := n9_
         have NBAd_Aa := n10_
         have NBAa_Ad := n11_
         have HB := n12_
         clear n0_ n1_ n2_ n3_ n4_ n5_ n6_ n7_ n8_ n9_ n10_ n11_ n12_
         have hHeld : w14.cell? ⟨gbAb, 0, none⟩ = some (.int .i64 a1_0) ∧ w14.cell? ⟨gbAb, 1, none⟩ = some (.int .i64 a1_1) ∧ w14.cell? ⟨gbAb, 2, none⟩ = some (.int .i64 a1_2) ∧ w14.cell? ⟨gbAb, 3, none⟩ = some (.int .i64 a1_3) ∧ w14.cell? ⟨gbAb, 4, none⟩ = some (.int .i64 a1_4) ∧ w14.cell? ⟨gbAb, 5, none⟩ = some (.slice A1_5 l1_5.length c1_5) ∧ w14.cell? ⟨gbAc, 0, none⟩ = some (.int .i64 a0_0) ∧ w14.cell? ⟨gbAc, 1, none⟩ = some (.int .i64 a0_1) ∧ w14.cell? ⟨gbAc, 2, none⟩ = some (.int .i64 a0_2) ∧ w14.cell? ⟨gbAc, 3, none⟩ = some (.int .i64 a0_3) ∧ w14.cell? ⟨gbAc, 4, none⟩ = some (.int .i64 a0_4) ∧ w14.cell? ⟨gbAc, 5, none⟩ = some (.slice A0_5 l0_5.length c0_5) := hS_
         refine norm_ (a' := ?_) ?_ ?_
         rotate_left
         ·
          simp only [putAll, Act.put, List.setIfInBounds_toArray, List.set_cons_zero, List.set_cons_succ]
          rfl
         refine oq_ 2 12 HT_ (fun K hK => ?_)
         refine gs_ Try.func24 #[.int .i64 a1_0, .int .i64 3] ?_
         with_reducible refine (plaitinglaw5_within.calls a1_0 3 tAh _ A4.out).mono ?_
         rintro e w' ⟨rfl, ⟨nd, rfl⟩⟩
         refine ⟨_, rfl, ?_⟩
         refine hK.out _ _ ⟨bc_ BKAb 0, bc_ BKAb 1, bc_ BKAb 2, bc_ BKAb 3, bc_ BKAb 4, bc_ BKAb 5, bc_ BKAc 0, bc_ BKAc 1, bc_ BKAc 2, bc_ BKAc 3, bc_ BKAc 4, bc_ BKAc 5⟩ (fun hHeld => ?_)
         clear hK K
         refine nq_ 12 ?_
         refine pq_ 3 13 HT_ ?_
         exact norm2_ (hJ2_13 (gbAa) _ ⟨hHeld, (pB_ BKAc.out), (pB_ BKAb.out), (pB_ BKAd.out), (pB_ BKAa.out), GWAa.out, GEAa.out, NBAc_Aa.out, NBAa_Ac.out, NBAb_Aa.out, NBAa_Ab.out, NBAd_Aa.out, NBAa_Ad.out, (pH_ HB.out)⟩)
        skip
        rintro _ w13 ⟨hS_, h0_, h1_, h2_, h3_⟩
        have n0_ : Aside0 (w13.heap[gbAc]? = some (.cells #[.int .i64 a0_0, .int .i64 a0_1, .int .i64 a0_2, .int .i64 a0_3, .int .i64 a0_4, .slice A0_5 l0_5.length c0_5] 24 (0, 0))) := ⟨h0_⟩
        have n1_ : Aside0 (w13.heap[gbAb]? = some (.cells #[.int .i64 a1_0, .int .i64 a1_1, .int .i64 a1_2, .int .i64 a1_3, .int .i64 a1_4, .slice A1_5 l1_5.length c1_5] 29 (0, 0))) := ⟨h1_⟩
        have n2_ : Aside0 (w13.heap[gbAd]? = some (.cells #[.int .i64 0, .int .i64 0, .int .i64 0, .int .i64 0, .int .i64 0, .slice none 0 0] 29 (0, 0))) := ⟨h2_⟩
        have n3_ : Aside0 (Below w.heap.size w w13) := ⟨h3_⟩
        clear BKAc
        clear BKAb
        clear BKAd
        clear HB
        clear h0_ h1_ h2_ h3_
        have BKAc := n0_
        have BKAb := n1_
        have BKAd := n2_
        have HB := n3_
        clear n0_ n1_ n2_ n3_
        have hHeld : w13.cell? ⟨gbAb, 0, none⟩ = some (.int .i64 a1_0) ∧ w13.cell? ⟨gbAb, 1, none⟩ = some (.int .i64 a1_1) ∧ w13.cell? ⟨gbAb, 2, none⟩ = some (.int .i64 a1_2) ∧ w13.cell? ⟨gbAb, 3, none⟩ = some (.int .i64 a1_3) ∧ w13.cell? ⟨gbAb, 4, none⟩ = some (.int .i64 a1_4) ∧ w13.cell? ⟨gbAb, 5, none⟩ = some (.slice A1_5 l1_5.length c1_5) ∧ w13.cell? ⟨gbAc, 0, none⟩ = some (.int .i64 a0_0) ∧ w13.cell? ⟨gbAc, 1, none⟩ = some (.int .i64 a0_1) ∧ w13.cell? ⟨gbAc, 2, none⟩ = some (.int .i64 a0_2) ∧ w13.cell? ⟨gbAc, 3, none⟩ = some (.int .i64 a0_3) ∧ w13.cell? ⟨gbAc, 4, none⟩ = some (.int .i64 a0_4) ∧ w13.cell? ⟨gbAc, 5, none⟩ = some (.slice A0_5 l0_5.length c0_5) := hS_
        refine norm_ (a' := ?_) ?_ ?_
        rotate_left
        ·
         simp only [putAll, Act.put, List.setIfInBounds_toArray, List.set_cons_zero, List.set_cons_succ]
         rfl
        refine two_ (i := 6) (j := 13) (Ni := some 16) (Nj := some 7) #[true, true, true, true, true, true, true, true, true, true, false, false, false, false, false] #[true, true, true, true, true, true, false, true, true, true, false, false, false, true, false] rfl rfl rfl rfl (two_of HT_.out (by kernel_rfl)) (by decide) (by decide) (fun K hK => ?_) (fun K hK => ?_)
        ·
         skip
         refine gs_ Try.func24 #[.int .i64 a1_1, .int .i64 65536] ?_
         with_reducible refine (plaitinglaw5_within.calls a1_1 65536 tAf _ A5.out).mono ?_
         rintro e w' ⟨rfl, ⟨nd, rfl⟩⟩
         refine ⟨_, rfl, ?_⟩
         refine hK.out _ _ ⟨bc_ BKAb 0, bc_ BKAb 1, bc_ BKAb 2, bc_ BKAb 3, bc_ BKAb 4, bc_ BKAb 5, bc_ BKAc 0, bc_ BKAc 1, bc_ BKAc 2, bc_ BKAc 3, bc_ BKAc 4, bc_ BKAc 5⟩ (fun hHeld => ?_)
         clear hK K
         refine nq_ 16 ?_
         exact norm2_ (hJ2_6 () _ ⟨hHeld, (pB_ BKAc.out), (pB_ BKAb.out), (pB_ BKAd.out), (pH_ HB.out)⟩)
        skip
        refine box_step ?hg (N := 7) ?hd (cs := #[.int .i64 0, .int .i64 0, .int .i64 0, .int .i64 0, .int .i64 0, .slice none 0 0]) (t := 29) ?hr ?_; (case hd => rfl); (case hg => rfl); (case hr => first | (go_simp; done) | (go_simp; rfl))
        intro gbAa hg w14 hbox hb
        have BKAa := Aside0.mk (hbox)
        have GWAa := Aside0.mk ((by rw [hg]; exact (below_size (pH_ HB.out)) : w.heap.size ≤ gbAa))
        have GEAa := Aside0.mk ((by rw [hg]; exact (below_size (pH_ HB.out)) : w.heap.size ≤ gbAa))
        have NBAc_Aa := Aside0.mk (ltB_ hg BKAc.out)
        have NBAa_Ac := Aside0.mk (ltB_ hg BKAc.out).symm
        have NBAb_Aa := Aside0.mk (ltB_ hg BKAb.out)
        have NBAa_Ab := Aside0.mk (ltB_ hg BKAb.out).symm
        have NBAd_Aa := Aside0.mk (ltB_ hg BKAd.out)
        have NBAa_Ad := Aside0.mk (ltB_ hg BKAd.out).symm
        replace BKAc := bb_ BKAc hb
        replace BKAb := bb_ BKAb hb
        replace BKAd := bb_ BKAd hb
        replace HB := bs_ HB hb
        clear hb hbox hg
        refine hK.out _ _ ⟨bc_ BKAb 0, bc_ BKAb 1, bc_ BKAb 2, bc_ BKAb 3, bc_ BKAb 4, bc_ BKAb 5, bc_ BKAc 0, bc_ BKAc 1, bc_ BKAc 2, bc_ BKAc 3, bc_ BKAc 4, bc_ BKAc 5⟩ (fun hHeld => ?_)
        clear hK K
        refine nq_ 7 ?_
        exact norm2_ (hJ2_13 (gbAa) _ ⟨hHeld, (pB_ BKAc.out), (pB_ BKAb.out), (pB_ BKAd.out), (pB_ BKAa.out), GWAa.out, GEAa.out, NBAc_Aa.out, NBAa_Ac.out, NBAb_Aa.out, NBAa_Ab.out, NBAd_Aa.out, NBAa_Ad.out, (pH_ HB.out)⟩)
       skip
       rintro gbAa w14 ⟨hS_, h0_, h1_, h2_, h3_, h4_, h5_, h6_, h7_, h8_, h9_, h10_, h11_, h12_⟩
       have n0_ : Aside0 (w14.heap[gbAc]? = some (.cells #[.int .i64 a0_0, .int .i64 a0_1, .int .i64 a0_2, .int .i64 a0_3, .int .i64 a0_4, .slice A0_5 l0_5.length c0_5] 24 (0, 0))) := ⟨h0_⟩
       have n1_ : Aside0 (w14.heap[gbAb]? = some (.cells #[.int .i64 a1_0, .int .i64 a1_1, .int .i64 a1_2, .int .i64 a1_3, .int .i64 a1_4, .slice A1_5 l1_5.length c1_5] 29 (0, 0))) := ⟨h1_⟩
       have n2_ : Aside0 (w14.heap[gbAd]? = some (.cells #[.int .i64 0, .int .i64 0, .int .i64 0, .int .i64 0, .int .i64 0, .slice none 0 0] 29 (0, 0))) := ⟨h2_⟩
       have n3_ : Aside0 (w14.heap[gbAa]? = some (.cells #[.int .i64 0, .int .i64 0, .int .i64 0, .int .i64 0, .int .i64 0, .slice none 0 0] 29 (0, 0))) := ⟨h3_⟩
       have n4_ : Aside0 (w.heap.size ≤ gbAa) := ⟨h4_⟩
       have n5_ : Aside0 (w.heap.size ≤ gbAa) := ⟨h5_⟩
       have n6_ : Aside0 (gbAc ≠ gbAa) := ⟨h6_⟩
       have n7_ : Aside0 (gbAa ≠ gbAc) := ⟨h7_⟩
       have n8_ : Aside0 (gbAb ≠ gbAa) := ⟨h8_⟩
       have n9_ : Aside0 (gbAa ≠ gbAb) := ⟨h9_⟩
       have n10_ : Aside0 (gbAd ≠ gbAa) := ⟨h10_⟩
       have n11_ : Aside0 (gbAa ≠ gbAd) := ⟨h11_⟩
       have n12_ : Aside0 (Below w.heap.size w w14) := ⟨h12_⟩
       clear BKAc
       clear BKAb
       clear BKAd
       clear HB
       clear h0_ h1_ h2_ h3_ h4_ h5_ h6_ h7_ h8_ h9_ h10_ h11_ h12_
       have BKAc := n0_
       have BKAb := n1_
       have BKAd := n2_
       have BKAa := n3_
       have GWAa := n4_
       have GEAa := n5_
       have NBAc_Aa := n6_
       have NBAa_Ac := n7_
       have NBAb_Aa := n8_
       have NBAa_Ab := n9_
       have NBAd_Aa := n10_
       have NBAa_Ad := n11_
       have HB := n12_
       clear n0_ n1_ n2_ n3_ n4_ n5_ n6_ n7_ n8_ n9_ n10_ n11_ n12_
       have hHeld : w14.cell? ⟨gbAb, 0, none⟩ = some (.int .i64 a1_0) ∧ w14.cell? ⟨gbAb, 1, none⟩ = some (.int .i64 a1_1) ∧ w14.cell? ⟨gbAb, 2, none⟩ = some (.int .i64 a1_2) ∧ w14.cell? ⟨gbAb, 3, none⟩ = some (.int .i64 a1_3) ∧ w14.cell? ⟨gbAb, 4, none⟩ = some (.int .i64 a1_4) ∧ w14.cell? ⟨gbAb, 5, none⟩ = some (.slice A1_5 l1_5.length c1_5) ∧ w14.cell? ⟨gbAc, 0, none⟩ = some (.int .i64 a0_0) ∧ w14.cell? ⟨gbAc, 1, none⟩ = some (.int .i64 a0_1) ∧ w14.cell? ⟨gbAc, 2, none⟩ = some (.int .i64 a0_2) ∧ w14.cell? ⟨gbAc, 3, none⟩ = some (.int .i64 a0_3) ∧ w14.cell? ⟨gbAc, 4, none⟩ = some (.int .i64 a0_4) ∧ w14.cell? ⟨gbAc, 5, none⟩ = some (.slice A0_5 l0_5.length c0_5) := hS_
       refine norm_ (a' := ?_) ?_ ?_
       rotate_left
       ·
        simp only [putAll, Act.put, List.setIfInBounds_toArray, List.set_cons_zero, List.set_cons_succ]
        rfl
       refine oq_ 6 16 HT_ (fun K hK => ?_)
       refine gs_ Try.func24 #[.int .i64 a1_1, .int .i64 65536] ?_
       with_reducible refine (plaitinglaw5_within.calls a1_1 65536 tAf _ A5.out).mono ?_
       rintro e w' ⟨rfl, ⟨nd, rfl⟩⟩
       refine ⟨_, rfl, ?_⟩
       refine hK.out _ _ ⟨bc_ BKAb 0, bc_ BKAb 1, bc_ BKAb 2, bc_ BKAb 3, bc_ BKAb 4, bc_ BKAb 5, bc_ BKAc 0, bc_ BKAc 1, bc_ BKAc 2, bc_ BKAc 3, bc_ BKAc 4, bc_ BKAc 5⟩ (fun hHeld => ?_)
       clear hK K
       refine nq_ 16 ?_
       exact norm2_ (hJ2_6_13 (gbAa) _ ⟨hHeld, (pB_ BKAc.out), (pB_ BKAb.out), (pB_ BKAd.out), (pB_ BKAa.out), GWAa.out, GEAa.out, NBAc_Aa.out, NBAa_Ac.out, NBAb_Aa.out, NBAa_Ab.out, NBAd_Aa.out, NBAa_Ad.out, (pH_ HB.out)⟩)
      skip
      rintro _ w13 ⟨hS_, h0_, h1_, h2_, h3_⟩
      have n0_ : Aside0 (w13.heap[gbAc]? = some (.cells #[.int .i64 a0_0, .int .i64 a0_1, .int .i64 a0_2, .int .i64 a0_3, .int .i64 a0_4, .slice A0_5 l0_5.length c0_5] 24 (0, 0))) := ⟨h0_⟩
      have n1_ : Aside0 (w13.heap[gbAb]? = some (.cells #[.int .i64 a1_0, .int .i64 a1_1, .int .i64 a1_2, .int .i64 a1_3, .int .i64 a1_4, .slice A1_5 l1_5.length c1_5] 29 (0, 0))) := ⟨h1_⟩
      have n2_ : Aside0 (w13.heap[gbAd]? = some (.cells #[.int .i64 0, .int .i64 0, .int .i64 0, .int .i64 0, .int .i64 0, .slice none 0 0] 29 (0, 0))) := ⟨h2_⟩
      have n3_ : Aside0 (Below w.heap.size w w13) := ⟨h3_⟩
      clear BKAc
      clear BKAb
      clear BKAd
      clear HB
      clear h0_ h1_ h2_ h3_
      have BKAc := n0_
      have BKAb := n1_
      have BKAd := n2_
      have HB := n3_
      clear n0_ n1_ n2_ n3_
      have hHeld : w13.cell? ⟨gbAb, 0, none⟩ = some (.int .i64 a1_0) ∧ w13.cell? ⟨gbAb, 1, none⟩ = some (.int .i64 a1_1) ∧ w13.cell? ⟨gbAb, 2, none⟩ = some (.int .i64 a1_2) ∧ w13.cell? ⟨gbAb, 3, none⟩ = some (.int .i64 a1_3) ∧ w13.cell? ⟨gbAb, 4, none⟩ = some (.int .i64 a1_4) ∧ w13.cell? ⟨gbAb, 5, none⟩ = some (.slice A1_5 l1_5.length c1_5) ∧ w13.cell? ⟨gbAc, 0, none⟩ = some (.int .i64 a0_0) ∧ w13.cell? ⟨gbAc, 1, none⟩ = some (.int .i64 a0_1) ∧ w13.cell? ⟨gbAc, 2, none⟩ = some (.int .i64 a0_2) ∧ w13.cell? ⟨gbAc, 3, none⟩ = some (.int .i64 a0_3) ∧ w13.cell? ⟨gbAc, 4, none⟩ = some (.int .i64 a0_4) ∧ w13.cell? ⟨gbAc, 5, none⟩ = some (.slice A0_5 l0_5.length c0_5) := hS_
      refine norm_ (a' := ?_) ?_ ?_
      rotate_left
      ·
       simp only [putAll, Act.put, List.setIfInBounds_toArray, List.set_cons_zero, List.set_cons_succ]
       rfl
      refine two_ (i := 10) (j := 13) (Ni := some 20) (Nj := some 7) #[true, true, true, true, true, true, true, true, true, true, true, false, false, false, false] #[true, true, true, true, true, true, true, true, true, true, false, false, false, true, false] rfl rfl rfl rfl (two_of HT_.out (by kernel_rfl)) (by decide) (by decide) (fun K hK => ?_) (fun K hK => ?_)
      ·
       skip
       refine gs_ Try.func25 #[.agg #[.int .i64 a0_0, .int .i64 a0_1, .int .i64 a0_2, .int .i64 a0_3, .int .i64 a0_4, .slice A0_5 l0_5.length c0_5]] ?_
       with_reducible refine (plaitingref3_Slots.calls a0_0 a0_1 a0_2 a0_3 a0_4 _ _ l0_5 tAj _ ?side1 ?side2 A6.out).mono ?_
       (case side1 => exact cC_ (Kd.C_below HR0_5.out HB.out))
       (case side2 => exact HC0_5.out)
       rintro e w14 ⟨rfl, hb⟩
       refine ⟨_, rfl, ?_⟩
       replace BKAc := bb_ BKAc hb
       replace BKAb := bb_ BKAb hb
       replace BKAd := bb_ BKAd hb
       replace HB := bs_ HB hb
       (try clear hb)
       (try clear hb2)
       (try clear hk)
       (try clear hi)
       refine hK.out _ _ ⟨bc_ BKAb 0, bc_ BKAb 1, bc_ BKAb 2, bc_ BKAb 3, bc_ BKAb 4, bc_ BKAb 5, bc_ BKAc 0, bc_ BKAc 1, bc_ BKAc 2, bc_ BKAc 3, bc_ BKAc 4, bc_ BKAc 5⟩ (fun hHeld => ?_)
       clear hK K
       refine nq_ 20 ?_
       exact norm2_ (hJ2_6_10 () _ ⟨hHeld, (pB_ BKAc.out), (pB_ BKAb.out), (pB_ BKAd.out), (pH_ HB.out)⟩)
      skip
      refine box_step ?hg (N := 7) ?hd (cs := #[.int .i64 0, .int .i64 0, .int .i64 0, .int .i64 0, .int .i64 0, .slice none 0 0]) (t := 29) ?hr ?_; (case hd => rfl); (case hg => rfl); (case hr => first | (go_simp; done) | (go_simp; rfl))
      intro gbAa hg w14 hbox hb
      have BKAa := Aside0.mk (hbox)
      have GWAa := Aside0.mk ((by rw [hg]; exact (below_size (pH_ HB.out)) : w.heap.size ≤ gbAa))
      have GEAa := Aside0.mk ((by rw [hg]; exact (below_size (pH_ HB.out)) : w.heap.size ≤ gbAa))
      have NBAc_Aa := Aside0.mk (ltB_ hg BKAc.out)
      have NBAa_Ac := Aside0.mk (ltB_ hg BKAc.out).symm
      have NBAb_Aa := Aside0.mk (ltB_ hg BKAb.out)
      have NBAa_Ab := Aside0.mk (ltB_ hg BKAb.out).symm
      have NBAd_Aa := Aside0.mk (ltB_ hg BKAd.out)
      have NBAa_Ad := Aside0.mk (ltB_ hg BKAd.out).symm
      replace BKAc := bb_ BKAc hb
      replace BKAb := bb_ BKAb hb
      replace BKAd := bb_ BKAd hb
      replace HB := bs_ HB hb
      clear hb hbox hg
      refine hK.out _ _ ⟨bc_ BKAb 0, bc_ BKAb 1, bc_ BKAb 2, bc_ BKAb 3, bc_ BKAb 4, bc_ BKAb 5, bc_ BKAc 0, bc_ BKAc 1, bc_ BKAc 2, bc_ BKAc 3, bc_ BKAc 4, bc_ BKAc 5⟩ (fun hHeld => ?_)
      clear hK K
      refine nq_ 7 ?_
      exact norm2_ (hJ2_6_13 (gbAa) _ ⟨hHeld, (pB_ BKAc.out), (pB_ BKAb.out), (pB_ BKAd.out), (pB_ BKAa.out), GWAa.out, GEAa.out, NBAc_Aa.out, NBAa_Ac.out, NBAb_Aa.out, NBAa_Ab.out, NBAd_Aa.out, NBAa_Ad.out, (pH_ HB.out)⟩)
     skip
     rintro gbAa w14 ⟨hS_, h0_, h1_, h2_, h3_, h4_, h5_, h6_, h7_, h8_, h9_, h10_, h11_, h12_⟩
     have n0_ : Aside0 (w14.heap[gbAc]? = some (.cells #[.int .i64 a0_0, .int .i64 a0_1, .int .i64 a0_2, .int .i64 a0_3, .int .i64 a0_4, .slice A0_5 l0_5.length c0_5] 24 (0, 0))) := ⟨h0_⟩
     have n1_ : Aside0 (w14.heap[gbAb]? = some (.cells #[.int .i64 a1_0, .int .i64 a1_1, .int .i64 a1_2, .int .i64 a1_3, .int .i64 a1_4, .slice A1_5 l1_5.length c1_5] 29 (0, 0))) := ⟨h1_⟩
     have n2_ : Aside0 (w14.heap[gbAd]? = some (.cells #[.int .i64 0, .int .i64 0, .int .i64 0, .int .i64 0, .int .i64 0, .slice none 0 0] 29 (0, 0))) := ⟨h2_⟩
     have n3_ : Aside0 (w14.heap[gbAa]? = some (.cells #[.int .i64 0, .int .i64 0, .int .i64 0, .int .i64 0, .int .i64 0, .slice none 0 0] 29 (0, 0))) := ⟨h3_⟩
     have n4_ : Aside0 (w.heap.size ≤ gbAa) := ⟨h4_⟩
     have n5_ : Aside0 (w.heap.size ≤ gbAa) := ⟨h5_⟩
     have n6_ : Aside0 (gbAc ≠ gbAa) := ⟨h6_⟩
     have n7_ : Aside0 (gbAa ≠ gbAc) := ⟨h7_⟩
     have n8_ : Aside0 (gbAb ≠ gbAa) := ⟨h8_⟩
     have n9_ : Aside0 (gbAa ≠ gbAb) := ⟨h9_⟩
     have n10_ : Aside0 (gbAd ≠ gbAa) := ⟨h10_⟩
     have n11_ : Aside0 (gbAa ≠ gbAd) := ⟨h11_⟩
     have n12_ : Aside0 (Below w.heap.size w w14) := ⟨h12_⟩
     clear BKAc
     clear BKAb
     clear BKAd
     clear HB
     clear h0_ h1_ h2_ h3_ h4_ h5_ h6_ h7_ h8_ h9_ h10_ h11_ h12_
     have BKAc := n0_
     have BKAb := n1_
     have BKAd := n2_
     have BKAa := n3_
     have GWAa := n4_
     have GEAa := n5_
     have NBAc_Aa := n6_
     have NBAa_Ac := n7_
     have NBAb_Aa := n8_
     have NBAa_Ab := n9_
     have NBAd_Aa := n10_
     have NBAa_Ad := n11_
     have HB := n12_
     clear n0_ n1_ n2_ n3_ n4_ n5_ n6_ n7_ n8_ n9_ n10_ n11_ n12_
     have hHeld : w14.cell? ⟨gbAb, 0, none⟩ = some (.int .i64 a1_0) ∧ w14.cell? ⟨gbAb, 1, none⟩ = some (.int .i64 a1_1) ∧ w14.cell? ⟨gbAb, 2, none⟩ = some (.int .i64 a1_2) ∧ w14.cell? ⟨gbAb, 3, none⟩ = some (.int .i64 a1_3) ∧ w14.cell? ⟨gbAb, 4, none⟩ = some (.int .i64 a1_4) ∧ w14.cell? ⟨gbAb, 5, none⟩ = some (.slice A1_5 l1_5.length c1_5) ∧ w14.cell? ⟨gbAc, 0, none⟩ = some (.int .i64 a0_0) ∧ w14.cell? ⟨gbAc, 1, none⟩ = some (.int .i64 a0_1) ∧ w14.cell? ⟨gbAc, 2, none⟩ = some (.int .i64 a0_2) ∧ w14.cell? ⟨gbAc, 3, none⟩ = some (.int .i64 a0_3) ∧ w14.cell? ⟨gbAc, 4, none⟩ = some (.int .i64 a0_4) ∧ w14.cell? ⟨gbAc, 5, none⟩ = some (.slice A0_5 l0_5.length c0_5) := hS_
     refine norm_ (a' := ?_) ?_ ?_
     rotate_left
     ·
      simp only [putAll, Act.put, List.setIfInBounds_toArray, List.set_cons_zero, List.set_cons_succ]
      rfl
     refine oq_ 10 20 HT_ (fun K hK => ?_)
     refine gs_ Try.func25 #[.agg #[.int .i64 a0_0, .int .i64 a0_1, .int .i64 a0_2, .int .i64 a0_3, .int .i64 a0_4, .slice A0_5 l0_5.length c0_5]] ?_
     with_reducible refine (plaitingref3_Slots.calls a0_0 a0_1 a0_2 a0_3 a0_4 _ _ l0_5 tAj _ ?side1 ?side2 A6.out).mono ?_
     (case side1 => exact cC_ (Kd.C_below HR0_5.out HB.out))
     (case side2 => exact HC0_5.out)
     rintro e w15 ⟨rfl, hb⟩
     refine ⟨_, rfl, ?_⟩
     replace BKAc := bb_ BKAc hb
     replace BKAb := bb_ BKAb hb
     replace BKAd := bb_ BKAd hb
     replace BKAa := bb_ BKAa hb
     replace HB := bs_ HB hb
     (try clear hb)
     (try clear hb2)
     (try clear hk)
     (try clear hi)
     refine hK.out _ _ ⟨bc_ BKAb 0, bc_ BKAb 1, bc_ BKAb 2, bc_ BKAb 3, bc_ BKAb 4, bc_ BKAb 5, bc_ BKAc 0, bc_ BKAc 1, bc_ BKAc 2, bc_ BKAc 3, bc_ BKAc 4, bc_ BKAc 5⟩ (fun hHeld => ?_)
     clear hK K
     refine nq_ 20 ?_
     exact norm2_ (hJ2_6_10_13 (gbAa) _ ⟨hHeld, (pB_ BKAc.out), (pB_ BKAb.out), (pB_ BKAd.out), (pB_ BKAa.out), GWAa.out, GEAa.out, NBAc_Aa.out, NBAa_Ac.out, NBAb_Aa.out, NBAa_Ab.out, NBAd_Aa.out, NBAa_Ad.out, (pH_ HB.out)⟩)
    skip
    rintro _ w14 ⟨hS_, h0_, h1_, h2_, h3_⟩
    have n0_ : Aside0 (w14.heap[gbAc]? = some (.cells #[.int .i64 a0_0, .int .i64 a0_1, .int .i64 a0_2, .int .i64 a0_3, .int .i64 a0_4, .slice A0_5 l0_5.length c0_5] 24 (0, 0))) := ⟨h0_⟩
    have n1_ : Aside0 (w14.heap[gbAb]? = some (.cells #[.int .i64 a1_0, .int .i64 a1_1, .int .i64 a1_2, .int .i64 a1_3, .int .i64 a1_4, .slice A1_5 l1_5.length c1_5] 29 (0, 0))) := ⟨h1_⟩
    have n2_ : Aside0 (w14.heap[gbAd]? = some (.cells #[.int .i64 0, .int .i64 0, .int .i64 0, .int .i64 0, .int .i64 0, .slice none 0 0] 29 (0, 0))) := ⟨h2_⟩
    have n3_ : Aside0 (Below w.heap.size w w14) := ⟨h3_⟩
    clear BKAc
    clear BKAb
    clear BKAd
    clear HB
    clear h0_ h1_ h2_ h3_
    have BKAc := n0_
    have BKAb := n1_
    have BKAd := n2_
    have HB := n3_
    clear n0_ n1_ n2_ n3_
    have hHeld : w14.cell? ⟨gbAb, 0, none⟩ = some (.int .i64 a1_0) ∧ w14.cell? ⟨gbAb, 1, none⟩ = some (.int .i64 a1_1) ∧ w14.cell? ⟨gbAb, 2, none⟩ = some (.int .i64 a1_2) ∧ w14.cell? ⟨gbAb, 3, none⟩ = some (.int .i64 a1_3) ∧ w14.cell? ⟨gbAb, 4, none⟩ = some (.int .i64 a1_4) ∧ w14.cell? ⟨gbAb, 5, none⟩ = some (.slice A1_5 l1_5.length c1_5) ∧ w14.cell? ⟨gbAc, 0, none⟩ = some (.int .i64 a0_0) ∧ w14.cell? ⟨gbAc, 1, none⟩ = some (.int .i64 a0_1) ∧ w14.cell? ⟨gbAc, 2, none⟩ = some (.int .i64 a0_2) ∧ w14.cell? ⟨gbAc, 3, none⟩ = some (.int .i64 a0_3) ∧ w14.cell? ⟨gbAc, 4, none⟩ = some (.int .i64 a0_4) ∧ w14.cell? ⟨gbAc, 5, none⟩ = some (.slice A0_5 l0_5.length c0_5) := hS_
    refine norm_ (a' := ?_) ?_ ?_
    rotate_left
    ·
     simp only [putAll, Act.put, List.setIfInBounds_toArray, List.set_cons_zero, List.set_cons_succ]
     rfl
    refine two_ (i := 11) (j := 13) (Ni := some 21) (Nj := some 7) #[true, true, true, true, true, true, true, true, true, true, true, true, false, false, false] #[true, true, true, true, true, true, true, true, true, true, true, false, false, true, false] rfl rfl rfl rfl (two_of HT_.out (by kernel_rfl)) (by decide) (by decide) (fun K hK => ?_) (fun K hK => ?_)
    ·
     skip
     refine gs_ Try.func24 #[.int .i64 a1_2, .int .i64 tAj] ?_
     with_reducible refine (plaitinglaw5_within.calls a1_2 tAj tAg _ A7.out).mono ?_
     rintro e w' ⟨rfl, ⟨nd, rfl⟩⟩
     refine ⟨_, rfl, ?_⟩
     refine hK.out _ _ ⟨bc_ BKAb 0, bc_ BKAb 1, bc_ BKAb 2, bc_ BKAb 3, bc_ BKAb 4, bc_ BKAb 5, bc_ BKAc 0, bc_ BKAc 1, bc_ BKAc 2, bc_ BKAc 3, bc_ BKAc 4, bc_ BKAc 5⟩ (fun hHeld => ?_)
     clear hK K
     refine nq_ 21 ?_
     refine pq_ 12 22 HT_ ?_
     exact norm2_ (hJ2_6_10_11 () _ ⟨hHeld, (pB_ BKAc.out), (pB_ BKAb.out), (pB_ BKAd.out), (pH_ HB.out)⟩)
    skip
    refine box_step ?hg (N := 7) ?hd (cs := #[.int .i64 0, .int .i64 0, .int .i64 0, .int .i64 0, .int .i64 0, .slice none 0 0]) (t := 29) ?hr ?_; (case hd => rfl); (case hg => rfl); (case hr => first | (go_simp; done) | (go_simp; rfl))
    intro gbAa hg w15 hbox hb
    have BKAa := Aside0.mk (hbox)
    have GWAa := Aside0.mk ((by rw [hg]; exact (below_size (pH_ HB.out)) : w.heap.size ≤ gbAa))
    have GEAa := Aside0.mk ((by rw [hg]; exact (below_size (pH_ HB.out)) : w.heap.size ≤ gbAa))
    have NBAc_Aa := Aside0.mk (ltB_ hg BKAc.out)
    have NBAa_Ac := Aside0.mk (ltB_ hg BKAc.out).symm
    have NBAb_Aa := Aside0.mk (ltB_ hg BKAb.out)
    have NBAa_Ab := Aside0.mk (ltB_ hg BKAb.out).symm
    have NBAd_Aa := Aside0.mk (ltB_ hg BKAd.out)
    have NBAa_Ad := Aside0.mk (ltB_ hg BKAd.out).symm
    replace BKAc := bb_ BKAc hb
    replace BKAb := bb_ BKAb hb
    replace BKAd := bb_ BKAd hb
    replace HB := bs_ HB hb
    clear hb hbox hg
    refine hK.out _ _ ⟨bc_ BKAb 0, bc_ BKAb 1, bc_ BKAb 2, bc_ BKAb 3, bc_ BKAb 4, bc_ BKAb 5, bc_ BKAc 0, bc_ BKAc 1, bc_ BKAc 2, bc_ BKAc 3, bc_ BKAc 4, bc_ BKAc 5⟩ (fun hHeld => ?_)
    clear hK K
    refine nq_ 7 ?_
    exact norm2_ (hJ2_6_10_13 (gbAa) _ ⟨hHeld, (pB_ BKAc.out), (pB_ BKAb.out), (pB_ BKAd.out), (pB_ BKAa.out), GWAa.out, GEAa.out, NBAc_Aa.out, NBAa_Ac.out, NBAb_Aa.out, NBAa_Ab.out, NBAd_Aa.out, NBAa_Ad.out, (pH_ HB.out)⟩)
   skip
   rintro gbAa w15 ⟨hS_, h0_, h1_, h2_, h3_, h4_, h5_, h6_, h7_, h8_, h9_, h10_, h11_, h12_⟩
   have n0_ : Aside0 (w15.heap[gbAc]? = some (.cells #[.int .i64 a0_0, .int .i64 a0_1, .int .i64 a0_2, .int .i64 a0_3, .int .i64 a0_4, .slice A0_5 l0_5.length c0_5] 24 (0, 0))) := ⟨h0_⟩
   have n1_ : Aside0 (w15.heap[gbAb]? = some (.cells #[.int .i64 a1_0, .int .i64 a1_1, .int .i64 a1_2, .int .i64 a1_3, .int .i64 a1_4, .slice A1_5 l1_5.length c1_5] 29 (0, 0))) := ⟨h1_⟩
   have n2_ : Aside0 (w15.heap[gbAd]? = some (.cells #[.int .i64 0, .int .i64 0, .int .i64 0, .int .i64 0, .int .i64 0, .slice none 0 0] 29 (0, 0))) := ⟨h2_⟩
   have n3_ : Aside0 (w15.heap[gbAa]? = some (.cells #[.int .i64 0, .int .i64 0, .int .i64 0, .int .i64 0, .int .i64 0, .slice none 0 0] 29 (0, 0))) := ⟨h3_⟩
   have n4_ : Aside0 (w.heap.size ≤ gbAa) := ⟨h4_⟩
   have n5_ : Aside0 (w.heap.size ≤ gbAa) := ⟨h5_⟩
   have n6_ : Aside0 (gbAc ≠ gbAa) := ⟨h6_⟩
   have n7_ : Aside0 (gbAa ≠ gbAc) := ⟨h7_⟩
   have n8_ : Aside0 (gbAb ≠ gbAa) := ⟨h8_⟩
   have n9_ : Aside0 (gbAa ≠ gbAb) := ⟨h9_⟩
   have n10_ : Aside0 (gbAd ≠ gbAa) := ⟨h10_⟩
   have n11_ : Aside0 (gbAa ≠ gbAd) := ⟨h11_⟩
   have n12_ : Aside0 (Below w.heap.size w w15) := ⟨h12_⟩
   clear BKAc
   clear BKAb
   clear BKAd
   clear HB
   clear h0_ h1_ h2_ h3_ h4_ h5_ h6_ h7_ h8_ h9_ h10_ h11_ h12_
   have BKAc := n0_
   have BKAb := n1_
   have BKAd := n2_
   have BKAa := n3_
   have GWAa := n4_
   have GEAa := n5_
   have NBAc_Aa := n6_
   have NBAa_Ac := n7_
   have NBAb_Aa := n8_
   have NBAa_Ab := n9_
   have NBAd_Aa := n10_
   have NBAa_Ad := n11_
   have HB := n12_
   clear n0_ n1_ n2_ n3_ n4_ n5_ n6_ n7_ n8_ n9_ n10_ n11_ n12_
   have hHeld : w15.cell? ⟨gbAb, 0, none⟩ = some (.int .i64 a1_0) ∧ w15.cell? ⟨gbAb, 1, none⟩ = some (.int .i64 a1_1) ∧ w15.cell? ⟨gbAb, 2, none⟩ = some (.int .i64 a1_2) ∧ w15.cell? ⟨gbAb, 3, none⟩ = some (.int .i64 a1_3) ∧ w15.cell? ⟨gbAb, 4, none⟩ = some (.int .i64 a1_4) ∧ w15.cell? ⟨gbAb, 5, none⟩ = some (.slice A1_5 l1_5.length c1_5) ∧ w15.cell? ⟨gbAc, 0, none⟩ = some (.int .i64 a0_0) ∧ w15.cell? ⟨gbAc, 1, none⟩ = some (.int .i64 a0_1) ∧ w15.cell? ⟨gbAc, 2, none⟩ = some (.int .i64 a0_2) ∧ w15.cell? ⟨gbAc, 3, none⟩ = some (.int .i64 a0_3) ∧ w15.cell? ⟨gbAc, 4, none⟩ = some (.int .i64 a0_4) ∧ w15.cell? ⟨gbAc, 5, none⟩ = some (.slice A0_5 l0_5.length c0_5) := hS_
   refine norm_ (a' := ?_) ?_ ?_
   rotate_left
   ·
    simp only [putAll, Act.put, List.setIfInBounds_toArray, List.set_cons_zero, List.set_cons_succ]
    rfl
   refine oq_ 11 21 HT_ (fun K hK => ?_)
   refine gs_ Try.func24 #[.int .i64 a1_2, .int .i64 tAj] ?_
   with_reducible refine (plaitinglaw5_within.calls a1_2 tAj tAg _ A7.out).mono ?_
   rintro e w' ⟨rfl, ⟨nd, rfl⟩⟩
   refine ⟨_, rfl, ?_⟩
   refine hK.out _ _ ⟨bc_ BKAb 0, bc_ BKAb 1, bc_ BKAb 2, bc_ BKAb 3, bc_ BKAb 4, bc_ BKAb 5, bc_ BKAc 0, bc_ BKAc 1, bc_ BKAc 2, bc_ BKAc 3, bc_ BKAc 4, bc_ BKAc 5⟩ (fun hHeld => ?_)
   clear hK K
   refine nq_ 21 ?_
   refine pq_ 12 22 HT_ ?_
   exact norm2_ (hJ2_6_10_11_13 (gbAa) _ ⟨hHeld, (pB_ BKAc.out), (pB_ BKAb.out), (pB_ BKAd.out), (pB_ BKAa.out), GWAa.out, GEAa.out, NBAc_Aa.out, NBAa_Ac.out, NBAb_Aa.out, NBAa_Ab.out, NBAd_Aa.out, NBAa_Ad.out, (pH_ HB.out)⟩)
  skip
  rintro _ w14 ⟨hS_, h0_, h1_, h2_, h3_⟩
  have n0_ : Aside0 (w14.heap[gbAc]? = some (.cells #[.int .i64 a0_0, .int .i64 a0_1, .int .i64 a0_2, .int .i64 a0_3, .int .i64 a0_4, .slice A0_5 l0_5.length c0_5] 24 (0, 0))) := ⟨h0_⟩
  have n1_ : Aside0 (w14.heap[gbAb]? = some (.cells #[.int .i64 a1_0, .int .i64 a1_1, .int .i64 a1_2, .int .i64 a1_3, .int .i64 a1_4, .slice A1_5 l1_5.length c1_5] 29 (0, 0))) := ⟨h1_⟩
  have n2_ : Aside0 (w14.heap[gbAd]? = some (.cells #[.int .i64 0, .int .i64 0, .int .i64 0, .int .i64 0, .int .i64 0, .slice none 0 0] 29 (0, 0))) := ⟨h2_⟩
  have n3_ : Aside0 (Below w.heap.size w w14) := ⟨h3_⟩
  clear BKAc
  clear BKAb
  clear BKAd
  clear HB
  clear h0_ h1_ h2_ h3_
  have BKAc := n0_
  have BKAb := n1_
  have BKAd := n2_
  have HB := n3_
  clear n0_ n1_ n2_ n3_
  have hHeld : w14.cell? ⟨gbAb, 0, none⟩ = some (.int .i64 a1_0) ∧ w14.cell? ⟨gbAb, 1, none⟩ = some (.int .i64 a1_1) ∧ w14.cell? ⟨gbAb, 2, none⟩ = some (.int .i64 a1_2) ∧ w14.cell? ⟨gbAb, 3, none⟩ = some (.int .i64 a1_3) ∧ w14.cell? ⟨gbAb, 4, none⟩ = some (.int .i64 a1_4) ∧ w14.cell? ⟨gbAb, 5, none⟩ = some (.slice A1_5 l1_5.length c1_5) ∧ w14.cell? ⟨gbAc, 0, none⟩ = some (.int .i64 a0_0) ∧ w14.cell? ⟨gbAc, 1, none⟩ = some (.int .i64 a0_1) ∧ w14.cell? ⟨gbAc, 2, none⟩ = some (.int .i64 a0_2) ∧ w14.cell? ⟨gbAc, 3, none⟩ = some (.int .i64 a0_3) ∧ w14.cell? ⟨gbAc, 4, none⟩ = some (.int .i64 a0_4) ∧ w14.cell? ⟨gbAc, 5, none⟩ = some (.slice A0_5 l0_5.length c0_5) := hS_
  refine norm_ (a' := ?_) ?_ ?_
  rotate_left
  ·
   simp only [putAll, Act.put, List.setIfInBounds_toArray, List.set_cons_zero, List.set_cons_succ]
   rfl
  refine oq_ 13 7 HT_ (fun K hK => ?_)
  refine box_step ?hg (N := 7) ?hd (cs := #[.int .i64 0, .int .i64 0, .int .i64 0, .int .i64 0, .int .i64 0, .slice none 0 0]) (t := 29) ?hr ?_; (case hd => rfl); (case hg => rfl); (case hr => first | (go_simp; done) | (go_simp; rfl))
  intro gbAa hg w15 hbox hb
  have BKAa := Aside0.mk (hbox)
  have GWAa := Aside0.mk ((by rw [hg]; exact (below_size (pH_ HB.out)) : w.heap.size ≤ gbAa))
  have GEAa := Aside0.mk ((by rw [hg]; exact (below_size (pH_ HB.out)) : w.heap.size ≤ gbAa))
  have NBAc_Aa := Aside0.mk (ltB_ hg BKAc.out)
  have NBAa_Ac := Aside0.mk (ltB_ hg BKAc.out).symm
  have NBAb_Aa := Aside0.mk (ltB_ hg BKAb.out)
  have NBAa_Ab := Aside0.mk (ltB_ hg BKAb.out).symm
  have NBAd_Aa := Aside0.mk (ltB_ hg BKAd.out)
  have NBAa_Ad := Aside0.mk (ltB_ hg BKAd.out).symm
  replace BKAc := bb_ BKAc hb
  replace BKAb := bb_ BKAb hb
  replace BKAd := bb_ BKAd hb
  replace HB := bs_ HB hb
  clear hb hbox hg
  refine hK.out _ _ ⟨bc_ BKAb 0, bc_ BKAb 1, bc_ BKAb 2, bc_ BKAb 3, bc_ BKAb 4, bc_ BKAb 5, bc_ BKAc 0, bc_ BKAc 1, bc_ BKAc 2, bc_ BKAc 3, bc_ BKAc 4, bc_ BKAc 5⟩ (fun hHeld => ?_)
  clear hK K
  refine nq_ 7 ?_
  exact norm2_ (hJ2_6_10_11_13 (gbAa) _ ⟨hHeld, (pB_ BKAc.out), (pB_ BKAb.out), (pB_ BKAd.out), (pB_ BKAa.out), GWAa.out, GEAa.out, NBAc_Aa.out, NBAa_Ac.out, NBAb_Aa.out, NBAa_Ab.out, NBAd_Aa.out, NBAa_Ad.out, (pH_ HB.out)⟩)
 rintro gbAa w15 ⟨hS_, h0_, h1_, h2_, h3_, h4_, h5_, h6_, h7_, h8_, h9_, h10_, h11_, h12_⟩
 have n0_ : Aside0 (w15.heap[gbAc]? = some (.cells #[.int .i64 a0_0, .int .i64 a0_1, .int .i64 a0_2, .int .i64 a0_3, .int .i64 a0_4, .slice A0_5 l0_5.length c0_5] 24 (0, 0))) := ⟨h0_⟩
 have n1_ : Aside0 (w15.heap[gbAb]? = some (.cells #[.int .i64 a1_0, .int .i64 a1_1, .int .i64 a1_2, .int .i64 a1_3, .int .i64 a1_4, .slice A1_5 l1_5.length c1_5] 29 (0, 0))) := ⟨h1_⟩
 have n2_ : Aside0 (w15.heap[gbAd]? = some (.cells #[.int .i64 0, .int .i64 0, .int .i64 0, .int .i64 0, .int .i64 0, .slice none 0 0] 29 (0, 0))) := ⟨h2_⟩
 have n3_ : Aside0 (w15.heap[gbAa]? = some (.cells #[.int .i64 0, .int .i64 0, .int .i64 0, .int .i64 0, .int .i64 0, .slice none 0 0] 29 (0, 0))) := ⟨h3_⟩
 have n4_ : Aside0 (w.heap.size ≤ gbAa) := ⟨h4_⟩
 have n5_ : Aside0 (w.heap.size ≤ gbAa) := ⟨h5_⟩
 have n6_ : Aside0 (gbAc ≠ gbAa) := ⟨h6_⟩
 have n7_ : Aside0 (gbAa ≠ gbAc) := ⟨h7_⟩
 have n8_ : Aside0 (gbAb ≠ gbAa) := ⟨h8_⟩
 have n9_ : Aside0 (gbAa ≠ gbAb) := ⟨h9_⟩
 have n10_ : Aside0 (gbAd ≠ gbAa) := ⟨h10_⟩
 have n11_ : Aside0 (gbAa ≠ gbAd) := ⟨h11_⟩
 have n12_ : Aside0 (Below w.heap.size w w15) := ⟨h12_⟩
 clear BKAc
 clear BKAb
 clear BKAd
 clear HB
 clear h0_ h1_ h2_ h3_ h4_ h5_ h6_ h7_ h8_ h9_ h10_ h11_ h12_
 have BKAc := n0_
 have BKAb := n1_
 have BKAd := n2_
 have BKAa := n3_
 have GWAa := n4_
 have GEAa := n5_
 have NBAc_Aa := n6_
 have NBAa_Ac := n7_
 have NBAb_Aa := n8_
 have NBAa_Ab := n9_
 have NBAd_Aa := n10_
 have NBAa_Ad := n11_
 have HB := n12_
 clear n0_ n1_ n2_ n3_ n4_ n5_ n6_ n7_ n8_ n9_ n10_ n11_ n12_
 have hHeld : w15.cell? ⟨gbAb, 0, none⟩ = some (.int .i64 a1_0) ∧ w15.cell? ⟨gbAb, 1, none⟩ = some (.int .i64 a1_1) ∧ w15.cell? ⟨gbAb, 2, none⟩ = some (.int .i64 a1_2) ∧ w15.cell? ⟨gbAb, 3, none⟩ = some (.int .i64 a1_3) ∧ w15.cell? ⟨gbAb, 4, none⟩ = some (.int .i64 a1_4) ∧ w15.cell? ⟨gbAb, 5, none⟩ = some (.slice A1_5 l1_5.length c1_5) ∧ w15.cell? ⟨gbAc, 0, none⟩ = some (.int .i64 a0_0) ∧ w15.cell? ⟨gbAc, 1, none⟩ = some (.int .i64 a0_1) ∧ w15.cell? ⟨gbAc, 2, none⟩ = some (.int .i64 a0_2) ∧ w15.cell? ⟨gbAc, 3, none⟩ = some (.int .i64 a0_3) ∧ w15.cell? ⟨gbAc, 4, none⟩ = some (.int .i64 a0_4) ∧ w15.cell? ⟨gbAc, 5, none⟩ = some (.slice A0_5 l0_5.length c0_5) := hS_
 refine norm_ (a' := ?_) ?_ ?_
 rotate_left
 ·
  simp only [putAll, Act.put, List.setIfInBounds_toArray, List.set_cons_zero, List.set_cons_succ]
  rfl
 refine one_ (i := 14) (N := none) #[true, true, true, true, true, true, true, true, true, true, true, true, true, true, true] rfl rfl (one_of HT_.out (by kernel_rfl)) (by decide) (fun K hK => ?_)
 have hs16 : w15.cell? ⟨gbAa, 0, none⟩ = some (.int .i64 0) := bc_ BKAa 0
 have hfs16 := blk_frozen BKAa.out 0
 have hns16_0 := NBAc_Aa.out
 have hns16_1 := NBAb_Aa.out
 have hns16_2 := NBAd_Aa.out
 have hms16_0 := NBAa_Ac.out
 have hms16_1 := NBAa_Ab.out
 have hms16_2 := NBAa_Ad.out
 have hs17 : w15.cell? ⟨gbAa, 1, none⟩ = some (.int .i64 0) := bc_ BKAa 1
 have hfs17 := blk_frozen BKAa.out 1
 have hns17_0 := NBAc_Aa.out
 have hns17_1 := NBAb_Aa.out
 have hns17_2 := NBAd_Aa.out
 have hms17_0 := NBAa_Ac.out
 have hms17_1 := NBAa_Ab.out
 have hms17_2 := NBAa_Ad.out
 have hs18 : w15.cell? ⟨gbAa, 2, none⟩ = some (.int .i64 0) := bc_ BKAa 2
 have hfs18 := blk_frozen BKAa.out 2
 have hns18_0 := NBAc_Aa.out
 have hns18_1 := NBAb_Aa.out
 have hns18_2 := NBAd_Aa.out
 have hms18_0 := NBAa_Ac.out
 have hms18_1 := NBAa_Ab.out
 have hms18_2 := NBAa_Ad.out
 have hs19 : w15.cell? ⟨gbAa, 3, none⟩ = some (.int .i64 0) := bc_ BKAa 3
 have hfs19 := blk_frozen BKAa.out 3
 have hns19_0 := NBAc_Aa.out
 have hns19_1 := NBAb_Aa.out
 have hns19_2 := NBAd_Aa.out
 have hms19_0 := NBAa_Ac.out
 have hms19_1 := NBAa_Ab.out
 have hms19_2 := NBAa_Ad.out
 have hs20 : w15.cell? ⟨gbAa, 4, none⟩ = some (.int .i64 0) := bc_ BKAa 4
 have hfs20 := blk_frozen BKAa.out 4
 have hns20_0 := NBAc_Aa.out
 have hns20_1 := NBAb_Aa.out
 have hns20_2 := NBAd_Aa.out
 have hms20_0 := NBAa_Ac.out
 have hms20_1 := NBAa_Ab.out
 have hms20_2 := NBAa_Ad.out
 have hs21 : w15.cell? ⟨gbAa, 5, none⟩ = some (.slice none 0 0) := bc_ BKAa 5
 have hfs21 := blk_frozen BKAa.out 5
 have hns21_0 := NBAc_Aa.out
 have hns21_1 := NBAb_Aa.out
 have hns21_2 := NBAd_Aa.out
 have hms21_0 := NBAa_Ac.out
 have hms21_1 := NBAa_Ab.out
 have hms21_2 := NBAa_Ad.out
 refine skip_ (w1 := ?_) (by rfl) rfl ?_ ?_
 rotate_left
 ·
  go_simp
  rfl
 refine hK.out _ _ ⟨((cell_far (p := ⟨gbAa, _, none⟩) NBAb_Aa.out _).trans (((cell_far (p := ⟨gbAa, _, none⟩) NBAb_Aa.out _).trans (((cell_far (p := ⟨gbAa, _, none⟩) NBAb_Aa.out _).trans (((cell_far (p := ⟨gbAa, _, none⟩) NBAb_Aa.out _).trans (((cell_far (p := ⟨gbAa, _, none⟩) NBAb_Aa.out _).trans (((cell_far (p := ⟨gbAa, _, none⟩) NBAb_Aa.out _).trans (hHeld.1)))))))))))), ((cell_far (p := ⟨gbAa, _, none⟩) NBAb_Aa.out _).trans (((cell_far (p := ⟨gbAa, _, none⟩) NBAb_Aa.out _).trans (((cell_far (p := ⟨gbAa, _, none⟩) NBAb_Aa.out _).trans (((cell_far (p := ⟨gbAa, _, none⟩) NBAb_Aa.out _).trans (((cell_far (p := ⟨gbAa, _, none⟩) NBAb_Aa.out _).trans (((cell_far (p := ⟨gbAa, _, none⟩) NBAb_Aa.out _).trans (hHeld.2.1)))))))))))), ((cell_far (p := ⟨gbAa, _, none⟩) NBAb_Aa.out _).trans (((cell_far (p := ⟨gbAa, _, none⟩) NBAb_Aa.out _).trans (((cell_far (p := ⟨gbAa, _, none⟩) NBAb_Aa.out _).trans (((cell_far (p := ⟨gbAa, _, none⟩) NBAb_Aa.out _).trans (((cell_far (p := ⟨gbAa, _, none⟩) NBAb_Aa.out _).trans (((cell_far (p := ⟨gbAa, _, none⟩) NBAb_Aa.out _).trans (hHeld.2.2.1)))))))))))), ((cell_far (p := ⟨gbAa, _, none⟩) NBAb_Aa.out _).trans (((cell_far (p := ⟨gbAa, _, none⟩) NBAb_Aa.out _).trans (((cell_far (p := ⟨gbAa, _, none⟩) NBAb_Aa.out _).trans (((cell_far (p := ⟨gbAa, _, none⟩) NBAb_Aa.out _).trans (((cell_far (p := ⟨gbAa, _, none⟩) NBAb_Aa.out _).trans (((cell_far (p := ⟨gbAa, _, none⟩) NBAb_Aa.out _).trans (hHeld.2.2.2.1)))))))))))), ((cell_far (p := ⟨gbAa, _, none⟩) NBAb_Aa.out _).trans (((cell_far (p := ⟨gbAa, _, none⟩) NBAb_Aa.out _).trans (((cell_far (p := ⟨gbAa, _, none⟩) NBAb_Aa.out _).trans (((cell_far (p := ⟨gbAa, _, none⟩) NBAb_Aa.out _).trans (((cell_far (p := ⟨gbAa, _, none⟩) NBAb_Aa.out _).trans (((cell_far (p := ⟨gbAa, _, none⟩) NBAb_Aa.out _).trans (hHeld.2.2.2.2.1)))))))))))), ((cell_far (p := ⟨gbAa, _, none⟩) NBAb_Aa.out _).trans (((cell_far (p := ⟨gbAa, _, none⟩) NBAb_Aa.out _).trans (((cell_far (p := ⟨gbAa, _, none⟩) NBAb_Aa.out _).trans (((cell_far (p := ⟨gbAa, _, none⟩) NBAb_Aa.out _).trans (((cell_far (p := ⟨gbAa, _, none⟩) NBAb_Aa.out _).trans (((cell_far (p := ⟨gbAa, _, none⟩) NBAb_Aa.out _).trans (hHeld.2.2.2.2.2.1)))))))))))), ((cell_far (p := ⟨gbAa, _, none⟩) NBAc_Aa.out _).trans (((cell_far (p := ⟨gbAa, _, none⟩) NBAc_Aa.out _).trans (((cell_far (p := ⟨gbAa, _, none⟩) NBAc_Aa.out _).trans (((cell_far (p := ⟨gbAa, _, none⟩) NBAc_Aa.out _).trans (((cell_far (p := ⟨gbAa, _, none⟩) NBAc_Aa.out _).trans (((cell_far (p := ⟨gbAa, _, none⟩) NBAc_Aa.out _).trans (hHeld.2.2.2.2.2.2.1)))))))))))), ((cell_far (p := ⟨gbAa, _, none⟩) NBAc_Aa.out _).trans (((cell_far (p := ⟨gbAa, _, none⟩) NBAc_Aa.out _).trans (((cell_far (p := ⟨gbAa, _, none⟩) NBAc_Aa.out _).trans (((cell_far (p := ⟨gbAa, _, none⟩) NBAc_Aa.out _).trans (((cell_far (p := ⟨gbAa, _, none⟩) NBAc_Aa.out _).trans (((cell_far (p := ⟨gbAa, _, none⟩) NBAc_Aa.out _).trans (hHeld.2.2.2.2.2.2.2.1)))))))))))), ((cell_far (p := ⟨gbAa, _, none⟩) NBAc_Aa.out _).trans (((cell_far (p := ⟨gbAa, _, none⟩) NBAc_Aa.out _).trans (((cell_far (p := ⟨gbAa, _, none⟩) NBAc_Aa.out _).trans (((cell_far (p := ⟨gbAa, _, none⟩) NBAc_Aa.out _).trans (((cell_far (p := ⟨gbAa, _, none⟩) NBAc_Aa.out _).trans (((cell_far (p := ⟨gbAa, _, none⟩) NBAc_Aa.out _).trans (hHeld.2.2.2.2.2.2.2.2.1)))))))))))), ((cell_far (p := ⟨gbAa, _, none⟩) NBAc_Aa.out _).trans (((cell_far (p := ⟨gbAa, _, none⟩) NBAc_Aa.out _).trans (((cell_far (p := ⟨gbAa, _, none⟩) NBAc_Aa.out _).trans (((cell_far (p := ⟨gbAa, _, none⟩) NBAc_Aa.out _).trans (((cell_far (p := ⟨gbAa, _, none⟩) NBAc_Aa.out _).trans (((cell_far (p := ⟨gbAa, _, none⟩) NBAc_Aa.out _).trans (hHeld.2.2.2.2.2.2.2.2.2.1)))))))))))), ((cell_far (p := ⟨gbAa, _, none⟩) NBAc_Aa.out _).trans (((cell_far (p := ⟨gbAa, _, none⟩) NBAc_Aa.out _).trans (((cell_far (p := ⟨gbAa, _, none⟩) NBAc_Aa.out _).trans (((cell_far (p := ⟨gbAa, _, none⟩) NBAc_Aa.out _).trans (((cell_far (p := ⟨gbAa, _, none⟩) NBAc_Aa.out _).trans (((cell_far (p := ⟨gbAa, _, none⟩) NBAc_Aa.out _).trans (hHeld.2.2.2.2.2.2.2.2.2.2.1)))))))))))), ((cell_far (p := ⟨gbAa, _, none⟩) NBAc_Aa.out _).trans (((cell_far (p := ⟨gbAa, _, none⟩) NBAc_Aa.out _).trans (((cell_far (p := ⟨gbAa, _, none⟩) NBAc_Aa.out _).trans (((cell_far (p := ⟨gbAa, _, none⟩) NBAc_Aa.out _).trans (((cell_far (p := ⟨gbAa, _, none⟩) NBAc_Aa.out _).trans (((cell_far (p := ⟨gbAa, _, none⟩) NBAc_Aa.out _).trans (hHeld.2.2.2.2.2.2.2.2.2.2.2))))))))))))⟩ (fun hHeld => ?_)
 clear hK K
 refine done_ (done_of HT_.out (by kernel_rfl)) ?_
 have hnb22 := NBAa_Ac.out
 have hnc22 := NBAc_Aa.out
 have hnb23 := NBAa_Ab.out
 have hnc23 := NBAb_Aa.out
 have hnb24 := NBAa_Ad.out
 have hnc24 := NBAd_Aa.out
 obtain ⟨hcz25_0, hcz25_1, hcz25_2, hcz25_3, hcz25_4, hcz25_5⟩ := c6_ BKAa
 obtain ⟨hfz25_0, hfz25_1, hfz25_2, hfz25_3, hfz25_4, hfz25_5⟩ := f6_ BKAa
 have hnb26 := NBAc_Ab.out
 have hnc26 := NBAb_Ac.out
 have hnb27 := NBAc_Ad.out
 have hnc27 := NBAd_Ac.out
 obtain ⟨hcz28_0, hcz28_1, hcz28_2, hcz28_3, hcz28_4, hcz28_5⟩ := c6_ BKAc
 obtain ⟨hfz28_0, hfz28_1, hfz28_2, hfz28_3, hfz28_4, hfz28_5⟩ := f6_ BKAc
 go_upto_if 27 with (fail)
 go_cut [] (fun wc => ∃ (kq : Nat) (x42109000_7 : Int), Aside0 (plaitinglaw5_Make.j0 kq l2 a0_0 a0_1 a0_2 a0_3 a0_4 l0_5 a1_0 a1_1 a1_2 a1_3 a1_4 l1_5 x42109000_7 tAf tAg 0 0 = some (r1, r2, r3, r4, r5, r6)) ∧ Aside0 (kq ≤ k) ∧ Aside0 (wc.heap[gbAc]? = some (.cells #[.int .i64 a0_0, .int .i64 a0_1, .int .i64 a0_2, .int .i64 a0_3, .int .i64 a0_4, (.slice A0_5 l0_5.length c0_5)] 24 (0, 0))) ∧ Aside0 (wc.heap[gbAb]? = some (.cells #[.int .i64 a1_0, .int .i64 a1_1, .int .i64 a1_2, .int .i64 a1_3, .int .i64 a1_4, (.slice A1_5 l1_5.length c1_5)] 29 (0, 0))) ∧ Aside0 (wc.heap[gbAd]? = some (.cells #[.int .i64 0, .int .i64 0, .int .i64 0, .int .i64 0, .int .i64 0, (.slice none 0 0)] 29 (0, 0))) ∧ Aside0 (wc.heap[gbAa]? = some (.cells #[.int .i64 x42109000_7, .int .i64 tAf, .int .i64 tAg, .int .i64 0, .int .i64 0, (.slice none 0 0)] 29 (0, 0))) ∧ Aside0 (Below w.heap.size w wc))
 case first =>
  have H := HC8.out
  clear HC8
  by_cases c29 : tAg ≥ a0_0
  rotate_left
  ·
   rw [if_neg c29] at H
   have c29b0 : decide (a0_0 ≤ tAg) = false := decide_eq_false c29
   clear c29
   (first | rw [c29b0] | (simp only [i64_w, i32_w]; rw [c29b0]) | skip)
   have H' := Aside0.mk H
   clear H
   go_wp2
   go_meet
   case rel => exact ⟨_, (wrap64 (1 + tAh)), H', ⟨by first | omega | exact Nat.le_refl _⟩, ⟨bF_ BKAc.out NBAc_Aa.out⟩, ⟨bF_ BKAb.out NBAb_Aa.out⟩, ⟨bF_ BKAd.out NBAd_Aa.out⟩, ⟨by (with_reducible repeat (first | refine blk_drewN ?_ _ | refine blk_drew ?_ | refine blk_alloc ?_ _)); refine blk_put (cs := #[.int .i64 (wrap64 (1 + tAh)), .int .i64 tAf, .int .i64 tAg, .int .i64 0, .int .i64 0, .slice none 0 0]) ?_ 5 _ rfl; (with_reducible repeat (first | refine blk_drewN ?_ _ | refine blk_drew ?_ | refine blk_alloc ?_ _)); refine blk_put (cs := #[.int .i64 (wrap64 (1 + tAh)), .int .i64 tAf, .int .i64 tAg, .int .i64 0, .int .i64 0, .slice none 0 0]) ?_ 4 _ rfl; (with_reducible repeat (first | refine blk_drewN ?_ _ | refine blk_drew ?_ | refine blk_alloc ?_ _)); refine blk_put (cs := #[.int .i64 (wrap64 (1 + tAh)), .int .i64 tAf, .int .i64 tAg, .int .i64 0, .int .i64 0, .slice none 0 0]) ?_ 3 _ rfl; (with_reducible repeat (first | refine blk_drewN ?_ _ | refine blk_drew ?_ | refine blk_alloc ?_ _)); refine blk_put (cs := #[.int .i64 (wrap64 (1 + tAh)), .int .i64 tAf, .int .i64 0, .int .i64 0, .int .i64 0, .slice none 0 0]) ?_ 2 _ rfl; (with_reducible repeat (first | refine blk_drewN ?_ _ | refine blk_drew ?_ | refine blk_alloc ?_ _)); refine blk_put (cs := #[.int .i64 (wrap64 (1 + tAh)), .int .i64 0, .int .i64 0, .int .i64 0, .int .i64 0, .slice none 0 0]) ?_ 1 _ rfl; (with_reducible repeat (first | refine blk_drewN ?_ _ | refine blk_drew ?_ | refine blk_alloc ?_ _)); refine blk_put (cs := #[.int .i64 0, .int .i64 0, .int .i64 0, .int .i64 0, .int .i64 0, .slice none 0 0]) ?_ 0 _ rfl; (with_reducible repeat (first | refine blk_drewN ?_ _ | refine blk_drew ?_ | refine blk_alloc ?_ _)); exact BKAa.out⟩, ⟨pH_ HB.out⟩⟩
  rw [if_pos c29] at H
  have c29b0 : decide (a0_0 ≤ tAg) = true := decide_eq_true c29
  clear c29
  (first | rw [c29b0] | (simp only [i64_w, i32_w]; rw [c29b0]) | skip)
  have H' := Aside0.mk H
  clear H
  have hnb30 := NBAa_Ac.out
  have hnc30 := NBAc_Aa.out
  have hnb31 := NBAa_Ab.out
  have hnc31 := NBAb_Aa.out
  have hnb32 := NBAa_Ad.out
  have hnc32 := NBAd_Aa.out
  obtain ⟨hcz33_0, hcz33_1, hcz33_2, hcz33_3, hcz33_4, hcz33_5⟩ := c6_ BKAa
  obtain ⟨hfz33_0, hfz33_1, hfz33_2, hfz33_3, hfz33_4, hfz33_5⟩ := f6_ BKAa
  go_wp2
  go_meet
  case rel => exact ⟨_, (3), H', ⟨by first | omega | exact Nat.le_refl _⟩, ⟨bF_ BKAc.out NBAc_Aa.out⟩, ⟨bF_ BKAb.out NBAb_Aa.out⟩, ⟨bF_ BKAd.out NBAd_Aa.out⟩, ⟨by (with_reducible repeat (first | refine blk_drewN ?_ _ | refine blk_drew ?_ | refine blk_alloc ?_ _)); refine blk_put (cs := #[.int .i64 (wrap64 (1 + tAh)), .int .i64 tAf, .int .i64 tAg, .int .i64 0, .int .i64 0, .slice none 0 0]) ?_ 0 _ rfl; (with_reducible repeat (first | refine blk_drewN ?_ _ | refine blk_drew ?_ | refine blk_alloc ?_ _)); refine blk_put (cs := #[.int .i64 (wrap64 (1 + tAh)), .int .i64 tAf, .int .i64 tAg, .int .i64 0, .int .i64 0, .slice none 0 0]) ?_ 5 _ rfl; (with_reducible repeat (first | refine blk_drewN ?_ _ | refine blk_drew ?_ | refine blk_alloc ?_ _)); refine blk_put (cs := #[.int .i64 (wrap64 (1 + tAh)), .int .i64 tAf, .int .i64 tAg, .int .i64 0, .int .i64 0, .slice none 0 0]) ?_ 4 _ rfl; (with_reducible repeat (first | refine blk_drewN ?_ _ | refine blk_drew ?_ | refine blk_alloc ?_ _)); refine blk_put (cs := #[.int .i64 (wrap64 (1 + tAh)), .int .i64 tAf, .int .i64 tAg, .int .i64 0, .int .i64 0, .slice none 0 0]) ?_ 3 _ rfl; (with_reducible repeat (first | refine blk_drewN ?_ _ | refine blk_drew ?_ | refine blk_alloc ?_ _)); refine blk_put (cs := #[.int .i64 (wrap64 (1 + tAh)), .int .i64 tAf, .int .i64 0, .int .i64 0, .int .i64 0, .slice none 0 0]) ?_ 2 _ rfl; (with_reducible repeat (first | refine blk_drewN ?_ _ | refine blk_drew ?_ | refine blk_alloc ?_ _)); refine blk_put (cs := #[.int .i64 (wrap64 (1 + tAh)), .int .i64 0, .int .i64 0, .int .i64 0, .int .i64 0, .slice none 0 0]) ?_ 1 _ rfl; (with_reducible repeat (first | refine blk_drewN ?_ _ | refine blk_drew ?_ | refine blk_alloc ?_ _)); refine blk_put (cs := #[.int .i64 0, .int .i64 0, .int .i64 0, .int .i64 0, .int .i64 0, .slice none 0 0]) ?_ 0 _ rfl; (with_reducible repeat (first | refine blk_drewN ?_ _ | refine blk_drew ?_ | refine blk_alloc ?_ _)); exact BKAa.out⟩, ⟨pH_ HB.out⟩⟩
 case rest =>
  clear HC8
  try clear c1
  try clear c2
  try clear p2
  try clear c3
  try clear p6
  try clear c22
  try clear c23
  try clear c24
  try clear c25
  try clear c26
  try clear c27
  try clear c29
  try clear c29b0
  try clear c30
  try clear c31
  try clear c32
  try clear hcz25_0 hcz25_1 hcz25_2 hcz25_3 hcz25_4 hcz25_5
  try clear hcz28_0 hcz28_1 hcz28_2 hcz28_3 hcz28_4 hcz28_5
  try clear hcz33_0 hcz33_1 hcz33_2 hcz33_3 hcz33_4 hcz33_5
  try clear hfz25_0 hfz25_1 hfz25_2 hfz25_3 hfz25_4 hfz25_5
  try clear hfz28_0 hfz28_1 hfz28_2 hfz28_3 hfz28_4 hfz28_5
  try clear hfz33_0 hfz33_1 hfz33_2 hfz33_3 hfz33_4 hfz33_5
  obtain ⟨kq, x42109000_7, HA, HJ7, BKAc, BKAb, BKAd, BKAa, HB⟩ := hcut
  cases kq with
  | zero => exact absurd HA.out (by simp [plaitinglaw5_Make.j0])
  | succ kj7 =>
   have H := HA.out
   clear HA
   simp only [plaitinglaw5_Make.j0] at H
   by_cases c34 : x42109000_7 = 3
   ·
    rw [if_pos c34] at H
    have c34b0 : (x42109000_7 == 3) = true := beq_iff_eq.mpr c34
    have c34b1 : (x42109000_7 != 3) = false := bne_eq_false_iff_eq.mpr c34
    clear c34
    replace H := Option.bind_eq_some_iff.mp H
    obtain ⟨⟨tAe, tAi⟩, A350, H⟩ := H
    try dsimp only at H
    have A35 := Aside0.mk A350
    clear A350
    have H' := Aside0.mk H
    clear H
    have hnb36 := NBAa_Ac.out
    have hnc36 := NBAc_Aa.out
    have hnb37 := NBAa_Ab.out
    have hnc37 := NBAb_Aa.out
    have hnb38 := NBAa_Ad.out
    have hnc38 := NBAd_Aa.out
    obtain ⟨hcz39_0, hcz39_1, hcz39_2, hcz39_3, hcz39_4, hcz39_5⟩ := c6_ BKAa
    obtain ⟨hfz39_0, hfz39_1, hfz39_2, hfz39_3, hfz39_4, hfz39_5⟩ := f6_ BKAa
    have hnb40 := NBAb_Ac.out
    have hnc40 := NBAc_Ab.out
    have hnb41 := NBAb_Ad.out
    have hnc41 := NBAd_Ab.out
    obtain ⟨hcz42_0, hcz42_1, hcz42_2, hcz42_3, hcz42_4, hcz42_5⟩ := c6_ BKAb
    obtain ⟨hfz42_0, hfz42_1, hfz42_2, hfz42_3, hfz42_4, hfz42_5⟩ := f6_ BKAb
    go_wp2_with (first | ((with_reducible refine gate_callee (f := 46) rfl ?_); refine gL_ 36 Try.func46 #[.int .i64 a1_4, .bool true] ?_; (with_reducible refine (plaitinglaw5_Item.calls kj7 a1_4 true tAe tAi _ A35.out).mono ?_); rintro e w43 ⟨rfl, hb⟩; refine ⟨_, rfl, ?_⟩; replace BKAc := bb_ BKAc hb; replace BKAb := bb_ BKAb hb; replace BKAd := bb_ BKAd hb; replace BKAa := bb_ BKAa hb; replace HB := bs_ HB hb; (try clear hb); (try clear hb2); (try clear hk); (try clear hi); obtain ⟨hcz44_0, hcz44_1, hcz44_2, hcz44_3, hcz44_4, hcz44_5⟩ := c6_ BKAa; obtain ⟨hfz44_0, hfz44_1, hfz44_2, hfz44_3, hfz44_4, hfz44_5⟩ := f6_ BKAa))
    go_loopg [8] kj7 (fun kq v8 w' => ∃ (x8_2 : Int) (x42109005_2 : List (S26)) (uAe005 : Value), v8 = .int .i64 x8_2 ∧ Aside0 (plaitinglaw5_Make.l0 kq l2 x8_2 a0_0 a0_1 a0_2 a0_3 a0_4 l0_5 x42109000_7 tAf tAg tAe tAi x42109005_2 = some (r1, r2, r3, r4, r5, r6)) ∧ Aside0 (kq ≤ kj7) ∧ Aside0 (Kd.R k26 26 w' w.heap.size (fun _ => True) uAe005 x42109005_2) ∧ Aside0 (w'.heap[gbAc]? = some (.cells #[.int .i64 a0_0, .int .i64 a0_1, .int .i64 a0_2, .int .i64 a0_3, .int .i64 a0_4, (.slice A0_5 l0_5.length c0_5)] 24 (0, 0))) ∧ Aside0 (w'.heap[gbAb]? = some (.cells #[.int .i64 a1_0, .int .i64 a1_1, .int .i64 a1_2, .int .i64 a1_3, .int .i64 a1_4, (.slice A1_5 l1_5.length c1_5)] 29 (0, 0))) ∧ Aside0 (w'.heap[gbAd]? = some (.cells #[.int .i64 0, .int .i64 0, .int .i64 0, .int .i64 0, .int .i64 0, (.slice none 0 0)] 29 (0, 0))) ∧ Aside0 (w'.heap[gbAa]? = some (.cells #[.int .i64 x42109000_7, .int .i64 tAf, .int .i64 tAg, .int .i64 tAe, .int .i64 tAi, uAe005] 29 (0, 0))) ∧ Aside0 (Below w.heap.size w w'))
    case atStart => exact ⟨(0), (([] : List (S26))), (.slice none 0 0), (by first | rfl | (simp; done) | (simp [*]; done)), H', ⟨Nat.le_refl _⟩, ⟨by first | exact Kd.R_nil _ _ _ _ _ | exact Kd.N_nil _ _ _ _ _ | exact Kd.V_nil _ _ _ _ _ | exact Kd.Q_nil _ _ _ _ _ | exact Kd.S_nil _ _ _ _ _⟩, ⟨bF_ BKAc.out NBAc_Aa.out⟩, ⟨bF_ BKAb.out NBAb_Aa.out⟩, ⟨bF_ BKAd.out NBAd_Aa.out⟩, ⟨by (with_reducible repeat (first | refine blk_drewN ?_ _ | refine blk_drew ?_ | refine blk_alloc ?_ _)); refine blk_put (cs := #[.int .i64 x42109000_7, .int .i64 tAf, .int .i64 tAg, .int .i64 tAe, .int .i64 0, .slice none 0 0]) ?_ 4 _ rfl; (with_reducible repeat (first | refine blk_drewN ?_ _ | refine blk_drew ?_ | refine blk_alloc ?_ _)); refine blk_put (cs := #[.int .i64 x42109000_7, .int .i64 tAf, .int .i64 tAg, .int .i64 0, .int .i64 0, .slice none 0 0]) ?_ 3 _ rfl; (with_reducible repeat (first | refine blk_drewN ?_ _ | refine blk_drew ?_ | refine blk_alloc ?_ _)); exact BKAa.out⟩, ⟨pH_ HB.out⟩⟩
    case round =>
     clear H'
     try clear c1
     try clear c2
     try clear p2
     try clear c3
     try clear c4
     try clear p6
     try clear c22
     try clear c23
     try clear c24
     try clear c25
     try clear c26
     try clear c27
     try clear c29
     try clear c29b0
     try clear c30
     try clear c31
     try clear c32
     try clear c34
     try clear c34b0
     try clear c34b1
     try clear c36
     try clear c37
     try clear c38
     try clear c40
     try clear c41
     try clear hcz25_0 hcz25_1 hcz25_2 hcz25_3 hcz25_4 hcz25_5
     try clear hcz28_0 hcz28_1 hcz28_2 hcz28_3 hcz28_4 hcz28_5
     try clear hcz33_0 hcz33_1 hcz33_2 hcz33_3 hcz33_4 hcz33_5
     try clear hcz39_0 hcz39_1 hcz39_2 hcz39_3 hcz39_4 hcz39_5
     try clear hcz42_0 hcz42_1 hcz42_2 hcz42_3 hcz42_4 hcz42_5
     try clear hcz44_0 hcz44_1 hcz44_2 hcz44_3 hcz44_4 hcz44_5
     try clear hfz25_0 hfz25_1 hfz25_2 hfz25_3 hfz25_4 hfz25_5
     try clear hfz28_0 hfz28_1 hfz28_2 hfz28_3 hfz28_4 hfz28_5
     try clear hfz33_0 hfz33_1 hfz33_2 hfz33_3 hfz33_4 hfz33_5
     try clear hfz39_0 hfz39_1 hfz39_2 hfz39_3 hfz39_4 hfz39_5
     try clear hfz42_0 hfz42_1 hfz42_2 hfz42_3 hfz42_4 hfz42_5
     try clear hfz44_0 hfz44_1 hfz44_2 hfz44_3 hfz44_4 hfz44_5
     try clear p2
     try clear p6
     obtain ⟨x8_2, x42109005_2, uAe005, rfl, HA, HK2, HO_Ae005, BKAc, BKAb, BKAd, BKAa, HB⟩ := hrel
     cases gk with
     | zero => exact absurd HA.out (by simp [plaitinglaw5_Make.l0])
     | succ k2 =>
      have H := HA.out
      clear HA
      simp only [plaitinglaw5_Make.l0] at H
      have HC45 := Aside0.mk H
      clear H
      go_upto_region 8 with (fail)
      go_cut [48] (fun v48 wc => ∃ (kq : Nat) (x48_44 : Bool), v48 = .bool x48_44 ∧ Aside0 (plaitinglaw5_Make.j2 kq l2 x8_2 x48_44 a0_0 a0_1 a0_2 a0_3 a0_4 l0_5 x42109000_7 tAf tAg tAe tAi x42109005_2 = some (r1, r2, r3, r4, r5, r6)) ∧ Aside0 (kq ≤ k2) ∧ Aside0 (Kd.R k26 26 wc w.heap.size (fun _ => True) uAe005 x42109005_2) ∧ Aside0 (wc.heap[gbAc]? = some (.cells #[.int .i64 a0_0, .int .i64 a0_1, .int .i64 a0_2, .int .i64 a0_3, .int .i64 a0_4, (.slice A0_5 l0_5.length c0_5)] 24 (0, 0))) ∧ Aside0 (wc.heap[gbAb]? = some (.cells #[.int .i64 a1_0, .int .i64 a1_1, .int .i64 a1_2, .int .i64 a1_3, .int .i64 a1_4, (.slice A1_5 l1_5.length c1_5)] 29 (0, 0))) ∧ Aside0 (wc.heap[gbAd]? = some (.cells #[.int .i64 0, .int .i64 0, .int .i64 0, .int .i64 0, .int .i64 0, (.slice none 0 0)] 29 (0, 0))) ∧ Aside0 (wc.heap[gbAa]? = some (.cells #[.int .i64 x42109000_7, .int .i64 tAf, .int .i64 tAg, .int .i64 tAe, .int .i64 tAi, uAe005] 29 (0, 0))) ∧ Aside0 (Below w.heap.size w wc))
      case first =>
       have H := HC45.out
       clear HC45
       replace H := Option.bind_eq_some_iff.mp H
       obtain ⟨tAr, A460, H⟩ := H
       try dsimp only at H
       have A46 := Aside0.mk A460
       clear A460
       by_cases c47 : x8_2 < tAr
       ·
        rw [if_pos c47] at H
        have c47b0 : decide (x8_2 < tAr) = true := decide_eq_true c47
        clear c47
        (first | rw [c47b0] | (simp only [i64_w, i32_w]; rw [c47b0]) | skip)
        have H' := Aside0.mk H
        clear H
        have hnb48 := NBAc_Ab.out
        have hnc48 := NBAb_Ac.out
        have hnb49 := NBAc_Ad.out
        have hnc49 := NBAd_Ac.out
        have hnb50 := NBAc_Aa.out
        have hnc50 := NBAa_Ac.out
        obtain ⟨hcz51_0, hcz51_1, hcz51_2, hcz51_3, hcz51_4, hcz51_5⟩ := c6_ BKAc
        obtain ⟨hfz51_0, hfz51_1, hfz51_2, hfz51_3, hfz51_4, hfz51_5⟩ := f6_ BKAc
        go_wp2_with (first | ((with_reducible refine gate_callee (f := 25) rfl ?_); refine gL_ 40 Try.func25 #[.agg #[.int .i64 a0_0, .int .i64 a0_1, .int .i64 a0_2, .int .i64 a0_3, .int .i64 a0_4, .slice A0_5 l0_5.length c0_5]] ?_; (with_reducible refine (plaitingref3_Slots.calls a0_0 a0_1 a0_2 a0_3 a0_4 _ _ l0_5 tAr _ ?side1 ?side2 A46.out).mono ?_); (case side1 => exact cC_ (Kd.C_below HR0_5.out HB.out)); (case side2 => exact HC0_5.out); rintro e w52 ⟨rfl, hb⟩; refine ⟨_, rfl, ?_⟩; replace HO_Ae005 := Aside0.mk (Kd.R_below (pR_ HO_Ae005.out) hb); replace BKAc := bb_ BKAc hb; replace BKAb := bb_ BKAb hb; replace BKAd := bb_ BKAd hb; replace BKAa := bb_ BKAa hb; replace HB := bs_ HB hb; (try clear hb); (try clear hb2); (try clear hk); (try clear hi); have hnb53 := NBAa_Ab.out; have hnc53 := NBAb_Aa.out; have hnb54 := NBAa_Ad.out; have hnc54 := NBAd_Aa.out; obtain ⟨hcz55_0, hcz55_1, hcz55_2, hcz55_3, hcz55_4, hcz55_5⟩ := c6_ BKAa; obtain ⟨hfz55_0, hfz55_1, hfz55_2, hfz55_3, hfz55_4, hfz55_5⟩ := f6_ BKAa; obtain ⟨hcz56_0, hcz56_1, hcz56_2, hcz56_3, hcz56_4, hcz56_5⟩ := c6_ BKAc; obtain ⟨hfz56_0, hfz56_1, hfz56_2, hfz56_3, hfz56_4, hfz56_5⟩ := f6_ BKAc))
        go_meet
        case rel => exact ⟨_, (decide (tAg < a0_0)), (by first | rfl | (simp; done) | (simp [*]; done)), H', ⟨by have := HJ7.out; have := HK2.out; first | omega | exact Nat.le_refl _⟩, ⟨by (with_reducible repeat (first | apply Kd.R_alloc | apply Kd.R_drewN | apply Kd.R_drew)); exact HO_Ae005.out⟩, ⟨pB_ BKAc.out⟩, ⟨pB_ BKAb.out⟩, ⟨pB_ BKAd.out⟩, ⟨pB_ BKAa.out⟩, ⟨pH_ HB.out⟩⟩
       rw [if_neg c47] at H
       have c47b0 : decide (x8_2 < tAr) = false := decide_eq_false c47
       clear c47
       (first | rw [c47b0] | (simp only [i64_w, i32_w]; rw [c47b0]) | skip)
       have H' := Aside0.mk H
       clear H
       have hnb57 := NBAc_Ab.out
       have hnc57 := NBAb_Ac.out
       have hnb58 := NBAc_Ad.out
       have hnc58 := NBAd_Ac.out
       have hnb59 := NBAc_Aa.out
       have hnc59 := NBAa_Ac.out
       obtain ⟨hcz60_0, hcz60_1, hcz60_2, hcz60_3, hcz60_4, hcz60_5⟩ := c6_ BKAc
       obtain ⟨hfz60_0, hfz60_1, hfz60_2, hfz60_3, hfz60_4, hfz60_5⟩ := f6_ BKAc
       go_wp2_with (first | ((with_reducible refine gate_callee (f := 25) rfl ?_); refine gL_ 40 Try.func25 #[.agg #[.int .i64 a0_0, .int .i64 a0_1, .int .i64 a0_2, .int .i64 a0_3, .int .i64 a0_4, .slice A0_5 l0_5.length c0_5]] ?_; (with_reducible refine (plaitingref3_Slots.calls a0_0 a0_1 a0_2 a0_3 a0_4 _ _ l0_5 tAr _ ?side1 ?side2 A46.out).mono ?_); (case side1 => exact cC_ (Kd.C_below HR0_5.out HB.out)); (case side2 => exact HC0_5.out); rintro e w61 ⟨rfl, hb⟩; refine ⟨_, rfl, ?_⟩; replace HO_Ae005 := Aside0.mk (Kd.R_below (pR_ HO_Ae005.out) hb); replace BKAc := bb_ BKAc hb; replace BKAb := bb_ BKAb hb; replace BKAd := bb_ BKAd hb; replace BKAa := bb_ BKAa hb; replace HB := bs_ HB hb; (try clear hb); (try clear hb2); (try clear hk); (try clear hi)))
       go_meet
       case rel => exact ⟨_, (false), (by first | rfl | (simp; done) | (simp [*]; done)), H', ⟨by have := HJ7.out; have := HK2.out; first | omega | exact Nat.le_refl _⟩, ⟨by (with_reducible repeat (first | apply Kd.R_alloc | apply Kd.R_drewN | apply Kd.R_drew)); exact HO_Ae005.out⟩, ⟨pB_ BKAc.out⟩, ⟨pB_ BKAb.out⟩, ⟨pB_ BKAd.out⟩, ⟨pB_ BKAa.out⟩, ⟨pH_ HB.out⟩⟩
      case rest =>
       clear HC45
       try clear c1
       try clear c2
       try clear p2
       try clear c3
       try clear c4
       try clear c5
       try clear p6
       try clear c22
       try clear c23
       try clear c24
       try clear c25
       try clear c26
       try clear c27
       try clear c29
       try clear c29b0
       try clear c30
       try clear c31
       try clear c32
       try clear c34
       try clear c34b0
       try clear c34b1
       try clear c36
       try clear c37
       try clear c38
       try clear c40
       try clear c41
       try clear c46
       try clear c47
       try clear c47b0
       try clear c48
       try clear c49
       try clear c50
       try clear c53
       try clear c54
       try clear c57
       try clear c58
       try clear c59
       try clear hcz25_0 hcz25_1 hcz25_2 hcz25_3 hcz25_4 hcz25_5
       try clear hcz28_0 hcz28_1 hcz28_2 hcz28_3 hcz28_4 hcz28_5
       try clear hcz33_0 hcz33_1 hcz33_2 hcz33_3 hcz33_4 hcz33_5
       try clear hcz39_0 hcz39_1 hcz39_2 hcz39_3 hcz39_4 hcz39_5
       try clear hcz42_0 hcz42_1 hcz42_2 hcz42_3 hcz42_4 hcz42_5
       try clear hcz44_0 hcz44_1 hcz44_2 hcz44_3 hcz44_4 hcz44_5
       try clear hcz51_0 hcz51_1 hcz51_2 hcz51_3 hcz51_4 hcz51_5
       try clear hcz55_0 hcz55_1 hcz55_2 hcz55_3 hcz55_4 hcz55_5
       try clear hcz56_0 hcz56_1 hcz56_2 hcz56_3 hcz56_4 hcz56_5
       try clear hcz60_0 hcz60_1 hcz60_2 hcz60_3 hcz60_4 hcz60_5
       try clear hfz25_0 hfz25_1 hfz25_2 hfz25_3 hfz25_4 hfz25_5
       try clear hfz28_0 hfz28_1 hfz28_2 hfz28_3 hfz28_4 hfz28_5
       try clear hfz33_0 hfz33_1 hfz33_2 hfz33_3 hfz33_4 hfz33_5
       try clear hfz39_0 hfz39_1 hfz39_2 hfz39_3 hfz39_4 hfz39_5
       try clear hfz42_0 hfz42_1 hfz42_2 hfz42_3 hfz42_4 hfz42_5
       try clear hfz44_0 hfz44_1 hfz44_2 hfz44_3 hfz44_4 hfz44_5
       try clear hfz51_0 hfz51_1 hfz51_2 hfz51_3 hfz51_4 hfz51_5
       try clear hfz55_0 hfz55_1 hfz55_2 hfz55_3 hfz55_4 hfz55_5
       try clear hfz56_0 hfz56_1 hfz56_2 hfz56_3 hfz56_4 hfz56_5
       try clear hfz60_0 hfz60_1 hfz60_2 hfz60_3 hfz60_4 hfz60_5
       try clear p2
       try clear p6
       obtain ⟨kq, x48_44, rfl, HA, HJ44, HO_Ae005, BKAc, BKAb, BKAd, BKAa, HB⟩ := hcut
       cases kq with
       | zero => exact absurd HA.out (by simp [plaitinglaw5_Make.j2])
       | succ kj44 =>
        have H := HA.out
        clear HA
        simp only [plaitinglaw5_Make.j2] at H
        by_cases c62 : x48_44 = true
        ·
         subst c62
         have H1 : (if (l2.length : Int) > 0 then (if (l2.length : Int) = 0 then (none) else (if 0 ≤ (Int.tmod x8_2 (l2.length : Int)) then (if (Int.tmod x8_2 (l2.length : Int)) < (l2.length : Int) then (if (wrap64 (1 + x8_2)) = 0 then (none) else ((plaitinglaw5_Item.f kj44 (wrap64 ((wrap64 (Int.tdiv (rd l2 (Int.tmod x8_2 (l2.length : Int))) (wrap64 (1 + x8_2)))) + x8_2)) false).bind fun btAm => (if x42109005_2.length < 8796093022208 then (plaitinglaw5_Make.l0 kj44 l2 (wrap64 (x8_2 + 1)) a0_0 a0_1 a0_2 a0_3 a0_4 l0_5 x42109000_7 tAf tAg tAe tAi (x42109005_2 ++ [(⟨btAm.1, btAm.2⟩ : S26)])) else (none)))) else (none)) else (none))) else ((plaitinglaw5_Item.f kj44 x8_2 false).bind fun btAq => (if x42109005_2.length < 8796093022208 then (plaitinglaw5_Make.l0 kj44 l2 (wrap64 (x8_2 + 1)) a0_0 a0_1 a0_2 a0_3 a0_4 l0_5 x42109000_7 tAf tAg tAe tAi (x42109005_2 ++ [(⟨btAq.1, btAq.2⟩ : S26)])) else (none)))) = some (r1, r2, r3, r4, r5, r6) := by rw [if_pos rfl] at H; exact H
         clear H
         have H := H1
         clear H1
         by_cases c63 : (l2.length : Int) > 0
         ·
          rw [if_pos c63] at H
          have c63b0 : decide (0 < (l2.length : Int)) = true := decide_eq_true c63
          have c63b1 : decide (0 < l2.length) = true := decide_eq_true (by omega)
          clear c63
          by_cases c64 : (l2.length : Int) = 0
          ·
           rw [if_pos c64] at H
           exact absurd H (by simp)
          rw [if_neg c64] at H
          have c64b0 : ((l2.length : Int) == 0) = false := beq_eq_false_iff_ne.mpr c64
          have c64b1 : ((l2.length : Int) != 0) = true := bne_iff_ne.mpr c64
          have c64b2 : ¬ (l2 = []) := fun h_ => c64 (by rw [h_]; rfl)
          obtain ⟨ji65, hji65⟩ : ∃ j_ : Int, (Int.tmod x8_2 (l2.length : Int)) = j_ := ⟨_, rfl⟩
          replace H : (if 0 ≤ (ji65) then (if (ji65) < (l2.length : Int) then (if (wrap64 (1 + x8_2)) = 0 then (none) else ((plaitinglaw5_Item.f kj44 (wrap64 ((wrap64 (Int.tdiv (rd l2 (ji65)) (wrap64 (1 + x8_2)))) + x8_2)) false).bind fun btAm => (if x42109005_2.length < 8796093022208 then (plaitinglaw5_Make.l0 kj44 l2 (wrap64 (x8_2 + 1)) a0_0 a0_1 a0_2 a0_3 a0_4 l0_5 x42109000_7 tAf tAg tAe tAi (x42109005_2 ++ [(⟨btAm.1, btAm.2⟩ : S26)])) else (none)))) else (none)) else (none)) = some (r1, r2, r3, r4, r5, r6) := by first | (rw [hji65] at H; exact H) | (simp only [hji65] at H ⊢; exact H)
          by_cases c66 : 0 ≤ (ji65)
          rotate_left
          ·
           rw [if_neg c66] at H
           exact absurd H (by simp)
          rw [if_pos c66] at H
          have c66b0 : decide (0 ≤ (ji65)) = true := decide_eq_true c66
          clear c66
          by_cases c67 : (ji65) < (l2.length : Int)
          rotate_left
          ·
           rw [if_neg c67] at H
           exact absurd H (by simp)
          rw [if_pos c67] at H
          have c67b0 : decide ((ji65) < (l2.length : Int)) = true := decide_eq_true c67
          clear c67
          by_cases c68 : (wrap64 (1 + x8_2)) = 0
          ·
           rw [if_pos c68] at H
           exact absurd H (by simp)
          rw [if_neg c68] at H
          have c68b0 : ((wrap64 (1 + x8_2)) == 0) = false := beq_eq_false_iff_ne.mpr c68
          have c68b1 : ((wrap64 (1 + x8_2)) != 0) = true := bne_iff_ne.mpr c68
          replace H := Option.bind_eq_some_iff.mp H
          obtain ⟨⟨tAm, tAs⟩, A690, H⟩ := H
          try dsimp only at H
          have A69 := Aside0.mk A690
          clear A690
          by_cases c70 : x42109005_2.length < 8796093022208
          rotate_left
          ·
           rw [if_neg c70] at H
           exact absurd H (by simp)
          rw [if_pos c70] at H
          have LMc70 := Aside0.mk c70
          clear c70
          obtain ⟨yAn, hyAn⟩ : ∃ y_ : List (S26), y_ = (x42109005_2 ++ [(⟨tAm, tAs⟩ : S26)]) := ⟨_, rfl⟩
          replace H : (plaitinglaw5_Make.l0 kj44 l2 (wrap64 (x8_2 + 1)) a0_0 a0_1 a0_2 a0_3 a0_4 l0_5 x42109000_7 tAf tAg tAe tAi yAn) = some (r1, r2, r3, r4, r5, r6) := by first | (rw [hyAn]; with_reducible exact H) | (have H2_ := (Option.bind_some _ _).symm.trans H; rw [hyAn]; with_reducible exact H2_) | (have H2_ := (Option.bind_some _ _).symm.trans H; with_reducible exact H2_) | with_reducible exact H | (rw [hyAn]; exact H) | exact H
          have NyAn := Aside0.mk hyAn
          clear hyAn
          have H' := Aside0.mk H
          clear H
          have pAk : 0 ≤ ((ji65) : Int) := of_decide_eq_true (by first | (with_reducible assumption) | assumption)
          have qAk : (ji65) < (l2.length : Int) := of_decide_eq_true (by first | (with_reducible assumption) | assumption)
          obtain ⟨adAk, eAk, hxAk_0⟩ := Kd.at_int HR2.out (ji65) pAk qAk
          cases eAk
          replace hxAk_0 := (HB.out.cell (World.block_lt_of_cell? w _ hxAk_0)).trans hxAk_0
          replace pAk := eq_true pAk
          replace qAk := eq_true qAk
          try go_wp2
          replace HO_Ae005 := Aside0.mk (Kd.R_drew HO_Ae005.out)
          replace BKAc := Aside0.mk (blk_drew BKAc.out)
          replace BKAb := Aside0.mk (blk_drew BKAb.out)
          replace BKAd := Aside0.mk (blk_drew BKAd.out)
          replace BKAa := Aside0.mk (blk_drew BKAa.out)
          replace HB := Aside0.mk (below_drew1 HB.out)
          refine start_ (n := 8) (S := fun w' => w'.cell? ⟨gbAa, 0, none⟩ = some (.int .i64 x42109000_7) ∧ w'.cell? ⟨gbAa, 1, none⟩ = some (.int .i64 tAf) ∧ w'.cell? ⟨gbAa, 2, none⟩ = some (.int .i64 tAg) ∧ w'.cell? ⟨gbAa, 3, none⟩ = some (.int .i64 tAe) ∧ w'.cell? ⟨gbAa, 4, none⟩ = some (.int .i64 tAi) ∧ w'.cell? ⟨gbAa, 5, none⟩ = some (uAe005)) (ds := [7]) #[false, false, false, false, false, false, false, false] (by kernel_rfl) rfl rfl ⟨bc_ BKAa 0, bc_ BKAa 1, bc_ BKAa 2, bc_ BKAa 3, bc_ BKAa 4, bc_ BKAa 5⟩ (fun hHeld => ?_); refine with_tabW plaitinglaw5_Make.tab13 plaitinglaw5_Make.bits13 (fun HT_ HW_ => ?_)
          generalize wc.drew = w71 at HO_Ae005 BKAc BKAb BKAd BKAa HB hHeld ⊢
          refine pq_ 0 67 HT_ ?_
          refine pq_ 2 69 HT_ ?_
          refine tq_ 1 68 HT_ HW_ hHeld ?_
          refine oq_ 3 70 HT_ (fun K hK => ?_)
          refine goes_ Try.func46 (by kernel_rfl) rfl #[.int .i64 (wrap64 ((wrap64 (Int.tdiv (rd l2 (ji65)) (wrap64 (1 + x8_2)))) + x8_2)), .bool false] (by rfl) rfl rfl (by (try simp only [List.map_toArray, List.map_cons, List.map_nil]); first | done | (simp only [hji65]; rfl) | rfl | (simp only [List.length_drop, List.length_take]; rfl)) ?_
          with_reducible refine (plaitinglaw5_Item.calls kj44 (wrap64 ((wrap64 (Int.tdiv (rd l2 (ji65)) (wrap64 (1 + x8_2)))) + x8_2)) false tAm tAs _ A69.out).mono ?_
          rintro e w72 ⟨rfl, hb⟩
          refine ⟨_, rfl, ?_⟩
          replace HO_Ae005 := Aside0.mk (Kd.R_below (pR_ HO_Ae005.out) hb)
          replace BKAc := bb_ BKAc hb
          replace BKAb := bb_ BKAb hb
          replace BKAd := bb_ BKAd hb
          replace BKAa := bb_ BKAa hb
          replace HB := bs_ HB hb
          (try clear hb)
          (try clear hb2)
          (try clear hk)
          (try clear hi)
          refine hK.out _ _ ⟨bc_ BKAa 0, bc_ BKAa 1, bc_ BKAa 2, bc_ BKAa 3, bc_ BKAa 4, bc_ BKAa 5⟩ (fun hHeld => ?_)
          clear hK K
          refine nq_ 70 ?_
          refine oq_ 4 71 HT_ (fun K hK => ?_)
          refine value_ (w1 := ?_) (v := ?_) (by rfl) rfl ?_ ?_
          rotate_left 2
          ·
           go_simp
           constructor
           · rfl
           rfl
          refine hK.out _ _ ⟨(blk_cell (blk_alloc BKAa.out _) 0).trans rfl, (blk_cell (blk_alloc BKAa.out _) 1).trans rfl, (blk_cell (blk_alloc BKAa.out _) 2).trans rfl, (blk_cell (blk_alloc BKAa.out _) 3).trans rfl, (blk_cell (blk_alloc BKAa.out _) 4).trans rfl, (blk_cell (blk_alloc BKAa.out _) 5).trans rfl⟩ (fun hHeld => ?_)
          clear hK K
          refine nq_ 71 ?_
          refine oq_ 5 72 HT_ (fun K hK => ?_)
          refine Kd.R_append_step k26 (w0 := w) w.heap.size (by rfl) (.tmp 68) (.tmp 71) 27 26 (.agg #[(.int .i64 0), (.int .i64 0)]) 16 rfl Try.underlying27 info26 rfl (by decide) (by omega) uAe005 x42109005_2 (⟨tAm, tAs⟩ : S26) [.int .i64 tAm, .int .i64 tAs] (fun _ => True) (fun _ => False) rfl rfl ?aP (fun _ hk => hk.elim) ?aF ?aO ?aB ?aS ?aL ?_
          (case aP => exact k26_mkM _ _ _ (⟨tAm, tAs⟩ : S26))
          (case aB => exact (pH_ HB.out))
          (case aF => exact (fun _ _ => trivial))
          (case aO => exact (pR_ HO_Ae005.out))
          (case aS => exact (below_size (pH_ HB.out)))
          (case aL => have := LMc70.out; omega)
          intro vAw w73 ho hb hg hat
          rw [← NyAn.out] at ho
          have n0_ := Aside0.mk (blk_grown (g := gbAc) (o := .cells #[.int .i64 a0_0, .int .i64 a0_1, .int .i64 a0_2, .int .i64 a0_3, .int .i64 a0_4, .slice A0_5 l0_5.length c0_5] 24 (0, 0)) (pB_ BKAc.out) hg (Kd.R_ne HO_Ae005.out BKAc.out (by decide)))
          have n1_ := Aside0.mk (blk_grown (g := gbAb) (o := .cells #[.int .i64 a1_0, .int .i64 a1_1, .int .i64 a1_2, .int .i64 a1_3, .int .i64 a1_4, .slice A1_5 l1_5.length c1_5] 29 (0, 0)) (pB_ BKAb.out) hg (Kd.R_ne HO_Ae005.out BKAb.out (by decide)))
          have n2_ := Aside0.mk (blk_grown (g := gbAd) (o := .cells #[.int .i64 0, .int .i64 0, .int .i64 0, .int .i64 0, .int .i64 0, .slice none 0 0] 29 (0, 0)) (pB_ BKAd.out) hg (Kd.R_ne HO_Ae005.out BKAd.out (by decide)))
          have n3_ := Aside0.mk (blk_grown (g := gbAa) (o := .cells #[.int .i64 x42109000_7, .int .i64 tAf, .int .i64 tAg, .int .i64 tAe, .int .i64 tAi, uAe005] 29 (0, 0)) (pB_ BKAa.out) hg (Kd.R_ne HO_Ae005.out BKAa.out (by decide)))
          have n4_ := Aside0.mk (hb)
          have n5_ := Aside0.mk (ho)
          clear BKAc
          clear BKAb
          clear BKAd
          clear BKAa
          clear HB
          clear HO_Ae005
          have BKAc := n0_
          have BKAb := n1_
          have BKAd := n2_
          have BKAa := n3_
          have HB := n4_
          have HOAu := n5_
          clear n0_ n1_ n2_ n3_ n4_ n5_
          clear ho hb hg hat
          obtain ⟨Ao74, co74, eo74⟩ := Kd.R_slice HOAu.out
          (first | subst eo74 | (injection eo74 with f1_ f2_ f3_; have f4_ := f1_.symm; have f5_ := f3_.symm; clear f1_ f2_ f3_; subst f4_; subst f5_))
          refine hK.out _ _ ⟨bc_ BKAa 0, bc_ BKAa 1, bc_ BKAa 2, bc_ BKAa 3, bc_ BKAa 4, bc_ BKAa 5⟩ (fun hHeld => ?_)
          clear hK K
          refine nq_ 72 ?_
          refine pq_ 6 73 HT_ ?_
          refine last_ (i := 7) (N := none) #[true, true, true, true, true, true, true, true] rfl rfl (one_of HT_.out (by kernel_rfl)) (by decide) (fun K hK => ?_)
          have hs75 : w73.cell? ⟨gbAa, 5, none⟩ = some (uAe005) := bc_ BKAa 5
          have hfs75 := blk_frozen BKAa.out 5
          have hns75_0 := NBAc_Aa.out
          have hns75_1 := NBAb_Aa.out
          have hns75_2 := NBAd_Aa.out
          have hms75_0 := NBAa_Ac.out
          have hms75_1 := NBAa_Ab.out
          have hms75_2 := NBAa_Ad.out
          refine skip_ (w1 := ?_) (by rfl) rfl ?_ ?_
          rotate_left
          ·
           go_simp
           rfl
          refine hK.out _ _ ?_
          clear hK K
          refine done_ (done_of HT_.out (by kernel_rfl)) ?_
          try go_wp2
          go_roundg kj44
          case measure => have := HJ7.out; have := HK2.out; have := HJ44.out; omega
          case rel => exact ⟨(wrap64 (x8_2 + 1)), (yAn), (.slice Ao74 yAn.length co74), (by first | rfl | (simp; done) | (simp [*]; done)), H', ⟨by have := HJ7.out; have := HK2.out; have := HJ44.out; omega⟩, ⟨by (with_reducible repeat (first | apply Kd.R_alloc | apply Kd.R_drewN | apply Kd.R_drew)); exact Kd.R_mono (Kd.R_far (p := ⟨gbAa, 5, none⟩) (Kd.R_types HOAu.out BKAa.out (by decide)) (fun _ hk => hk.2) (.slice Ao74 yAn.length co74)) (fun _ hk => trivial)⟩, ⟨bF_ BKAc.out NBAc_Aa.out⟩, ⟨bF_ BKAb.out NBAb_Aa.out⟩, ⟨bF_ BKAd.out NBAd_Aa.out⟩, ⟨by (with_reducible repeat (first | refine blk_drewN ?_ _ | refine blk_drew ?_ | refine blk_alloc ?_ _)); refine blk_put (cs := #[.int .i64 x42109000_7, .int .i64 tAf, .int .i64 tAg, .int .i64 tAe, .int .i64 tAi, uAe005]) ?_ 5 _ rfl; (with_reducible repeat (first | refine blk_drewN ?_ _ | refine blk_drew ?_ | refine blk_alloc ?_ _)); exact BKAa.out⟩, ⟨pH_ HB.out⟩⟩
         rw [if_neg c63] at H
         have c63b0 : decide (0 < (l2.length : Int)) = false := decide_eq_false c63
         have c63b1 : decide (0 < l2.length) = false := decide_eq_false (by omega)
         clear c63
         replace H := Option.bind_eq_some_iff.mp H
         obtain ⟨⟨tAq, tAt⟩, A760, H⟩ := H
         try dsimp only at H
         have A76 := Aside0.mk A760
         clear A760
         by_cases c77 : x42109005_2.length < 8796093022208
         rotate_left
         ·
          rw [if_neg c77] at H
          exact absurd H (by simp)
         rw [if_pos c77] at H
         have LMc77 := Aside0.mk c77
         clear c77
         obtain ⟨yAp, hyAp⟩ : ∃ y_ : List (S26), y_ = (x42109005_2 ++ [(⟨tAq, tAt⟩ : S26)]) := ⟨_, rfl⟩
         replace H : (plaitinglaw5_Make.l0 kj44 l2 (wrap64 (x8_2 + 1)) a0_0 a0_1 a0_2 a0_3 a0_4 l0_5 x42109000_7 tAf tAg tAe tAi yAp) = some (r1, r2, r3, r4, r5, r6) := by first | (rw [hyAp]; with_reducible exact H) | (have H2_ := (Option.bind_some _ _).symm.trans H; rw [hyAp]; with_reducible exact H2_) | (have H2_ := (Option.bind_some _ _).symm.trans H; with_reducible exact H2_) | with_reducible exact H | (rw [hyAp]; exact H) | exact H
         have NyAp := Aside0.mk hyAp
         clear hyAp
         have H' := Aside0.mk H
         clear H
         try go_wp2
         replace HO_Ae005 := Aside0.mk (Kd.R_drew HO_Ae005.out)
         replace BKAc := Aside0.mk (blk_drew BKAc.out)
         replace BKAb := Aside0.mk (blk_drew BKAb.out)
         replace BKAd := Aside0.mk (blk_drew BKAd.out)
         replace BKAa := Aside0.mk (blk_drew BKAa.out)
         replace HB := Aside0.mk (below_drew1 HB.out)
         refine start_ (n := 8) (S := fun w' => w'.cell? ⟨gbAa, 0, none⟩ = some (.int .i64 x42109000_7) ∧ w'.cell? ⟨gbAa, 1, none⟩ = some (.int .i64 tAf) ∧ w'.cell? ⟨gbAa, 2, none⟩ = some (.int .i64 tAg) ∧ w'.cell? ⟨gbAa, 3, none⟩ = some (.int .i64 tAe) ∧ w'.cell? ⟨gbAa, 4, none⟩ = some (.int .i64 tAi) ∧ w'.cell? ⟨gbAa, 5, none⟩ = some (uAe005)) (ds := [7]) #[false, false, false, false, false, false, false, false] (by kernel_rfl) rfl rfl ⟨bc_ BKAa 0, bc_ BKAa 1, bc_ BKAa 2, bc_ BKAa 3, bc_ BKAa 4, bc_ BKAa 5⟩ (fun hHeld => ?_); refine with_tabW plaitinglaw5_Make.tab13 plaitinglaw5_Make.bits13 (fun HT_ HW_ => ?_)
         generalize wc.drew = w78 at HO_Ae005 BKAc BKAb BKAd BKAa HB hHeld ⊢
         refine pq_ 0 67 HT_ ?_
         refine pq_ 2 69 HT_ ?_
         refine tq_ 1 68 HT_ HW_ hHeld ?_
         refine oq_ 3 70 HT_ (fun K hK => ?_)
         refine gs_ Try.func46 #[.int .i64 x8_2, .bool false] ?_
         with_reducible refine (plaitinglaw5_Item.calls kj44 x8_2 false tAq tAt _ A76.out).mono ?_
         rintro e w79 ⟨rfl, hb⟩
         refine ⟨_, rfl, ?_⟩
         replace HO_Ae005 := Aside0.mk (Kd.R_below (pR_ HO_Ae005.out) hb)
         replace BKAc := bb_ BKAc hb
         replace BKAb := bb_ BKAb hb
         replace BKAd := bb_ BKAd hb
         replace BKAa := bb_ BKAa hb
         replace HB := bs_ HB hb
         (try clear hb)
         (try clear hb2)
         (try clear hk)
         (try clear hi)
         refine hK.out _ _ ⟨bc_ BKAa 0, bc_ BKAa 1, bc_ BKAa 2, bc_ BKAa 3, bc_ BKAa 4, bc_ BKAa 5⟩ (fun hHeld => ?_)
         clear hK K
         refine nq_ 70 ?_
         refine oq_ 4 71 HT_ (fun K hK => ?_)
         refine value_ (w1 := ?_) (v := ?_) (by rfl) rfl ?_ ?_
         rotate_left 2
         ·
          go_simp
          constructor
          · rfl
          rfl
         refine hK.out _ _ ⟨(blk_cell (blk_alloc BKAa.out _) 0).trans rfl, (blk_cell (blk_alloc BKAa.out _) 1).trans rfl, (blk_cell (blk_alloc BKAa.out _) 2).trans rfl, (blk_cell (blk_alloc BKAa.out _) 3).trans rfl, (blk_cell (blk_alloc BKAa.out _) 4).trans rfl, (blk_cell (blk_alloc BKAa.out _) 5).trans rfl⟩ (fun hHeld => ?_)
         clear hK K
         refine nq_ 71 ?_
         refine oq_ 5 72 HT_ (fun K hK => ?_)
         refine Kd.R_append_step k26 (w0 := w) w.heap.size (by rfl) (.tmp 68) (.tmp 71) 27 26 (.agg #[(.int .i64 0), (.int .i64 0)]) 16 rfl Try.underlying27 info26 rfl (by decide) (by omega) uAe005 x42109005_2 (⟨tAq, tAt⟩ : S26) [.int .i64 tAq, .int .i64 tAt] (fun _ => True) (fun _ => False) rfl rfl ?aP (fun _ hk => hk.elim) ?aF ?aO ?aB ?aS ?aL ?_
         (case aP => exact k26_mkM _ _ _ (⟨tAq, tAt⟩ : S26))
         (case aB => exact (pH_ HB.out))
         (case aF => exact (fun _ _ => trivial))
         (case aO => exact (pR_ HO_Ae005.out))
         (case aS => exact (below_size (pH_ HB.out)))
         (case aL => have := LMc77.out; omega)
         intro vAx w80 ho hb hg hat
         rw [← NyAp.out] at ho
         have n0_ := Aside0.mk (blk_grown (g := gbAc) (o := .cells #[.int .i64 a0_0, .int .i64 a0_1, .int .i64 a0_2, .int .i64 a0_3, .int .i64 a0_4, .slice A0_5 l0_5.length c0_5] 24 (0, 0)) (pB_ BKAc.out) hg (Kd.R_ne HO_Ae005.out BKAc.out (by decide)))
         have n1_ := Aside0.mk (blk_grown (g := gbAb) (o := .cells #[.int .i64 a1_0, .int .i64 a1_1, .int .i64 a1_2, .int .i64 a1_3, .int .i64 a1_4, .slice A1_5 l1_5.length c1_5] 29 (0, 0)) (pB_ BKAb.out) hg (Kd.R_ne HO_Ae005.out BKAb.out (by decide)))
         have n2_ := Aside0.mk (blk_grown (g := gbAd) (o := .cells #[.int .i64 0, .int .i64 0, .int .i64 0, .int .i64 0, .int .i64 0, .slice none 0 0] 29 (0, 0)) (pB_ BKAd.out) hg (Kd.R_ne HO_Ae005.out BKAd.out (by decide)))
         have n3_ := Aside0.mk (blk_grown (g := gbAa) (o := .cells #[.int .i64 x42109000_7, .int .i64 tAf, .int .i64 tAg, .int .i64 tAe, .int .i64 tAi, uAe005] 29 (0, 0)) (pB_ BKAa.out) hg (Kd.R_ne HO_Ae005.out BKAa.out (by decide)))
         have n4_ := Aside0.mk (hb)
         have n5_ := Aside0.mk (ho)
         clear BKAc
         clear BKAb
         clear BKAd
         clear BKAa
         clear HB
         clear HO_Ae005
         have BKAc := n0_
         have BKAb := n1_
         have BKAd := n2_
         have BKAa := n3_
         have HB := n4_
         have HOAv := n5_
         clear n0_ n1_ n2_ n3_ n4_ n5_
         clear ho hb hg hat
         obtain ⟨Ao81, co81, eo81⟩ := Kd.R_slice HOAv.out
         (first | subst eo81 | (injection eo81 with f1_ f2_ f3_; have f4_ := f1_.symm; have f5_ := f3_.symm; clear f1_ f2_ f3_; subst f4_; subst f5_))
         refine hK.out _ _ ⟨bc_ BKAa 0, bc_ BKAa 1, bc_ BKAa 2, bc_ BKAa 3, bc_ BKAa 4, bc_ BKAa 5⟩ (fun hHeld => ?_)
         clear hK K
         refine nq_ 72 ?_
         refine pq_ 6 73 HT_ ?_
         refine last_ (i := 7) (N := none) #[true, true, true, true, true, true, true, true] rfl rfl (one_of HT_.out (by kernel_rfl)) (by decide) (fun K hK => ?_)
         have hs82 : w80.cell? ⟨gbAa, 5, none⟩ = some (uAe005) := bc_ BKAa 5
         have hfs82 := blk_frozen BKAa.out 5
         have hns82_0 := NBAc_Aa.out
         have hns82_1 := NBAb_Aa.out
         have hns82_2 := NBAd_Aa.out
         have hms82_0 := NBAa_Ac.out
         have hms82_1 := NBAa_Ab.out
         have hms82_2 := NBAa_Ad.out
         refine skip_ (w1 := ?_) (by rfl) rfl ?_ ?_
         rotate_left
         ·
          go_simp
          rfl
         refine hK.out _ _ ?_
         clear hK K
         refine done_ (done_of HT_.out (by kernel_rfl)) ?_
         try go_wp2
         go_roundg kj44
         case measure => have := HJ7.out; have := HK2.out; have := HJ44.out; omega
         case rel => exact ⟨(wrap64 (x8_2 + 1)), (yAp), (.slice Ao81 yAp.length co81), (by first | rfl | (simp; done) | (simp [*]; done)), H', ⟨by have := HJ7.out; have := HK2.out; have := HJ44.out; omega⟩, ⟨by (with_reducible repeat (first | apply Kd.R_alloc | apply Kd.R_drewN | apply Kd.R_drew)); exact Kd.R_mono (Kd.R_far (p := ⟨gbAa, 5, none⟩) (Kd.R_types HOAv.out BKAa.out (by decide)) (fun _ hk => hk.2) (.slice Ao81 yAp.length co81)) (fun _ hk => trivial)⟩, ⟨bF_ BKAc.out NBAc_Aa.out⟩, ⟨bF_ BKAb.out NBAb_Aa.out⟩, ⟨bF_ BKAd.out NBAd_Aa.out⟩, ⟨by (with_reducible repeat (first | refine blk_drewN ?_ _ | refine blk_drew ?_ | refine blk_alloc ?_ _)); refine blk_put (cs := #[.int .i64 x42109000_7, .int .i64 tAf, .int .i64 tAg, .int .i64 tAe, .int .i64 tAi, uAe005]) ?_ 5 _ rfl; (with_reducible repeat (first | refine blk_drewN ?_ _ | refine blk_drew ?_ | refine blk_alloc ?_ _)); exact BKAa.out⟩, ⟨pH_ HB.out⟩⟩
        replace c62 := Bool.eq_false_iff.mpr c62
        subst c62
        have H1 : (some (x42109000_7, tAf, tAg, tAe, tAi, x42109005_2)) = some (r1, r2, r3, r4, r5, r6) := by rw [if_neg (show ¬ (false = true) by decide)] at H; exact H
        clear H
        have H := H1
        clear H1
        simp only [Option.some.injEq, Prod.mk.injEq] at H
        obtain ⟨rfl, rfl, rfl, rfl, rfl, rfl⟩ := H
        have hnb83 := NBAa_Ac.out
        have hnc83 := NBAc_Aa.out
        have hnb84 := NBAa_Ab.out
        have hnc84 := NBAb_Aa.out
        have hnb85 := NBAa_Ad.out
        have hnc85 := NBAd_Aa.out
        obtain ⟨hcz86_0, hcz86_1, hcz86_2, hcz86_3, hcz86_4, hcz86_5⟩ := c6_ BKAa
        obtain ⟨hfz86_0, hfz86_1, hfz86_2, hfz86_3, hfz86_4, hfz86_5⟩ := f6_ BKAa
        have hnb87 := NBAd_Ac.out
        have hnc87 := NBAc_Ad.out
        have hnb88 := NBAd_Ab.out
        have hnc88 := NBAb_Ad.out
        obtain ⟨hcz89_0, hcz89_1, hcz89_2, hcz89_3, hcz89_4, hcz89_5⟩ := c6_ BKAd
        obtain ⟨hfz89_0, hfz89_1, hfz89_2, hfz89_3, hfz89_4, hfz89_5⟩ := f6_ BKAd
        obtain ⟨Ao90, co90, eo90⟩ := Kd.R_slice HO_Ae005.out
        subst eo90
        go_wp2
        refine bodyPost_ret (results_cell_row rfl _ _ gbAd 29 #[.int .i64 x42109000_7, .int .i64 tAf, .int .i64 tAg, .int .i64 tAe, .int .i64 tAi, .slice Ao90 x42109005_2.length co90] (0, 0) _ rfl (by (with_reducible repeat (first | refine blk_drewN ?_ _ | refine blk_drew ?_ | refine blk_alloc ?_ _)); refine blk_put (cs := #[.int .i64 x42109000_7, .int .i64 tAf, .int .i64 tAg, .int .i64 tAe, .int .i64 tAi, .slice none 0 0]) ?_ 5 _ rfl; (with_reducible repeat (first | refine blk_drewN ?_ _ | refine blk_drew ?_ | refine blk_alloc ?_ _)); refine blk_put (cs := #[.int .i64 x42109000_7, .int .i64 tAf, .int .i64 tAg, .int .i64 tAe, .int .i64 0, .slice none 0 0]) ?_ 4 _ rfl; (with_reducible repeat (first | refine blk_drewN ?_ _ | refine blk_drew ?_ | refine blk_alloc ?_ _)); refine blk_put (cs := #[.int .i64 x42109000_7, .int .i64 tAf, .int .i64 tAg, .int .i64 0, .int .i64 0, .slice none 0 0]) ?_ 3 _ rfl; (with_reducible repeat (first | refine blk_drewN ?_ _ | refine blk_drew ?_ | refine blk_alloc ?_ _)); refine blk_put (cs := #[.int .i64 x42109000_7, .int .i64 tAf, .int .i64 0, .int .i64 0, .int .i64 0, .slice none 0 0]) ?_ 2 _ rfl; (with_reducible repeat (first | refine blk_drewN ?_ _ | refine blk_drew ?_ | refine blk_alloc ?_ _)); refine blk_put (cs := #[.int .i64 x42109000_7, .int .i64 0, .int .i64 0, .int .i64 0, .int .i64 0, .slice none 0 0]) ?_ 1 _ rfl; (with_reducible repeat (first | refine blk_drewN ?_ _ | refine blk_drew ?_ | refine blk_alloc ?_ _)); refine blk_put (cs := #[.int .i64 0, .int .i64 0, .int .i64 0, .int .i64 0, .int .i64 0, .slice none 0 0]) ?_ 0 _ rfl; (with_reducible repeat (first | refine blk_drewN ?_ _ | refine blk_drew ?_ | refine blk_alloc ?_ _)); exact BKAd.out) Try.underlying29 rfl (by kernel_rfl)) rfl ?_
        exact ⟨_, by first | rfl | (simp [errW_none, errW_some] <;> rfl) | (simp [*, errW_none, errW_some] <;> rfl), by (with_reducible repeat (first | apply Kd.R_alloc | apply Kd.R_drewN | apply Kd.R_drew)); exact Kd.R_mono (Kd.R_far (p := ⟨gbAd, 5, none⟩) (Kd.R_far (p := ⟨gbAd, 4, none⟩) (Kd.R_far (p := ⟨gbAd, 3, none⟩) (Kd.R_far (p := ⟨gbAd, 2, none⟩) (Kd.R_far (p := ⟨gbAd, 1, none⟩) (Kd.R_far (p := ⟨gbAd, 0, none⟩) (Kd.R_types HO_Ae005.out BKAd.out (by decide)) (fun _ hk => hk.2) (.int .i64 x42109000_7)) (fun _ hk => hk.2) (.int .i64 tAf)) (fun _ hk => hk.2) (.int .i64 tAg)) (fun _ hk => hk.2) (.int .i64 tAe)) (fun _ hk => hk.2) (.int .i64 tAi)) (fun _ hk => hk.2) (.slice Ao90 x42109005_2.length co90)) (fun _ hk => trivial), pH_ HB.out⟩
   rw [if_neg c34] at H
   have c34b0 : (x42109000_7 == 3) = false := beq_eq_false_iff_ne.mpr c34
   have c34b1 : (x42109000_7 != 3) = true := bne_iff_ne.mpr c34
   simp only [Option.some.injEq, Prod.mk.injEq] at H
   obtain ⟨rfl, rfl, rfl, rfl, rfl, rfl⟩ := H
   have hnb91 := NBAa_Ac.out
   have hnc91 := NBAc_Aa.out
   have hnb92 := NBAa_Ab.out
   have hnc92 := NBAb_Aa.out
   have hnb93 := NBAa_Ad.out
   have hnc93 := NBAd_Aa.out
   obtain ⟨hcz94_0, hcz94_1, hcz94_2, hcz94_3, hcz94_4, hcz94_5⟩ := c6_ BKAa
   obtain ⟨hfz94_0, hfz94_1, hfz94_2, hfz94_3, hfz94_4, hfz94_5⟩ := f6_ BKAa
   have hnb95 := NBAd_Ac.out
   have hnc95 := NBAc_Ad.out
   have hnb96 := NBAd_Ab.out
   have hnc96 := NBAb_Ad.out
   obtain ⟨hcz97_0, hcz97_1, hcz97_2, hcz97_3, hcz97_4, hcz97_5⟩ := c6_ BKAd
   obtain ⟨hfz97_0, hfz97_1, hfz97_2, hfz97_3, hfz97_4, hfz97_5⟩ := f6_ BKAd
   go_wp2
   refine bodyPost_ret (results_cell_row rfl _ _ gbAd 29 #[.int .i64 x42109000_7, .int .i64 tAf, .int .i64 tAg, .int .i64 0, .int .i64 0, .slice none 0 0] (0, 0) _ rfl (by (with_reducible repeat (first | refine blk_drewN ?_ _ | refine blk_drew ?_ | refine blk_alloc ?_ _)); refine blk_put (cs := #[.int .i64 x42109000_7, .int .i64 tAf, .int .i64 tAg, .int .i64 0, .int .i64 0, .slice none 0 0]) ?_ 5 _ rfl; (with_reducible repeat (first | refine blk_drewN ?_ _ | refine blk_drew ?_ | refine blk_alloc ?_ _)); refine blk_put (cs := #[.int .i64 x42109000_7, .int .i64 tAf, .int .i64 tAg, .int .i64 0, .int .i64 0, .slice none 0 0]) ?_ 4 _ rfl; (with_reducible repeat (first | refine blk_drewN ?_ _ | refine blk_drew ?_ | refine blk_alloc ?_ _)); refine blk_put (cs := #[.int .i64 x42109000_7, .int .i64 tAf, .int .i64 tAg, .int .i64 0, .int .i64 0, .slice none 0 0]) ?_ 3 _ rfl; (with_reducible repeat (first | refine blk_drewN ?_ _ | refine blk_drew ?_ | refine blk_alloc ?_ _)); refine blk_put (cs := #[.int .i64 x42109000_7, .int .i64 tAf, .int .i64 0, .int .i64 0, .int .i64 0, .slice none 0 0]) ?_ 2 _ rfl; (with_reducible repeat (first | refine blk_drewN ?_ _ | refine blk_drew ?_ | refine blk_alloc ?_ _)); refine blk_put (cs := #[.int .i64 x42109000_7, .int .i64 0, .int .i64 0, .int .i64 0, .int .i64 0, .slice none 0 0]) ?_ 1 _ rfl; (with_reducible repeat (first | refine blk_drewN ?_ _ | refine blk_drew ?_ | refine blk_alloc ?_ _)); refine blk_put (cs := #[.int .i64 0, .int .i64 0, .int .i64 0, .int .i64 0, .int .i64 0, .slice none 0 0]) ?_ 0 _ rfl; (with_reducible repeat (first | refine blk_drewN ?_ _ | refine blk_drew ?_ | refine blk_alloc ?_ _)); exact BKAd.out) Try.underlying29 rfl (by kernel_rfl)) rfl ?_
   exact ⟨_, by first | rfl | (simp [errW_none, errW_some] <;> rfl) | (simp [*, errW_none, errW_some] <;> rfl), by first | exact Kd.R_nil _ _ _ _ _ | exact Kd.N_nil _ _ _ _ _ | exact Kd.V_nil _ _ _ _ _ | exact Kd.Q_nil _ _ _ _ _ | exact Kd.S_nil _ _ _ _ _, pH_ HB.out⟩
end Go.Proofs.Ytcpohmfkmgcjkaa.P
