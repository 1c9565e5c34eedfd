/- Printed by a program of this session (myprint) out of the translation: the functions as plain Lean functions, and that the calls compute them. What counts is Lean's check. -/
import Derived.Test.YtcpohmfkmgcjkaaQArbRightPx22
namespace Go.Proofs.Ytcpohmfkmgcjkaa.P
open Go.RowKit Go.Proofs.YtcpohmfkmgcjkaaW.PrintWords Go.Proofs.YtcpohmfkmgcjkaaW.PrintLast Go.Proofs.YtcpohmfkmgcjkaaW.PrintMore
attribute [local go_sem] max2_int min2_int max_two min_two max_three min_three max_four min_four
set_option linter.unusedVariables false
set_option linter.unusedSimpArgs false
attribute [-simp] ByteArray.size_extract ByteArray.size_append ByteArray.extract_append_extract
attribute [-go_sem] ByteArray.size_append'
def plaitingref10_Right.f (k : Nat) (a0_0 : Int) (a0_1 : Int) (a0_2 : Int) (a0_3 : Int) (a0_4 : Int) (l0_5 : List Int) (a1 : Int) (a2 : Int) (a3 : ByteArray) : Option (Int × Int × Int × Int × Int × (List (S26)) × Bool) := (plaitingref5_Read.f k a0_0 a0_1 a0_2 a0_3 a0_4 l0_5 a3).bind fun btAd => (if btAd.2.2.2.2.2.2 = 0 then ((plaitingref3_Wire.f a0_0 a0_1 a0_2 a0_3 a0_4 l0_5 a1).bind fun tAk => (if btAd.2.1 = tAk then (if btAd.2.2.1 = a2 then (some (btAd.1, btAd.2.1, btAd.2.2.1, btAd.2.2.2.1, btAd.2.2.2.2.1, btAd.2.2.2.2.2.1, true)) else (some (0, 0, 0, 0, 0, ([] : List (S26)), false))) else (some (0, 0, 0, 0, 0, ([] : List (S26)), false)))) else (some (0, 0, 0, 0, 0, ([] : List (S26)), false)))
def plaitingref10_Right.T2 : Bool × List (List Nat × List Nat) := (true, [([], []), ([0], [0]), ([1], [1]), ([2], [2]), ([3, 2], [2, 3]), ([2], [2]), ([2], [2]), ([5, 6, 2, 2], [2, 5, 6]), ([4, 7, 2], [2, 4, 7]), ([2, 8], [2, 8]), ([9, 7], [9]), ([10], [10]), ([11, 10], [10, 11]), ([10], [10]), ([12, 13, 10], [10, 12, 13]), ([10, 14], [10, 14])])
def plaitingref10_Right.B2 : List Nat := [0, 1, 3, 7, 15, 7, 7, 103, 255, 511, 1023, 2047, 4095, 2047, 16383, 32767]
theorem plaitingref10_Right.tab2 : rtab .any (opsOf Try.f41 2) = plaitingref10_Right.T2 := by kernel_rfl
theorem plaitingref10_Right.bits2 : waitsOk plaitingref10_Right.T2.2 plaitingref10_Right.B2 = true := by kernel_rfl
set_option maxHeartbeats 8000000 in
set_option maxRecDepth 100000 in
theorem plaitingref10_Right.calls (k : Nat) (a0_0 : Int) (a0_1 : Int) (a0_2 : Int) (a0_3 : Int) (a0_4 : Int) (A0_5 : Option Addr) (c0_5 : Nat) (l0_5 : List Int) (a1 : Int) (a2 : Int) (a3 : ByteArray) (r1 : Int) (r2 : Int) (r3 : Int) (r4 : Int) (r5 : Int) (r6 : List (S26)) (r7 : Bool) (w : World) (hr0_5 : Kd.C (Kd.int .i64) w A0_5 l0_5.length l0_5) (hc0_5 : l0_5.length ≤ c0_5) (h : plaitingref10_Right.f k a0_0 a0_1 a0_2 a0_3 a0_4 l0_5 a1 a2 a3 = some (r1, r2, r3, r4, r5, r6, r7)) :
  Calls Try.prog 41 #[.agg #[.int .i64 a0_0, .int .i64 a0_1, .int .i64 a0_2, .int .i64 a0_3, .int .i64 a0_4, .slice A0_5 l0_5.length c0_5], .int .i64 a1, .int .i64 a2, .string a3] w fun e w' => ∃ v5_ : Value, e = .returned (.tuple #[.agg #[.int .i64 r1, .int .i64 r2, .int .i64 r3, .int .i64 r4, .int .i64 r5, v5_], .bool r7]) ∧ Kd.R k26 26 w' w.heap.size (fun _ => True) v5_ r6 ∧ Below w.heap.size w w' := by
 have hu24 := Try.underlying24
 have hu29 := Try.underlying29
 have HR0_5 := Aside0.mk hr0_5
 have HC0_5 := Aside0.mk hc0_5
 clear hr0_5 hc0_5
 have HB := Aside0.mk (Below.refl w.heap.size w)
 have H : ((plaitingref5_Read.f k a0_0 a0_1 a0_2 a0_3 a0_4 l0_5 a3).bind fun btAd => (if btAd.2.2.2.2.2.2 = 0 then ((plaitingref3_Wire.f a0_0 a0_1 a0_2 a0_3 a0_4 l0_5 a1).bind fun tAk => (if btAd.2.1 = tAk then (if btAd.2.2.1 = a2 then (some (btAd.1, btAd.2.1, btAd.2.2.1, btAd.2.2.2.1, btAd.2.2.2.2.1, btAd.2.2.2.2.2.1, true)) else (some (0, 0, 0, 0, 0, ([] : List (S26)), false))) else (some (0, 0, 0, 0, 0, ([] : List (S26)), false)))) else (some (0, 0, 0, 0, 0, ([] : List (S26)), false)))) = some (r1, r2, r3, r4, r5, r6, r7) := h
 clear h
 replace H := Option.bind_eq_some_iff.mp H
 obtain ⟨⟨tAd, tAe, tAf, tAg, tAi, tAh, tAm⟩, A50, H⟩ := H
 try dsimp only at H
 have A5 := Aside0.mk A50
 clear A50
 by_cases c6 : tAm = 0
 ·
  rw [if_pos c6] at H
  have c6b0 : (tAm == 0) = true := beq_iff_eq.mpr c6
  have c6b1 : (tAm != 0) = false := bne_eq_false_iff_eq.mpr c6
  clear c6
  replace H := Option.bind_eq_some_iff.mp H
  obtain ⟨tAk, A70, H⟩ := H
  try dsimp only at H
  have A7 := Aside0.mk A70
  clear A70
  by_cases c8 : tAe = tAk
  ·
   rw [if_pos c8] at H
   have c8b0 : (tAe == tAk) = true := beq_iff_eq.mpr c8
   have c8b1 : (tAe != tAk) = false := bne_eq_false_iff_eq.mpr c8
   clear c8
   by_cases c9 : tAf = a2
   ·
    rw [if_pos c9] at H
    have c9b0 : (tAf == a2) = true := beq_iff_eq.mpr c9
    have c9b1 : (tAf != a2) = false := bne_eq_false_iff_eq.mpr c9
    clear c9
    simp only [Option.some.injEq, Prod.mk.injEq] at H
    obtain ⟨rfl, rfl, rfl, rfl, rfl, rfl, rfl⟩ := H
    go_enter Try.func41, Try.ntmps41
    try go_wp2_with (first | ((with_reducible refine gate_dst (N := 4) rfl ?_); refine be_ 4 #[.int .i64 a0_0, .int .i64 a0_1, .int .i64 a0_2, .int .i64 a0_3, .int .i64 a0_4, .slice A0_5 l0_5.length c0_5] 24 ?_; intro gbAb hg w10 hbox hb; have BKAb := Aside0.mk (hbox); have GWAb := Aside0.mk ((by rw [hg]; exact (below_size (pH_ HB.out)) : w.heap.size ≤ gbAb)); have GEAb := Aside0.mk ((by rw [hg]; exact (below_size (pH_ HB.out)) : w.heap.size ≤ gbAb)); replace HB := bs_ HB hb; clear hb hbox hg) | ((with_reducible refine gate_dst (N := 8) rfl ?_); refine be_ 8 #[.int .i64 0, .int .i64 0, .int .i64 0, .int .i64 0, .int .i64 0, .slice none 0 0] 29 ?_; intro gbAc hg w11 hbox hb; have BKAc := Aside0.mk (hbox); have GWAc := Aside0.mk ((by rw [hg]; exact (below_size (pH_ HB.out)) : w.heap.size ≤ gbAc)); have GEAc := Aside0.mk ((by rw [hg]; exact (below_size (pH_ HB.out)) : w.heap.size ≤ gbAc)); have NBAb_Ac := Aside0.mk (ltB_ hg BKAb.out); have NBAc_Ab := Aside0.mk (ltB_ hg BKAb.out).symm; replace BKAb := bb_ BKAb hb; replace HB := bs_ HB hb; clear hb hbox hg; have hnb12 := NBAb_Ac.out; have hnc12 := NBAc_Ab.out; obtain ⟨hcz13_0, hcz13_1, hcz13_2, hcz13_3, hcz13_4, hcz13_5⟩ := c6_ BKAb; obtain ⟨hfz13_0, hfz13_1, hfz13_2, hfz13_3, hfz13_4, hfz13_5⟩ := f6_ BKAb) | ((with_reducible refine gate_callee (f := 36) rfl ?_); refine gL_ 15 Try.func36 #[.agg #[.int .i64 a0_0, .int .i64 a0_1, .int .i64 a0_2, .int .i64 a0_3, .int .i64 a0_4, .slice A0_5 l0_5.length c0_5], .string a3] ?_; (with_reducible refine (plaitingref5_Read.calls k a0_0 a0_1 a0_2 a0_3 a0_4 _ _ l0_5 a3 tAd tAe tAf tAg tAi tAh tAm _ ?side1 ?side2 A5.out).mono ?_); (case side1 => exact cC_ (Kd.C_below HR0_5.out HB.out)); (case side2 => exact HC0_5.out); rintro e w14 ⟨vAn, rfl, ho0, hb⟩; refine ⟨_, rfl, ?_⟩; have HOAj := Aside0.mk (Kd.R_lower ho0 (below_size (pH_ HB.out))); replace BKAb := bb_ BKAb hb; replace BKAc := bb_ BKAc hb; replace HB := bs_ HB hb; (try clear hb); (try clear hb2); (try clear hk); (try clear hi); (try clear ho0)) | ((with_reducible refine gate_dst (N := 10) rfl ?_); refine be_ 10 #[.int .i64 0, .int .i64 0, .int .i64 0, .int .i64 0, .int .i64 0, .slice none 0 0] 29 ?_; intro gbAa hg w15 hbox hb; have BKAa := Aside0.mk (hbox); have GWAa := Aside0.mk ((by rw [hg]; exact (below_size (pH_ HB.out)) : w.heap.size ≤ gbAa)); have GEAa := Aside0.mk ((by rw [hg]; exact (below_size (pH_ HB.out)) : w.heap.size ≤ gbAa)); have NBAb_Aa := Aside0.mk (ltB_ hg BKAb.out); have NBAa_Ab := Aside0.mk (ltB_ hg BKAb.out).symm; have NBAc_Aa := Aside0.mk (ltB_ hg BKAc.out); have NBAa_Ac := Aside0.mk (ltB_ hg BKAc.out).symm; replace HOAj := Aside0.mk (Kd.R_below (pR_ HOAj.out) hb); replace BKAb := bb_ BKAb hb; replace BKAc := bb_ BKAc hb; replace HB := bs_ HB hb; clear hb hbox hg; have hnb16 := NBAa_Ab.out; have hnc16 := NBAb_Aa.out; have hnb17 := NBAa_Ac.out; have hnc17 := NBAc_Aa.out; obtain ⟨hcz18_0, hcz18_1, hcz18_2, hcz18_3, hcz18_4, hcz18_5⟩ := c6_ BKAa; obtain ⟨hfz18_0, hfz18_1, hfz18_2, hfz18_3, hfz18_4, hfz18_5⟩ := f6_ BKAa; obtain ⟨Ao19, co19, eo19⟩ := Kd.R_slice HOAj.out; subst eo19))
    have n0_ : Aside0 (Kd.R k26 26 ((((((w15.setCell ⟨gbAa, 0, none⟩ (.int .i64 tAd)).setCell ⟨gbAa, 1, none⟩ (.int .i64 tAe)).setCell ⟨gbAa, 2, none⟩ (.int .i64 tAf)).setCell ⟨gbAa, 3, none⟩ (.int .i64 tAg)).setCell ⟨gbAa, 4, none⟩ (.int .i64 tAi)).setCell ⟨gbAa, 5, none⟩ (.slice Ao19 tAh.length co19)) w.heap.size (fun _ => True) (.slice Ao19 tAh.length co19) tAh) := ⟨by (with_reducible repeat (first | apply Kd.R_alloc | apply Kd.R_drewN | apply Kd.R_drew)); exact Kd.R_mono (Kd.R_far (p := ⟨gbAa, 5, none⟩) (Kd.R_far (p := ⟨gbAa, 4, none⟩) (Kd.R_far (p := ⟨gbAa, 3, none⟩) (Kd.R_far (p := ⟨gbAa, 2, none⟩) (Kd.R_far (p := ⟨gbAa, 1, none⟩) (Kd.R_far (p := ⟨gbAa, 0, none⟩) (Kd.R_types HOAj.out BKAa.out (by decide)) (fun _ hk => hk.2) (.int .i64 tAd)) (fun _ hk => hk.2) (.int .i64 tAe)) (fun _ hk => hk.2) (.int .i64 tAf)) (fun _ hk => hk.2) (.int .i64 tAg)) (fun _ hk => hk.2) (.int .i64 tAi)) (fun _ hk => hk.2) (.slice Ao19 tAh.length co19)) (fun _ hk => trivial)⟩
    have n1_ : Aside0 (((((((w15.setCell ⟨gbAa, 0, none⟩ (.int .i64 tAd)).setCell ⟨gbAa, 1, none⟩ (.int .i64 tAe)).setCell ⟨gbAa, 2, none⟩ (.int .i64 tAf)).setCell ⟨gbAa, 3, none⟩ (.int .i64 tAg)).setCell ⟨gbAa, 4, none⟩ (.int .i64 tAi)).setCell ⟨gbAa, 5, none⟩ (.slice Ao19 tAh.length co19)).heap[gbAb]? = some (.cells #[.int .i64 a0_0, .int .i64 a0_1, .int .i64 a0_2, .int .i64 a0_3, .int .i64 a0_4, .slice A0_5 l0_5.length c0_5] 24 (0, 0))) := ⟨bF_ BKAb.out NBAb_Aa.out⟩
    have n2_ : Aside0 (((((((w15.setCell ⟨gbAa, 0, none⟩ (.int .i64 tAd)).setCell ⟨gbAa, 1, none⟩ (.int .i64 tAe)).setCell ⟨gbAa, 2, none⟩ (.int .i64 tAf)).setCell ⟨gbAa, 3, none⟩ (.int .i64 tAg)).setCell ⟨gbAa, 4, none⟩ (.int .i64 tAi)).setCell ⟨gbAa, 5, none⟩ (.slice Ao19 tAh.length co19)).heap[gbAc]? = some (.cells #[.int .i64 0, .int .i64 0, .int .i64 0, .int .i64 0, .int .i64 0, .slice none 0 0] 29 (0, 0))) := ⟨bF_ BKAc.out NBAc_Aa.out⟩
    have n3_ : Aside0 (((((((w15.setCell ⟨gbAa, 0, none⟩ (.int .i64 tAd)).setCell ⟨gbAa, 1, none⟩ (.int .i64 tAe)).setCell ⟨gbAa, 2, none⟩ (.int .i64 tAf)).setCell ⟨gbAa, 3, none⟩ (.int .i64 tAg)).setCell ⟨gbAa, 4, none⟩ (.int .i64 tAi)).setCell ⟨gbAa, 5, none⟩ (.slice Ao19 tAh.length co19)).heap[gbAa]? = some (.cells #[.int .i64 tAd, .int .i64 tAe, .int .i64 tAf, .int .i64 tAg, .int .i64 tAi, .slice Ao19 tAh.length co19] 29 (0, 0))) := ⟨by (with_reducible repeat (first | refine blk_drewN ?_ _ | refine blk_drew ?_ | refine blk_alloc ?_ _)); refine blk_put (cs := #[.int .i64 tAd, .int .i64 tAe, .int .i64 tAf, .int .i64 tAg, .int .i64 tAi, .slice none 0 0]) ?_ 5 _ rfl; (with_reducible repeat (first | refine blk_drewN ?_ _ | refine blk_drew ?_ | refine blk_alloc ?_ _)); refine blk_put (cs := #[.int .i64 tAd, .int .i64 tAe, .int .i64 tAf, .int .i64 tAg, .int .i64 0, .slice none 0 0]) ?_ 4 _ rfl; (with_reducible repeat (first | refine blk_drewN ?_ _ | refine blk_drew ?_ | refine blk_alloc ?_ _)); refine blk_put (cs := #[.int .i64 tAd, .int .i64 tAe, .int .i64 tAf, .int .i64 0, .int .i64 0, .slice none 0 0]) ?_ 3 _ rfl; (with_reducible repeat (first | refine blk_drewN ?_ _ | refine blk_drew ?_ | refine blk_alloc ?_ _)); refine blk_put (cs := #[.int .i64 tAd, .int .i64 tAe, .int .i64 0, .int .i64 0, .int .i64 0, .slice none 0 0]) ?_ 2 _ rfl; (with_reducible repeat (first | refine blk_drewN ?_ _ | refine blk_drew ?_ | refine blk_alloc ?_ _)); refine blk_put (cs := #[.int .i64 tAd, .int .i64 0, .int .i64 0, .int .i64 0, .int .i64 0, .slice none 0 0]) ?_ 1 _ rfl; (with_reducible repeat (first | refine blk_drewN ?_ _ | refine blk_drew ?_ | refine blk_alloc ?_ _)); refine blk_put (cs := #[.int .i64 0, .int .i64 0, .int .i64 0, .int .i64 0, .int .i64 0, .slice none 0 0]) ?_ 0 _ rfl; (with_reducible repeat (first | refine blk_drewN ?_ _ | refine blk_drew ?_ | refine blk_alloc ?_ _)); exact BKAa.out⟩
    have n4_ : Aside0 (Below w.heap.size w ((((((w15.setCell ⟨gbAa, 0, none⟩ (.int .i64 tAd)).setCell ⟨gbAa, 1, none⟩ (.int .i64 tAe)).setCell ⟨gbAa, 2, none⟩ (.int .i64 tAf)).setCell ⟨gbAa, 3, none⟩ (.int .i64 tAg)).setCell ⟨gbAa, 4, none⟩ (.int .i64 tAi)).setCell ⟨gbAa, 5, none⟩ (.slice Ao19 tAh.length co19))) := ⟨pH_ HB.out⟩
    (try clear HOAj)
    (try clear BKAb)
    (try clear BKAc)
    (try clear BKAa)
    (try clear HB)
    generalize ((((((w15.setCell ⟨gbAa, 0, none⟩ (.int .i64 tAd)).setCell ⟨gbAa, 1, none⟩ (.int .i64 tAe)).setCell ⟨gbAa, 2, none⟩ (.int .i64 tAf)).setCell ⟨gbAa, 3, none⟩ (.int .i64 tAg)).setCell ⟨gbAa, 4, none⟩ (.int .i64 tAi)).setCell ⟨gbAa, 5, none⟩ (.slice Ao19 tAh.length co19)) = w20 at n0_ n1_ n2_ n3_ n4_ ⊢
    have HOAj := n0_
    have BKAb := n1_
    have BKAc := n2_
    have BKAa := n3_
    have HB := n4_
    clear n0_ n1_ n2_ n3_ n4_
    replace HOAj := Aside0.mk (Kd.R_drew HOAj.out)
    replace BKAb := Aside0.mk (blk_drew BKAb.out)
    replace BKAc := Aside0.mk (blk_drew BKAc.out)
    replace BKAa := Aside0.mk (blk_drew BKAa.out)
    replace HB := Aside0.mk (below_drew1 HB.out)
    refine start_ (n := 16) (S := fun w' => w'.cell? ⟨gbAa, 0, none⟩ = some (.int .i64 tAd) ∧ w'.cell? ⟨gbAa, 1, none⟩ = some (.int .i64 tAe) ∧ w'.cell? ⟨gbAa, 2, none⟩ = some (.int .i64 tAf) ∧ w'.cell? ⟨gbAa, 3, none⟩ = some (.int .i64 tAg) ∧ w'.cell? ⟨gbAa, 4, none⟩ = some (.int .i64 tAi) ∧ w'.cell? ⟨gbAa, 5, none⟩ = some (.slice Ao19 tAh.length co19) ∧ w'.cell? ⟨gbAb, 0, none⟩ = some (.int .i64 a0_0) ∧ w'.cell? ⟨gbAb, 1, none⟩ = some (.int .i64 a0_1) ∧ w'.cell? ⟨gbAb, 2, none⟩ = some (.int .i64 a0_2) ∧ w'.cell? ⟨gbAb, 3, none⟩ = some (.int .i64 a0_3) ∧ w'.cell? ⟨gbAb, 4, none⟩ = some (.int .i64 a0_4) ∧ w'.cell? ⟨gbAb, 5, none⟩ = some (.slice A0_5 l0_5.length c0_5)) (ds := []) #[false, false, false, false, false, false, false, false, false, false, false, false, false, false, false, false] (by kernel_rfl) rfl rfl ⟨bc_ BKAa 0, bc_ BKAa 1, bc_ BKAa 2, bc_ BKAa 3, bc_ BKAa 4, bc_ BKAa 5, bc_ BKAb 0, bc_ BKAb 1, bc_ BKAb 2, bc_ BKAb 3, bc_ BKAb 4, bc_ BKAb 5⟩ (fun hHeld => ?_); refine with_tabW plaitingref10_Right.tab2 plaitingref10_Right.bits2 (fun HT_ HW_ => ?_)
    generalize w20.drew = w21 at HOAj BKAb BKAc BKAa HB hHeld ⊢
    refine pq_ 0 18 HT_ ?_
    refine pq_ 1 19 HT_ ?_
    refine pq_ 2 20 HT_ ?_
    refine pq_ 3 21 HT_ ?_
    refine pq_ 6 24 HT_ ?_
    refine tq_ 4 22 HT_ HW_ hHeld ?_
    refine tq_ 5 23 HT_ HW_ hHeld ?_
    refine oq_ 7 25 HT_ (fun K hK => ?_)
    refine gs_ Try.func39 #[.agg #[.int .i64 a0_0, .int .i64 a0_1, .int .i64 a0_2, .int .i64 a0_3, .int .i64 a0_4, .slice A0_5 l0_5.length c0_5], .int .i64 a1] ?_
    with_reducible refine (plaitingref3_Wire.calls a0_0 a0_1 a0_2 a0_3 a0_4 _ _ l0_5 a1 tAk _ ?side1 ?side2 A7.out).mono ?_
    (case side1 => exact cC_ (Kd.C_below HR0_5.out HB.out))
    (case side2 => exact HC0_5.out)
    rintro e w22 ⟨rfl, hb⟩
    refine ⟨_, rfl, ?_⟩
    replace HOAj := Aside0.mk (Kd.R_below (pR_ HOAj.out) hb)
    replace BKAb := bb_ BKAb hb
    replace BKAc := bb_ BKAc hb
    replace BKAa := bb_ BKAa hb
    replace HB := bs_ HB hb
    (try clear hb)
    (try clear hb2)
    (try clear hk)
    (try clear hi)
    refine hK.out _ _ ⟨bc_ BKAa 0, bc_ BKAa 1, bc_ BKAa 2, bc_ BKAa 3, bc_ BKAa 4, bc_ BKAa 5, bc_ BKAb 0, bc_ BKAb 1, bc_ BKAb 2, bc_ BKAb 3, bc_ BKAb 4, bc_ BKAb 5⟩ (fun hHeld => ?_)
    clear hK K
    refine nq_ 25 ?_
    refine pq_ 8 26 HT_ ?_
    refine pq_ 9 27 HT_ ?_
    refine pq_ 10 28 HT_ ?_
    refine pq_ 11 29 HT_ ?_
    refine pq_ 13 31 HT_ ?_
    refine tq_ 12 30 HT_ HW_ hHeld ?_
    refine pq_ 14 32 HT_ ?_
    refine pq_ 15 33 HT_ ?_
    refine done_ (done_of HT_.out (by kernel_rfl)) ?_
    obtain ⟨hcz23_0, hcz23_1, hcz23_2, hcz23_3, hcz23_4, hcz23_5⟩ := c6_ BKAa
    obtain ⟨hfz23_0, hfz23_1, hfz23_2, hfz23_3, hfz23_4, hfz23_5⟩ := f6_ BKAa
    obtain ⟨hcz24_0, hcz24_1, hcz24_2, hcz24_3, hcz24_4, hcz24_5⟩ := c6_ BKAc
    obtain ⟨hfz24_0, hfz24_1, hfz24_2, hfz24_3, hfz24_4, hfz24_5⟩ := f6_ BKAc
    try go_wp2
    refine bodyPost_ret (results_ct rfl _ _ gbAc 29 #[.int .i64 tAd, .int .i64 tAe, .int .i64 tAf, .int .i64 tAg, .int .i64 tAi, .slice Ao19 tAh.length co19] (0, 0) _ rfl (by (with_reducible repeat (first | refine blk_drewN ?_ _ | refine blk_drew ?_ | refine blk_alloc ?_ _)); refine blk_put (cs := #[.int .i64 tAd, .int .i64 tAe, .int .i64 tAf, .int .i64 tAg, .int .i64 tAi, .slice none 0 0]) ?_ 5 _ rfl; (with_reducible repeat (first | refine blk_drewN ?_ _ | refine blk_drew ?_ | refine blk_alloc ?_ _)); refine blk_put (cs := #[.int .i64 tAd, .int .i64 tAe, .int .i64 tAf, .int .i64 tAg, .int .i64 0, .slice none 0 0]) ?_ 4 _ rfl; (with_reducible repeat (first | refine blk_drewN ?_ _ | refine blk_drew ?_ | refine blk_alloc ?_ _)); refine blk_put (cs := #[.int .i64 tAd, .int .i64 tAe, .int .i64 tAf, .int .i64 0, .int .i64 0, .slice none 0 0]) ?_ 3 _ rfl; (with_reducible repeat (first | refine blk_drewN ?_ _ | refine blk_drew ?_ | refine blk_alloc ?_ _)); refine blk_put (cs := #[.int .i64 tAd, .int .i64 tAe, .int .i64 0, .int .i64 0, .int .i64 0, .slice none 0 0]) ?_ 2 _ rfl; (with_reducible repeat (first | refine blk_drewN ?_ _ | refine blk_drew ?_ | refine blk_alloc ?_ _)); refine blk_put (cs := #[.int .i64 tAd, .int .i64 0, .int .i64 0, .int .i64 0, .int .i64 0, .slice none 0 0]) ?_ 1 _ rfl; (with_reducible repeat (first | refine blk_drewN ?_ _ | refine blk_drew ?_ | refine blk_alloc ?_ _)); refine blk_put (cs := #[.int .i64 0, .int .i64 0, .int .i64 0, .int .i64 0, .int .i64 0, .slice none 0 0]) ?_ 0 _ rfl; (with_reducible repeat (first | refine blk_drewN ?_ _ | refine blk_drew ?_ | refine blk_alloc ?_ _)); exact BKAc.out) Try.underlying29 rfl (by kernel_rfl)) rfl ?_
    exact ⟨_, by first | rfl | (simp [errW_none, errW_some] <;> rfl) | (simp [*, errW_none, errW_some] <;> rfl), by (with_reducible repeat (first | apply Kd.R_alloc | apply Kd.R_drewN | apply Kd.R_drew)); exact Kd.R_mono (Kd.R_far (p := ⟨gbAc, 5, none⟩) (Kd.R_far (p := ⟨gbAc, 4, none⟩) (Kd.R_far (p := ⟨gbAc, 3, none⟩) (Kd.R_far (p := ⟨gbAc, 2, none⟩) (Kd.R_far (p := ⟨gbAc, 1, none⟩) (Kd.R_far (p := ⟨gbAc, 0, none⟩) (Kd.R_types HOAj.out BKAc.out (by decide)) (fun _ hk => hk.2) (.int .i64 tAd)) (fun _ hk => hk.2) (.int .i64 tAe)) (fun _ hk => hk.2) (.int .i64 tAf)) (fun _ hk => hk.2) (.int .i64 tAg)) (fun _ hk => hk.2) (.int .i64 tAi)) (fun _ hk => hk.2) (.slice Ao19 tAh.length co19)) (fun _ hk => trivial), pH_ HB.out⟩
   rw [if_neg c9] at H
   have c9b0 : (tAf == a2) = false := beq_eq_false_iff_ne.mpr c9
   have c9b1 : (tAf != a2) = true := bne_iff_ne.mpr c9
   simp only [Option.some.injEq, Prod.mk.injEq] at H
   obtain ⟨rfl, rfl, rfl, rfl, rfl, rfl, rfl⟩ := H
   go_enter Try.func41, Try.ntmps41
   try go_wp2_with (first | ((with_reducible refine gate_dst (N := 4) rfl ?_); refine be_ 4 #[.int .i64 a0_0, .int .i64 a0_1, .int .i64 a0_2, .int .i64 a0_3, .int .i64 a0_4, .slice A0_5 l0_5.length c0_5] 24 ?_; intro gbAb hg w25 hbox hb; have BKAb := Aside0.mk (hbox); have GWAb := Aside0.mk ((by rw [hg]; exact (below_size (pH_ HB.out)) : w.heap.size ≤ gbAb)); have GEAb := Aside0.mk ((by rw [hg]; exact (below_size (pH_ HB.out)) : w.heap.size ≤ gbAb)); replace HB := bs_ HB hb; clear hb hbox hg) | ((with_reducible refine gate_dst (N := 8) rfl ?_); refine be_ 8 #[.int .i64 0, .int .i64 0, .int .i64 0, .int .i64 0, .int .i64 0, .slice none 0 0] 29 ?_; intro gbAc hg w26 hbox hb; have BKAc := Aside0.mk (hbox); have GWAc := Aside0.mk ((by rw [hg]; exact (below_size (pH_ HB.out)) : w.heap.size ≤ gbAc)); have GEAc := Aside0.mk ((by rw [hg]; exact (below_size (pH_ HB.out)) : w.heap.size ≤ gbAc)); have NBAb_Ac := Aside0.mk (ltB_ hg BKAb.out); have NBAc_Ab := Aside0.mk (ltB_ hg BKAb.out).symm; replace BKAb := bb_ BKAb hb; replace HB := bs_ HB hb; clear hb hbox hg; have hnb27 := NBAb_Ac.out; have hnc27 := NBAc_Ab.out; obtain ⟨hcz28_0, hcz28_1, hcz28_2, hcz28_3, hcz28_4, hcz28_5⟩ := c6_ BKAb; obtain ⟨hfz28_0, hfz28_1, hfz28_2, hfz28_3, hfz28_4, hfz28_5⟩ := f6_ BKAb) | ((with_reducible refine gate_callee (f := 36) rfl ?_); refine gL_ 15 Try.func36 #[.agg #[.int .i64 a0_0, .int .i64 a0_1, .int .i64 a0_2, .int .i64 a0_3, .int .i64 a0_4, .slice A0_5 l0_5.length c0_5], .string a3] ?_; (with_reducible refine (plaitingref5_Read.calls k a0_0 a0_1 a0_2 a0_3 a0_4 _ _ l0_5 a3 tAd tAe tAf tAg tAi tAh tAm _ ?side1 ?side2 A5.out).mono ?_); (case side1 => exact cC_ (Kd.C_below HR0_5.out HB.out)); (case side2 => exact HC0_5.out); rintro e w29 ⟨vAn, rfl, ho0, hb⟩; refine ⟨_, rfl, ?_⟩; have HOAj := Aside0.mk (Kd.R_lower ho0 (below_size (pH_ HB.out))); replace BKAb := bb_ BKAb hb; replace BKAc := bb_ BKAc hb; replace HB := bs_ HB hb; (try clear hb); (try clear hb2); (try clear hk); (try clear hi); (try clear ho0)) | ((with_reducible refine gate_dst (N := 10) rfl ?_); refine be_ 10 #[.int .i64 0, .int .i64 0, .int .i64 0, .int .i64 0, .int .i64 0, .slice none 0 0] 29 ?_; intro gbAa hg w30 hbox hb; have BKAa := Aside0.mk (hbox); have GWAa := Aside0.mk ((by rw [hg]; exact (below_size (pH_ HB.out)) : w.heap.size ≤ gbAa)); have GEAa := Aside0.mk ((by rw [hg]; exact (below_size (pH_ HB.out)) : w.heap.size ≤ gbAa)); have NBAb_Aa := Aside0.mk (ltB_ hg BKAb.out); have NBAa_Ab := Aside0.mk (ltB_ hg BKAb.out).symm; have NBAc_Aa := Aside0.mk (ltB_ hg BKAc.out); have NBAa_Ac := Aside0.mk (ltB_ hg BKAc.out).symm; replace HOAj := Aside0.mk (Kd.R_below (pR_ HOAj.out) hb); replace BKAb := bb_ BKAb hb; replace BKAc := bb_ BKAc hb; replace HB := bs_ HB hb; clear hb hbox hg; have hnb31 := NBAa_Ab.out; have hnc31 := NBAb_Aa.out; have hnb32 := NBAa_Ac.out; have hnc32 := NBAc_Aa.out; obtain ⟨hcz33_0, hcz33_1, hcz33_2, hcz33_3, hcz33_4, hcz33_5⟩ := c6_ BKAa; obtain ⟨hfz33_0, hfz33_1, hfz33_2, hfz33_3, hfz33_4, hfz33_5⟩ := f6_ BKAa; obtain ⟨Ao34, co34, eo34⟩ := Kd.R_slice HOAj.out; subst eo34))
   have n0_ : Aside0 (Kd.R k26 26 ((((((w30.setCell ⟨gbAa, 0, none⟩ (.int .i64 tAd)).setCell ⟨gbAa, 1, none⟩ (.int .i64 tAe)).setCell ⟨gbAa, 2, none⟩ (.int .i64 tAf)).setCell ⟨gbAa, 3, none⟩ (.int .i64 tAg)).setCell ⟨gbAa, 4, none⟩ (.int .i64 tAi)).setCell ⟨gbAa, 5, none⟩ (.slice Ao34 tAh.length co34)) w.heap.size (fun _ => True) (.slice Ao34 tAh.length co34) tAh) := ⟨by (with_reducible repeat (first | apply Kd.R_alloc | apply Kd.R_drewN | apply Kd.R_drew)); exact Kd.R_mono (Kd.R_far (p := ⟨gbAa, 5, none⟩) (Kd.R_far (p := ⟨gbAa, 4, none⟩) (Kd.R_far (p := ⟨gbAa, 3, none⟩) (Kd.R_far (p := ⟨gbAa, 2, none⟩) (Kd.R_far (p := ⟨gbAa, 1, none⟩) (Kd.R_far (p := ⟨gbAa, 0, none⟩) (Kd.R_types HOAj.out BKAa.out (by decide)) (fun _ hk => hk.2) (.int .i64 tAd)) (fun _ hk => hk.2) (.int .i64 tAe)) (fun _ hk => hk.2) (.int .i64 tAf)) (fun _ hk => hk.2) (.int .i64 tAg)) (fun _ hk => hk.2) (.int .i64 tAi)) (fun _ hk => hk.2) (.slice Ao34 tAh.length co34)) (fun _ hk => trivial)⟩
   have n1_ : Aside0 (((((((w30.setCell ⟨gbAa, 0, none⟩ (.int .i64 tAd)).setCell ⟨gbAa, 1, none⟩ (.int .i64 tAe)).setCell ⟨gbAa, 2, none⟩ (.int .i64 tAf)).setCell ⟨gbAa, 3, none⟩ (.int .i64 tAg)).setCell ⟨gbAa, 4, none⟩ (.int .i64 tAi)).setCell ⟨gbAa, 5, none⟩ (.slice Ao34 tAh.length co34)).heap[gbAb]? = some (.cells #[.int .i64 a0_0, .int .i64 a0_1, .int .i64 a0_2, .int .i64 a0_3, .int .i64 a0_4, .slice A0_5 l0_5.length c0_5] 24 (0, 0))) := ⟨bF_ BKAb.out NBAb_Aa.out⟩
   have n2_ : Aside0 (((((((w30.setCell ⟨gbAa, 0, none⟩ (.int .i64 tAd)).setCell ⟨gbAa, 1, none⟩ (.int .i64 tAe)).setCell ⟨gbAa, 2, none⟩ (.int .i64 tAf)).setCell ⟨gbAa, 3, none⟩ (.int .i64 tAg)).setCell ⟨gbAa, 4, none⟩ (.int .i64 tAi)).setCell ⟨gbAa, 5, none⟩ (.slice Ao34 tAh.length co34)).heap[gbAc]? = some (.cells #[.int .i64 0, .int .i64 0, .int .i64 0, .int .i64 0, .int .i64 0, .slice none 0 0] 29 (0, 0))) := ⟨bF_ BKAc.out NBAc_Aa.out⟩
   have n3_ : Aside0 (((((((w30.setCell ⟨gbAa, 0, none⟩ (.int .i64 tAd)).setCell ⟨gbAa, 1, none⟩ (.int .i64 tAe)).setCell ⟨gbAa, 2, none⟩ (.int .i64 tAf)).setCell ⟨gbAa, 3, none⟩ (.int .i64 tAg)).setCell ⟨gbAa, 4, none⟩ (.int .i64 tAi)).setCell ⟨gbAa, 5, none⟩ (.slice Ao34 tAh.length co34)).heap[gbAa]? = some (.cells #[.int .i64 tAd, .int .i64 tAe, .int .i64 tAf, .int .i64 tAg, .int .i64 tAi, .slice Ao34 tAh.length co34] 29 (0, 0))) := ⟨by (with_reducible repeat (first | refine blk_drewN ?_ _ | refine blk_drew ?_ | refine blk_alloc ?_ _)); refine blk_put (cs := #[.int .i64 tAd, .int .i64 tAe, .int .i64 tAf, .int .i64 tAg, .int .i64 tAi, .slice none 0 0]) ?_ 5 _ rfl; (with_reducible repeat (first | refine blk_drewN ?_ _ | refine blk_drew ?_ | refine blk_alloc ?_ _)); refine blk_put (cs := #[.int .i64 tAd, .int .i64 tAe, .int .i64 tAf, .int .i64 tAg, .int .i64 0, .slice none 0 0]) ?_ 4 _ rfl; (with_reducible repeat (first | refine blk_drewN ?_ _ | refine blk_drew ?_ | refine blk_alloc ?_ _)); refine blk_put (cs := #[.int .i64 tAd, .int .i64 tAe, .int .i64 tAf, .int .i64 0, .int .i64 0, .slice none 0 0]) ?_ 3 _ rfl; (with_reducible repeat (first | refine blk_drewN ?_ _ | refine blk_drew ?_ | refine blk_alloc ?_ _)); refine blk_put (cs := #[.int .i64 tAd, .int .i64 tAe, .int .i64 0, .int .i64 0, .int .i64 0, .slice none 0 0]) ?_ 2 _ rfl; (with_reducible repeat (first | refine blk_drewN ?_ _ | refine blk_drew ?_ | refine blk_alloc ?_ _)); refine blk_put (cs := #[.int .i64 tAd, .int .i64 0, .int .i64 0, .int .i64 0, .int .i64 0, .slice none 0 0]) ?_ 1 _ rfl; (with_reducible repeat (first | refine blk_drewN ?_ _ | refine blk_drew ?_ | refine blk_alloc ?_ _)); refine blk_put (cs := #[.int .i64 0, .int .i64 0, .int .i64 0, .int .i64 0, .int .i64 0, .slice none 0 0]) ?_ 0 _ rfl; (with_reducible repeat (first | refine blk_drewN ?_ _ | refine blk_drew ?_ | refine blk_alloc ?_ _)); exact BKAa.out⟩
   have n4_ : Aside0 (Below w.heap.size w ((((((w30.setCell ⟨gbAa, 0, none⟩ (.int .i64 tAd)).setCell ⟨gbAa, 1, none⟩ (.int .i64 tAe)).setCell ⟨gbAa, 2, none⟩ (.int .i64 tAf)).setCell ⟨gbAa, 3, none⟩ (.int .i64 tAg)).setCell ⟨gbAa, 4, none⟩ (.int .i64 tAi)).setCell ⟨gbAa, 5, none⟩ (.slice Ao34 tAh.length co34))) := ⟨pH_ HB.out⟩
   (try clear HOAj)
   (try clear BKAb)
   (try clear BKAc)
   (try clear BKAa)
   (try clear HB)
   generalize ((((((w30.setCell ⟨gbAa, 0, none⟩ (.int .i64 tAd)).setCell ⟨gbAa, 1, none⟩ (.int .i64 tAe)).setCell ⟨gbAa, 2, none⟩ (.int .i64 tAf)).setCell ⟨gbAa, 3, none⟩ (.int .i64 tAg)).setCell ⟨gbAa, 4, none⟩ (.int .i64 tAi)).setCell ⟨gbAa, 5, none⟩ (.slice Ao34 tAh.length co34)) = w35 at n0_ n1_ n2_ n3_ n4_ ⊢
   have HOAj := n0_
   have BKAb := n1_
   have BKAc := n2_
   have BKAa := n3_
   have HB := n4_
   clear n0_ n1_ n2_ n3_ n4_
   replace HOAj := Aside0.mk (Kd.R_drew HOAj.out)
   replace BKAb := Aside0.mk (blk_drew BKAb.out)
   replace BKAc := Aside0.mk (blk_drew BKAc.out)
   replace BKAa := Aside0.mk (blk_drew BKAa.out)
   replace HB := Aside0.mk (below_drew1 HB.out)
   refine start_ (n := 16) (S := fun w' => w'.cell? ⟨gbAa, 0, none⟩ = some (.int .i64 tAd) ∧ w'.cell? ⟨gbAa, 1, none⟩ = some (.int .i64 tAe) ∧ w'.cell? ⟨gbAa, 2, none⟩ = some (.int .i64 tAf) ∧ w'.cell? ⟨gbAa, 3, none⟩ = some (.int .i64 tAg) ∧ w'.cell? ⟨gbAa, 4, none⟩ = some (.int .i64 tAi) ∧ w'.cell? ⟨gbAa, 5, none⟩ = some (.slice Ao34 tAh.length co34) ∧ w'.cell? ⟨gbAb, 0, none⟩ = some (.int .i64 a0_0) ∧ w'.cell? ⟨gbAb, 1, none⟩ = some (.int .i64 a0_1) ∧ w'.cell? ⟨gbAb, 2, none⟩ = some (.int .i64 a0_2) ∧ w'.cell? ⟨gbAb, 3, none⟩ = some (.int .i64 a0_3) ∧ w'.cell? ⟨gbAb, 4, none⟩ = some (.int .i64 a0_4) ∧ w'.cell? ⟨gbAb, 5, none⟩ = some (.slice A0_5 l0_5.length c0_5)) (ds := []) #[false, false, false, false, false, false, false, false, false, false, false, false, false, false, false, false] (by kernel_rfl) rfl rfl ⟨bc_ BKAa 0, bc_ BKAa 1, bc_ BKAa 2, bc_ BKAa 3, bc_ BKAa 4, bc_ BKAa 5, bc_ BKAb 0, bc_ BKAb 1, bc_ BKAb 2, bc_ BKAb 3, bc_ BKAb 4, bc_ BKAb 5⟩ (fun hHeld => ?_); refine with_tabW plaitingref10_Right.tab2 plaitingref10_Right.bits2 (fun HT_ HW_ => ?_)
   generalize w35.drew = w36 at HOAj BKAb BKAc BKAa HB hHeld ⊢
   refine pq_ 0 18 HT_ ?_
   refine pq_ 1 19 HT_ ?_
   refine pq_ 2 20 HT_ ?_
   refine pq_ 3 21 HT_ ?_
   refine pq_ 6 24 HT_ ?_
   refine tq_ 4 22 HT_ HW_ hHeld ?_
   refine tq_ 5 23 HT_ HW_ hHeld ?_
   refine oq_ 7 25 HT_ (fun K hK => ?_)
   refine gs_ Try.func39 #[.agg #[.int .i64 a0_0, .int .i64 a0_1, .int .i64 a0_2, .int .i64 a0_3, .int .i64 a0_4, .slice A0_5 l0_5.length c0_5], .int .i64 a1] ?_
   with_reducible refine (plaitingref3_Wire.calls a0_0 a0_1 a0_2 a0_3 a0_4 _ _ l0_5 a1 tAk _ ?side1 ?side2 A7.out).mono ?_
   (case side1 => exact cC_ (Kd.C_below HR0_5.out HB.out))
   (case side2 => exact HC0_5.out)
   rintro e w37 ⟨rfl, hb⟩
   refine ⟨_, rfl, ?_⟩
   replace HOAj := Aside0.mk (Kd.R_below (pR_ HOAj.out) hb)
   replace BKAb := bb_ BKAb hb
   replace BKAc := bb_ BKAc hb
   replace BKAa := bb_ BKAa hb
   replace HB := bs_ HB hb
   (try clear hb)
   (try clear hb2)
   (try clear hk)
   (try clear hi)
   refine hK.out _ _ ⟨bc_ BKAa 0, bc_ BKAa 1, bc_ BKAa 2, bc_ BKAa 3, bc_ BKAa 4, bc_ BKAa 5, bc_ BKAb 0, bc_ BKAb 1, bc_ BKAb 2, bc_ BKAb 3, bc_ BKAb 4, bc_ BKAb 5⟩ (fun hHeld => ?_)
   clear hK K
   refine nq_ 25 ?_
   refine pq_ 8 26 HT_ ?_
   refine pq_ 9 27 HT_ ?_
   refine pq_ 10 28 HT_ ?_
   refine pq_ 11 29 HT_ ?_
   refine pq_ 13 31 HT_ ?_
   refine tq_ 12 30 HT_ HW_ hHeld ?_
   refine pq_ 14 32 HT_ ?_
   refine pq_ 15 33 HT_ ?_
   refine done_ (done_of HT_.out (by kernel_rfl)) ?_
   obtain ⟨hcz38_0, hcz38_1, hcz38_2, hcz38_3, hcz38_4, hcz38_5⟩ := c6_ BKAc
   obtain ⟨hfz38_0, hfz38_1, hfz38_2, hfz38_3, hfz38_4, hfz38_5⟩ := f6_ BKAc
   try go_wp2
   refine bodyPost_ret (results_ct rfl _ _ gbAc 29 #[.int .i64 0, .int .i64 0, .int .i64 0, .int .i64 0, .int .i64 0, .slice none 0 0] (0, 0) _ rfl (by (with_reducible repeat (first | refine blk_drewN ?_ _ | refine blk_drew ?_ | refine blk_alloc ?_ _)); refine blk_put (cs := #[.int .i64 0, .int .i64 0, .int .i64 0, .int .i64 0, .int .i64 0, .slice none 0 0]) ?_ 5 _ rfl; (with_reducible repeat (first | refine blk_drewN ?_ _ | refine blk_drew ?_ | refine blk_alloc ?_ _)); refine blk_put (cs := #[.int .i64 0, .int .i64 0, .int .i64 0, .int .i64 0, .int .i64 0, .slice none 0 0]) ?_ 4 _ rfl; (with_reducible repeat (first | refine blk_drewN ?_ _ | refine blk_drew ?_ | refine blk_alloc ?_ _)); refine blk_put (cs := #[.int .i64 0, .int .i64 0, .int .i64 0, .int .i64 0, .int .i64 0, .slice none 0 0]) ?_ 3 _ rfl; (with_reducible repeat (first | refine blk_drewN ?_ _ | refine blk_drew ?_ | refine blk_alloc ?_ _)); refine blk_put (cs := #[.int .i64 0, .int .i64 0, .int .i64 0, .int .i64 0, .int .i64 0, .slice none 0 0]) ?_ 2 _ rfl; (with_reducible repeat (first | refine blk_drewN ?_ _ | refine blk_drew ?_ | refine blk_alloc ?_ _)); refine blk_put (cs := #[.int .i64 0, .int .i64 0, .int .i64 0, .int .i64 0, .int .i64 0, .slice none 0 0]) ?_ 1 _ rfl; (with_reducible repeat (first | refine blk_drewN ?_ _ | refine blk_drew ?_ | refine blk_alloc ?_ _)); refine blk_put (cs := #[.int .i64 0, .int .i64 0, .int .i64 0, .int .i64 0, .int .i64 0, .slice none 0 0]) ?_ 0 _ rfl; (with_reducible repeat (first | refine blk_drewN ?_ _ | refine blk_drew ?_ | refine blk_alloc ?_ _)); exact BKAc.out) Try.underlying29 rfl (by kernel_rfl)) rfl ?_
   exact ⟨_, by first | rfl | (simp [errW_none, errW_some] <;> rfl) | (simp [*, errW_none, errW_some] <;> rfl), by first | exact Kd.R_nil _ _ _ _ _ | exact Kd.N_nil _ _ _ _ _ | exact Kd.V_nil _ _ _ _ _ | exact Kd.Q_nil _ _ _ _ _ | exact Kd.S_nil _ _ _ _ _, pH_ HB.out⟩
  rw [if_neg c8] at H
  have c8b0 : (tAe == tAk) = false := beq_eq_false_iff_ne.mpr c8
  have c8b1 : (tAe != tAk) = true := bne_iff_ne.mpr c8
  simp only [Option.some.injEq, Prod.mk.injEq] at H
  obtain ⟨rfl, rfl, rfl, rfl, rfl, rfl, rfl⟩ := H
  go_enter Try.func41, Try.ntmps41
  try go_wp2_with (first | ((with_reducible refine gate_dst (N := 4) rfl ?_); refine be_ 4 #[.int .i64 a0_0, .int .i64 a0_1, .int .i64 a0_2, .int .i64 a0_3, .int .i64 a0_4, .slice A0_5 l0_5.length c0_5] 24 ?_; intro gbAb hg w39 hbox hb; have BKAb := Aside0.mk (hbox); have GWAb := Aside0.mk ((by rw [hg]; exact (below_size (pH_ HB.out)) : w.heap.size ≤ gbAb)); have GEAb := Aside0.mk ((by rw [hg]; exact (below_size (pH_ HB.out)) : w.heap.size ≤ gbAb)); replace HB := bs_ HB hb; clear hb hbox hg) | ((with_reducible refine gate_dst (N := 8) rfl ?_); refine be_ 8 #[.int .i64 0, .int .i64 0, .int .i64 0, .int .i64 0, .int .i64 0, .slice none 0 0] 29 ?_; intro gbAc hg w40 hbox hb; have BKAc := Aside0.mk (hbox); have GWAc := Aside0.mk ((by rw [hg]; exact (below_size (pH_ HB.out)) : w.heap.size ≤ gbAc)); have GEAc := Aside0.mk ((by rw [hg]; exact (below_size (pH_ HB.out)) : w.heap.size ≤ gbAc)); have NBAb_Ac := Aside0.mk (ltB_ hg BKAb.out); have NBAc_Ab := Aside0.mk (ltB_ hg BKAb.out).symm; replace BKAb := bb_ BKAb hb; replace HB := bs_ HB hb; clear hb hbox hg; have hnb41 := NBAb_Ac.out; have hnc41 := NBAc_Ab.out; obtain ⟨hcz42_0, hcz42_1, hcz42_2, hcz42_3, hcz42_4, hcz42_5⟩ := c6_ BKAb; obtain ⟨hfz42_0, hfz42_1, hfz42_2, hfz42_3, hfz42_4, hfz42_5⟩ := f6_ BKAb) | ((with_reducible refine gate_callee (f := 36) rfl ?_); refine gL_ 15 Try.func36 #[.agg #[.int .i64 a0_0, .int .i64 a0_1, .int .i64 a0_2, .int .i64 a0_3, .int .i64 a0_4, .slice A0_5 l0_5.length c0_5], .string a3] ?_; (with_reducible refine (plaitingref5_Read.calls k a0_0 a0_1 a0_2 a0_3 a0_4 _ _ l0_5 a3 tAd tAe tAf tAg tAi tAh tAm _ ?side1 ?side2 A5.out).mono ?_); (case side1 => exact cC_ (Kd.C_below HR0_5.out HB.out)); (case side2 => exact HC0_5.out); rintro e w43 ⟨vAn, rfl, ho0, hb⟩; refine ⟨_, rfl, ?_⟩; have HOAj := Aside0.mk (Kd.R_lower ho0 (below_size (pH_ HB.out))); replace BKAb := bb_ BKAb hb; replace BKAc := bb_ BKAc hb; replace HB := bs_ HB hb; (try clear hb); (try clear hb2); (try clear hk); (try clear hi); (try clear ho0)) | ((with_reducible refine gate_dst (N := 10) rfl ?_); refine be_ 10 #[.int .i64 0, .int .i64 0, .int .i64 0, .int .i64 0, .int .i64 0, .slice none 0 0] 29 ?_; intro gbAa hg w44 hbox hb; have BKAa := Aside0.mk (hbox); have GWAa := Aside0.mk ((by rw [hg]; exact (below_size (pH_ HB.out)) : w.heap.size ≤ gbAa)); have GEAa := Aside0.mk ((by rw [hg]; exact (below_size (pH_ HB.out)) : w.heap.size ≤ gbAa)); have NBAb_Aa := Aside0.mk (ltB_ hg BKAb.out); have NBAa_Ab := Aside0.mk (ltB_ hg BKAb.out).symm; have NBAc_Aa := Aside0.mk (ltB_ hg BKAc.out); have NBAa_Ac := Aside0.mk (ltB_ hg BKAc.out).symm; replace HOAj := Aside0.mk (Kd.R_below (pR_ HOAj.out) hb); replace BKAb := bb_ BKAb hb; replace BKAc := bb_ BKAc hb; replace HB := bs_ HB hb; clear hb hbox hg; have hnb45 := NBAa_Ab.out; have hnc45 := NBAb_Aa.out; have hnb46 := NBAa_Ac.out; have hnc46 := NBAc_Aa.out; obtain ⟨hcz47_0, hcz47_1, hcz47_2, hcz47_3, hcz47_4, hcz47_5⟩ := c6_ BKAa; obtain ⟨hfz47_0, hfz47_1, hfz47_2, hfz47_3, hfz47_4, hfz47_5⟩ := f6_ BKAa; obtain ⟨Ao48, co48, eo48⟩ := Kd.R_slice HOAj.out; subst eo48))
  have n0_ : Aside0 (Kd.R k26 26 ((((((w44.setCell ⟨gbAa, 0, none⟩ (.int .i64 tAd)).setCell ⟨gbAa, 1, none⟩ (.int .i64 tAe)).setCell ⟨gbAa, 2, none⟩ (.int .i64 tAf)).setCell ⟨gbAa, 3, none⟩ (.int .i64 tAg)).setCell ⟨gbAa, 4, none⟩ (.int .i64 tAi)).setCell ⟨gbAa, 5, none⟩ (.slice Ao48 tAh.length co48)) w.heap.size (fun _ => True) (.slice Ao48 tAh.length co48) tAh) := ⟨by (with_reducible repeat (first | apply Kd.R_alloc | apply Kd.R_drewN | apply Kd.R_drew)); exact Kd.R_mono (Kd.R_far (p := ⟨gbAa, 5, none⟩) (Kd.R_far (p := ⟨gbAa, 4, none⟩) (Kd.R_far (p := ⟨gbAa, 3, none⟩) (Kd.R_far (p := ⟨gbAa, 2, none⟩) (Kd.R_far (p := ⟨gbAa, 1, none⟩) (Kd.R_far (p := ⟨gbAa, 0, none⟩) (Kd.R_types HOAj.out BKAa.out (by decide)) (fun _ hk => hk.2) (.int .i64 tAd)) (fun _ hk => hk.2) (.int .i64 tAe)) (fun _ hk => hk.2) (.int .i64 tAf)) (fun _ hk => hk.2) (.int .i64 tAg)) (fun _ hk => hk.2) (.int .i64 tAi)) (fun _ hk => hk.2) (.slice Ao48 tAh.length co48)) (fun _ hk => trivial)⟩
  have n1_ : Aside0 (((((((w44.setCell ⟨gbAa, 0, none⟩ (.int .i64 tAd)).setCell ⟨gbAa, 1, none⟩ (.int .i64 tAe)).setCell ⟨gbAa, 2, none⟩ (.int .i64 tAf)).setCell ⟨gbAa, 3, none⟩ (.int .i64 tAg)).setCell ⟨gbAa, 4, none⟩ (.int .i64 tAi)).setCell ⟨gbAa, 5, none⟩ (.slice Ao48 tAh.length co48)).heap[gbAb]? = some (.cells #[.int .i64 a0_0, .int .i64 a0_1, .int .i64 a0_2, .int .i64 a0_3, .int .i64 a0_4, .slice A0_5 l0_5.length c0_5] 24 (0, 0))) := ⟨bF_ BKAb.out NBAb_Aa.out⟩
  have n2_ : Aside0 (((((((w44.setCell ⟨gbAa, 0, none⟩ (.int .i64 tAd)).setCell ⟨gbAa, 1, none⟩ (.int .i64 tAe)).setCell ⟨gbAa, 2, none⟩ (.int .i64 tAf)).setCell ⟨gbAa, 3, none⟩ (.int .i64 tAg)).setCell ⟨gbAa, 4, none⟩ (.int .i64 tAi)).setCell ⟨gbAa, 5, none⟩ (.slice Ao48 tAh.length co48)).heap[gbAc]? = some (.cells #[.int .i64 0, .int .i64 0, .int .i64 0, .int .i64 0, .int .i64 0, .slice none 0 0] 29 (0, 0))) := ⟨bF_ BKAc.out NBAc_Aa.out⟩
  have n3_ : Aside0 (((((((w44.setCell ⟨gbAa, 0, none⟩ (.int .i64 tAd)).setCell ⟨gbAa, 1, none⟩ (.int .i64 tAe)).setCell ⟨gbAa, 2, none⟩ (.int .i64 tAf)).setCell ⟨gbAa, 3, none⟩ (.int .i64 tAg)).setCell ⟨gbAa, 4, none⟩ (.int .i64 tAi)).setCell ⟨gbAa, 5, none⟩ (.slice Ao48 tAh.length co48)).heap[gbAa]? = some (.cells #[.int .i64 tAd, .int .i64 tAe, .int .i64 tAf, .int .i64 tAg, .int .i64 tAi, .slice Ao48 tAh.length co48] 29 (0, 0))) := ⟨by (with_reducible repeat (first | refine blk_drewN ?_ _ | refine blk_drew ?_ | refine blk_alloc ?_ _)); refine blk_put (cs := #[.int .i64 tAd, .int .i64 tAe, .int .i64 tAf, .int .i64 tAg, .int .i64 tAi, .slice none 0 0]) ?_ 5 _ rfl; (with_reducible repeat (first | refine blk_drewN ?_ _ | refine blk_drew ?_ | refine blk_alloc ?_ _)); refine blk_put (cs := #[.int .i64 tAd, .int .i64 tAe, .int .i64 tAf, .int .i64 tAg, .int .i64 0, .slice none 0 0]) ?_ 4 _ rfl; (with_reducible repeat (first | refine blk_drewN ?_ _ | refine blk_drew ?_ | refine blk_alloc ?_ _)); refine blk_put (cs := #[.int .i64 tAd, .int .i64 tAe, .int .i64 tAf, .int .i64 0, .int .i64 0, .slice none 0 0]) ?_ 3 _ rfl; (with_reducible repeat (first | refine blk_drewN ?_ _ | refine blk_drew ?_ | refine blk_alloc ?_ _)); refine blk_put (cs := #[.int .i64 tAd, .int .i64 tAe, .int .i64 0, .int .i64 0, .int .i64 0, .slice none 0 0]) ?_ 2 _ rfl; (with_reducible repeat (first | refine blk_drewN ?_ _ | refine blk_drew ?_ | refine blk_alloc ?_ _)); refine blk_put (cs := #[.int .i64 tAd, .int .i64 0, .int .i64 0, .int .i64 0, .int .i64 0, .slice none 0 0]) ?_ 1 _ rfl; (with_reducible repeat (first | refine blk_drewN ?_ _ | refine blk_drew ?_ | refine blk_alloc ?_ _)); refine blk_put (cs := #[.int .i64 0, .int .i64 0, .int .i64 0, .int .i64 0, .int .i64 0, .slice none 0 0]) ?_ 0 _ rfl; (with_reducible repeat (first | refine blk_drewN ?_ _ | refine blk_drew ?_ | refine blk_alloc ?_ _)); exact BKAa.out⟩
  have n4_ : Aside0 (Below w.heap.size w ((((((w44.setCell ⟨gbAa, 0, none⟩ (.int .i64 tAd)).setCell ⟨gbAa, 1, none⟩ (.int .i64 tAe)).setCell ⟨gbAa, 2, none⟩ (.int .i64 tAf)).setCell ⟨gbAa, 3, none⟩ (.int .i64 tAg)).setCell ⟨gbAa, 4, none⟩ (.int .i64 tAi)).setCell ⟨gbAa, 5, none⟩ (.slice Ao48 tAh.length co48))) := ⟨pH_ HB.out⟩
  (try clear HOAj)
  (try clear BKAb)
  (try clear BKAc)
  (try clear BKAa)
  (try clear HB)
  generalize ((((((w44.setCell ⟨gbAa, 0, none⟩ (.int .i64 tAd)).setCell ⟨gbAa, 1, none⟩ (.int .i64 tAe)).setCell ⟨gbAa, 2, none⟩ (.int .i64 tAf)).setCell ⟨gbAa, 3, none⟩ (.int .i64 tAg)).setCell ⟨gbAa, 4, none⟩ (.int .i64 tAi)).setCell ⟨gbAa, 5, none⟩ (.slice Ao48 tAh.length co48)) = w49 at n0_ n1_ n2_ n3_ n4_ ⊢
  have HOAj := n0_
  have BKAb := n1_
  have BKAc := n2_
  have BKAa := n3_
  have HB := n4_
  clear n0_ n1_ n2_ n3_ n4_
  replace HOAj := Aside0.mk (Kd.R_drew HOAj.out)
  replace BKAb := Aside0.mk (blk_drew BKAb.out)
  replace BKAc := Aside0.mk (blk_drew BKAc.out)
  replace BKAa := Aside0.mk (blk_drew BKAa.out)
  replace HB := Aside0.mk (below_drew1 HB.out)
  refine start_ (n := 16) (S := fun w' => w'.cell? ⟨gbAa, 0, none⟩ = some (.int .i64 tAd) ∧ w'.cell? ⟨gbAa, 1, none⟩ = some (.int .i64 tAe) ∧ w'.cell? ⟨gbAa, 2, none⟩ = some (.int .i64 tAf) ∧ w'.cell? ⟨gbAa, 3, none⟩ = some (.int .i64 tAg) ∧ w'.cell? ⟨gbAa, 4, none⟩ = some (.int .i64 tAi) ∧ w'.cell? ⟨gbAa, 5, none⟩ = some (.slice Ao48 tAh.length co48) ∧ w'.cell? ⟨gbAb, 0, none⟩ = some (.int .i64 a0_0) ∧ w'.cell? ⟨gbAb, 1, none⟩ = some (.int .i64 a0_1) ∧ w'.cell? ⟨gbAb, 2, none⟩ = some (.int .i64 a0_2) ∧ w'.cell? ⟨gbAb, 3, none⟩ = some (.int .i64 a0_3) ∧ w'.cell? ⟨gbAb, 4, none⟩ = some (.int .i64 a0_4) ∧ w'.cell? ⟨gbAb, 5, none⟩ = some (.slice A0_5 l0_5.length c0_5)) (ds := []) #[false, false, false, false, false, false, false, false, false, false, false, false, false, false, false, false] (by kernel_rfl) rfl rfl ⟨bc_ BKAa 0, bc_ BKAa 1, bc_ BKAa 2, bc_ BKAa 3, bc_ BKAa 4, bc_ BKAa 5, bc_ BKAb 0, bc_ BKAb 1, bc_ BKAb 2, bc_ BKAb 3, bc_ BKAb 4, bc_ BKAb 5⟩ (fun hHeld => ?_); refine with_tabW plaitingref10_Right.tab2 plaitingref10_Right.bits2 (fun HT_ HW_ => ?_)
  generalize w49.drew = w50 at HOAj BKAb BKAc BKAa HB hHeld ⊢
  refine pq_ 0 18 HT_ ?_
  refine pq_ 1 19 HT_ ?_
  refine pq_ 2 20 HT_ ?_
  refine pq_ 3 21 HT_ ?_
  refine pq_ 6 24 HT_ ?_
  refine tq_ 4 22 HT_ HW_ hHeld ?_
  refine tq_ 5 23 HT_ HW_ hHeld ?_
  refine oq_ 7 25 HT_ (fun K hK => ?_)
  refine gs_ Try.func39 #[.agg #[.int .i64 a0_0, .int .i64 a0_1, .int .i64 a0_2, .int .i64 a0_3, .int .i64 a0_4, .slice A0_5 l0_5.length c0_5], .int .i64 a1] ?_
  with_reducible refine (plaitingref3_Wire.calls a0_0 a0_1 a0_2 a0_3 a0_4 _ _ l0_5 a1 tAk _ ?side1 ?side2 A7.out).mono ?_
  (case side1 => exact cC_ (Kd.C_below HR0_5.out HB.out))
  (case side2 => exact HC0_5.out)
  rintro e w51 ⟨rfl, hb⟩
  refine ⟨_, rfl, ?_⟩
  replace HOAj := Aside0.mk (Kd.R_below (pR_ HOAj.out) hb)
  replace BKAb := bb_ BKAb hb
  replace BKAc := bb_ BKAc hb
  replace BKAa := bb_ BKAa hb
  replace HB := bs_ HB hb
  (try clear hb)
  (try clear hb2)
  (try clear hk)
  (try clear hi)
  refine hK.out _ _ ⟨bc_ BKAa 0, bc_ BKAa 1, bc_ BKAa 2, bc_ BKAa 3, bc_ BKAa 4, bc_ BKAa 5, bc_ BKAb 0, bc_ BKAb 1, bc_ BKAb 2, bc_ BKAb 3, bc_ BKAb 4, bc_ BKAb 5⟩ (fun hHeld => ?_)
  clear hK K
  refine nq_ 25 ?_
  refine pq_ 8 26 HT_ ?_
  refine pq_ 9 27 HT_ ?_
  refine pq_ 10 28 HT_ ?_
  refine pu_ 11 29 HT_ ?_
  refine pu_ 12 30 HT_ ?_
  refine pu_ 13 31 HT_ ?_
  refine pu_ 14 32 HT_ ?_
  refine pq_ 15 33 HT_ ?_
  refine done_ (done_of HT_.out (by kernel_rfl)) ?_
  obtain ⟨hcz52_0, hcz52_1, hcz52_2, hcz52_3, hcz52_4, hcz52_5⟩ := c6_ BKAc
  obtain ⟨hfz52_0, hfz52_1, hfz52_2, hfz52_3, hfz52_4, hfz52_5⟩ := f6_ BKAc
  try go_wp2
  refine bodyPost_ret (results_ct rfl _ _ gbAc 29 #[.int .i64 0, .int .i64 0, .int .i64 0, .int .i64 0, .int .i64 0, .slice none 0 0] (0, 0) _ rfl (by (with_reducible repeat (first | refine blk_drewN ?_ _ | refine blk_drew ?_ | refine blk_alloc ?_ _)); refine blk_put (cs := #[.int .i64 0, .int .i64 0, .int .i64 0, .int .i64 0, .int .i64 0, .slice none 0 0]) ?_ 5 _ rfl; (with_reducible repeat (first | refine blk_drewN ?_ _ | refine blk_drew ?_ | refine blk_alloc ?_ _)); refine blk_put (cs := #[.int .i64 0, .int .i64 0, .int .i64 0, .int .i64 0, .int .i64 0, .slice none 0 0]) ?_ 4 _ rfl; (with_reducible repeat (first | refine blk_drewN ?_ _ | refine blk_drew ?_ | refine blk_alloc ?_ _)); refine blk_put (cs := #[.int .i64 0, .int .i64 0, .int .i64 0, .int .i64 0, .int .i64 0, .slice none 0 0]) ?_ 3 _ rfl; (with_reducible repeat (first | refine blk_drewN ?_ _ | refine blk_drew ?_ | refine blk_alloc ?_ _)); refine blk_put (cs := #[.int .i64 0, .int .i64 0, .int .i64 0, .int .i64 0, .int .i64 0, .slice none 0 0]) ?_ 2 _ rfl; (with_reducible repeat (first | refine blk_drewN ?_ _ | refine blk_drew ?_ | refine blk_alloc ?_ _)); refine blk_put (cs := #[.int .i64 0, .int .i64 0, .int .i64 0, .int .i64 0, .int .i64 0, .slice none 0 0]) ?_ 1 _ rfl; (with_reducible repeat (first | refine blk_drewN ?_ _ | refine blk_drew ?_ | refine blk_alloc ?_ _)); refine blk_put (cs := #[.int .i64 0, .int .i64 0, .int .i64 0, .int .i64 0, .int .i64 0, .slice none 0 0]) ?_ 0 _ rfl; (with_reducible repeat (first | refine blk_drewN ?_ _ | refine blk_drew ?_ | refine blk_alloc ?_ _)); exact BKAc.out) Try.underlying29 rfl (by kernel_rfl)) rfl ?_
  exact ⟨_, by first | rfl | (simp [errW_none, errW_some] <;> rfl) | (simp [*, errW_none, errW_some] <;> rfl), by first | exact Kd.R_nil _ _ _ _ _ | exact Kd.N_nil _ _ _ _ _ | exact Kd.V_nil _ _ _ _ _ | exact Kd.Q_nil _ _ _ _ _ | exact Kd.S_nil _ _ _ _ _, pH_ HB.out⟩
 rw [if_neg c6] at H
 have c6b0 : (tAm == 0) = false := beq_eq_false_iff_ne.mpr c6
 have c6b1 : (tAm != 0) = true := bne_iff_ne.mpr c6
 simp only [Option.some.injEq, Prod.mk.injEq] at H
 obtain ⟨rfl, rfl, rfl, rfl, rfl, rfl, rfl⟩ := H
 go_enter Try.func41, Try.ntmps41
 try go_wp2_with (first | ((with_reducible refine gate_dst (N := 4) rfl ?_); refine be_ 4 #[.int .i64 a0_0, .int .i64 a0_1, .int .i64 a0_2, .int .i64 a0_3, .int .i64 a0_4, .slice A0_5 l0_5.length c0_5] 24 ?_; intro gbAb hg w53 hbox hb; have BKAb := Aside0.mk (hbox); have GWAb := Aside0.mk ((by rw [hg]; exact (below_size (pH_ HB.out)) : w.heap.size ≤ gbAb)); have GEAb := Aside0.mk ((by rw [hg]; exact (below_size (pH_ HB.out)) : w.heap.size ≤ gbAb)); replace HB := bs_ HB hb; clear hb hbox hg) | ((with_reducible refine gate_dst (N := 8) rfl ?_); refine be_ 8 #[.int .i64 0, .int .i64 0, .int .i64 0, .int .i64 0, .int .i64 0, .slice none 0 0] 29 ?_; intro gbAc hg w54 hbox hb; have BKAc := Aside0.mk (hbox); have GWAc := Aside0.mk ((by rw [hg]; exact (below_size (pH_ HB.out)) : w.heap.size ≤ gbAc)); have GEAc := Aside0.mk ((by rw [hg]; exact (below_size (pH_ HB.out)) : w.heap.size ≤ gbAc)); have NBAb_Ac := Aside0.mk (ltB_ hg BKAb.out); have NBAc_Ab := Aside0.mk (ltB_ hg BKAb.out).symm; replace BKAb := bb_ BKAb hb; replace HB := bs_ HB hb; clear hb hbox hg; have hnb55 := NBAb_Ac.out; have hnc55 := NBAc_Ab.out; obtain ⟨hcz56_0, hcz56_1, hcz56_2, hcz56_3, hcz56_4, hcz56_5⟩ := c6_ BKAb; obtain ⟨hfz56_0, hfz56_1, hfz56_2, hfz56_3, hfz56_4, hfz56_5⟩ := f6_ BKAb) | ((with_reducible refine gate_callee (f := 36) rfl ?_); refine gL_ 15 Try.func36 #[.agg #[.int .i64 a0_0, .int .i64 a0_1, .int .i64 a0_2, .int .i64 a0_3, .int .i64 a0_4, .slice A0_5 l0_5.length c0_5], .string a3] ?_; (with_reducible refine (plaitingref5_Read.calls k a0_0 a0_1 a0_2 a0_3 a0_4 _ _ l0_5 a3 tAd tAe tAf tAg tAi tAh tAm _ ?side1 ?side2 A5.out).mono ?_); (case side1 => exact cC_ (Kd.C_below HR0_5.out HB.out)); (case side2 => exact HC0_5.out); rintro e w57 ⟨vAn, rfl, ho0, hb⟩; refine ⟨_, rfl, ?_⟩; have HOAj := Aside0.mk (Kd.R_lower ho0 (below_size (pH_ HB.out))); replace BKAb := bb_ BKAb hb; replace BKAc := bb_ BKAc hb; replace HB := bs_ HB hb; (try clear hb); (try clear hb2); (try clear hk); (try clear hi); (try clear ho0)) | ((with_reducible refine gate_dst (N := 10) rfl ?_); refine be_ 10 #[.int .i64 0, .int .i64 0, .int .i64 0, .int .i64 0, .int .i64 0, .slice none 0 0] 29 ?_; intro gbAa hg w58 hbox hb; have BKAa := Aside0.mk (hbox); have GWAa := Aside0.mk ((by rw [hg]; exact (below_size (pH_ HB.out)) : w.heap.size ≤ gbAa)); have GEAa := Aside0.mk ((by rw [hg]; exact (below_size (pH_ HB.out)) : w.heap.size ≤ gbAa)); have NBAb_Aa := Aside0.mk (ltB_ hg BKAb.out); have NBAa_Ab := Aside0.mk (ltB_ hg BKAb.out).symm; have NBAc_Aa := Aside0.mk (ltB_ hg BKAc.out); have NBAa_Ac := Aside0.mk (ltB_ hg BKAc.out).symm; replace HOAj := Aside0.mk (Kd.R_below (pR_ HOAj.out) hb); replace BKAb := bb_ BKAb hb; replace BKAc := bb_ BKAc hb; replace HB := bs_ HB hb; clear hb hbox hg; have hnb59 := NBAa_Ab.out; have hnc59 := NBAb_Aa.out; have hnb60 := NBAa_Ac.out; have hnc60 := NBAc_Aa.out; obtain ⟨hcz61_0, hcz61_1, hcz61_2, hcz61_3, hcz61_4, hcz61_5⟩ := c6_ BKAa; obtain ⟨hfz61_0, hfz61_1, hfz61_2, hfz61_3, hfz61_4, hfz61_5⟩ := f6_ BKAa; obtain ⟨Ao62, co62, eo62⟩ := Kd.R_slice HOAj.out; subst eo62))
 have n0_ : Aside0 (Kd.R k26 26 ((((((w58.setCell ⟨gbAa, 0, none⟩ (.int .i64 tAd)).setCell ⟨gbAa, 1, none⟩ (.int .i64 tAe)).setCell ⟨gbAa, 2, none⟩ (.int .i64 tAf)).setCell ⟨gbAa, 3, none⟩ (.int .i64 tAg)).setCell ⟨gbAa, 4, none⟩ (.int .i64 tAi)).setCell ⟨gbAa, 5, none⟩ (.slice Ao62 tAh.length co62)) w.heap.size (fun _ => True) (.slice Ao62 tAh.length co62) tAh) := ⟨by (with_reducible repeat (first | apply Kd.R_alloc | apply Kd.R_drewN | apply Kd.R_drew)); exact Kd.R_mono (Kd.R_far (p := ⟨gbAa, 5, none⟩) (Kd.R_far (p := ⟨gbAa, 4, none⟩) (Kd.R_far (p := ⟨gbAa, 3, none⟩) (Kd.R_far (p := ⟨gbAa, 2, none⟩) (Kd.R_far (p := ⟨gbAa, 1, none⟩) (Kd.R_far (p := ⟨gbAa, 0, none⟩) (Kd.R_types HOAj.out BKAa.out (by decide)) (fun _ hk => hk.2) (.int .i64 tAd)) (fun _ hk => hk.2) (.int .i64 tAe)) (fun _ hk => hk.2) (.int .i64 tAf)) (fun _ hk => hk.2) (.int .i64 tAg)) (fun _ hk => hk.2) (.int .i64 tAi)) (fun _ hk => hk.2) (.slice Ao62 tAh.length co62)) (fun _ hk => trivial)⟩
 have n1_ : Aside0 (((((((w58.setCell ⟨gbAa, 0, none⟩ (.int .i64 tAd)).setCell ⟨gbAa, 1, none⟩ (.int .i64 tAe)).setCell ⟨gbAa, 2, none⟩ (.int .i64 tAf)).setCell ⟨gbAa, 3, none⟩ (.int .i64 tAg)).setCell ⟨gbAa, 4, none⟩ (.int .i64 tAi)).setCell ⟨gbAa, 5, none⟩ (.slice Ao62 tAh.length co62)).heap[gbAb]? = some (.cells #[.int .i64 a0_0, .int .i64 a0_1, .int .i64 a0_2, .int .i64 a0_3, .int .i64 a0_4, .slice A0_5 l0_5.length c0_5] 24 (0, 0))) := ⟨bF_ BKAb.out NBAb_Aa.out⟩
 have n2_ : Aside0 (((((((w58.setCell ⟨gbAa, 0, none⟩ (.int .i64 tAd)).setCell ⟨gbAa, 1, none⟩ (.int .i64 tAe)).setCell ⟨gbAa, 2, none⟩ (.int .i64 tAf)).setCell ⟨gbAa, 3, none⟩ (.int .i64 tAg)).setCell ⟨gbAa, 4, none⟩ (.int .i64 tAi)).setCell ⟨gbAa, 5, none⟩ (.slice Ao62 tAh.length co62)).heap[gbAc]? = some (.cells #[.int .i64 0, .int .i64 0, .int .i64 0, .int .i64 0, .int .i64 0, .slice none 0 0] 29 (0, 0))) := ⟨bF_ BKAc.out NBAc_Aa.out⟩
 have n3_ : Aside0 (((((((w58.setCell ⟨gbAa, 0, none⟩ (.int .i64 tAd)).setCell ⟨gbAa, 1, none⟩ (.int .i64 tAe)).setCell ⟨gbAa, 2, none⟩ (.int .i64 tAf)).setCell ⟨gbAa, 3, none⟩ (.int .i64 tAg)).setCell ⟨gbAa, 4, none⟩ (.int .i64 tAi)).setCell ⟨gbAa, 5, none⟩ (.slice Ao62 tAh.length co62)).heap[gbAa]? = some (.cells #[.int .i64 tAd, .int .i64 tAe, .int .i64 tAf, .int .i64 tAg, .int .i64 tAi, .slice Ao62 tAh.length co62] 29 (0, 0))) := ⟨by (with_reducible repeat (first | refine blk_drewN ?_ _ | refine blk_drew ?_ | refine blk_alloc ?_ _)); refine blk_put (cs := #[.int .i64 tAd, .int .i64 tAe, .int .i64 tAf, .int .i64 tAg, .int .i64 tAi, .slice none 0 0]) ?_ 5 _ rfl; (with_reducible repeat (first | refine blk_drewN ?_ _ | refine blk_drew ?_ | refine blk_alloc ?_ _)); refine blk_put (cs := #[.int .i64 tAd, .int .i64 tAe, .int .i64 tAf, .int .i64 tAg, .int .i64 0, .slice none 0 0]) ?_ 4 _ rfl; (with_reducible repeat (first | refine blk_drewN ?_ _ | refine blk_drew ?_ | refine blk_alloc ?_ _)); refine blk_put (cs := #[.int .i64 tAd, .int .i64 tAe, .int .i64 tAf, .int .i64 0, .int .i64 0, .slice none 0 0]) ?_ 3 _ rfl; (with_reducible repeat (first | refine blk_drewN ?_ _ | refine blk_drew ?_ | refine blk_alloc ?_ _)); refine blk_put (cs := #[.int .i64 tAd, .int .i64 tAe, .int .i64 0, .int .i64 0, .int .i64 0, .slice none 0 0]) ?_ 2 _ rfl; (with_reducible repeat (first | refine blk_drewN ?_ _ | refine blk_drew ?_ | refine blk_alloc ?_ _)); refine blk_put (cs := #[.int .i64 tAd, .int .i64 0, .int .i64 0, .int .i64 0, .int .i64 0, .slice none 0 0]) ?_ 1 _ rfl; (with_reducible repeat (first | refine blk_drewN ?_ _ | refine blk_drew ?_ | refine blk_alloc ?_ _)); refine blk_put (cs := #[.int .i64 0, .int .i64 0, .int .i64 0, .int .i64 0, .int .i64 0, .slice none 0 0]) ?_ 0 _ rfl; (with_reducible repeat (first | refine blk_drewN ?_ _ | refine blk_drew ?_ | refine blk_alloc ?_ _)); exact BKAa.out⟩
 have n4_ : Aside0 (Below w.heap.size w ((((((w58.setCell ⟨gbAa, 0, none⟩ (.int .i64 tAd)).setCell ⟨gbAa, 1, none⟩ (.int .i64 tAe)).setCell ⟨gbAa, 2, none⟩ (.int .i64 tAf)).setCell ⟨gbAa, 3, none⟩ (.int .i64 tAg)).setCell ⟨gbAa, 4, none⟩ (.int .i64 tAi)).setCell ⟨gbAa, 5, none⟩ (.slice Ao62 tAh.length co62))) := ⟨pH_ HB.out⟩
 (try clear HOAj)
 (try clear BKAb)
 (try clear BKAc)
 (try clear BKAa)
 (try clear HB)
 generalize ((((((w58.setCell ⟨gbAa, 0, none⟩ (.int .i64 tAd)).setCell ⟨gbAa, 1, none⟩ (.int .i64 tAe)).setCell ⟨gbAa, 2, none⟩ (.int .i64 tAf)).setCell ⟨gbAa, 3, none⟩ (.int .i64 tAg)).setCell ⟨gbAa, 4, none⟩ (.int .i64 tAi)).setCell ⟨gbAa, 5, none⟩ (.slice Ao62 tAh.length co62)) = w63 at n0_ n1_ n2_ n3_ n4_ ⊢
 have HOAj := n0_
 have BKAb := n1_
 have BKAc := n2_
 have BKAa := n3_
 have HB := n4_
 clear n0_ n1_ n2_ n3_ n4_
 replace HOAj := Aside0.mk (Kd.R_drew HOAj.out)
 replace BKAb := Aside0.mk (blk_drew BKAb.out)
 replace BKAc := Aside0.mk (blk_drew BKAc.out)
 replace BKAa := Aside0.mk (blk_drew BKAa.out)
 replace HB := Aside0.mk (below_drew1 HB.out)
 refine start_ (n := 16) (S := fun w' => True) (ds := []) #[false, false, false, false, false, false, false, false, false, false, false, false, false, false, false, false] (by kernel_rfl) rfl rfl trivial (fun hHeld => ?_); refine with_tabW plaitingref10_Right.tab2 plaitingref10_Right.bits2 (fun HT_ HW_ => ?_)
 generalize w63.drew = w64 at HOAj BKAb BKAc BKAa HB hHeld ⊢
 refine pq_ 0 18 HT_ ?_
 refine pq_ 1 19 HT_ ?_
 refine pq_ 2 20 HT_ ?_
 refine pu_ 3 21 HT_ ?_
 refine pu_ 4 22 HT_ ?_
 refine pu_ 5 23 HT_ ?_
 refine pu_ 6 24 HT_ ?_
 refine pu_ 7 25 HT_ ?_
 refine pu_ 8 26 HT_ ?_
 refine pq_ 9 27 HT_ ?_
 refine pq_ 10 28 HT_ ?_
 refine pu_ 11 29 HT_ ?_
 refine pu_ 12 30 HT_ ?_
 refine pu_ 13 31 HT_ ?_
 refine pu_ 14 32 HT_ ?_
 refine pq_ 15 33 HT_ ?_
 refine done_ (done_of HT_.out (by kernel_rfl)) ?_
 obtain ⟨hcz65_0, hcz65_1, hcz65_2, hcz65_3, hcz65_4, hcz65_5⟩ := c6_ BKAc
 obtain ⟨hfz65_0, hfz65_1, hfz65_2, hfz65_3, hfz65_4, hfz65_5⟩ := f6_ BKAc
 try go_wp2
 refine bodyPost_ret (results_ct rfl _ _ gbAc 29 #[.int .i64 0, .int .i64 0, .int .i64 0, .int .i64 0, .int .i64 0, .slice none 0 0] (0, 0) _ rfl (by (with_reducible repeat (first | refine blk_drewN ?_ _ | refine blk_drew ?_ | refine blk_alloc ?_ _)); refine blk_put (cs := #[.int .i64 0, .int .i64 0, .int .i64 0, .int .i64 0, .int .i64 0, .slice none 0 0]) ?_ 5 _ rfl; (with_reducible repeat (first | refine blk_drewN ?_ _ | refine blk_drew ?_ | refine blk_alloc ?_ _)); refine blk_put (cs := #[.int .i64 0, .int .i64 0, .int .i64 0, .int .i64 0, .int .i64 0, .slice none 0 0]) ?_ 4 _ rfl; (with_reducible repeat (first | refine blk_drewN ?_ _ | refine blk_drew ?_ | refine blk_alloc ?_ _)); refine blk_put (cs := #[.int .i64 0, .int .i64 0, .int .i64 0, .int .i64 0, .int .i64 0, .slice none 0 0]) ?_ 3 _ rfl; (with_reducible repeat (first | refine blk_drewN ?_ _ | refine blk_drew ?_ | refine blk_alloc ?_ _)); refine blk_put (cs := #[.int .i64 0, .int .i64 0, .int .i64 0, .int .i64 0, .int .i64 0, .slice none 0 0]) ?_ 2 _ rfl; (with_reducible repeat (first | refine blk_drewN ?_ _ | refine blk_drew ?_ | refine blk_alloc ?_ _)); refine blk_put (cs := #[.int .i64 0, .int .i64 0, .int .i64 0, .int .i64 0, .int .i64 0, .slice none 0 0]) ?_ 1 _ rfl; (with_reducible repeat (first | refine blk_drewN ?_ _ | refine blk_drew ?_ | refine blk_alloc ?_ _)); refine blk_put (cs := #[.int .i64 0, .int .i64 0, .int .i64 0, .int .i64 0, .int .i64 0, .slice none 0 0]) ?_ 0 _ rfl; (with_reducible repeat (first | refine blk_drewN ?_ _ | refine blk_drew ?_ | refine blk_alloc ?_ _)); exact BKAc.out) Try.underlying29 rfl (by kernel_rfl)) rfl ?_
 exact ⟨_, by first | rfl | (simp [errW_none, errW_some] <;> rfl) | (simp [*, errW_none, errW_some] <;> rfl), by first | exact Kd.R_nil _ _ _ _ _ | exact Kd.N_nil _ _ _ _ _ | exact Kd.V_nil _ _ _ _ _ | exact Kd.Q_nil _ _ _ _ _ | exact Kd.S_nil _ _ _ _ _, pH_ HB.out⟩
end Go.Proofs.Ytcpohmfkmgcjkaa.P
