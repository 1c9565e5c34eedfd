/- Printed by a program of this session (myprint) out of the translation: the functions as plain Lean functions, and that the calls compute them. What counts is Lean's check. -/
import Derived.Test.YtcpohmfkmgcjkaaQArbRightPx1
namespace Go.Proofs.Ytcpohmfkmgcjkaa.P
open Go.RowKit Go.Proofs.YtcpohmfkmgcjkaaW.PrintWords Go.Proofs.YtcpohmfkmgcjkaaW.PrintLast Go.Proofs.YtcpohmfkmgcjkaaW.PrintMore
attribute [local go_sem] max2_int min2_int max_two min_two max_three min_three max_four min_four
set_option linter.unusedVariables false
set_option linter.unusedSimpArgs false
attribute [-simp] ByteArray.size_extract ByteArray.size_append ByteArray.extract_append_extract
attribute [-go_sem] ByteArray.size_append'
def arb_Right.f (a0_0 : Int) (a0_1 : Int) (a0_2 : Int) (a0_3 : Int) (a0_4 : Int) (l0_5 : List Int) (a1 : Int) (a2 : Int) (a3 : ByteArray) : Option (Int × Int × Int × Int × Int × (List (S26)) × Bool) := (frame_Read.f a0_0 a0_1 a0_2 a0_3 a0_4 l0_5 a3).bind fun btAd => (if btAd.2.2.2.2.2.2 = 0 then ((conf_Wire.f a0_0 a0_1 a0_2 a0_3 a0_4 l0_5 a1).bind fun tAk => (if btAd.2.1 = tAk then (if btAd.2.2.1 = a2 then (some (btAd.1, btAd.2.1, btAd.2.2.1, btAd.2.2.2.1, btAd.2.2.2.2.1, btAd.2.2.2.2.2.1, true)) else (some (0, 0, 0, 0, 0, ([] : List (S26)), false))) else (some (0, 0, 0, 0, 0, ([] : List (S26)), false)))) else (some (0, 0, 0, 0, 0, ([] : List (S26)), false)))
def arb_Right.T2 : Bool × List (List Nat × List Nat) := (true, [([], []), ([0], [0]), ([1], [1]), ([2], [2]), ([3, 2], [2, 3]), ([2], [2]), ([2], [2]), ([5, 6, 2, 2], [2, 5, 6]), ([4, 7, 2], [2, 4, 7]), ([2, 8], [2, 8]), ([9, 7], [9]), ([10], [10]), ([11, 10], [10, 11]), ([10], [10]), ([12, 13, 10], [10, 12, 13]), ([10, 14], [10, 14])])
def arb_Right.B2 : List Nat := [0, 1, 3, 7, 15, 7, 7, 103, 255, 511, 1023, 2047, 4095, 2047, 16383, 32767]
theorem arb_Right.tab2 : rtab .any (opsOf Try.f40 2) = arb_Right.T2 := by kernel_rfl
theorem arb_Right.bits2 : waitsOk arb_Right.T2.2 arb_Right.B2 = true := by kernel_rfl
set_option maxHeartbeats 8000000 in
set_option maxRecDepth 100000 in
theorem arb_Right.calls (a0_0 : Int) (a0_1 : Int) (a0_2 : Int) (a0_3 : Int) (a0_4 : Int) (A0_5 : Option Addr) (c0_5 : Nat) (l0_5 : List Int) (a1 : Int) (a2 : Int) (a3 : ByteArray) (r1 : Int) (r2 : Int) (r3 : Int) (r4 : Int) (r5 : Int) (r6 : List (S26)) (r7 : Bool) (w : World) (hr0_5 : Kd.C (Kd.int .i64) w A0_5 l0_5.length l0_5) (hc0_5 : l0_5.length ≤ c0_5) (h : arb_Right.f a0_0 a0_1 a0_2 a0_3 a0_4 l0_5 a1 a2 a3 = some (r1, r2, r3, r4, r5, r6, r7)) :
  Calls Try.prog 40 #[.agg #[.int .i64 a0_0, .int .i64 a0_1, .int .i64 a0_2, .int .i64 a0_3, .int .i64 a0_4, .slice A0_5 l0_5.length c0_5], .int .i64 a1, .int .i64 a2, .string a3] w fun e w' => ∃ v5_ : Value, e = .returned (.tuple #[.agg #[.int .i64 r1, .int .i64 r2, .int .i64 r3, .int .i64 r4, .int .i64 r5, v5_], .bool r7]) ∧ Kd.R k26 26 w' w.heap.size (fun _ => True) v5_ r6 ∧ Below w.heap.size w w' := by
 have hu24 := Try.underlying24
 have hu29 := Try.underlying29
 have HR0_5 := Aside0.mk hr0_5
 have HC0_5 := Aside0.mk hc0_5
 clear hr0_5 hc0_5
 have HB := Aside0.mk (Below.refl w.heap.size w)
 have H : ((frame_Read.f a0_0 a0_1 a0_2 a0_3 a0_4 l0_5 a3).bind fun btAd => (if btAd.2.2.2.2.2.2 = 0 then ((conf_Wire.f a0_0 a0_1 a0_2 a0_3 a0_4 l0_5 a1).bind fun tAk => (if btAd.2.1 = tAk then (if btAd.2.2.1 = a2 then (some (btAd.1, btAd.2.1, btAd.2.2.1, btAd.2.2.2.1, btAd.2.2.2.2.1, btAd.2.2.2.2.2.1, true)) else (some (0, 0, 0, 0, 0, ([] : List (S26)), false))) else (some (0, 0, 0, 0, 0, ([] : List (S26)), false)))) else (some (0, 0, 0, 0, 0, ([] : List (S26)), false)))) = some (r1, r2, r3, r4, r5, r6, r7) := h
 clear h
 replace H := Option.bind_eq_some_iff.mp H
 obtain ⟨⟨tAd, tAe, tAf, tAg, tAi, tAh, tAm⟩, A50, H⟩ := H
 try dsimp only at H
 have A5 := Aside0.mk A50
 clear A50
 by_cases c6 : tAm = 0
 ·
  rw [if_pos c6] at H
  have c6b0 : (tAm == 0) = true := beq_iff_eq.mpr c6
  have c6b1 : (tAm != 0) = false := bne_eq_false_iff_eq.mpr c6
  clear c6
  replace H := Option.bind_eq_some_iff.mp H
  obtain ⟨tAk, A70, H⟩ := H
  try dsimp only at H
  have A7 := Aside0.mk A70
  clear A70
  by_cases c8 : tAe = tAk
  ·
   rw [if_pos c8] at H
   have c8b0 : (tAe == tAk) = true := beq_iff_eq.mpr c8
   have c8b1 : (tAe != tAk) = false := bne_eq_false_iff_eq.mpr c8
   clear c8
   by_cases c9 : tAf = a2
   ·
    rw [if_pos c9] at H
    have c9b0 : (tAf == a2) = true := beq_iff_eq.mpr c9
    have c9b1 : (tAf != a2) = false := bne_eq_false_iff_eq.mpr c9
    clear c9
    simp only [Option.some.injEq, Prod.mk.injEq] at H
    obtain ⟨rfl, rfl, rfl, rfl, rfl, rfl, rfl⟩ := H
    go_enter Try.func40, Try.ntmps40
    try go_wp2_with (first | ((with_reducible refine gate_dst (N := 4) rfl ?_); refine be_ 4 #[.int .i64 a0_0, .int .i64 a0_1, .int .i64 a0_2, .int .i64 a0_3, .int .i64 a0_4, .slice A0_5 l0_5.length c0_5] 24 ?_; intro gbAb hg w10 hbox hb; have BKAb := Aside0.mk (hbox); have GWAb := Aside0.mk ((by rw [hg]; exact (below_size (pH_ HB.out)) : w.heap.size ≤ gbAb)); have GEAb := Aside0.mk ((by rw [hg]; exact (below_size (pH_ HB.out)) : w.heap.size ≤ gbAb)); replace HB := bs_ HB hb; clear hb hbox hg) | ((with_reducible refine gate_dst (N := 8) rfl ?_); refine be_ 8 #[.int .i64 0, .int .i64 0, .int .i64 0, .int .i64 0, .int .i64 0, .slice none 0 0] 29 ?_; intro gbAc hg w11 hbox hb; have BKAc := Aside0.mk (hbox); have GWAc := Aside0.mk ((by rw [hg]; exact (below_size (pH_ HB.out)) : w.heap.size ≤ gbAc)); have GEAc := Aside0.mk ((by rw [hg]; exact (below_size (pH_ HB.out)) : w.heap.size ≤ gbAc)); have NBAb_Ac := Aside0.mk (ltB_ hg BKAb.out); have NBAc_Ab := Aside0.mk (ltB_ hg BKAb.out).symm; replace BKAb := bb_ BKAb hb; replace HB := bs_ HB hb; clear hb hbox hg; have hnb12 := NBAb_Ac.out; have hnc12 := NBAc_Ab.out; obtain ⟨hcz13_0, hcz13_1, hcz13_2, hcz13_3, hcz13_4, hcz13_5⟩ := c6_ BKAb; obtain ⟨hfz13_0, hfz13_1, hfz13_2, hfz13_3, hfz13_4, hfz13_5⟩ := f6_ BKAb) | ((with_reducible refine gate_callee (f := 35) rfl ?_); refine gL_ 15 Try.func35 #[.agg #[.int .i64 a0_0, .int .i64 a0_1, .int .i64 a0_2, .int .i64 a0_3, .int .i64 a0_4, .slice A0_5 l0_5.length c0_5], .string a3] ?_; (with_reducible refine (frame_Read.calls a0_0 a0_1 a0_2 a0_3 a0_4 _ _ l0_5 a3 tAd tAe tAf tAg tAi tAh tAm _ ?side1 ?side2 A5.out).mono ?_); (case side1 => exact cC_ (Kd.C_below HR0_5.out HB.out)); (case side2 => exact HC0_5.out); rintro e w14 ⟨vAn, rfl, ho0, hb⟩; refine ⟨_, rfl, ?_⟩; have HOAj := Aside0.mk (Kd.R_lower ho0 (below_size (pH_ HB.out))); replace BKAb := bb_ BKAb hb; replace BKAc := bb_ BKAc hb; replace HB := bs_ HB hb; (try clear hb); (try clear hb2); (try clear hk); (try clear hi); (try clear ho0)) | ((with_reducible refine gate_dst (N := 10) rfl ?_); refine be_ 10 #[.int .i64 0, .int .i64 0, .int .i64 0, .int .i64 0, .int .i64 0, .slice none 0 0] 29 ?_; intro gbAa hg w15 hbox hb; have BKAa := Aside0.mk (hbox); have GWAa := Aside0.mk ((by rw [hg]; exact (below_size (pH_ HB.out)) : w.heap.size ≤ gbAa)); have GEAa := Aside0.mk ((by rw [hg]; exact (below_size (pH_ HB.out)) : w.heap.size ≤ gbAa)); have NBAb_Aa := Aside0.mk (ltB_ hg BKAb.out); have NBAa_Ab := Aside0.mk (ltB_ hg BKAb.out).symm; have NBAc_Aa := Aside0.mk (ltB_ hg BKAc.out); have NBAa_Ac := Aside0.mk (ltB_ hg BKAc.out).symm; replace HOAj := Aside0.mk (Kd.R_below (pR_ HOAj.out) hb); replace BKAb := bb_ BKAb hb; replace BKAc := bb_ BKAc hb; replace HB := bs_ HB hb; clear hb hbox hg; have hnb16 := NBAa_Ab.out; have hnc16 := NBAb_Aa.out; have hnb17 := NBAa_Ac.out; have hnc17 := NBAc_Aa.out; obtain ⟨hcz18_0, hcz18_1, hcz18_2, hcz18_3, hcz18_4, hcz18_5⟩ := c6_ BKAa; obtain ⟨hfz18_0, hfz18_1, hfz18_2, hfz18_3, hfz18_4, hfz18_5⟩ := f6_ BKAa; obtain ⟨Ao19, co19, eo19⟩ := Kd.R_slice HOAj.out; subst eo19))
    have n0_ : Aside0 (Kd.R k26 26 ((((((w15.setCell ⟨gbAa, 0, none⟩ (.int .i64 tAd)).setCell ⟨gbAa, 1, none⟩ (.int .i64 tAe)).setCell ⟨gbAa, 2, none⟩ (.int .i64 tAf)).setCell ⟨gbAa, 3, none⟩ (.int .i64 tAg)).setCell ⟨gbAa, 4, none⟩ (.int .i64 tAi)).setCell ⟨gbAa, 5, none⟩ (.slice Ao19 tAh.length co19)) w.heap.size (fun _ => True) (.slice Ao19 tAh.length co19) tAh) := ⟨by (with_reducible repeat (first | apply Kd.R_alloc | apply Kd.R_drewN | apply Kd.R_drew)); exact Kd.R_mono (Kd.R_far (p := ⟨gbAa, 5, none⟩) (Kd.R_far (p := ⟨gbAa, 4, none⟩) (Kd.R_far (p := ⟨gbAa, 3, none⟩) (Kd.R_far (p := ⟨gbAa, 2, none⟩) (Kd.R_far (p := ⟨gbAa, 1, none⟩) (Kd.R_far (p := ⟨gbAa, 0, none⟩) (Kd.R_types HOAj.out BKAa.out (by decide)) (fun _ hk => hk.2) (.int .i64 tAd)) (fun _ hk => hk.2) (.int .i64 tAe)) (fun _ hk => hk.2) (.int .i64 tAf)) (fun _ hk => hk.2) (.int .i64 tAg)) (fun _ hk => hk.2) (.int .i64 tAi)) (fun _ hk => hk.2) (.slice Ao19 tAh.length co19)) (fun _ hk => trivial)⟩
    have n1_ : Aside0 (((((((w15.setCell ⟨gbAa, 0, none⟩ (.int .i64 tAd)).setCell ⟨gbAa, 1, none⟩ (.int .i64 tAe)).setCell ⟨gbAa, 2, none⟩ (.int .i64 tAf)).setCell ⟨gbAa, 3, none⟩ (.int .i64 tAg)).setCell ⟨gbAa, 4, none⟩ (.int .i64 tAi)).setCell ⟨gbAa, 5, none⟩ (.slice Ao19 tAh.length co19)).heap[gbAb]? = some (.cells #[.int .i64 a0_0, .int .i64 a0_1, .int .i64 a0_2, .int .i64 a0_3, .int .i64 a0_4, .slice A0_5 l0_5.length c0_5] 24 (0, 0))) := ⟨bF_ BKAb.out NBAb_Aa.out⟩
    have n2_ : Aside0 (((((((w15.setCell ⟨gbAa, 0, none⟩ (.int .i64 tAd)).setCell ⟨gbAa, 1, none⟩ (.int .i64 tAe)).setCell ⟨gbAa, 2, none⟩ (.int .i64 tAf)).setCell ⟨gbAa, 3, none⟩ (.int .i64 tAg)).setCell ⟨gbAa, 4, none⟩ (.int .i64 tAi)).setCell ⟨gbAa, 5, none⟩ (.slice Ao19 tAh.length co19)).heap[gbAc]? = some (.cells #[.int .i64 0, .int .i64 0, .int .i64 0, .int .i64 0, .int .i64 0, .slice none 0 0] 29 (0, 0))) := ⟨bF_ BKAc.out NBAc_Aa.out⟩
    have n3_ : Aside0 (((((((w15.setCell ⟨gbAa, 0, none⟩ (.int .i64 tAd)).setCell ⟨gbAa, 1, none⟩ (.int .i64 tAe)).setCell ⟨gbAa, 2, none⟩ (.int .i64 tAf)).setCell ⟨gbAa, 3, none⟩ (.int .i64 tAg)).setCell ⟨gbAa, 4, none⟩ (.int .i64 tAi)).setCell ⟨gbAa, 5, none⟩ (.slice Ao19 tAh.length co19)).heap[gbAa]? = some (.cells #[.int .i64 tAd, .int .i64 tAe, .int .i64 tAf, .int .i64 tAg, .int .i64 tAi, .slice Ao19 tAh.length co19] 29 (0, 0))) := ⟨by (with_reducible repeat (first | refine blk_drewN ?_ _ | refine blk_drew ?_ | refine blk_alloc ?_ _)); refine blk_put (cs := #[.int .i64 tAd, .int .i64 tAe, .int .i64 tAf, .int .i64 tAg, .int .i64 tAi, .slice none 0 0]) ?_ 5 _ rfl; (with_reducible repeat (first | refine blk_drewN ?_ _ | refine blk_drew ?_ | refine blk_alloc ?_ _)); refine blk_put (cs := #[.int .i64 tAd, .int .i64 tAe, .int .i64 tAf, .int .i64 tAg, .int .i64 0, .slice none 0 0]) ?_ 4 _ rfl; (with_reducible repeat (first | refine blk_drewN ?_ _ | refine blk_drew ?_ | refine blk_alloc ?_ _)); refine blk_put (cs := #[.int .i64 tAd, .int .i64 tAe, .int .i64 tAf, .int .i64 0, .int .i64 0, .slice none 0 0]) ?_ 3 _ rfl; (with_reducible repeat (first | refine blk_drewN ?_ _ | refine blk_drew ?_ | refine blk_alloc ?_ _)); refine blk_put (cs := #[.int .i64 tAd, .int .i64 tAe, .int .i64 0, .int .i64 0, .int .i64 0, .slice none 0 0]) ?_ 2 _ rfl; (with_reducible repeat (first | refine blk_drewN ?_ _ | refine blk_drew ?_ | refine blk_alloc ?_ _)); refine blk_put (cs := #[.int .i64 tAd, .int .i64 0, .int .i64 0, .int .i64 0, .int .i64 0, .slice none 0 0]) ?_ 1 _ rfl; (with_reducible repeat (first | refine blk_drewN ?_ _ | refine blk_drew ?_ | refine blk_alloc ?_ _)); refine blk_put (cs := #[.int .i64 0, .int .i64 0, .int .i64 0, .int .i64 0, .int .i64 0, .slice none 0 0]) ?_ 0 _ rfl; (with_reducible repeat (first | refine blk_drewN ?_ _ | refine blk_drew ?_ | refine blk_alloc ?_ _)); exact BKAa.out⟩
    have n4_ : Aside0 (Below w.heap.size w ((((((w15.setCell ⟨gbAa, 0, none⟩ (.int .i64 tAd)).setCell ⟨gbAa, 1, none⟩ (.int .i64 tAe)).setCell ⟨gbAa, 2, none⟩ (.int .i64 tAf)).setCell ⟨gbAa, 3, none⟩ (.int .i64 tAg)).setCell ⟨gbAa, 4, none⟩ (.int .i64 tAi)).setCell ⟨gbAa, 5, none⟩ (.slice Ao19 tAh.length co19))) := ⟨pH_ HB.out⟩
    (try clear HOAj)
    (try clear BKAb)
    (try clear BKAc)
    (try clear BKAa)
    (try clear HB)
    generalize ((((((w15.setCell ⟨gbAa, 0, none⟩ (.int .i64 tAd)).setCell ⟨gbAa, 1, none⟩ (.int .i64 tAe)).setCell ⟨gbAa, 2, none⟩ (.int .i64 tAf)).setCell ⟨gbAa, 3, none⟩ (.int .i64 tAg)).setCell ⟨gbAa, 4, none⟩ (.int .i64 tAi)).setCell ⟨gbAa, 5, none⟩ (.slice Ao19 tAh.length co19)) = w20 at n0_ n1_ n2_ n3_ n4_ ⊢
    have HOAj := n0_
    have BKAb := n1_
    have BKAc := n2_
    have BKAa := n3_
    have HB := n4_
    clear n0_ n1_ n2_ n3_ n4_
    replace HOAj := Aside0.mk (Kd.R_drew HOAj.out)
    replace BKAb := Aside0.mk (blk_drew BKAb.out)
    replace BKAc := Aside0.mk (blk_drew BKAc.out)
    replace BKAa := Aside0.mk (blk_drew BKAa.out)
    replace HB := Aside0.mk (below_drew1 HB.out)
    refine start_ (n := 16) (S := fun w' => w'.cell? ⟨gbAa, 0, none⟩ = some (.int .i64 tAd) ∧ w'.cell? ⟨gbAa, 1, none⟩ = some (.int .i64 tAe) ∧ w'.cell? ⟨gbAa, 2, none⟩ = some (.int .i64 tAf) ∧ w'.cell? ⟨gbAa, 3, none⟩ = some (.int .i64 tAg) ∧ w'.cell? ⟨gbAa, 4, none⟩ = some (.int .i64 tAi) ∧ w'.cell? ⟨gbAa, 5, none⟩ = some (.slice Ao19 tAh.length co19) ∧ w'.cell? ⟨gbAb, 0, none⟩ = some (.int .i64 a0_0) ∧ w'.cell? ⟨gbAb, 1, none⟩ = some (.int .i64 a0_1) ∧ w'.cell? ⟨gbAb, 2, none⟩ = some (.int .i64 a0_2) ∧ w'.cell? ⟨gbAb, 3, none⟩ = some (.int .i64 a0_3) ∧ w'.cell? ⟨gbAb, 4, none⟩ = some (.int .i64 a0_4) ∧ w'.cell? ⟨gbAb, 5, none⟩ = some (.slice A0_5 l0_5.length c0_5)) (ds := []) #[false, false, false, false, false, false, false, false, false, false, false, false, false, false, false, false] (by kernel_rfl) rfl rfl ⟨bc_ BKAa 0, bc_ BKAa 1, bc_ BKAa 2, bc_ BKAa 3, bc_ BKAa 4, bc_ BKAa 5, bc_ BKAb 0, bc_ BKAb 1, bc_ BKAb 2, bc_ BKAb 3, bc_ BKAb 4, bc_ BKAb 5⟩ (fun hHeld => ?_); refine with_tabW arb_Right.tab2 arb_Right.bits2 (fun HT_ HW_ => ?_)
    generalize w20.drew = w21 at HOAj BKAb BKAc BKAa HB hHeld ⊢
    refine pq_ 0 18 HT_ ?_
    refine pq_ 1 19 HT_ ?_
    refine pq_ 2 20 HT_ ?_
    refine pq_ 3 21 HT_ ?_
    refine pq_ 6 24 HT_ ?_
    refine tq_ 4 22 HT_ HW_ hHeld ?_
    refine tq_ 5 23 HT_ HW_ hHeld ?_
    refine oq_ 7 25 HT_ (fun K hK => ?_)
    refine gs_ Try.func73 #[.agg #[.int .i64 a0_0, .int .i64 a0_1, .int .i64 a0_2, .int .i64 a0_3, .int .i64 a0_4, .slice A0_5 l0_5.length c0_5], .int .i64 a1] ?_
    with_reducible refine (conf_Wire.calls a0_0 a0_1 a0_2 a0_3 a0_4 _ _ l0_5 a1 tAk _ ?side1 ?side2 A7.out).mono ?_
    (case side1 => exact cC_ (Kd.C_below HR0_5.out HB.out))
    (case side2 => exact HC0_5.out)
    rintro e w22 ⟨rfl, hb⟩
    refine ⟨_, rfl, ?_⟩
    replace HOAj := Aside0.mk (Kd.R_below (pR_ HOAj.out) hb)
    replace BKAb := bb_ BKAb hb
    replace BKAc := bb_ BKAc hb
    replace BKAa := bb_ BKAa hb
    replace HB := bs_ HB hb
    (try clear hb)
    (try clear hb2)
    (try clear hk)
    (try clear hi)
    refine hK.out _ _ ⟨bc_ BKAa 0, bc_ BKAa 1, bc_ BKAa 2, bc_ BKAa 3, bc_ BKAa 4, bc_ BKAa 5, bc_ BKAb 0, bc_ BKAb 1, bc_ BKAb 2, bc_ BKAb 3, bc_ BKAb 4, bc_ BKAb 5⟩ (fun hHeld => ?_)
    clear hK K
    refine nq_ 25 ?_
    refine pq_ 8 26 HT_ ?_
    refine pq_ 9 27 HT_ ?_
    refine pq_ 10 28 HT_ ?_
    refine pq_ 11 29 HT_ ?_
    refine pq_ 13 31 HT_ ?_
    refine tq_ 12 30 HT_ HW_ hHeld ?_
    refine pq_ 14 32 HT_ ?_
    refine pq_ 15 33 HT_ ?_
    refine done_ (done_of HT_.out (by kernel_rfl)) ?_
    obtain ⟨hcz23_0, hcz23_1, hcz23_2, hcz23_3, hcz23_4, hcz23_5⟩ := c6_ BKAa
    obtain ⟨hfz23_0, hfz23_1, hfz23_2, hfz23_3, hfz23_4, hfz23_5⟩ := f6_ BKAa
    obtain ⟨hcz24_0, hcz24_1, hcz24_2, hcz24_3, hcz24_4, hcz24_5⟩ := c6_ BKAc
    obtain ⟨hfz24_0, hfz24_1, hfz24_2, hfz24_3, hfz24_4, hfz24_5⟩ := f6_ BKAc
    try go_wp2
    refine bodyPost_ret (results_ct rfl _ _ gbAc 29 #[.int .i64 tAd, .int .i64 tAe, .int .i64 tAf, .int .i64 tAg, .int .i64 tAi, .slice Ao19 tAh.length co19] (0, 0) _ rfl (by (with_reducible repeat (first | refine blk_drewN ?_ _ | refine blk_drew ?_ | refine blk_alloc ?_ _)); refine blk_put (cs := #[.int .i64 tAd, .int .i64 tAe, .int .i64 tAf, .int .i64 tAg, .int .i64 tAi, .slice none 0 0]) ?_ 5 _ rfl; (with_reducible repeat (first | refine blk_drewN ?_ _ | refine blk_drew ?_ | refine blk_alloc ?_ _)); refine blk_put (cs := #[.int .i64 tAd, .int .i64 tAe, .int .i64 tAf, .int .i64 tAg, .int .i64 0, .slice none 0 0]) ?_ 4 _ rfl; (with_reducible repeat (first | refine blk_drewN ?_ _ | refine blk_drew ?_ | refine blk_alloc ?_ _)); refine blk_put (cs := #[.int .i64 tAd, .int .i64 tAe, .int .i64 tAf, .int .i64 0, .int .i64 0, .slice none 0 0]) ?_ 3 _ rfl; (with_reducible repeat (first | refine blk_drewN ?_ _ | refine blk_drew ?_ | refine blk_alloc ?_ _)); refine blk_put (cs := #[.int .i64 tAd, .int .i64 tAe, .int .i64 0, .int .i64 0, .int .i64 0, .slice none 0 0]) ?_ 2 _ rfl; (with_reducible repeat (first | refine blk_drewN ?_ _ | refine blk_drew ?_ | refine blk_alloc ?_ _)); refine blk_put (cs := #[.int .i64 tAd, .int .i64 0, .int .i64 0, .int .i64 0, .int .i64 0, .slice none 0 0]) ?_ 1 _ rfl; (with_reducible repeat (first | refine blk_drewN ?_ _ | refine blk_drew ?_ | refine blk_alloc ?_ _)); refine blk_put (cs := #[.int .i64 0, .int .i64 0, .int .i64 0, .int .i64 0, .int .i64 0, .slice none 0 0]) ?_ 0 _ rfl; (with_reducible repeat (first | refine blk_drewN ?_ _ | refine blk_drew ?_ | refine blk_alloc ?_ _)); exact BKAc.out) Try.underlying29 rfl (by kernel_rfl)) rfl ?_
    exact ⟨_, by first | rfl | (simp [errW_none, errW_some] <;> rfl) | (simp [*, errW_none, errW_some] <;> rfl), by (with_reducible repeat (first | apply Kd.R_alloc | apply Kd.R_drewN | apply Kd.R_drew)); exact Kd.R_mono (Kd.R_far (p := ⟨gbAc, 5, none⟩) (Kd.R_far (p := ⟨gbAc, 4, none⟩) (Kd.R_far (p := ⟨gbAc, 3, none⟩) (Kd.R_far (p := ⟨gbAc, 2, none⟩) (Kd.R_far (p := ⟨gbAc, 1, none⟩) (Kd.R_far (p := ⟨gbAc, 0, none⟩) (Kd.R_types HOAj.out BKAc.out (by decide)) (fun _ hk => hk.2) (.int .i64 tAd)) (fun _ hk => hk.2) (.int .i64 tAe)) (fun _ hk => hk.2) (.int .i64 tAf)) (fun _ hk => hk.2) (.int .i64 tAg)) (fun _ hk => hk.2) (.int .i64 tAi)) (fun _ hk => hk.2) (.slice Ao19 tAh.length co19)) (fun _ hk => trivial), pH_ HB.out⟩
   rw [if_neg c9] at H
   have c9b0 : (tAf == a2) = false := beq_eq_false_iff_ne.mpr c9
   have c9b1 : (tAf != a2) = true := bne_iff_ne.mpr c9
   simp only [Option.some.injEq, Prod.mk.injEq] at H
   obtain ⟨rfl, rfl, rfl, rfl, rfl, rfl, rfl⟩ := H
   go_enter Try.func40, Try.ntmps40
   try go_wp2_with (first | ((with_reducible refine gate_dst (N := 4) rfl ?_); refine be_ 4 #[.int .i64 a0_0, .int .i64 a0_1, .int .i64 a0_2, .int .i64 a0_3, .int .i64 a0_4, .slice A0_5 l0_5.length c0_5] 24 ?_; intro gbAb hg w25 hbox hb; have BKAb := Aside0.mk (hbox); have GWAb := Aside0.mk ((by rw [hg]; exact (below_size (pH_ HB.out)) : w.heap.size ≤ gbAb)); have GEAb := Aside0.mk ((by rw [hg]; exact (below_size (pH_ HB.out)) : w.heap.size ≤ gbAb)); replace HB := bs_ HB hb; clear hb hbox hg) | ((with_reducible refine gate_dst (N := 8) rfl ?_); refine be_ 8 #[.int .i64 0, .int .i64 0, .int .i64 0, .int .i64 0, .int .i64 0, .slice none 0 0] 29 ?_; intro gbAc hg w26 hbox hb; have BKAc := Aside0.mk (hbox); have GWAc := Aside0.mk ((by rw [hg]; exact (below_size (pH_ HB.out)) : w.heap.size ≤ gbAc)); have GEAc := Aside0.mk ((by rw [hg]; exact (below_size (pH_ HB.out)) : w.heap.size ≤ gbAc)); have NBAb_Ac := Aside0.mk (ltB_ hg BKAb.out); have NBAc_Ab := Aside0.mk (ltB_ hg BKAb.out).symm; replace BKAb := bb_ BKAb hb; replace HB := bs_ HB hb; clear hb hbox hg; have hnb27 := NBAb_Ac.out; have hnc27 := NBAc_Ab.out; obtain ⟨hcz28_0, hcz28_1, hcz28_2, hcz28_3, hcz28_4, hcz28_5⟩ := c6_ BKAb; obtain ⟨hfz28_0, hfz28_1, hfz28_2, hfz28_3, hfz28_4, hfz28_5⟩ := f6_ BKAb) | ((with_reducible refine gate_callee (f := 35) rfl ?_); refine gL_ 15 Try.func35 #[.agg #[.int .i64 a0_0, .int .i64 a0_1, .int .i64 a0_2, .int .i64 a0_3, .int .i64 a0_4, .slice A0_5 l0_5.length c0_5], .string a3] ?_; (with_reducible refine (frame_Read.calls a0_0 a0_1 a0_2 a0_3 a0_4 _ _ l0_5 a3 tAd tAe tAf tAg tAi tAh tAm _ ?side1 ?side2 A5.out).mono ?_); (case side1 => exact cC_ (Kd.C_below HR0_5.out HB.out)); (case side2 => exact HC0_5.out); rintro e w29 ⟨vAn, rfl, ho0, hb⟩; refine ⟨_, rfl, ?_⟩; have HOAj := Aside0.mk (Kd.R_lower ho0 (below_size (pH_ HB.out))); replace BKAb := bb_ BKAb hb; replace BKAc := bb_ BKAc hb; replace HB := bs_ HB hb; (try clear hb); (try clear hb2); (try clear hk); (try clear hi); (try clear ho0)) | ((with_reducible refine gate_dst (N := 10) rfl ?_); refine be_ 10 #[.int .i64 0, .int .i64 0, .int .i64 0, .int .i64 0, .int .i64 0, .slice none 0 0] 29 ?_; intro gbAa hg w30 hbox hb; have BKAa := Aside0.mk (hbox); have GWAa := Aside0.mk ((by rw [hg]; exact (below_size (pH_ HB.out)) : w.heap.size ≤ gbAa)); have GEAa := Aside0.mk ((by rw [hg]; exact (below_size (pH_ HB.out)) : w.heap.size ≤ gbAa)); have NBAb_Aa := Aside0.mk (ltB_ hg BKAb.out); have NBAa_Ab := Aside0.mk (ltB_ hg BKAb.out).symm; have NBAc_Aa := Aside0.mk (ltB_ hg BKAc.out); have NBAa_Ac := Aside0.mk (ltB_ hg BKAc.out).symm; replace HOAj := Aside0.mk (Kd.R_below (pR_ HOAj.out) hb); replace BKAb := bb_ BKAb hb; replace BKAc := bb_ BKAc hb; replace HB := bs_ HB hb; clear hb hbox hg; have hnb31 := NBAa_Ab.out; have hnc31 := NBAb_Aa.out; have hnb32 := NBAa_Ac.out; have hnc32 := NBAc_Aa.out; obtain ⟨hcz33_0, hcz33_1, hcz33_2, hcz33_3, hcz33_4, hcz33_5⟩ := c6_ BKAa; obtain ⟨hfz33_0, hfz33_1, hfz33_2, hfz33_3, hfz33_4, hfz33_5⟩ := f6_ BKAa; obtain ⟨Ao34, co34, eo34⟩ := Kd.R_slice HOAj.out; subst eo34))
   have n0_ : Aside0 (Kd.R k26 26 ((((((w30.setCell ⟨gbAa, 0, none⟩ (.int .i64 tAd)).setCell ⟨gbAa, 1, none⟩ (.int .i64 tAe)).setCell ⟨gbAa, 2, none⟩ (.int .i64 tAf)).setCell ⟨gbAa, 3, none⟩ (.int .i64 tAg)).setCell ⟨gbAa, 4, none⟩ (.int .i64 tAi)).setCell ⟨gbAa, 5, none⟩ (.slice Ao34 tAh.length co34)) w.heap.size (fun _ => True) (.slice Ao34 tAh.length co34) tAh) := ⟨by (with_reducible repeat (first | apply Kd.R_alloc | apply Kd.R_drewN | apply Kd.R_drew)); exact Kd.R_mono (Kd.R_far (p := ⟨gbAa, 5, none⟩) (Kd.R_far (p := ⟨gbAa, 4, none⟩) (Kd.R_far (p := ⟨gbAa, 3, none⟩) (Kd.R_far (p := ⟨gbAa, 2, none⟩) (Kd.R_far (p := ⟨gbAa, 1, none⟩) (Kd.R_far (p := ⟨gbAa, 0, none⟩) (Kd.R_types HOAj.out BKAa.out (by decide)) (fun _ hk => hk.2) (.int .i64 tAd)) (fun _ hk => hk.2) (.int .i64 tAe)) (fun _ hk => hk.2) (.int .i64 tAf)) (fun _ hk => hk.2) (.int .i64 tAg)) (fun _ hk => hk.2) (.int .i64 tAi)) (fun _ hk => hk.2) (.slice Ao34 tAh.length co34)) (fun _ hk => trivial)⟩
   have n1_ : Aside0 (((((((w30.setCell ⟨gbAa, 0, none⟩ (.int .i64 tAd)).setCell ⟨gbAa, 1, none⟩ (.int .i64 tAe)).setCell ⟨gbAa, 2, none⟩ (.int .i64 tAf)).setCell ⟨gbAa, 3, none⟩ (.int .i64 tAg)).setCell ⟨gbAa, 4, none⟩ (.int .i64 tAi)).setCell ⟨gbAa, 5, none⟩ (.slice Ao34 tAh.length co34)).heap[gbAb]? = some (.cells #[.int .i64 a0_0, .int .i64 a0_1, .int .i64 a0_2, .int .i64 a0_3, .int .i64 a0_4, .slice A0_5 l0_5.length c0_5] 24 (0, 0))) := ⟨bF_ BKAb.out NBAb_Aa.out⟩
   have n2_ : Aside0 (((((((w30.setCell ⟨gbAa, 0, none⟩ (.int .i64 tAd)).setCell ⟨gbAa, 1, none⟩ (.int .i64 tAe)).setCell ⟨gbAa, 2, none⟩ (.int .i64 tAf)).setCell ⟨gbAa, 3, none⟩ (.int .i64 tAg)).setCell ⟨gbAa, 4, none⟩ (.int .i64 tAi)).setCell ⟨gbAa, 5, none⟩ (.slice Ao34 tAh.length co34)).heap[gbAc]? = some (.cells #[.int .i64 0, .int .i64 0, .int .i64 0, .int .i64 0, .int .i64 0, .slice none 0 0] 29 (0, 0))) := ⟨bF_ BKAc.out NBAc_Aa.out⟩
   have n3_ : Aside0 (((((((w30.setCell ⟨gbAa, 0, none⟩ (.int .i64 tAd)).setCell ⟨gbAa, 1, none⟩ (.int .i64 tAe)).setCell ⟨gbAa, 2, none⟩ (.int .i64 tAf)).setCell ⟨gbAa, 3, none⟩ (.int .i64 tAg)).setCell ⟨gbAa, 4, none⟩ (.int .i64 tAi)).setCell ⟨gbAa, 5, none⟩ (.slice Ao34 tAh.length co34)).heap[gbAa]? = some (.cells #[.int .i64 tAd, .int .i64 tAe, .int .i64 tAf, .int .i64 tAg, .int .i64 tAi, .slice Ao34 tAh.length co34] 29 (0, 0))) := ⟨by (with_reducible repeat (first | refine blk_drewN ?_ _ | refine blk_drew ?_ | refine blk_alloc ?_ _)); refine blk_put (cs := #[.int .i64 tAd, .int .i64 tAe, .int .i64 tAf, .int .i64 tAg, .int .i64 tAi, .slice none 0 0]) ?_ 5 _ rfl; (with_reducible repeat (first | refine blk_drewN ?_ _ | refine blk_drew ?_ | refine blk_alloc ?_ _)); refine blk_put (cs := #[.int .i64 tAd, .int .i64 tAe, .int .i64 tAf, .int .i64 tAg, .int .i64 0, .slice none 0 0]) ?_ 4 _ rfl; (with_reducible repeat (first | refine blk_drewN ?_ _ | refine blk_drew ?_ | refine blk_alloc ?_ _)); refine blk_put (cs := #[.int .i64 tAd, .int .i64 tAe, .int .i64 tAf, .int .i64 0, .int .i64 0, .slice none 0 0]) ?_ 3 _ rfl; (with_reducible repeat (first | refine blk_drewN ?_ _ | refine blk_drew ?_ | refine blk_alloc ?_ _)); refine blk_put (cs := #[.int .i64 tAd, .int .i64 tAe, .int .i64 0, .int .i64 0, .int .i64 0, .slice none 0 0]) ?_ 2 _ rfl; (with_reducible repeat (first | refine blk_drewN ?_ _ | refine blk_drew ?_ | refine blk_alloc ?_ _)); refine blk_put (cs := #[.int .i64 tAd, .int .i64 0, .int .i64 0, .int .i64 0, .int .i64 0, .slice none 0 0]) ?_ 1 _ rfl; (with_reducible repeat (first | refine blk_drewN ?_ _ | refine blk_drew ?_ | refine blk_alloc ?_ _)); refine blk_put (cs := #[.int .i64 0, .int .i64 0, .int .i64 0, .int .i64 0, .int .i64 0, .slice none 0 0]) ?_ 0 _ rfl; (with_reducible repeat (first | refine blk_drewN ?_ _ | refine blk_drew ?_ | refine blk_alloc ?_ _)); exact BKAa.out⟩
   have n4_ : Aside0 (Below w.heap.size w ((((((w30.setCell ⟨gbAa, 0, none⟩ (.int .i64 tAd)).setCell ⟨gbAa, 1, none⟩ (.int .i64 tAe)).setCell ⟨gbAa, 2, none⟩ (.int .i64 tAf)).setCell ⟨gbAa, 3, none⟩ (.int .i64 tAg)).setCell ⟨gbAa, 4, none⟩ (.int .i64 tAi)).setCell ⟨gbAa, 5, none⟩ (.slice Ao34 tAh.length co34))) := ⟨pH_ HB.out⟩
   (try clear HOAj)
   (try clear BKAb)
   (try clear BKAc)
   (try clear BKAa)
   (try clear HB)
   generalize ((((((w30.setCell ⟨gbAa, 0, none⟩ (.int .i64 tAd)).setCell ⟨gbAa, 1, none⟩ (.int .i64 tAe)).setCell ⟨gbAa, 2, none⟩ (.int .i64 tAf)).setCell ⟨gbAa, 3, none⟩ (.int .i64 tAg)).setCell ⟨gbAa, 4, none⟩ (.int .i64 tAi)).setCell ⟨gbAa, 5, none⟩ (.slice Ao34 tAh.length co34)) = w35 at n0_ n1_ n2_ n3_ n4_ ⊢
   have HOAj := n0_
   have BKAb := n1_
   have BKAc := n2_
   have BKAa := n3_
   have HB := n4_
   clear n0_ n1_ n2_ n3_ n4_
   replace HOAj := Aside0.mk (Kd.R_drew HOAj.out)
   replace BKAb := Aside0.mk (blk_drew BKAb.out)
   replace BKAc := Aside0.mk (blk_drew BKAc.out)
   replace BKAa := Aside0.mk (blk_drew BKAa.out)
   replace HB := Aside0.mk (below_drew1 HB.out)
   refine start_ (n := 16) (S := fun w' => w'.cell? ⟨gbAa, 0, none⟩ = some (.int .i64 tAd) ∧ w'.cell? ⟨gbAa, 1, none⟩ = some (.int .i64 tAe) ∧ w'.cell? ⟨gbAa, 2, none⟩ = some (.int .i64 tAf) ∧ w'.cell? ⟨gbAa, 3, none⟩ = some (.int .i64 tAg) ∧ w'.cell? ⟨gbAa, 4, none⟩ = some (.int .i64 tAi) ∧ w'.cell? ⟨gbAa, 5, none⟩ = some (.slice Ao34 tAh.length co34) ∧ w'.cell? ⟨gbAb, 0, none⟩ = some (.int .i64 a0_0) ∧ w'.cell? ⟨gbAb, 1, none⟩ = some (.int .i64 a0_1) ∧ w'.cell? ⟨gbAb, 2, none⟩ = some (.int .i64 a0_2) ∧ w'.cell? ⟨gbAb, 3, none⟩ = some (.int .i64 a0_3) ∧ w'.cell? ⟨gbAb, 4, none⟩ = some (.int .i64 a0_4) ∧ w'.cell? ⟨gbAb, 5, none⟩ = some (.slice A0_5 l0_5.length c0_5)) (ds := []) #[false, false, false, false, false, false, false, false, false, false, false, false, false, false, false, false] (by kernel_rfl) rfl rfl ⟨bc_ BKAa 0, bc_ BKAa 1, bc_ BKAa 2, bc_ BKAa 3, bc_ BKAa 4, bc_ BKAa 5, bc_ BKAb 0, bc_ BKAb 1, bc_ BKAb 2, bc_ BKAb 3, bc_ BKAb 4, bc_ BKAb 5⟩ (fun hHeld => ?_); refine with_tabW arb_Right.tab2 arb_Right.bits2 (fun HT_ HW_ => ?_)
   generalize w35.drew = w36 at HOAj BKAb BKAc BKAa HB hHeld ⊢
   refine pq_ 0 18 HT_ ?_
   refine pq_ 1 19 HT_ ?_
   refine pq_ 2 20 HT_ ?_
   refine pq_ 3 21 HT_ ?_
   refine pq_ 6 24 HT_ ?_
   refine tq_ 4 22 HT_ HW_ hHeld ?_
   refine tq_ 5 23 HT_ HW_ hHeld ?_
   refine oq_ 7 25 HT_ (fun K hK => ?_)
   refine gs_ Try.func73 #[.agg #[.int .i64 a0_0, .int .i64 a0_1, .int .i64 a0_2, .int .i64 a0_3, .int .i64 a0_4, .slice A0_5 l0_5.length c0_5], .int .i64 a1] ?_
   with_reducible refine (conf_Wire.calls a0_0 a0_1 a0_2 a0_3 a0_4 _ _ l0_5 a1 tAk _ ?side1 ?side2 A7.out).mono ?_
   (case side1 => exact cC_ (Kd.C_below HR0_5.out HB.out))
   (case side2 => exact HC0_5.out)
   rintro e w37 ⟨rfl, hb⟩
   refine ⟨_, rfl, ?_⟩
   replace HOAj := Aside0.mk (Kd.R_below (pR_ HOAj.out) hb)
   replace BKAb := bb_ BKAb hb
   replace BKAc := bb_ BKAc hb
   replace BKAa := bb_ BKAa hb
   replace HB := bs_ HB hb
   (try clear hb)
   (try clear hb2)
   (try clear hk)
   (try clear hi)
   refine hK.out _ _ ⟨bc_ BKAa 0, bc_ BKAa 1, bc_ BKAa 2, bc_ BKAa 3, bc_ BKAa 4, bc_ BKAa 5, bc_ BKAb 0, bc_ BKAb 1, bc_ BKAb 2, bc_ BKAb 3, bc_ BKAb 4, bc_ BKAb 5⟩ (fun hHeld => ?_)
   clear hK K
   refine nq_ 25 ?_
   refine pq_ 8 26 HT_ ?_
   refine pq_ 9 27 HT_ ?_
   refine pq_ 10 28 HT_ ?_
   refine pq_ 11 29 HT_ ?_
   refine pq_ 13 31 HT_ ?_
   refine tq_ 12 30 HT_ HW_ hHeld ?_
   refine pq_ 14 32 HT_ ?_
   refine pq_ 15 33 HT_ ?_
   refine done_ (done_of HT_.out (by kernel_rfl)) ?_
   obtain ⟨hcz38_0, hcz38_1, hcz38_2, hcz38_3, hcz38_4, hcz38_5⟩ := c6_ BKAc
   obtain ⟨hfz38_0, hfz38_1, hfz38_2, hfz38_3, hfz38_4, hfz38_5⟩ := f6_ BKAc
   try go_wp2
   refine bodyPost_ret (results_ct rfl _ _ gbAc 29 #[.int .i64 0, .int .i64 0, .int .i64 0, .int .i64 0, .int .i64 0, .slice none 0 0] (0, 0) _ rfl (by (with_reducible repeat (first | refine blk_drewN ?_ _ | refine blk_drew ?_ | refine blk_alloc ?_ _)); refine blk_put (cs := #[.int .i64 0, .int .i64 0, .int .i64 0, .int .i64 0, .int .i64 0, .slice none 0 0]) ?_ 5 _ rfl; (with_reducible repeat (first | refine blk_drewN ?_ _ | refine blk_drew ?_ | refine blk_alloc ?_ _)); refine blk_put (cs := #[.int .i64 0, .int .i64 0, .int .i64 0, .int .i64 0, .int .i64 0, .slice none 0 0]) ?_ 4 _ rfl; (with_reducible repeat (first | refine blk_drewN ?_ _ | refine blk_drew ?_ | refine blk_alloc ?_ _)); refine blk_put (cs := #[.int .i64 0, .int .i64 0, .int .i64 0, .int .i64 0, .int .i64 0, .slice none 0 0]) ?_ 3 _ rfl; (with_reducible repeat (first | refine blk_drewN ?_ _ | refine blk_drew ?_ | refine blk_alloc ?_ _)); refine blk_put (cs := #[.int .i64 0, .int .i64 0, .int .i64 0, .int .i64 0, .int .i64 0, .slice none 0 0]) ?_ 2 _ rfl; (with_reducible repeat (first | refine blk_drewN ?_ _ | refine blk_drew ?_ | refine blk_alloc ?_ _)); refine blk_put (cs := #[.int .i64 0, .int .i64 0, .int .i64 0, .int .i64 0, .int .i64 0, .slice none 0 0]) ?_ 1 _ rfl; (with_reducible repeat (first | refine blk_drewN ?_ _ | refine blk_drew ?_ | refine blk_alloc ?_ _)); refine blk_put (cs := #[.int .i64 0, .int .i64 0, .int .i64 0, .int .i64 0, .int .i64 0, .slice none 0 0]) ?_ 0 _ rfl; (with_reducible repeat (first | refine blk_drewN ?_ _ | refine blk_drew ?_ | refine blk_alloc ?_ _)); exact BKAc.out) Try.underlying29 rfl (by kernel_rfl)) rfl ?_
   exact ⟨_, by first | rfl | (simp [errW_none, errW_some] <;> rfl) | (simp [*, errW_none, errW_some] <;> rfl), by first | exact Kd.R_nil _ _ _ _ _ | exact Kd.N_nil _ _ _ _ _ | exact Kd.V_nil _ _ _ _ _ | exact Kd.Q_nil _ _ _ _ _ | exact Kd.S_nil _ _ _ _ _, pH_ HB.out⟩
  rw [if_neg c8] at H
  have c8b0 : (tAe == tAk) = false := beq_eq_false_iff_ne.mpr c8
  have c8b1 : (tAe != tAk) = true := bne_iff_ne.mpr c8
  simp only [Option.some.injEq, Prod.mk.injEq] at H
  obtain ⟨rfl, rfl, rfl, rfl, rfl, rfl, rfl⟩ := H
  go_enter Try.func40, Try.ntmps40
  try go_wp2_with (first | ((with_reducible refine gate_dst (N := 4) rfl ?_); refine be_ 4 #[.int .i64 a0_0, .int .i64 a0_1, .int .i64 a0_2, .int .i64 a0_3, .int .i64 a0_4, .slice A0_5 l0_5.length c0_5] 24 ?_; intro gbAb hg w39 hbox hb; have BKAb := Aside0.mk (hbox); have GWAb := Aside0.mk ((by rw [hg]; exact (below_size (pH_ HB.out)) : w.heap.size ≤ gbAb)); have GEAb := Aside0.mk ((by rw [hg]; exact (below_size (pH_ HB.out)) : w.heap.size ≤ gbAb)); replace HB := bs_ HB hb; clear hb hbox hg) | ((with_reducible refine gate_dst (N := 8) rfl ?_); refine be_ 8 #[.int .i64 0, .int .i64 0, .int .i64 0, .int .i64 0, .int .i64 0, .slice none 0 0] 29 ?_; intro gbAc hg w40 hbox hb; have BKAc := Aside0.mk (hbox); have GWAc := Aside0.mk ((by rw [hg]; exact (below_size (pH_ HB.out)) : w.heap.size ≤ gbAc)); have GEAc := Aside0.mk ((by rw [hg]; exact (below_size (pH_ HB.out)) : w.heap.size ≤ gbAc)); have NBAb_Ac := Aside0.mk (ltB_ hg BKAb.out); have NBAc_Ab := Aside0.mk (ltB_ hg BKAb.out).symm; replace BKAb := bb_ BKAb hb; replace HB := bs_ HB hb; clear hb hbox hg; have hnb41 := NBAb_Ac.out; have hnc41 := NBAc_Ab.out; obtain ⟨hcz42_0, hcz42_1, hcz42_2, hcz42_3, hcz42_4, hcz42_5⟩ := c6_ BKAb; obtain ⟨hfz42_0, hfz42_1, hfz42_2, hfz42_3, hfz42_4, hfz42_5⟩ := f6_ BKAb) | ((with_reducible refine gate_callee (f := 35) rfl ?_); refine gL_ 15 Try.func35 #[.agg #[.int .i64 a0_0, .int .i64 a0_1, .int .i64 a0_2, .int .i64 a0_3, .int .i64 a0_4, .slice A0_5 l0_5.length c0_5], .string a3] ?_; (with_reducible refine (frame_Read.calls a0_0 a0_1 a0_2 a0_3 a0_4 _ _ l0_5 a3 tAd tAe tAf tAg tAi tAh tAm _ ?side1 ?side2 A5.out).mono ?_); (case side1 => exact cC_ (Kd.C_below HR0_5.out HB.out)); (case side2 => exact HC0_5.out); rintro e w43 ⟨vAn, rfl, ho0, hb⟩; refine ⟨_, rfl, ?_⟩; have HOAj := Aside0.mk (Kd.R_lower ho0 (below_size (pH_ HB.out))); replace BKAb := bb_ BKAb hb; replace BKAc := bb_ BKAc hb; replace HB := bs_ HB hb; (try clear hb); (try clear hb2); (try clear hk); (try clear hi); (try clear ho0)) | ((with_reducible refine gate_dst (N := 10) rfl ?_); refine be_ 10 #[.int .i64 0, .int .i64 0, .int .i64 0, .int .i64 0, .int .i64 0, .slice none 0 0] 29 ?_; intro gbAa hg w44 hbox hb; have BKAa := Aside0.mk (hbox); have GWAa := Aside0.mk ((by rw [hg]; exact (below_size (pH_ HB.out)) : w.heap.size ≤ gbAa)); have GEAa := Aside0.mk ((by rw [hg]; exact (below_size (pH_ HB.out)) : w.heap.size ≤ gbAa)); have NBAb_Aa := Aside0.mk (ltB_ hg BKAb.out); have NBAa_Ab := Aside0.mk (ltB_ hg BKAb.out).symm; have NBAc_Aa := Aside0.mk (ltB_ hg BKAc.out); have NBAa_Ac := Aside0.mk (ltB_ hg BKAc.out).symm; replace HOAj := Aside0.mk (Kd.R_below (pR_ HOAj.out) hb); replace BKAb := bb_ BKAb hb; replace BKAc := bb_ BKAc hb; replace HB := bs_ HB hb; clear hb hbox hg; have hnb45 := NBAa_Ab.out; have hnc45 := NBAb_Aa.out; have hnb46 := NBAa_Ac.out; have hnc46 := NBAc_Aa.out; obtain ⟨hcz47_0, hcz47_1, hcz47_2, hcz47_3, hcz47_4, hcz47_5⟩ := c6_ BKAa; obtain ⟨hfz47_0, hfz47_1, hfz47_2, hfz47_3, hfz47_4, hfz47_5⟩ := f6_ BKAa; obtain ⟨Ao48, co48, eo48⟩ := Kd.R_slice HOAj.out; subst eo48))
  have n0_ : Aside0 (Kd.R k26 26 ((((((w44.setCell ⟨gbAa, 0, none⟩ (.int .i64 tAd)).setCell ⟨gbAa, 1, none⟩ (.int .i64 tAe)).setCell ⟨gbAa, 2, none⟩ (.int .i64 tAf)).setCell ⟨gbAa, 3, none⟩ (.int .i64 tAg)).setCell ⟨gbAa, 4, none⟩ (.int .i64 tAi)).setCell ⟨gbAa, 5, none⟩ (.slice Ao48 tAh.length co48)) w.heap.size (fun _ => True) (.slice Ao48 tAh.length co48) tAh) := ⟨by (with_reducible repeat (first | apply Kd.R_alloc | apply Kd.R_drewN | apply Kd.R_drew)); exact Kd.R_mono (Kd.R_far (p := ⟨gbAa, 5, none⟩) (Kd.R_far (p := ⟨gbAa, 4, none⟩) (Kd.R_far (p := ⟨gbAa, 3, none⟩) (Kd.R_far (p := ⟨gbAa, 2, none⟩) (Kd.R_far (p := ⟨gbAa, 1, none⟩) (Kd.R_far (p := ⟨gbAa, 0, none⟩) (Kd.R_types HOAj.out BKAa.out (by decide)) (fun _ hk => hk.2) (.int .i64 tAd)) (fun _ hk => hk.2) (.int .i64 tAe)) (fun _ hk => hk.2) (.int .i64 tAf)) (fun _ hk => hk.2) (.int .i64 tAg)) (fun _ hk => hk.2) (.int .i64 tAi)) (fun _ hk => hk.2) (.slice Ao48 tAh.length co48)) (fun _ hk => trivial)⟩
  have n1_ : Aside0 (((((((w44.setCell ⟨gbAa, 0, none⟩ (.int .i64 tAd)).setCell ⟨gbAa, 1, none⟩ (.int .i64 tAe)).setCell ⟨gbAa, 2, none⟩ (.int .i64 tAf)).setCell ⟨gbAa, 3, none⟩ (.int .i64 tAg)).setCell ⟨gbAa, 4, none⟩ (.int .i64 tAi)).setCell ⟨gbAa, 5, none⟩ (.slice Ao48 tAh.length co48)).heap[gbAb]? = some (.cells #[.int .i64 a0_0, .int .i64 a0_1, .int .i64 a0_2, .int .i64 a0_3, .int .i64 a0_4, .slice A0_5 l0_5.length c0_5] 24 (0, 0))) := ⟨bF_ BKAb.out NBAb_Aa.out⟩
  have n2_ : Aside0 (((((((w44.setCell ⟨gbAa, 0, none⟩ (.int .i64 tAd)).setCell ⟨gbAa, 1, none⟩ (.int .i64 tAe)).setCell ⟨gbAa, 2, none⟩ (.int .i64 tAf)).setCell ⟨gbAa, 3, none⟩ (.int .i64 tAg)).setCell ⟨gbAa, 4, none⟩ (.int .i64 tAi)).setCell ⟨gbAa, 5, none⟩ (.slice Ao48 tAh.length co48)).heap[gbAc]? = some (.cells #[.int .i64 0, .int .i64 0, .int .i64 0, .int .i64 0, .int .i64 0, .slice none 0 0] 29 (0, 0))) := ⟨bF_ BKAc.out NBAc_Aa.out⟩
  have n3_ : Aside0 (((((((w44.setCell ⟨gbAa, 0, none⟩ (.int .i64 tAd)).setCell ⟨gbAa, 1, none⟩ (.int .i64 tAe)).setCell ⟨gbAa, 2, none⟩ (.int .i64 tAf)).setCell ⟨gbAa, 3, none⟩ (.int .i64 tAg)).setCell ⟨gbAa, 4, none⟩ (.int .i64 tAi)).setCell ⟨gbAa, 5, none⟩ (.slice Ao48 tAh.length co48)).heap[gbAa]? = some (.cells #[.int .i64 tAd, .int .i64 tAe, .int .i64 tAf, .int .i64 tAg, .int .i64 tAi, .slice Ao48 tAh.length co48] 29 (0, 0))) := ⟨by (with_reducible repeat (first | refine blk_drewN ?_ _ | refine blk_drew ?_ | refine blk_alloc ?_ _)); refine blk_put (cs := #[.int .i64 tAd, .int .i64 tAe, .int .i64 tAf, .int .i64 tAg, .int .i64 tAi, .slice none 0 0]) ?_ 5 _ rfl; (with_reducible repeat (first | refine blk_drewN ?_ _ | refine blk_drew ?_ | refine blk_alloc ?_ _)); refine blk_put (cs := #[.int .i64 tAd, .int .i64 tAe, .int .i64 tAf, .int .i64 tAg, .int .i64 0, .slice none 0 0]) ?_ 4 _ rfl; (with_reducible repeat (first | refine blk_drewN ?_ _ | refine blk_drew ?_ | refine blk_alloc ?_ _)); refine blk_put (cs := #[.int .i64 tAd, .int .i64 tAe, .int .i64 tAf, .int .i64 0, .int .i64 0, .slice none 0 0]) ?_ 3 _ rfl; (with_reducible repeat (first | refine blk_drewN ?_ _ | refine blk_drew ?_ | refine blk_alloc ?_ _)); refine blk_put (cs := #[.int .i64 tAd, .int .i64 tAe, .int .i64 0, .int .i64 0, .int .i64 0, .slice none 0 0]) ?_ 2 _ rfl; (with_reducible repeat (first | refine blk_drewN ?_ _ | refine blk_drew ?_ | refine blk_alloc ?_ _)); refine blk_put (cs := #[.int .i64 tAd, .int .i64 0, .int .i64 0, .int .i64 0, .int .i64 0, .slice none 0 0]) ?_ 1 _ rfl; (with_reducible repeat (first | refine blk_drewN ?_ _ | refine blk_drew ?_ | refine blk_alloc ?_ _)); refine blk_put (cs := #[.int .i64 0, .int .i64 0, .int .i64 0, .int .i64 0, .int .i64 0, .slice none 0 0]) ?_ 0 _ rfl; (with_reducible repeat (first | refine blk_drewN ?_ _ | refine blk_drew ?_ | refine blk_alloc ?_ _)); exact BKAa.out⟩
  have n4_ : Aside0 (Below w.heap.size w ((((((w44.setCell ⟨gbAa, 0, none⟩ (.int .i64 tAd)).setCell ⟨gbAa, 1, none⟩ (.int .i64 tAe)).setCell ⟨gbAa, 2, none⟩ (.int .i64 tAf)).setCell ⟨gbAa, 3, none⟩ (.int .i64 tAg)).setCell ⟨gbAa, 4, none⟩ (.int .i64 tAi)).setCell ⟨gbAa, 5, none⟩ (.slice Ao48 tAh.length co48))) := ⟨pH_ HB.out⟩
  (try clear HOAj)
  (try clear BKAb)
  (try clear BKAc)
  (try clear BKAa)
  (try clear HB)
  generalize ((((((w44.setCell ⟨gbAa, 0, none⟩ (.int .i64 tAd)).setCell ⟨gbAa, 1, none⟩ (.int .i64 tAe)).setCell ⟨gbAa, 2, none⟩ (.int .i64 tAf)).setCell ⟨gbAa, 3, none⟩ (.int .i64 tAg)).setCell ⟨gbAa, 4, none⟩ (.int .i64 tAi)).setCell ⟨gbAa, 5, none⟩ (.slice Ao48 tAh.length co48)) = w49 at n0_ n1_ n2_ n3_ n4_ ⊢
  have HOAj := n0_
  have BKAb := n1_
  have BKAc := n2_
  have BKAa := n3_
  have HB := n4_
  clear n0_ n1_ n2_ n3_ n4_
  replace HOAj := Aside0.mk (Kd.R_drew HOAj.out)
  replace BKAb := Aside0.mk (blk_drew BKAb.out)
  replace BKAc := Aside0.mk (blk_drew BKAc.out)
  replace BKAa := Aside0.mk (blk_drew BKAa.out)
  replace HB := Aside0.mk (below_drew1 HB.out)
  refine start_ (n := 16) (S := fun w' => w'.cell? ⟨gbAa, 0, none⟩ = some (.int .i64 tAd) ∧ w'.cell? ⟨gbAa, 1, none⟩ = some (.int .i64 tAe) ∧ w'.cell? ⟨gbAa, 2, none⟩ = some (.int .i64 tAf) ∧ w'.cell? ⟨gbAa, 3, none⟩ = some (.int .i64 tAg) ∧ w'.cell? ⟨gbAa, 4, none⟩ = some (.int .i64 tAi) ∧ w'.cell? ⟨gbAa, 5, none⟩ = some (.slice Ao48 tAh.length co48) ∧ w'.cell? ⟨gbAb, 0, none⟩ = some (.int .i64 a0_0) ∧ w'.cell? ⟨gbAb, 1, none⟩ = some (.int .i64 a0_1) ∧ w'.cell? ⟨gbAb, 2, none⟩ = some (.int .i64 a0_2) ∧ w'.cell? ⟨gbAb, 3, none⟩ = some (.int .i64 a0_3) ∧ w'.cell? ⟨gbAb, 4, none⟩ = some (.int .i64 a0_4) ∧ w'.cell? ⟨gbAb, 5, none⟩ = some (.slice A0_5 l0_5.length c0_5)) (ds := []) #[false, false, false, false, false, false, false, false, false, false, false, false, false, false, false, false] (by kernel_rfl) rfl rfl ⟨bc_ BKAa 0, bc_ BKAa 1, bc_ BKAa 2, bc_ BKAa 3, bc_ BKAa 4, bc_ BKAa 5, bc_ BKAb 0, bc_ BKAb 1, bc_ BKAb 2, bc_ BKAb 3, bc_ BKAb 4, bc_ BKAb 5⟩ (fun hHeld => ?_); refine with_tabW arb_Right.tab2 arb_Right.bits2 (fun HT_ HW_ => ?_)
  generalize w49.drew = w50 at HOAj BKAb BKAc BKAa HB hHeld ⊢
  refine pq_ 0 18 HT_ ?_
  refine pq_ 1 19 HT_ ?_
  refine pq_ 2 20 HT_ ?_
  refine pq_ 3 21 HT_ ?_
  refine pq_ 6 24 HT_ ?_
  refine tq_ 4 22 HT_ HW_ hHeld ?_
  refine tq_ 5 23 HT_ HW_ hHeld ?_
  refine oq_ 7 25 HT_ (fun K hK => ?_)
  refine gs_ Try.func73 #[.agg #[.int .i64 a0_0, .int .i64 a0_1, .int .i64 a0_2, .int .i64 a0_3, .int .i64 a0_4, .slice A0_5 l0_5.length c0_5], .int .i64 a1] ?_
  with_reducible refine (conf_Wire.calls a0_0 a0_1 a0_2 a0_3 a0_4 _ _ l0_5 a1 tAk _ ?side1 ?side2 A7.out).mono ?_
  (case side1 => exact cC_ (Kd.C_below HR0_5.out HB.out))
  (case side2 => exact HC0_5.out)
  rintro e w51 ⟨rfl, hb⟩
  refine ⟨_, rfl, ?_⟩
  replace HOAj := Aside0.mk (Kd.R_below (pR_ HOAj.out) hb)
  replace BKAb := bb_ BKAb hb
  replace BKAc := bb_ BKAc hb
  replace BKAa := bb_ BKAa hb
  replace HB := bs_ HB hb
  (try clear hb)
  (try clear hb2)
  (try clear hk)
  (try clear hi)
  refine hK.out _ _ ⟨bc_ BKAa 0, bc_ BKAa 1, bc_ BKAa 2, bc_ BKAa 3, bc_ BKAa 4, bc_ BKAa 5, bc_ BKAb 0, bc_ BKAb 1, bc_ BKAb 2, bc_ BKAb 3, bc_ BKAb 4, bc_ BKAb 5⟩ (fun hHeld => ?_)
  clear hK K
  refine nq_ 25 ?_
  refine pq_ 8 26 HT_ ?_
  refine pq_ 9 27 HT_ ?_
  refine pq_ 10 28 HT_ ?_
  refine pu_ 11 29 HT_ ?_
  refine pu_ 12 30 HT_ ?_
  refine pu_ 13 31 HT_ ?_
  refine pu_ 14 32 HT_ ?_
  refine pq_ 15 33 HT_ ?_
  refine done_ (done_of HT_.out (by kernel_rfl)) ?_
  obtain ⟨hcz52_0, hcz52_1, hcz52_2, hcz52_3, hcz52_4, hcz52_5⟩ := c6_ BKAc
  obtain ⟨hfz52_0, hfz52_1, hfz52_2, hfz52_3, hfz52_4, hfz52_5⟩ := f6_ BKAc
  try go_wp2
  refine bodyPost_ret (results_ct rfl _ _ gbAc 29 #[.int .i64 0, .int .i64 0, .int .i64 0, .int .i64 0, .int .i64 0, .slice none 0 0] (0, 0) _ rfl (by (with_reducible repeat (first | refine blk_drewN ?_ _ | refine blk_drew ?_ | refine blk_alloc ?_ _)); refine blk_put (cs := #[.int .i64 0, .int .i64 0, .int .i64 0, .int .i64 0, .int .i64 0, .slice none 0 0]) ?_ 5 _ rfl; (with_reducible repeat (first | refine blk_drewN ?_ _ | refine blk_drew ?_ | refine blk_alloc ?_ _)); refine blk_put (cs := #[.int .i64 0, .int .i64 0, .int .i64 0, .int .i64 0, .int .i64 0, .slice none 0 0]) ?_ 4 _ rfl; (with_reducible repeat (first | refine blk_drewN ?_ _ | refine blk_drew ?_ | refine blk_alloc ?_ _)); refine blk_put (cs := #[.int .i64 0, .int .i64 0, .int .i64 0, .int .i64 0, .int .i64 0, .slice none 0 0]) ?_ 3 _ rfl; (with_reducible repeat (first | refine blk_drewN ?_ _ | refine blk_drew ?_ | refine blk_alloc ?_ _)); refine blk_put (cs := #[.int .i64 0, .int .i64 0, .int .i64 0, .int .i64 0, .int .i64 0, .slice none 0 0]) ?_ 2 _ rfl; (with_reducible repeat (first | refine blk_drewN ?_ _ | refine blk_drew ?_ | refine blk_alloc ?_ _)); refine blk_put (cs := #[.int .i64 0, .int .i64 0, .int .i64 0, .int .i64 0, .int .i64 0, .slice none 0 0]) ?_ 1 _ rfl; (with_reducible repeat (first | refine blk_drewN ?_ _ | refine blk_drew ?_ | refine blk_alloc ?_ _)); refine blk_put (cs := #[.int .i64 0, .int .i64 0, .int .i64 0, .int .i64 0, .int .i64 0, .slice none 0 0]) ?_ 0 _ rfl; (with_reducible repeat (first | refine blk_drewN ?_ _ | refine blk_drew ?_ | refine blk_alloc ?_ _)); exact BKAc.out) Try.underlying29 rfl (by kernel_rfl)) rfl ?_
  exact ⟨_, by first | rfl | (simp [errW_none, errW_some] <;> rfl) | (simp [*, errW_none, errW_some] <;> rfl), by first | exact Kd.R_nil _ _ _ _ _ | exact Kd.N_nil _ _ _ _ _ | exact Kd.V_nil _ _ _ _ _ | exact Kd.Q_nil _ _ _ _ _ | exact Kd.S_nil _ _ _ _ _, pH_ HB.out⟩
 rw [if_neg c6] at H
 have c6b0 : (tAm == 0) = false := beq_eq_false_iff_ne.mpr c6
 have c6b1 : (tAm != 0) = true := bne_iff_ne.mpr c6
 simp only [Option.some.injEq, Prod.mk.injEq] at H
 obtain ⟨rfl, rfl, rfl, rfl, rfl, rfl, rfl⟩ := H
 go_enter Try.func40, Try.ntmps40
 try go_wp2_with (first | ((with_reducible refine gate_dst (N := 4) rfl ?_); refine be_ 4 #[.int .i64 a0_0, .int .i64 a0_1, .int .i64 a0_2, .int .i64 a0_3, .int .i64 a0_4, .slice A0_5 l0_5.length c0_5] 24 ?_; intro gbAb hg w53 hbox hb; have BKAb := Aside0.mk (hbox); have GWAb := Aside0.mk ((by rw [hg]; exact (below_size (pH_ HB.out)) : w.heap.size ≤ gbAb)); have GEAb := Aside0.mk ((by rw [hg]; exact (below_size (pH_ HB.out)) : w.heap.size ≤ gbAb)); replace HB := bs_ HB hb; clear hb hbox hg) | ((with_reducible refine gate_dst (N := 8) rfl ?_); refine be_ 8 #[.int .i64 0, .int .i64 0, .int .i64 0, .int .i64 0, .int .i64 0, .slice none 0 0] 29 ?_; intro gbAc hg w54 hbox hb; have BKAc := Aside0.mk (hbox); have GWAc := Aside0.mk ((by rw [hg]; exact (below_size (pH_ HB.out)) : w.heap.size ≤ gbAc)); have GEAc := Aside0.mk ((by rw [hg]; exact (below_size (pH_ HB.out)) : w.heap.size ≤ gbAc)); have NBAb_Ac := Aside0.mk (ltB_ hg BKAb.out); have NBAc_Ab := Aside0.mk (ltB_ hg BKAb.out).symm; replace BKAb := bb_ BKAb hb; replace HB := bs_ HB hb; clear hb hbox hg; have hnb55 := NBAb_Ac.out; have hnc55 := NBAc_Ab.out; obtain ⟨hcz56_0, hcz56_1, hcz56_2, hcz56_3, hcz56_4, hcz56_5⟩ := c6_ BKAb; obtain ⟨hfz56_0, hfz56_1, hfz56_2, hfz56_3, hfz56_4, hfz56_5⟩ := f6_ BKAb) | ((with_reducible refine gate_callee (f := 35) rfl ?_); refine gL_ 15 Try.func35 #[.agg #[.int .i64 a0_0, .int .i64 a0_1, .int .i64 a0_2, .int .i64 a0_3, .int .i64 a0_4, .slice A0_5 l0_5.length c0_5], .string a3] ?_; (with_reducible refine (frame_Read.calls a0_0 a0_1 a0_2 a0_3 a0_4 _ _ l0_5 a3 tAd tAe tAf tAg tAi tAh tAm _ ?side1 ?side2 A5.out).mono ?_); (case side1 => exact cC_ (Kd.C_below HR0_5.out HB.out)); (case side2 => exact HC0_5.out); rintro e w57 ⟨vAn, rfl, ho0, hb⟩; refine ⟨_, rfl, ?_⟩; have HOAj := Aside0.mk (Kd.R_lower ho0 (below_size (pH_ HB.out))); replace BKAb := bb_ BKAb hb; replace BKAc := bb_ BKAc hb; replace HB := bs_ HB hb; (try clear hb); (try clear hb2); (try clear hk); (try clear hi); (try clear ho0)) | ((with_reducible refine gate_dst (N := 10) rfl ?_); refine be_ 10 #[.int .i64 0, .int .i64 0, .int .i64 0, .int .i64 0, .int .i64 0, .slice none 0 0] 29 ?_; intro gbAa hg w58 hbox hb; have BKAa := Aside0.mk (hbox); have GWAa := Aside0.mk ((by rw [hg]; exact (below_size (pH_ HB.out)) : w.heap.size ≤ gbAa)); have GEAa := Aside0.mk ((by rw [hg]; exact (below_size (pH_ HB.out)) : w.heap.size ≤ gbAa)); have NBAb_Aa := Aside0.mk (ltB_ hg BKAb.out); have NBAa_Ab := Aside0.mk (ltB_ hg BKAb.out).symm; have NBAc_Aa := Aside0.mk (ltB_ hg BKAc.out); have NBAa_Ac := Aside0.mk (ltB_ hg BKAc.out).symm; replace HOAj := Aside0.mk (Kd.R_below (pR_ HOAj.out) hb); replace BKAb := bb_ BKAb hb; replace BKAc := bb_ BKAc hb; replace HB := bs_ HB hb; clear hb hbox hg; have hnb59 := NBAa_Ab.out; have hnc59 := NBAb_Aa.out; have hnb60 := NBAa_Ac.out; have hnc60 := NBAc_Aa.out; obtain ⟨hcz61_0, hcz61_1, hcz61_2, hcz61_3, hcz61_4, hcz61_5⟩ := c6_ BKAa; obtain ⟨hfz61_0, hfz61_1, hfz61_2, hfz61_3, hfz61_4, hfz61_5⟩ := f6_ BKAa; obtain ⟨Ao62, co62, eo62⟩ := Kd.R_slice HOAj.out; subst eo62))
 have n0_ : Aside0 (Kd.R k26 26 ((((((w58.setCell ⟨gbAa, 0, none⟩ (.int .i64 tAd)).setCell ⟨gbAa, 1, none⟩ (.int .i64 tAe)).setCell ⟨gbAa, 2, none⟩ (.int .i64 tAf)).setCell ⟨gbAa, 3, none⟩ (.int .i64 tAg)).setCell ⟨gbAa, 4, none⟩ (.int .i64 tAi)).setCell ⟨gbAa, 5, none⟩ (.slice Ao62 tAh.length co62)) w.heap.size (fun _ => True) (.slice Ao62 tAh.length co62) tAh) := ⟨by (with_reducible repeat (first | apply Kd.R_alloc | apply Kd.R_drewN | apply Kd.R_drew)); exact Kd.R_mono (Kd.R_far (p := ⟨gbAa, 5, none⟩) (Kd.R_far (p := ⟨gbAa, 4, none⟩) (Kd.R_far (p := ⟨gbAa, 3, none⟩) (Kd.R_far (p := ⟨gbAa, 2, none⟩) (Kd.R_far (p := ⟨gbAa, 1, none⟩) (Kd.R_far (p := ⟨gbAa, 0, none⟩) (Kd.R_types HOAj.out BKAa.out (by decide)) (fun _ hk => hk.2) (.int .i64 tAd)) (fun _ hk => hk.2) (.int .i64 tAe)) (fun _ hk => hk.2) (.int .i64 tAf)) (fun _ hk => hk.2) (.int .i64 tAg)) (fun _ hk => hk.2) (.int .i64 tAi)) (fun _ hk => hk.2) (.slice Ao62 tAh.length co62)) (fun _ hk => trivial)⟩
 have n1_ : Aside0 (((((((w58.setCell ⟨gbAa, 0, none⟩ (.int .i64 tAd)).setCell ⟨gbAa, 1, none⟩ (.int .i64 tAe)).setCell ⟨gbAa, 2, none⟩ (.int .i64 tAf)).setCell ⟨gbAa, 3, none⟩ (.int .i64 tAg)).setCell ⟨gbAa, 4, none⟩ (.int .i64 tAi)).setCell ⟨gbAa, 5, none⟩ (.slice Ao62 tAh.length co62)).heap[gbAb]? = some (.cells #[.int .i64 a0_0, .int .i64 a0_1, .int .i64 a0_2, .int .i64 a0_3, .int .i64 a0_4, .slice A0_5 l0_5.length c0_5] 24 (0, 0))) := ⟨bF_ BKAb.out NBAb_Aa.out⟩
 have n2_ : Aside0 (((((((w58.setCell ⟨gbAa, 0, none⟩ (.int .i64 tAd)).setCell ⟨gbAa, 1, none⟩ (.int .i64 tAe)).setCell ⟨gbAa, 2, none⟩ (.int .i64 tAf)).setCell ⟨gbAa, 3, none⟩ (.int .i64 tAg)).setCell ⟨gbAa, 4, none⟩ (.int .i64 tAi)).setCell ⟨gbAa, 5, none⟩ (.slice Ao62 tAh.length co62)).heap[gbAc]? = some (.cells #[.int .i64 0, .int .i64 0, .int .i64 0, .int .i64 0, .int .i64 0, .slice none 0 0] 29 (0, 0))) := ⟨bF_ BKAc.out NBAc_Aa.out⟩
 have n3_ : Aside0 (((((((w58.setCell ⟨gbAa, 0, none⟩ (.int .i64 tAd)).setCell ⟨gbAa, 1, none⟩ (.int .i64 tAe)).setCell ⟨gbAa, 2, none⟩ (.int .i64 tAf)).setCell ⟨gbAa, 3, none⟩ (.int .i64 tAg)).setCell ⟨gbAa, 4, none⟩ (.int .i64 tAi)).setCell ⟨gbAa, 5, none⟩ (.slice Ao62 tAh.length co62)).heap[gbAa]? = some (.cells #[.int .i64 tAd, .int .i64 tAe, .int .i64 tAf, .int .i64 tAg, .int .i64 tAi, .slice Ao62 tAh.length co62] 29 (0, 0))) := ⟨by (with_reducible repeat (first | refine blk_drewN ?_ _ | refine blk_drew ?_ | refine blk_alloc ?_ _)); refine blk_put (cs := #[.int .i64 tAd, .int .i64 tAe, .int .i64 tAf, .int .i64 tAg, .int .i64 tAi, .slice none 0 0]) ?_ 5 _ rfl; (with_reducible repeat (first | refine blk_drewN ?_ _ | refine blk_drew ?_ | refine blk_alloc ?_ _)); refine blk_put (cs := #[.int .i64 tAd, .int .i64 tAe, .int .i64 tAf, .int .i64 tAg, .int .i64 0, .slice none 0 0]) ?_ 4 _ rfl; (with_reducible repeat (first | refine blk_drewN ?_ _ | refine blk_drew ?_ | refine blk_alloc ?_ _)); refine blk_put (cs := #[.int .i64 tAd, .int .i64 tAe, .int .i64 tAf, .int .i64 0, .int .i64 0, .slice none 0 0]) ?_ 3 _ rfl; (with_reducible repeat (first | refine blk_drewN ?_ _ | refine blk_drew ?_ | refine blk_alloc ?_ _)); refine blk_put (cs := #[.int .i64 tAd, .int .i64 tAe, .int .i64 0, .int .i64 0, .int .i64 0, .slice none 0 0]) ?_ 2 _ rfl; (with_reducible repeat (first | refine blk_drewN ?_ _ | refine blk_drew ?_ | refine blk_alloc ?_ _)); refine blk_put (cs := #[.int .i64 tAd, .int .i64 0, .int .i64 0, .int .i64 0, .int .i64 0, .slice none 0 0]) ?_ 1 _ rfl; (with_reducible repeat (first | refine blk_drewN ?_ _ | refine blk_drew ?_ | refine blk_alloc ?_ _)); refine blk_put (cs := #[.int .i64 0, .int .i64 0, .int .i64 0, .int .i64 0, .int .i64 0, .slice none 0 0]) ?_ 0 _ rfl; (with_reducible repeat (first | refine blk_drewN ?_ _ | refine blk_drew ?_ | refine blk_alloc ?_ _)); exact BKAa.out⟩
 have n4_ : Aside0 (Below w.heap.size w ((((((w58.setCell ⟨gbAa, 0, none⟩ (.int .i64 tAd)).setCell ⟨gbAa, 1, none⟩ (.int .i64 tAe)).setCell ⟨gbAa, 2, none⟩ (.int .i64 tAf)).setCell ⟨gbAa, 3, none⟩ (.int .i64 tAg)).setCell ⟨gbAa, 4, none⟩ (.int .i64 tAi)).setCell ⟨gbAa, 5, none⟩ (.slice Ao62 tAh.length co62))) := ⟨pH_ HB.out⟩
 (try clear HOAj)
 (try clear BKAb)
 (try clear BKAc)
 (try clear BKAa)
 (try clear HB)
 generalize ((((((w58.setCell ⟨gbAa, 0, none⟩ (.int .i64 tAd)).setCell ⟨gbAa, 1, none⟩ (.int .i64 tAe)).setCell ⟨gbAa, 2, none⟩ (.int .i64 tAf)).setCell ⟨gbAa, 3, none⟩ (.int .i64 tAg)).setCell ⟨gbAa, 4, none⟩ (.int .i64 tAi)).setCell ⟨gbAa, 5, none⟩ (.slice Ao62 tAh.length co62)) = w63 at n0_ n1_ n2_ n3_ n4_ ⊢
 have HOAj := n0_
 have BKAb := n1_
 have BKAc := n2_
 have BKAa := n3_
 have HB := n4_
 clear n0_ n1_ n2_ n3_ n4_
 replace HOAj := Aside0.mk (Kd.R_drew HOAj.out)
 replace BKAb := Aside0.mk (blk_drew BKAb.out)
 replace BKAc := Aside0.mk (blk_drew BKAc.out)
 replace BKAa := Aside0.mk (blk_drew BKAa.out)
 replace HB := Aside0.mk (below_drew1 HB.out)
 refine start_ (n := 16) (S := fun w' => True) (ds := []) #[false, false, false, false, false, false, false, false, false, false, false, false, false, false, false, false] (by kernel_rfl) rfl rfl trivial (fun hHeld => ?_); refine with_tabW arb_Right.tab2 arb_Right.bits2 (fun HT_ HW_ => ?_)
 generalize w63.drew = w64 at HOAj BKAb BKAc BKAa HB hHeld ⊢
 refine pq_ 0 18 HT_ ?_
 refine pq_ 1 19 HT_ ?_
 refine pq_ 2 20 HT_ ?_
 refine pu_ 3 21 HT_ ?_
 refine pu_ 4 22 HT_ ?_
 refine pu_ 5 23 HT_ ?_
 refine pu_ 6 24 HT_ ?_
 refine pu_ 7 25 HT_ ?_
 refine pu_ 8 26 HT_ ?_
 refine pq_ 9 27 HT_ ?_
 refine pq_ 10 28 HT_ ?_
 refine pu_ 11 29 HT_ ?_
 refine pu_ 12 30 HT_ ?_
 refine pu_ 13 31 HT_ ?_
 refine pu_ 14 32 HT_ ?_
 refine pq_ 15 33 HT_ ?_
 refine done_ (done_of HT_.out (by kernel_rfl)) ?_
 obtain ⟨hcz65_0, hcz65_1, hcz65_2, hcz65_3, hcz65_4, hcz65_5⟩ := c6_ BKAc
 obtain ⟨hfz65_0, hfz65_1, hfz65_2, hfz65_3, hfz65_4, hfz65_5⟩ := f6_ BKAc
 try go_wp2
 refine bodyPost_ret (results_ct rfl _ _ gbAc 29 #[.int .i64 0, .int .i64 0, .int .i64 0, .int .i64 0, .int .i64 0, .slice none 0 0] (0, 0) _ rfl (by (with_reducible repeat (first | refine blk_drewN ?_ _ | refine blk_drew ?_ | refine blk_alloc ?_ _)); refine blk_put (cs := #[.int .i64 0, .int .i64 0, .int .i64 0, .int .i64 0, .int .i64 0, .slice none 0 0]) ?_ 5 _ rfl; (with_reducible repeat (first | refine blk_drewN ?_ _ | refine blk_drew ?_ | refine blk_alloc ?_ _)); refine blk_put (cs := #[.int .i64 0, .int .i64 0, .int .i64 0, .int .i64 0, .int .i64 0, .slice none 0 0]) ?_ 4 _ rfl; (with_reducible repeat (first | refine blk_drewN ?_ _ | refine blk_drew ?_ | refine blk_alloc ?_ _)); refine blk_put (cs := #[.int .i64 0, .int .i64 0, .int .i64 0, .int .i64 0, .int .i64 0, .slice none 0 0]) ?_ 3 _ rfl; (with_reducible repeat (first | refine blk_drewN ?_ _ | refine blk_drew ?_ | refine blk_alloc ?_ _)); refine blk_put (cs := #[.int .i64 0, .int .i64 0, .int .i64 0, .int .i64 0, .int .i64 0, .slice none 0 0]) ?_ 2 _ rfl; (with_reducible repeat (first | refine blk_drewN ?_ _ | refine blk_drew ?_ | refine blk_alloc ?_ _)); refine blk_put (cs := #[.int .i64 0, .int .i64 0, .int .i64 0, .int .i64 0, .int .i64 0, .slice none 0 0]) ?_ 1 _ rfl; (with_reducible repeat (first | refine blk_drewN ?_ _ | refine blk_drew ?_ | refine blk_alloc ?_ _)); refine blk_put (cs := #[.int .i64 0, .int .i64 0, .int .i64 0, .int .i64 0, .int .i64 0, .slice none 0 0]) ?_ 0 _ rfl; (with_reducible repeat (first | refine blk_drewN ?_ _ | refine blk_drew ?_ | refine blk_alloc ?_ _)); exact BKAc.out) Try.underlying29 rfl (by kernel_rfl)) rfl ?_
 exact ⟨_, by first | rfl | (simp [errW_none, errW_some] <;> rfl) | (simp [*, errW_none, errW_some] <;> rfl), by first | exact Kd.R_nil _ _ _ _ _ | exact Kd.N_nil _ _ _ _ _ | exact Kd.V_nil _ _ _ _ _ | exact Kd.Q_nil _ _ _ _ _ | exact Kd.S_nil _ _ _ _ _, pH_ HB.out⟩
def arb_ctext.T1 : Bool × List (List Nat × List Nat) := (true, [([], []), ([0], [0]), ([1], [1]), ([], []), ([3], [3]), ([4], [4]), ([5], [5]), ([6], [6]), ([7], [7]), ([8, 7], [7, 8]), ([9, 7], [7, 9]), ([10, 7], [7, 10]), ([11, 7, 7], [7, 11]), ([12], [12]), ([13, 12], [12, 13]), ([12, 14, 7], [7, 12, 14]), ([7, 15], [7, 15]), ([2, 12, 0, 1, 2], [2]), ([16, 17, 0, 1, 2, 3, 4, 5, 6, 7, 8, 9, 10, 11, 12, 13, 14, 15, 16, 17], [16])])
def arb_ctext.B1 : List Nat := [0, 1, 3, 0, 8, 24, 56, 120, 248, 504, 1016, 2040, 4088, 8184, 16376, 32760, 65528, 8191, 262143]
theorem arb_ctext.tab1 : rtab .any (opsOf Try.f105 1) = arb_ctext.T1 := by kernel_rfl
theorem arb_ctext.bits1 : waitsOk arb_ctext.T1.2 arb_ctext.B1 = true := by kernel_rfl
set_option maxHeartbeats 8000000 in
set_option maxRecDepth 100000 in
theorem arb_ctext.calls (d sk o : ByteArray) (far : Int) (pair : Bool) (w : World) :
  Calls Try.prog 105 #[.agg #[.string d, .string sk, .string o, .int .i64 far, .bool pair]] w fun e w' => e = .returned (.tuple #[.string o, .bool (decide (far ≥ 2) || (far == 1 && pair))]) ∧ Below w.heap.size w w' := by
 have HB := Aside0.mk (Below.refl w.heap.size w)
 by_cases c2 : far ≥ 2
 ·
  have q2 : decide (far ≥ 2) = true := decide_eq_true c2
  clear c2
  go_enter Try.func105, Try.ntmps105
  try go_wp2_with (first | ((with_reducible refine gate_dst (N := 1) rfl ?_); refine be_ 1 #[.string d, .string sk, .string o, .int .i64 far, .bool pair] 106 ?_; intro gx hg w2 hbox hb; have BX := Aside0.mk hbox; replace HB := bs_ HB hb; clear hb hbox hg))
  replace BX := Aside0.mk (blk_drew BX.out)
  replace HB := Aside0.mk (below_drew1 HB.out)
  refine start_ (n := 19) (S := fun w' => w'.cell? ⟨gx, 0, none⟩ = some (.string d) ∧ w'.cell? ⟨gx, 1, none⟩ = some (.string sk) ∧ w'.cell? ⟨gx, 2, none⟩ = some (.string o) ∧ w'.cell? ⟨gx, 3, none⟩ = some (.int .i64 far) ∧ w'.cell? ⟨gx, 4, none⟩ = some (.bool pair)) (ds := []) #[false, false, false, false, false, false, false, false, false, false, false, false, false, false, false, false, false, false, false] (by kernel_rfl) rfl rfl ⟨bc_ BX 0, bc_ BX 1, bc_ BX 2, bc_ BX 3, bc_ BX 4⟩ (fun hHeld => ?_); refine with_tabW arb_ctext.tab1 arb_ctext.bits1 (fun HT_ HW_ => ?_)
  generalize w2.drew = w3 at BX HB hHeld ⊢
  refine pq_ 0 4 HT_ ?_
  refine pq_ 1 5 HT_ ?_
  refine pq_ 3 7 HT_ ?_
  refine pq_ 4 8 HT_ ?_
  refine tq_ 2 6 HT_ HW_ hHeld ?_
  refine tq_ 5 9 HT_ HW_ hHeld ?_
  refine pq_ 6 10 HT_ ?_
  refine pq_ 7 11 HT_ ?_
  refine pu_ 8 12 HT_ ?_
  refine pu_ 9 13 HT_ ?_
  refine pu_ 10 14 HT_ ?_
  refine pu_ 11 15 HT_ ?_
  refine pu_ 12 16 HT_ ?_
  refine pu_ 13 17 HT_ ?_
  refine pu_ 14 18 HT_ ?_
  refine pu_ 15 19 HT_ ?_
  refine pq_ 16 20 HT_ ?_
  refine pq_ 17 2 HT_ ?_
  refine pq_ 18 3 HT_ ?_
  refine done_ (done_of HT_.out (by kernel_rfl)) ?_
  go_wp2
  go_ret2
  exact ⟨by simp [*], HB.out⟩
 ·
  have q2 : decide (far ≥ 2) = false := decide_eq_false c2
  clear c2
  by_cases c1 : far = 1
  ·
   have q1 : (far == 1) = true := beq_iff_eq.2 c1
   clear c1
   go_enter Try.func105, Try.ntmps105
   try go_wp2_with (first | ((with_reducible refine gate_dst (N := 1) rfl ?_); refine be_ 1 #[.string d, .string sk, .string o, .int .i64 far, .bool pair] 106 ?_; intro gx hg w2 hbox hb; have BX := Aside0.mk hbox; replace HB := bs_ HB hb; clear hb hbox hg))
   replace BX := Aside0.mk (blk_drew BX.out)
   replace HB := Aside0.mk (below_drew1 HB.out)
   refine start_ (n := 19) (S := fun w' => w'.cell? ⟨gx, 0, none⟩ = some (.string d) ∧ w'.cell? ⟨gx, 1, none⟩ = some (.string sk) ∧ w'.cell? ⟨gx, 2, none⟩ = some (.string o) ∧ w'.cell? ⟨gx, 3, none⟩ = some (.int .i64 far) ∧ w'.cell? ⟨gx, 4, none⟩ = some (.bool pair)) (ds := []) #[false, false, false, false, false, false, false, false, false, false, false, false, false, false, false, false, false, false, false] (by kernel_rfl) rfl rfl ⟨bc_ BX 0, bc_ BX 1, bc_ BX 2, bc_ BX 3, bc_ BX 4⟩ (fun hHeld => ?_); refine with_tabW arb_ctext.tab1 arb_ctext.bits1 (fun HT_ HW_ => ?_)
   generalize w2.drew = w3 at BX HB hHeld ⊢
   refine pq_ 0 4 HT_ ?_
   refine pq_ 1 5 HT_ ?_
   refine pq_ 3 7 HT_ ?_
   refine pq_ 4 8 HT_ ?_
   refine tq_ 2 6 HT_ HW_ hHeld ?_
   refine tq_ 5 9 HT_ HW_ hHeld ?_
   refine pq_ 6 10 HT_ ?_
   refine pq_ 7 11 HT_ ?_
   refine pq_ 8 12 HT_ ?_
   refine pq_ 9 13 HT_ ?_
   refine tq_ 10 14 HT_ HW_ hHeld ?_
   refine pq_ 11 15 HT_ ?_
   refine pq_ 12 16 HT_ ?_
   refine pq_ 13 17 HT_ ?_
   refine pq_ 17 2 HT_ ?_
   refine tq_ 14 18 HT_ HW_ hHeld ?_
   refine pq_ 15 19 HT_ ?_
   refine pq_ 16 20 HT_ ?_
   refine pq_ 18 3 HT_ ?_
   refine done_ (done_of HT_.out (by kernel_rfl)) ?_
   go_wp2
   go_ret2
   exact ⟨by simp [*], HB.out⟩
  ·
   have q1 : (far == 1) = false := beq_eq_false_iff_ne.2 c1
   clear c1
   go_enter Try.func105, Try.ntmps105
   try go_wp2_with (first | ((with_reducible refine gate_dst (N := 1) rfl ?_); refine be_ 1 #[.string d, .string sk, .string o, .int .i64 far, .bool pair] 106 ?_; intro gx hg w2 hbox hb; have BX := Aside0.mk hbox; replace HB := bs_ HB hb; clear hb hbox hg))
   replace BX := Aside0.mk (blk_drew BX.out)
   replace HB := Aside0.mk (below_drew1 HB.out)
   refine start_ (n := 19) (S := fun w' => w'.cell? ⟨gx, 0, none⟩ = some (.string d) ∧ w'.cell? ⟨gx, 1, none⟩ = some (.string sk) ∧ w'.cell? ⟨gx, 2, none⟩ = some (.string o) ∧ w'.cell? ⟨gx, 3, none⟩ = some (.int .i64 far) ∧ w'.cell? ⟨gx, 4, none⟩ = some (.bool pair)) (ds := []) #[false, false, false, false, false, false, false, false, false, false, false, false, false, false, false, false, false, false, false] (by kernel_rfl) rfl rfl ⟨bc_ BX 0, bc_ BX 1, bc_ BX 2, bc_ BX 3, bc_ BX 4⟩ (fun hHeld => ?_); refine with_tabW arb_ctext.tab1 arb_ctext.bits1 (fun HT_ HW_ => ?_)
   generalize w2.drew = w3 at BX HB hHeld ⊢
   refine pq_ 0 4 HT_ ?_
   refine pq_ 1 5 HT_ ?_
   refine pq_ 3 7 HT_ ?_
   refine pq_ 4 8 HT_ ?_
   refine tq_ 2 6 HT_ HW_ hHeld ?_
   refine tq_ 5 9 HT_ HW_ hHeld ?_
   refine pq_ 6 10 HT_ ?_
   refine pq_ 7 11 HT_ ?_
   refine pq_ 8 12 HT_ ?_
   refine pq_ 9 13 HT_ ?_
   refine tq_ 10 14 HT_ HW_ hHeld ?_
   refine pq_ 11 15 HT_ ?_
   refine pq_ 12 16 HT_ ?_
   refine pu_ 13 17 HT_ ?_
   refine pu_ 14 18 HT_ ?_
   refine pq_ 15 19 HT_ ?_
   refine pq_ 16 20 HT_ ?_
   refine pq_ 17 2 HT_ ?_
   refine pq_ 18 3 HT_ ?_
   refine done_ (done_of HT_.out (by kernel_rfl)) ?_
   go_wp2
   go_ret2
   exact ⟨by simp [*], HB.out⟩
def arb_dtext.T1 : Bool × List (List Nat × List Nat) := (true, [([], []), ([0], [0]), ([1], [1]), ([], []), ([3], [3]), ([4], [4]), ([5], [5]), ([6], [6]), ([7], [7]), ([8, 7], [7, 8]), ([9, 7], [7, 9]), ([7, 10], [7, 10]), ([2, 7, 0, 1, 2], [2]), ([11, 12, 0, 1, 2, 3, 4, 5, 6, 7, 8, 9, 10, 11, 12], [11])])
def arb_dtext.B1 : List Nat := [0, 1, 3, 0, 8, 24, 56, 120, 248, 504, 1016, 2040, 255, 8191]
theorem arb_dtext.tab1 : rtab .any (opsOf Try.f106 1) = arb_dtext.T1 := by kernel_rfl
theorem arb_dtext.bits1 : waitsOk arb_dtext.T1.2 arb_dtext.B1 = true := by kernel_rfl
set_option maxHeartbeats 8000000 in
set_option maxRecDepth 100000 in
theorem arb_dtext.calls (d sk o : ByteArray) (far : Int) (pair : Bool) (w : World) :
  Calls Try.prog 106 #[.agg #[.string d, .string sk, .string o, .int .i64 far, .bool pair]] w fun e w' => e = .returned (.tuple #[.string d, .bool (far == 1 && !pair)]) ∧ Below w.heap.size w w' := by
 have HB := Aside0.mk (Below.refl w.heap.size w)
 by_cases c1 : far = 1
 ·
  have q1 : (far == 1) = true := beq_iff_eq.2 c1
  clear c1
  go_enter Try.func106, Try.ntmps106
  try go_wp2_with (first | ((with_reducible refine gate_dst (N := 1) rfl ?_); refine be_ 1 #[.string d, .string sk, .string o, .int .i64 far, .bool pair] 110 ?_; intro gx hg w2 hbox hb; have BX := Aside0.mk hbox; replace HB := bs_ HB hb; clear hb hbox hg))
  replace BX := Aside0.mk (blk_drew BX.out)
  replace HB := Aside0.mk (below_drew1 HB.out)
  refine start_ (n := 14) (S := fun w' => w'.cell? ⟨gx, 0, none⟩ = some (.string d) ∧ w'.cell? ⟨gx, 1, none⟩ = some (.string sk) ∧ w'.cell? ⟨gx, 2, none⟩ = some (.string o) ∧ w'.cell? ⟨gx, 3, none⟩ = some (.int .i64 far) ∧ w'.cell? ⟨gx, 4, none⟩ = some (.bool pair)) (ds := []) #[false, false, false, false, false, false, false, false, false, false, false, false, false, false] (by kernel_rfl) rfl rfl ⟨bc_ BX 0, bc_ BX 1, bc_ BX 2, bc_ BX 3, bc_ BX 4⟩ (fun hHeld => ?_); refine with_tabW arb_dtext.tab1 arb_dtext.bits1 (fun HT_ HW_ => ?_)
  generalize w2.drew = w3 at BX HB hHeld ⊢
  refine pq_ 0 4 HT_ ?_
  refine pq_ 1 5 HT_ ?_
  refine pq_ 3 7 HT_ ?_
  refine pq_ 4 8 HT_ ?_
  refine tq_ 2 6 HT_ HW_ hHeld ?_
  refine tq_ 5 9 HT_ HW_ hHeld ?_
  refine pq_ 6 10 HT_ ?_
  refine pq_ 7 11 HT_ ?_
  refine pq_ 8 12 HT_ ?_
  refine pq_ 12 2 HT_ ?_
  refine tq_ 9 13 HT_ HW_ hHeld ?_
  refine pq_ 10 14 HT_ ?_
  refine pq_ 11 15 HT_ ?_
  refine pq_ 13 3 HT_ ?_
  refine done_ (done_of HT_.out (by kernel_rfl)) ?_
  go_wp2
  go_ret2
  exact ⟨by simp [*], HB.out⟩
 ·
  have q1 : (far == 1) = false := beq_eq_false_iff_ne.2 c1
  clear c1
  go_enter Try.func106, Try.ntmps106
  try go_wp2_with (first | ((with_reducible refine gate_dst (N := 1) rfl ?_); refine be_ 1 #[.string d, .string sk, .string o, .int .i64 far, .bool pair] 110 ?_; intro gx hg w2 hbox hb; have BX := Aside0.mk hbox; replace HB := bs_ HB hb; clear hb hbox hg))
  replace BX := Aside0.mk (blk_drew BX.out)
  replace HB := Aside0.mk (below_drew1 HB.out)
  refine start_ (n := 14) (S := fun w' => w'.cell? ⟨gx, 0, none⟩ = some (.string d) ∧ w'.cell? ⟨gx, 1, none⟩ = some (.string sk) ∧ w'.cell? ⟨gx, 2, none⟩ = some (.string o) ∧ w'.cell? ⟨gx, 3, none⟩ = some (.int .i64 far) ∧ w'.cell? ⟨gx, 4, none⟩ = some (.bool pair)) (ds := []) #[false, false, false, false, false, false, false, false, false, false, false, false, false, false] (by kernel_rfl) rfl rfl ⟨bc_ BX 0, bc_ BX 1, bc_ BX 2, bc_ BX 3, bc_ BX 4⟩ (fun hHeld => ?_); refine with_tabW arb_dtext.tab1 arb_dtext.bits1 (fun HT_ HW_ => ?_)
  generalize w2.drew = w3 at BX HB hHeld ⊢
  refine pq_ 0 4 HT_ ?_
  refine pq_ 1 5 HT_ ?_
  refine pq_ 3 7 HT_ ?_
  refine pq_ 4 8 HT_ ?_
  refine tq_ 2 6 HT_ HW_ hHeld ?_
  refine tq_ 5 9 HT_ HW_ hHeld ?_
  refine pq_ 6 10 HT_ ?_
  refine pq_ 7 11 HT_ ?_
  refine pu_ 8 12 HT_ ?_
  refine pu_ 9 13 HT_ ?_
  refine pu_ 10 14 HT_ ?_
  refine pq_ 11 15 HT_ ?_
  refine pq_ 12 2 HT_ ?_
  refine pq_ 13 3 HT_ ?_
  refine done_ (done_of HT_.out (by kernel_rfl)) ?_
  go_wp2
  go_ret2
  exact ⟨by simp [*], HB.out⟩
def kRaw (n : Nat) : Kd (List Value) where
 sz := n
 E := []
 K := fun _ x cs => cs = x ∧ x.length = n ∧ ∀ u ∈ x, u.oneCell' = true
 M := fun _ _ _ x cs => cs = x ∧ x.length = n ∧ ∀ u ∈ x, u.oneCell' = true
 K_len := fun h => by rw [h.1]; exact h.2.1
 K_one := fun h u hu => by rw [h.1] at hu; exact h.2.2 u hu
 K_below := fun _ h => h
 K_of_M := fun h => h
 M_mono := fun _ h => h
 M_bound := fun h => h
 M_move := fun _ h => h
 M_lower := fun _ h => h
def takenRow (s : ByteArray) (K R S P V : Int) (A : Option Addr) (n c : Nat) : List Value := [.string s, .int .i64 K, .int .i64 R, .int .i64 S, .int .i64 P, .int .i64 V, .slice A n c]
theorem takenRow_M (w : World) (base : Nat) (ok : Nat → Prop) (s : ByteArray) (K R S P V : Int) (A : Option Addr) (n c : Nat) : (kRaw 7).M w base ok (takenRow s K R S P V A n c) (takenRow s K R S P V A n c) := by
 refine ⟨rfl, rfl, fun u hu => ?_⟩
 simp only [takenRow, List.mem_cons, List.not_mem_nil, or_false] at hu
 rcases hu with rfl | rfl | rfl | rfl | rfl | rfl | rfl <;> rfl
theorem kRaw_block {e n : Nat} {w : World} {base : Nat} {ok : Nat → Prop} {v : Value} {xs : List (List Value)} (h : (kRaw n).R e w base ok v xs) :
  (v = .slice Option.none 0 0 ∧ xs = []) ∨ ∃ g cap cur, v = .slice (some ⟨g, 0, Option.none⟩) xs.length cap ∧ base ≤ g ∧ w.heap[g]? = some (.cells cur e (0, 0)) ∧ ∀ j p, xs[j]? = some p → ∀ i, i < n → cur[j * n + i]? = p[i]? := by
 obtain ⟨h0, inner, ho, hr⟩ := h
 rcases ho.2 with ⟨rfl, h2⟩ | ⟨g, cap, cur, rfl, hg, hh, _, _, _, hcur⟩
 · exact .inl ⟨rfl, List.length_eq_zero_iff.1 h2⟩
 ·
  refine .inr ⟨g, cap, cur, rfl, hg, hh, fun j p hp i hi => ?_⟩
  have hj : j < xs.length := by
   rw [List.getElem?_eq_some_iff] at hp
   exact hp.1
  have h3 : (inner.drop (j * n)).take n = p := (hr.2 j p hp).1
  have hcur2 : cur.toList.take (xs.length * n) = inner := hcur
  have hlt : j * n + i < xs.length * n := by
   have : (j + 1) * n ≤ xs.length * n := Nat.mul_le_mul_right _ hj
   rw [Nat.add_mul, Nat.one_mul] at this
   omega
  have e1 : cur[j * n + i]? = inner[j * n + i]? := by
   rw [← Array.getElem?_toList, ← hcur2, List.getElem?_take_of_lt hlt]
  rw [e1, ← h3, List.getElem?_take_of_lt hi, List.getElem?_drop]
structure Tk where
 s : ByteArray
 K : Int
 R : Int
 S : Int
 P : Int
 V : Int
 E : List S26
def tk (B F : Bool) (t : Tk) : List Tk := if B && F then [t] else []
def rowOk (w : World) (base : Nat) (x : List Value) (t : Tk) : Prop := ∃ A n c, x = takenRow t.s t.K t.R t.S t.P t.V A n c ∧ Kd.R k26 26 w base (fun _ => True) (.slice A n c) t.E
def AllE (w : World) (base : Nat) : List (List Value) → List Tk → Prop
 | [], [] => True
 | x :: xs, t :: ts => rowOk w base x t ∧ AllE w base xs ts
 | _, _ => False
theorem AllE.move {w w1 : World} {base : Nat} (f : ∀ v E, Kd.R k26 26 w base (fun _ => True) v E → Kd.R k26 26 w1 base (fun _ => True) v E) : ∀ {xs : List (List Value)} {ts : List Tk}, AllE w base xs ts → AllE w1 base xs ts
 | [], [], _ => trivial
 | _ :: _, _ :: _, ⟨⟨A, n, c, e, r⟩, h⟩ => ⟨⟨A, n, c, e, f _ _ r⟩, AllE.move f h⟩
 | [], _ :: _, h => h.elim
 | _ :: _, [], h => h.elim
theorem AllE.below {w w1 : World} {base : Nat} {xs : List (List Value)} {ts : List Tk} (h : AllE w base xs ts) (hb : Below w.heap.size w w1) : AllE w1 base xs ts := h.move (fun _ _ r => Kd.R_below r hb)
theorem AllE.snoc {w : World} {base : Nat} {x : List Value} {t : Tk} (r : rowOk w base x t) : ∀ {xs : List (List Value)} {ts : List Tk}, AllE w base xs ts → AllE w base (xs ++ [x]) (ts ++ [t])
 | [], [], _ => ⟨r, trivial⟩
 | _ :: _, _ :: _, ⟨h1, h⟩ => ⟨h1, AllE.snoc r h⟩
 | [], _ :: _, h => h.elim
 | _ :: _, [], h => h.elim
theorem AllE.len {w : World} {base : Nat} : ∀ {xs : List (List Value)} {ts : List Tk}, AllE w base xs ts → xs.length = ts.length
 | [], [], _ => rfl
 | _ :: _, _ :: _, ⟨_, h⟩ => congrArg (· + 1) (AllE.len h)
 | [], _ :: _, h => h.elim
 | _ :: _, [], h => h.elim
theorem AllE.grown {W w1 : World} {base : Nat} {v : Value} {xs ys : List (List Value)} {ts : List Tk} (h : AllE W base xs ts) (hv : (kRaw 7).R 108 W base (fun _ => True) v ys) (hg : W.grownBy w1 v.ownBlock) : AllE w1 base xs ts :=
 h.move (fun _ _ r => Kd.R_over' r (Kd.R_typed hv) (by decide) hg)
theorem tk_len (B F : Bool) (t : Tk) : (tk B F t).length ≤ 1 := by
 unfold tk
 split <;> simp
theorem info_taken : (Try.prog.info? 108).map (fun i => (i.zero, i.size, i.bytes)) = some (some (.agg #[.string ⟨#[]⟩, .int .i64 0, .int .i64 0, .int .i64 0, .int .i64 0, .int .i64 0, .slice Option.none 0 0]), (kRaw 7).sz, 80) := by kernel_rfl
set_option maxHeartbeats 16000000 in
set_option maxRecDepth 100000 in
theorem arb_rights.gen (ty fm : Nat) (hm : ∀ (x : Value) (W : World), (method 242 ty x "plaiting/arb.text").run Try.prog W = .ok (fm, x) W) (hcf : ∀ (xs : Array Value) (W : World), (callFunc fm xs).run Try.prog W = .ok (.enter fm xs) W) (a0_0 a0_1 a0_2 a0_3 a0_4 : Int) (A0_5 : Option Addr) (c0_5 : Nat) (l0_5 : List Int) (a1 a2 : Int) (gl : Nat) (x1 x2 : Value) (B1 B2 : Bool) (T1 T2 : ByteArray)
  (hcx1 : ∀ W : World, Calls Try.prog fm #[x1] W fun e w' => e = .returned (.tuple #[.string T1, .bool B1]) ∧ Below W.heap.size W w') (hcx2 : ∀ W : World, Calls Try.prog fm #[x2] W fun e w' => e = .returned (.tuple #[.string T2, .bool B2]) ∧ Below W.heap.size W w')
  (K1 R1 S1 P1 V1 : Int) (E1 : List S26) (F1 : Bool) (K2 R2 S2 P2 V2 : Int) (E2 : List S26) (F2 : Bool)
  (hR1 : B1 = true → arb_Right.f a0_0 a0_1 a0_2 a0_3 a0_4 l0_5 a1 a2 T1 = some (K1, R1, S1, P1, V1, E1, F1)) (hR2 : B2 = true → arb_Right.f a0_0 a0_1 a0_2 a0_3 a0_4 l0_5 a1 a2 T2 = some (K2, R2, S2, P2, V2, E2, F2)) (w : World)
  (hr0_5 : Kd.C (Kd.int .i64) w A0_5 l0_5.length l0_5) (hc0_5 : l0_5.length ≤ c0_5)
  (hl : w.heap[gl]? = some (.cells #[.iface ty x1, .iface ty x2] 120 (0, 0))) :
  Calls Try.prog 74 #[.agg #[.int .i64 a0_0, .int .i64 a0_1, .int .i64 a0_2, .int .i64 a0_3, .int .i64 a0_4, .slice A0_5 l0_5.length c0_5], .int .i64 a1, .int .i64 a2, .slice (some ⟨gl, 0, none⟩) 2 2] w fun e w' => ∃ v xs, e = .returned v ∧ (kRaw 7).R 108 w' w.heap.size (fun _ => True) v xs ∧ AllE w' w.heap.size xs (tk B1 F1 ⟨T1, K1, R1, S1, P1, V1, E1⟩ ++ tk B2 F2 ⟨T2, K2, R2, S2, P2, V2, E2⟩) ∧ Below w.heap.size w w' := by
 have hu24 := Try.underlying24
 have hu26 := Try.underlying26
 have hu27 := Try.underlying27
 have hu29 := Try.underlying29
 have hu9 := Try.underlying9
 have hu3 := Try.underlying3
 have hu118 := Try.underlying118
 have hu120 := Try.underlying120
 have hu103 := Try.underlying103
 have hu108 := Try.underlying108
 have HR0 := Aside0.mk hr0_5
 have hc0 := Aside0.mk hc0_5
 clear hr0_5 hc0_5
 have HB := Aside0.mk (Below.refl w.heap.size w)
 have BL := Aside0.mk hl
 clear hl
 go_enter Try.func74, Try.ntmps74
 go_upto_region 2 with (first | ((with_reducible refine gate_dst (N := 4) rfl ?_); refine be_ 4 #[.int .i64 a0_0, .int .i64 a0_1, .int .i64 a0_2, .int .i64 a0_3, .int .i64 a0_4, .slice A0_5 l0_5.length c0_5] 24 ?_; intro gc hg w2 hbox hb; have BC := Aside0.mk hbox; have Nlc := Aside0.mk (ltB_ hg BL.out); replace BL := bb_ BL hb; replace HB := bs_ HB hb; clear hb hbox hg))
 try go_wp2
 go_loopg [9, 18] 3 (fun kq v9 v18 w' => ∃ (i : Nat) (xs : List (List Value)) (ts : List Tk), Aside0 (kq + i = 3) ∧ ((i = 0 ∧ v18 = .int .i64 0 ∧ ts = []) ∨ (i = 1 ∧ v18 = .int .i64 1 ∧ ts = tk B1 F1 ⟨T1, K1, R1, S1, P1, V1, E1⟩) ∨ (i = 2 ∧ v18 = .int .i64 2 ∧ ts = tk B1 F1 ⟨T1, K1, R1, S1, P1, V1, E1⟩ ++ tk B2 F2 ⟨T2, K2, R2, S2, P2, V2, E2⟩)) ∧ Aside0 (w'.heap[gl]? = some (.cells #[.iface ty x1, .iface ty x2] 120 (0, 0))) ∧ Aside0 (w'.heap[gc]? = some (.cells #[.int .i64 a0_0, .int .i64 a0_1, .int .i64 a0_2, .int .i64 a0_3, .int .i64 a0_4, .slice A0_5 l0_5.length c0_5] 24 (0, 0))) ∧ Aside0 ((kRaw 7).R 108 w' w.heap.size (fun _ => True) v9 xs) ∧ Aside0 (AllE w' w.heap.size xs ts) ∧ Aside0 (Below w.heap.size w w'))
 case atStart => exact ⟨0, [], [], ⟨rfl⟩, .inl ⟨rfl, rfl, rfl⟩, ⟨pB_ BL.out⟩, ⟨pB_ BC.out⟩, ⟨Kd.R_nil _ _ _ _ _⟩, ⟨trivial⟩, ⟨pH_ HB.out⟩⟩
 case round =>
  clear BL BC HB
  obtain ⟨i, xs, ts, hi, hq, BL, BC, HV, HE, HB⟩ := hrel
  rcases hq with ⟨rfl, rfl, rfl⟩ | ⟨rfl, rfl, rfl⟩ | ⟨rfl, rfl, rfl⟩
  ·
   have hc : wr.cell? ⟨gl, 0, none⟩ = some (.iface ty x1) := bc_ BL 0
   have HL := Aside0.mk (show xs.length ≤ 0 from by rw [AllE.len HE.out]; exact Nat.le_refl 0)
   cases hB1 : B1 with
   | false =>
    rw [hB1] at hcx1
    go_wp2_with (first | fail)
    refine (hcx1 _).mono ?_
    rintro e w5 ⟨rfl, hb⟩
    have BL5 := bb_ BL hb; have BC5 := bb_ BC hb; have HV5 := Aside0.mk (Kd.R_below (pR_ HV.out) hb); have HE5 := Aside0.mk (AllE.below HE.out hb); have HB5 := bs_ HB hb
    clear hb BL BC HV HE HB hc
    go_wp2
    go_roundg 2
    case measure => (have := hi.out; omega)
    case rel => exact ⟨1, xs, _, ⟨rfl⟩, .inr (.inl ⟨rfl, by go_num, rfl⟩), BL5, BC5, HV5, ⟨by simpa [tk, hB1] using HE5.out⟩, HB5⟩
   | true =>
    rw [hB1] at hcx1
    have hRt := hR1 hB1
    go_wp2_with (first | fail)
    refine (hcx1 _).mono ?_
    rintro e w5 ⟨rfl, hb⟩
    replace BL := bb_ BL hb; replace BC := bb_ BC hb; replace HV := Aside0.mk (Kd.R_below (pR_ HV.out) hb); replace HE := Aside0.mk (AllE.below HE.out hb); replace HB := bs_ HB hb
    clear hb hc
    obtain ⟨hcz1_0, hcz1_1, hcz1_2, hcz1_3, hcz1_4, hcz1_5⟩ := c6_ BC
    cases hF1 : F1 with
    | false =>
     rw [hF1] at hRt
     go_wp2_with (first | ((with_reducible refine gate_callee (f := 40) rfl ?_); refine gL_ 34 Try.func40 #[.agg #[.int .i64 a0_0, .int .i64 a0_1, .int .i64 a0_2, .int .i64 a0_3, .int .i64 a0_4, .slice A0_5 l0_5.length c0_5], .int .i64 a1, .int .i64 a2, .string T1] ?_; (with_reducible refine (arb_Right.calls a0_0 a0_1 a0_2 a0_3 a0_4 A0_5 c0_5 l0_5 a1 a2 T1 K1 R1 S1 P1 V1 E1 false _ (Kd.C_below HR0.out HB.out) hc0.out hRt).mono ?_); rintro e w6 ⟨v5, rfl, hr, hb⟩; refine ⟨_, rfl, ?_⟩; obtain ⟨A5, c5, rfl⟩ := Kd.R_slice hr; have HN6 := Aside0.mk (Kd.R_lower hr (below_size HB.out)); replace BL := bb_ BL hb; replace BC := bb_ BC hb; replace HV := Aside0.mk (Kd.R_below (pR_ HV.out) hb); replace HE := Aside0.mk (AllE.below HE.out hb); replace HB := bs_ HB hb; clear hr hb hcz1_0 hcz1_1 hcz1_2 hcz1_3 hcz1_4 hcz1_5) | ((with_reducible refine gate_dst (N := 14) rfl ?_); refine be_ 14 #[.int .i64 0, .int .i64 0, .int .i64 0, .int .i64 0, .int .i64 0, .slice none 0 0] 29 ?_; intro gr hg w7 hbox hb; have BR := Aside0.mk hbox; have GR := Aside0.mk ((by rw [hg]; exact Nat.le_refl _ : w6.heap.size ≤ gr)); have H67 := Aside0.mk hb; have Nlr := Aside0.mk (ltB_ hg BL.out); have Ncr := Aside0.mk (ltB_ hg BC.out); clear hb hbox hg; obtain ⟨hcz2_0, hcz2_1, hcz2_2, hcz2_3, hcz2_4, hcz2_5⟩ := c6_ BR; obtain ⟨hfz2_0, hfz2_1, hfz2_2, hfz2_3, hfz2_4, hfz2_5⟩ := f6_ BR))
     have HX := Aside0.mk (show Below w6.heap.size w6 ((((((w7.setCell ⟨gr, 0, none⟩ (.int .i64 K1)).setCell ⟨gr, 1, none⟩ (.int .i64 R1)).setCell ⟨gr, 2, none⟩ (.int .i64 S1)).setCell ⟨gr, 3, none⟩ (.int .i64 P1)).setCell ⟨gr, 4, none⟩ (.int .i64 V1)).setCell ⟨gr, 5, none⟩ (.slice A5 E1.length c5)) from (below_set (below_set (below_set (below_set (below_set (below_set H67.out GR.out) GR.out) GR.out) GR.out) GR.out) GR.out))
     go_roundg 2
     case measure => (have := hi.out; omega)
     case rel => exact ⟨1, xs, _, ⟨rfl⟩, .inr (.inl ⟨rfl, by go_num, rfl⟩), ⟨blk_below (pB_ BL.out) HX.out⟩, ⟨blk_below (pB_ BC.out) HX.out⟩, ⟨Kd.R_below HV.out HX.out⟩, ⟨by simpa [tk, hB1, hF1] using AllE.below HE.out HX.out⟩, ⟨below_step (pH_ HB.out) HX.out⟩⟩
    | true =>
     rw [hF1] at hRt
     go_wp2_with (first | ((with_reducible refine gate_callee (f := 40) rfl ?_); refine gL_ 34 Try.func40 #[.agg #[.int .i64 a0_0, .int .i64 a0_1, .int .i64 a0_2, .int .i64 a0_3, .int .i64 a0_4, .slice A0_5 l0_5.length c0_5], .int .i64 a1, .int .i64 a2, .string T1] ?_; (with_reducible refine (arb_Right.calls a0_0 a0_1 a0_2 a0_3 a0_4 A0_5 c0_5 l0_5 a1 a2 T1 K1 R1 S1 P1 V1 E1 true _ (Kd.C_below HR0.out HB.out) hc0.out hRt).mono ?_); rintro e w6 ⟨v5, rfl, hr, hb⟩; refine ⟨_, rfl, ?_⟩; obtain ⟨A5, c5, rfl⟩ := Kd.R_slice hr; have HN6 := Aside0.mk (Kd.R_lower hr (below_size HB.out)); replace BL := bb_ BL hb; replace BC := bb_ BC hb; replace HV := Aside0.mk (Kd.R_below (pR_ HV.out) hb); replace HE := Aside0.mk (AllE.below HE.out hb); replace HB := bs_ HB hb; clear hr hb hcz1_0 hcz1_1 hcz1_2 hcz1_3 hcz1_4 hcz1_5) | ((with_reducible refine gate_dst (N := 14) rfl ?_); refine be_ 14 #[.int .i64 0, .int .i64 0, .int .i64 0, .int .i64 0, .int .i64 0, .slice none 0 0] 29 ?_; intro gr hg w7 hbox hb; have BR := Aside0.mk hbox; have GR := Aside0.mk ((by rw [hg]; exact Nat.le_refl _ : w6.heap.size ≤ gr)); have H67 := Aside0.mk hb; have Nlr := Aside0.mk (ltB_ hg BL.out); have Ncr := Aside0.mk (ltB_ hg BC.out); clear hb hbox hg; obtain ⟨hcz2_0, hcz2_1, hcz2_2, hcz2_3, hcz2_4, hcz2_5⟩ := c6_ BR; obtain ⟨hfz2_0, hfz2_1, hfz2_2, hfz2_3, hfz2_4, hfz2_5⟩ := f6_ BR) | ((with_reducible refine gate_dst (N := 40) rfl ?_); have BR2 := Aside0.mk (show ((((((w7.setCell ⟨gr, 0, none⟩ (.int .i64 K1)).setCell ⟨gr, 1, none⟩ (.int .i64 R1)).setCell ⟨gr, 2, none⟩ (.int .i64 S1)).setCell ⟨gr, 3, none⟩ (.int .i64 P1)).setCell ⟨gr, 4, none⟩ (.int .i64 V1)).setCell ⟨gr, 5, none⟩ (.slice A5 E1.length c5)).heap[gr]? = some (.cells #[.int .i64 K1, .int .i64 R1, .int .i64 S1, .int .i64 P1, .int .i64 V1, .slice A5 E1.length c5] 29 (0, 0)) from fr_put6 BR.out _ _ _ _ _ _); have HX := Aside0.mk (show Below w6.heap.size w6 ((((((w7.setCell ⟨gr, 0, none⟩ (.int .i64 K1)).setCell ⟨gr, 1, none⟩ (.int .i64 R1)).setCell ⟨gr, 2, none⟩ (.int .i64 S1)).setCell ⟨gr, 3, none⟩ (.int .i64 P1)).setCell ⟨gr, 4, none⟩ (.int .i64 V1)).setCell ⟨gr, 5, none⟩ (.slice A5 E1.length c5)) from (below_set (below_set (below_set (below_set (below_set (below_set H67.out GR.out) GR.out) GR.out) GR.out) GR.out) GR.out)); have HB7 := Aside0.mk (below_step (pH_ HB.out) HX.out); have BL7 := Aside0.mk (blk_below (pB_ BL.out) HX.out); have BC7 := Aside0.mk (blk_below (pB_ BC.out) HX.out); have HV7 := Aside0.mk (Kd.R_below HV.out HX.out); have HE7 := Aside0.mk (AllE.below HE.out HX.out); have HN7 := Aside0.mk (Kd.R_below HN6.out HX.out); generalize ((((((w7.setCell ⟨gr, 0, none⟩ (.int .i64 K1)).setCell ⟨gr, 1, none⟩ (.int .i64 R1)).setCell ⟨gr, 2, none⟩ (.int .i64 S1)).setCell ⟨gr, 3, none⟩ (.int .i64 P1)).setCell ⟨gr, 4, none⟩ (.int .i64 V1)).setCell ⟨gr, 5, none⟩ (.slice A5 E1.length c5)) = wz at BR2 HX HB7 BL7 BC7 HV7 HE7 HN7 ⊢; clear BR HX H67 HB BL BC HV HE HN6 hcz2_0 hfz2_0 hcz2_1 hfz2_1 hcz2_2 hfz2_2 hcz2_3 hfz2_3 hcz2_4 hfz2_4 hcz2_5 hfz2_5; obtain ⟨hcy_0, hcy_1, hcy_2, hcy_3, hcy_4, hcy_5⟩ := c6_ BR2) | (at_builtin; refine Kd.R_append (kRaw 7) (w0 := w) w.heap.size rfl (.tmp 38) (.tmp 42) 103 108 _ 80 rfl Try.underlying103 info_taken rfl (by decide) (by omega) u9 xs (takenRow T1 K1 R1 S1 P1 V1 A5 E1.length c5) (takenRow T1 K1 R1 S1 P1 V1 A5 E1.length c5) (fun _ => True) (fun _ => False) rfl rfl (takenRow_M _ _ _ _ _ _ _ _ _ _ _ _) (fun _ h => h.elim) (fun _ _ => trivial) ?aO ?aB ?aS ?aL ?_; (case aO => exact HV7.out); (case aB => exact HB7.out); (case aS => exact below_size HB7.out); (case aL => have := HL.out; omega); intro v8 w8 ho8 hb8 hg8 _; have HV8 := Aside0.mk ho8; have HB8 := Aside0.mk hb8; have HG8 := Aside0.mk hg8; clear ho8 hb8 hg8))
     go_roundg 2
     case measure => (have := hi.out; omega)
     case rel => exact ⟨1, xs ++ [(takenRow T1 K1 R1 S1 P1 V1 A5 E1.length c5)], _, ⟨rfl⟩, .inr (.inl ⟨rfl, by go_num, rfl⟩), ⟨blk_grown BL7.out HG8.out (Kd.R_ne HV7.out BL7.out (by decide))⟩, ⟨blk_grown BC7.out HG8.out (Kd.R_ne HV7.out BC7.out (by decide))⟩, HV8, ⟨by simpa [tk, hB1, hF1] using AllE.snoc (t := ⟨T1, K1, R1, S1, P1, V1, E1⟩) ⟨_, _, _, rfl, Kd.R_over' HN7.out (Kd.R_typed HV7.out) (by decide) HG8.out⟩ (AllE.grown HE7.out HV7.out HG8.out)⟩, HB8⟩
  ·
   have hc : wr.cell? ⟨gl, 1, none⟩ = some (.iface ty x2) := bc_ BL 1
   have HL := Aside0.mk (show xs.length ≤ 1 from by rw [AllE.len HE.out]; exact tk_len _ _ _)
   cases hB2 : B2 with
   | false =>
    rw [hB2] at hcx2
    go_wp2_with (first | fail)
    refine (hcx2 _).mono ?_
    rintro e w5 ⟨rfl, hb⟩
    have BL5 := bb_ BL hb; have BC5 := bb_ BC hb; have HV5 := Aside0.mk (Kd.R_below (pR_ HV.out) hb); have HE5 := Aside0.mk (AllE.below HE.out hb); have HB5 := bs_ HB hb
    clear hb BL BC HV HE HB hc
    go_wp2
    go_roundg 1
    case measure => (have := hi.out; omega)
    case rel => exact ⟨2, xs, _, ⟨rfl⟩, .inr (.inr ⟨rfl, by go_num, rfl⟩), BL5, BC5, HV5, ⟨by simpa [tk, hB2] using HE5.out⟩, HB5⟩
   | true =>
    rw [hB2] at hcx2
    have hRt := hR2 hB2
    go_wp2_with (first | fail)
    refine (hcx2 _).mono ?_
    rintro e w5 ⟨rfl, hb⟩
    replace BL := bb_ BL hb; replace BC := bb_ BC hb; replace HV := Aside0.mk (Kd.R_below (pR_ HV.out) hb); replace HE := Aside0.mk (AllE.below HE.out hb); replace HB := bs_ HB hb
    clear hb hc
    obtain ⟨hcz1_0, hcz1_1, hcz1_2, hcz1_3, hcz1_4, hcz1_5⟩ := c6_ BC
    cases hF2 : F2 with
    | false =>
     rw [hF2] at hRt
     go_wp2_with (first | ((with_reducible refine gate_callee (f := 40) rfl ?_); refine gL_ 34 Try.func40 #[.agg #[.int .i64 a0_0, .int .i64 a0_1, .int .i64 a0_2, .int .i64 a0_3, .int .i64 a0_4, .slice A0_5 l0_5.length c0_5], .int .i64 a1, .int .i64 a2, .string T2] ?_; (with_reducible refine (arb_Right.calls a0_0 a0_1 a0_2 a0_3 a0_4 A0_5 c0_5 l0_5 a1 a2 T2 K2 R2 S2 P2 V2 E2 false _ (Kd.C_below HR0.out HB.out) hc0.out hRt).mono ?_); rintro e w6 ⟨v5, rfl, hr, hb⟩; refine ⟨_, rfl, ?_⟩; obtain ⟨A5, c5, rfl⟩ := Kd.R_slice hr; have HN6 := Aside0.mk (Kd.R_lower hr (below_size HB.out)); replace BL := bb_ BL hb; replace BC := bb_ BC hb; replace HV := Aside0.mk (Kd.R_below (pR_ HV.out) hb); replace HE := Aside0.mk (AllE.below HE.out hb); replace HB := bs_ HB hb; clear hr hb hcz1_0 hcz1_1 hcz1_2 hcz1_3 hcz1_4 hcz1_5) | ((with_reducible refine gate_dst (N := 14) rfl ?_); refine be_ 14 #[.int .i64 0, .int .i64 0, .int .i64 0, .int .i64 0, .int .i64 0, .slice none 0 0] 29 ?_; intro gr hg w7 hbox hb; have BR := Aside0.mk hbox; have GR := Aside0.mk ((by rw [hg]; exact Nat.le_refl _ : w6.heap.size ≤ gr)); have H67 := Aside0.mk hb; have Nlr := Aside0.mk (ltB_ hg BL.out); have Ncr := Aside0.mk (ltB_ hg BC.out); clear hb hbox hg; obtain ⟨hcz2_0, hcz2_1, hcz2_2, hcz2_3, hcz2_4, hcz2_5⟩ := c6_ BR; obtain ⟨hfz2_0, hfz2_1, hfz2_2, hfz2_3, hfz2_4, hfz2_5⟩ := f6_ BR))
     have HX := Aside0.mk (show Below w6.heap.size w6 ((((((w7.setCell ⟨gr, 0, none⟩ (.int .i64 K2)).setCell ⟨gr, 1, none⟩ (.int .i64 R2)).setCell ⟨gr, 2, none⟩ (.int .i64 S2)).setCell ⟨gr, 3, none⟩ (.int .i64 P2)).setCell ⟨gr, 4, none⟩ (.int .i64 V2)).setCell ⟨gr, 5, none⟩ (.slice A5 E2.length c5)) from (below_set (below_set (below_set (below_set (below_set (below_set H67.out GR.out) GR.out) GR.out) GR.out) GR.out) GR.out))
     go_roundg 1
     case measure => (have := hi.out; omega)
     case rel => exact ⟨2, xs, _, ⟨rfl⟩, .inr (.inr ⟨rfl, by go_num, rfl⟩), ⟨blk_below (pB_ BL.out) HX.out⟩, ⟨blk_below (pB_ BC.out) HX.out⟩, ⟨Kd.R_below HV.out HX.out⟩, ⟨by simpa [tk, hB2, hF2] using AllE.below HE.out HX.out⟩, ⟨below_step (pH_ HB.out) HX.out⟩⟩
    | true =>
     rw [hF2] at hRt
     go_wp2_with (first | ((with_reducible refine gate_callee (f := 40) rfl ?_); refine gL_ 34 Try.func40 #[.agg #[.int .i64 a0_0, .int .i64 a0_1, .int .i64 a0_2, .int .i64 a0_3, .int .i64 a0_4, .slice A0_5 l0_5.length c0_5], .int .i64 a1, .int .i64 a2, .string T2] ?_; (with_reducible refine (arb_Right.calls a0_0 a0_1 a0_2 a0_3 a0_4 A0_5 c0_5 l0_5 a1 a2 T2 K2 R2 S2 P2 V2 E2 true _ (Kd.C_below HR0.out HB.out) hc0.out hRt).mono ?_); rintro e w6 ⟨v5, rfl, hr, hb⟩; refine ⟨_, rfl, ?_⟩; obtain ⟨A5, c5, rfl⟩ := Kd.R_slice hr; have HN6 := Aside0.mk (Kd.R_lower hr (below_size HB.out)); replace BL := bb_ BL hb; replace BC := bb_ BC hb; replace HV := Aside0.mk (Kd.R_below (pR_ HV.out) hb); replace HE := Aside0.mk (AllE.below HE.out hb); replace HB := bs_ HB hb; clear hr hb hcz1_0 hcz1_1 hcz1_2 hcz1_3 hcz1_4 hcz1_5) | ((with_reducible refine gate_dst (N := 14) rfl ?_); refine be_ 14 #[.int .i64 0, .int .i64 0, .int .i64 0, .int .i64 0, .int .i64 0, .slice none 0 0] 29 ?_; intro gr hg w7 hbox hb; have BR := Aside0.mk hbox; have GR := Aside0.mk ((by rw [hg]; exact Nat.le_refl _ : w6.heap.size ≤ gr)); have H67 := Aside0.mk hb; have Nlr := Aside0.mk (ltB_ hg BL.out); have Ncr := Aside0.mk (ltB_ hg BC.out); clear hb hbox hg; obtain ⟨hcz2_0, hcz2_1, hcz2_2, hcz2_3, hcz2_4, hcz2_5⟩ := c6_ BR; obtain ⟨hfz2_0, hfz2_1, hfz2_2, hfz2_3, hfz2_4, hfz2_5⟩ := f6_ BR) | ((with_reducible refine gate_dst (N := 40) rfl ?_); have BR2 := Aside0.mk (show ((((((w7.setCell ⟨gr, 0, none⟩ (.int .i64 K2)).setCell ⟨gr, 1, none⟩ (.int .i64 R2)).setCell ⟨gr, 2, none⟩ (.int .i64 S2)).setCell ⟨gr, 3, none⟩ (.int .i64 P2)).setCell ⟨gr, 4, none⟩ (.int .i64 V2)).setCell ⟨gr, 5, none⟩ (.slice A5 E2.length c5)).heap[gr]? = some (.cells #[.int .i64 K2, .int .i64 R2, .int .i64 S2, .int .i64 P2, .int .i64 V2, .slice A5 E2.length c5] 29 (0, 0)) from fr_put6 BR.out _ _ _ _ _ _); have HX := Aside0.mk (show Below w6.heap.size w6 ((((((w7.setCell ⟨gr, 0, none⟩ (.int .i64 K2)).setCell ⟨gr, 1, none⟩ (.int .i64 R2)).setCell ⟨gr, 2, none⟩ (.int .i64 S2)).setCell ⟨gr, 3, none⟩ (.int .i64 P2)).setCell ⟨gr, 4, none⟩ (.int .i64 V2)).setCell ⟨gr, 5, none⟩ (.slice A5 E2.length c5)) from (below_set (below_set (below_set (below_set (below_set (below_set H67.out GR.out) GR.out) GR.out) GR.out) GR.out) GR.out)); have HB7 := Aside0.mk (below_step (pH_ HB.out) HX.out); have BL7 := Aside0.mk (blk_below (pB_ BL.out) HX.out); have BC7 := Aside0.mk (blk_below (pB_ BC.out) HX.out); have HV7 := Aside0.mk (Kd.R_below HV.out HX.out); have HE7 := Aside0.mk (AllE.below HE.out HX.out); have HN7 := Aside0.mk (Kd.R_below HN6.out HX.out); generalize ((((((w7.setCell ⟨gr, 0, none⟩ (.int .i64 K2)).setCell ⟨gr, 1, none⟩ (.int .i64 R2)).setCell ⟨gr, 2, none⟩ (.int .i64 S2)).setCell ⟨gr, 3, none⟩ (.int .i64 P2)).setCell ⟨gr, 4, none⟩ (.int .i64 V2)).setCell ⟨gr, 5, none⟩ (.slice A5 E2.length c5)) = wz at BR2 HX HB7 BL7 BC7 HV7 HE7 HN7 ⊢; clear BR HX H67 HB BL BC HV HE HN6 hcz2_0 hfz2_0 hcz2_1 hfz2_1 hcz2_2 hfz2_2 hcz2_3 hfz2_3 hcz2_4 hfz2_4 hcz2_5 hfz2_5; obtain ⟨hcy_0, hcy_1, hcy_2, hcy_3, hcy_4, hcy_5⟩ := c6_ BR2) | (at_builtin; refine Kd.R_append (kRaw 7) (w0 := w) w.heap.size rfl (.tmp 38) (.tmp 42) 103 108 _ 80 rfl Try.underlying103 info_taken rfl (by decide) (by omega) u9 xs (takenRow T2 K2 R2 S2 P2 V2 A5 E2.length c5) (takenRow T2 K2 R2 S2 P2 V2 A5 E2.length c5) (fun _ => True) (fun _ => False) rfl rfl (takenRow_M _ _ _ _ _ _ _ _ _ _ _ _) (fun _ h => h.elim) (fun _ _ => trivial) ?aO ?aB ?aS ?aL ?_; (case aO => exact HV7.out); (case aB => exact HB7.out); (case aS => exact below_size HB7.out); (case aL => have := HL.out; omega); intro v8 w8 ho8 hb8 hg8 _; have HV8 := Aside0.mk ho8; have HB8 := Aside0.mk hb8; have HG8 := Aside0.mk hg8; clear ho8 hb8 hg8))
     go_roundg 1
     case measure => (have := hi.out; omega)
     case rel => exact ⟨2, xs ++ [(takenRow T2 K2 R2 S2 P2 V2 A5 E2.length c5)], _, ⟨rfl⟩, .inr (.inr ⟨rfl, by go_num, rfl⟩), ⟨blk_grown BL7.out HG8.out (Kd.R_ne HV7.out BL7.out (by decide))⟩, ⟨blk_grown BC7.out HG8.out (Kd.R_ne HV7.out BC7.out (by decide))⟩, HV8, ⟨by simpa [tk, hB2, hF2] using AllE.snoc (t := ⟨T2, K2, R2, S2, P2, V2, E2⟩) ⟨_, _, _, rfl, Kd.R_over' HN7.out (Kd.R_typed HV7.out) (by decide) HG8.out⟩ (AllE.grown HE7.out HV7.out HG8.out)⟩, HB8⟩
  ·
   go_wp2
   go_ret
   exact ⟨_, xs, rfl, HV.out, HE.out, HB.out⟩
set_option maxHeartbeats 8000000 in
set_option maxRecDepth 100000 in
theorem arb_first_nil (A0 : Option Addr) (c0 : Nat) (w : World) :
  Calls Try.prog 75 #[.slice A0 0 c0] w fun e w' => e = .returned (.tuple #[.agg #[.int .i64 0, .int .i64 0, .int .i64 0, .int .i64 0, .int .i64 0, .slice none 0 0], .bool false]) ∧ Below w.heap.size w w' := by
 have hu26 := Try.underlying26
 have hu27 := Try.underlying27
 have hu29 := Try.underlying29
 have HB := Aside0.mk (Below.refl w.heap.size w)
 go_enter Try.func75, Try.ntmps75
 go_wp2_with (first | ((with_reducible refine gate_dst (N := 2) rfl ?_); refine be_ 2 #[.int .i64 0, .int .i64 0, .int .i64 0, .int .i64 0, .int .i64 0, .slice none 0 0] 29 ?_; intro gr hg w3 hbox hb; have BR := Aside0.mk hbox; have GR := Aside0.mk ((by rw [hg]; exact (below_size (pH_ HB.out)) : w.heap.size ≤ gr)); replace HB := bs_ HB hb; clear hb hbox hg; obtain ⟨hcz1_0, hcz1_1, hcz1_2, hcz1_3, hcz1_4, hcz1_5⟩ := c6_ BR; obtain ⟨hfz1_0, hfz1_1, hfz1_2, hfz1_3, hfz1_4, hfz1_5⟩ := f6_ BR))
 refine bodyPost_ret (results_ct rfl _ _ gr 29 #[.int .i64 0, .int .i64 0, .int .i64 0, .int .i64 0, .int .i64 0, .slice none 0 0] (0, 0) _ rfl ?hx Try.underlying29 rfl (by kernel_rfl)) rfl ?_
 case hx => exact fr_put6 BR.out _ _ _ _ _ _
 exact ⟨rfl, (below_set (below_set (below_set (below_set (below_set (below_set HB.out GR.out) GR.out) GR.out) GR.out) GR.out) GR.out)⟩
set_option maxHeartbeats 8000000 in
set_option maxRecDepth 100000 in
theorem arb_first_one (g n c : Nat) (cur : Array Value) (s : ByteArray) (K R S P V : Int) (Av : Option Addr) (nv cv : Nat) (w : World) (hh : w.heap[g]? = some (.cells cur 108 (0, 0))) (hn : 1 ≤ n)
  (h0 : cur[0]? = some (.string s)) (h1 : cur[1]? = some (.int .i64 K)) (h2 : cur[2]? = some (.int .i64 R)) (h3 : cur[3]? = some (.int .i64 S)) (h4 : cur[4]? = some (.int .i64 P)) (h5 : cur[5]? = some (.int .i64 V)) (h6 : cur[6]? = some (.slice Av nv cv)) :
  Calls Try.prog 75 #[.slice (some ⟨g, 0, none⟩) n c] w fun e w' => e = .returned (.tuple #[.agg #[.int .i64 K, .int .i64 R, .int .i64 S, .int .i64 P, .int .i64 V, .slice Av nv cv], .bool true]) ∧ Below w.heap.size w w' := by
 have hu26 := Try.underlying26
 have hu27 := Try.underlying27
 have hu29 := Try.underlying29
 have hu9 := Try.underlying9
 have hu3 := Try.underlying3
 have hta : ∀ (x : Value) (W : World), (Instr.typeAssert (.iface 108 x) 20 108 true).run Try.prog W = .ok (.tuple #[x, .bool true]) W := fun x W => by kernel_rfl
 have hu108 := Try.underlying108
 have HB := Aside0.mk (Below.refl w.heap.size w)
 have BG := Aside0.mk hh
 have e1 : ((n : Int) == 0) = false := beq_eq_false_iff_ne.2 (by omega)
 have e2 : decide ((0 : Int) < (n : Int)) = true := decide_eq_true (by omega)
 have e3 : 0 < n := by omega
 go_enter Try.func75, Try.ntmps75
 go_upto_region 5 with (first | ((with_reducible refine gate_dst (N := 2) rfl ?_); refine be_ 2 #[.int .i64 0, .int .i64 0, .int .i64 0, .int .i64 0, .int .i64 0, .slice none 0 0] 29 ?_; intro gr hg w3 hbox hb; have BR := Aside0.mk hbox; have Ngr := Aside0.mk (ltB_ hg BG.out); replace BG := bb_ BG hb; have GR := Aside0.mk ((by rw [hg]; exact (below_size (pH_ HB.out)) : w.heap.size ≤ gr)); replace HB := bs_ HB hb; clear hb hbox hg; have hg0 : w3.cell? ⟨g, 0, none⟩ = some (.string s) := (blk_cell BG.out 0).trans h0; have hg1 : w3.cell? ⟨g, 1, none⟩ = some (.int .i64 K) := (blk_cell BG.out 1).trans h1; have hg2 : w3.cell? ⟨g, 2, none⟩ = some (.int .i64 R) := (blk_cell BG.out 2).trans h2; have hg3 : w3.cell? ⟨g, 3, none⟩ = some (.int .i64 S) := (blk_cell BG.out 3).trans h3; have hg4 : w3.cell? ⟨g, 4, none⟩ = some (.int .i64 P) := (blk_cell BG.out 4).trans h4; have hg5 : w3.cell? ⟨g, 5, none⟩ = some (.int .i64 V) := (blk_cell BG.out 5).trans h5; have hg6 : w3.cell? ⟨g, 6, none⟩ = some (.slice Av nv cv) := (blk_cell BG.out 6).trans h6) | ((with_reducible refine gate_dst (N := 5) rfl ?_); refine box_event ?hg (N := 5) ?hd (cs := #[.string (⟨#[]⟩ : ByteArray), .int .i64 0, .int .i64 0, .int .i64 0, .int .i64 0, .int .i64 0, .slice none 0 0]) (t := 108) ?hr ?_; (case hd => rfl); (case hg => rfl); (case hr => first | (go_simp; done) | (go_simp; rfl)); intro gt hg w4 hbox hb; have BT := Aside0.mk hbox; have Nrt := Aside0.mk (ltB_ hg BR.out); replace BR := bb_ BR hb; have GT := Aside0.mk ((by rw [hg]; exact (below_size (pH_ HB.out)) : w.heap.size ≤ gt)); replace HB := bs_ HB hb; clear hb hbox hg; have hnb1 := Nrt.out; have hnb2 := Nrt.out.symm; have ht0 : w4.cell? ⟨gt, 0, none⟩ = some (.string (⟨#[]⟩ : ByteArray)) := bc_ BT 0; have ht1 : w4.cell? ⟨gt, 1, none⟩ = some (.int .i64 0) := bc_ BT 1; have ht2 : w4.cell? ⟨gt, 2, none⟩ = some (.int .i64 0) := bc_ BT 2; have ht3 : w4.cell? ⟨gt, 3, none⟩ = some (.int .i64 0) := bc_ BT 3; have ht4 : w4.cell? ⟨gt, 4, none⟩ = some (.int .i64 0) := bc_ BT 4; have ht5 : w4.cell? ⟨gt, 5, none⟩ = some (.int .i64 0) := bc_ BT 5; have ht6 : w4.cell? ⟨gt, 6, none⟩ = some (.slice none 0 0) := bc_ BT 6; have hft0 := blk_frozen BT.out 0; have hft1 := blk_frozen BT.out 1; have hft2 := blk_frozen BT.out 2; have hft3 := blk_frozen BT.out 3; have hft4 := blk_frozen BT.out 4; have hft5 := blk_frozen BT.out 5; have hft6 := blk_frozen BT.out 6; obtain ⟨hr0, hr1, hr2, hr3, hr4, hr5⟩ := c6_ BR; obtain ⟨hfr0, hfr1, hfr2, hfr3, hfr4, hfr5⟩ := f6_ BR))
 have BT2 := Aside0.mk (show (((((((w4.setCell ⟨gt, 0, none⟩ (.string s)).setCell ⟨gt, 1, none⟩ (.int .i64 K)).setCell ⟨gt, 2, none⟩ (.int .i64 R)).setCell ⟨gt, 3, none⟩ (.int .i64 S)).setCell ⟨gt, 4, none⟩ (.int .i64 P)).setCell ⟨gt, 5, none⟩ (.int .i64 V)).setCell ⟨gt, 6, none⟩ (.slice Av nv cv)).heap[gt]? = some (.cells #[.string s, .int .i64 K, .int .i64 R, .int .i64 S, .int .i64 P, .int .i64 V, .slice Av nv cv] 108 (0, 0)) from by
  refine blk_put (cs := #[.string s, .int .i64 K, .int .i64 R, .int .i64 S, .int .i64 P, .int .i64 V, .slice none 0 0]) ?_ 6 _ rfl
  refine blk_put (cs := #[.string s, .int .i64 K, .int .i64 R, .int .i64 S, .int .i64 P, .int .i64 0, .slice none 0 0]) ?_ 5 _ rfl
  refine blk_put (cs := #[.string s, .int .i64 K, .int .i64 R, .int .i64 S, .int .i64 0, .int .i64 0, .slice none 0 0]) ?_ 4 _ rfl
  refine blk_put (cs := #[.string s, .int .i64 K, .int .i64 R, .int .i64 0, .int .i64 0, .int .i64 0, .slice none 0 0]) ?_ 3 _ rfl
  refine blk_put (cs := #[.string s, .int .i64 K, .int .i64 0, .int .i64 0, .int .i64 0, .int .i64 0, .slice none 0 0]) ?_ 2 _ rfl
  refine blk_put (cs := #[.string s, .int .i64 0, .int .i64 0, .int .i64 0, .int .i64 0, .int .i64 0, .slice none 0 0]) ?_ 1 _ rfl
  refine blk_put (cs := #[.string (⟨#[]⟩ : ByteArray), .int .i64 0, .int .i64 0, .int .i64 0, .int .i64 0, .int .i64 0, .slice none 0 0]) ?_ 0 _ rfl
  exact BT.out)
 have BR2 := Aside0.mk (show (((((((w4.setCell ⟨gt, 0, none⟩ (.string s)).setCell ⟨gt, 1, none⟩ (.int .i64 K)).setCell ⟨gt, 2, none⟩ (.int .i64 R)).setCell ⟨gt, 3, none⟩ (.int .i64 S)).setCell ⟨gt, 4, none⟩ (.int .i64 P)).setCell ⟨gt, 5, none⟩ (.int .i64 V)).setCell ⟨gt, 6, none⟩ (.slice Av nv cv)).heap[gr]? = some (.cells #[.int .i64 0, .int .i64 0, .int .i64 0, .int .i64 0, .int .i64 0, .slice none 0 0] 29 (0, 0)) from by
  refine blk_far ?_ Nrt.out _
  refine blk_far ?_ Nrt.out _
  refine blk_far ?_ Nrt.out _
  refine blk_far ?_ Nrt.out _
  refine blk_far ?_ Nrt.out _
  refine blk_far ?_ Nrt.out _
  refine blk_far ?_ Nrt.out _
  exact BR.out)
 have HB2 := Aside0.mk (show Below w.heap.size w (((((((w4.setCell ⟨gt, 0, none⟩ (.string s)).setCell ⟨gt, 1, none⟩ (.int .i64 K)).setCell ⟨gt, 2, none⟩ (.int .i64 R)).setCell ⟨gt, 3, none⟩ (.int .i64 S)).setCell ⟨gt, 4, none⟩ (.int .i64 P)).setCell ⟨gt, 5, none⟩ (.int .i64 V)).setCell ⟨gt, 6, none⟩ (.slice Av nv cv)) from (below_set (below_set (below_set (below_set (below_set (below_set (below_set HB.out GT.out) GT.out) GT.out) GT.out) GT.out) GT.out) GT.out))
 generalize (((((((w4.setCell ⟨gt, 0, none⟩ (.string s)).setCell ⟨gt, 1, none⟩ (.int .i64 K)).setCell ⟨gt, 2, none⟩ (.int .i64 R)).setCell ⟨gt, 3, none⟩ (.int .i64 S)).setCell ⟨gt, 4, none⟩ (.int .i64 P)).setCell ⟨gt, 5, none⟩ (.int .i64 V)).setCell ⟨gt, 6, none⟩ (.slice Av nv cv)) = w5 at BT2 BR2 HB2 ⊢
 clear ht0 hft0 ht1 hft1 ht2 hft2 ht3 hft3 ht4 hft4 ht5 hft5 ht6 hft6 hr0 hfr0 hr1 hfr1 hr2 hfr2 hr3 hfr3 hr4 hfr4 hr5 hfr5 BT BR HB
 have ht0 : w5.cell? ⟨gt, 0, none⟩ = some (.string s) := bc_ BT2 0
 have ht1 : w5.cell? ⟨gt, 1, none⟩ = some (.int .i64 K) := bc_ BT2 1
 have ht2 : w5.cell? ⟨gt, 2, none⟩ = some (.int .i64 R) := bc_ BT2 2
 have ht3 : w5.cell? ⟨gt, 3, none⟩ = some (.int .i64 S) := bc_ BT2 3
 have ht4 : w5.cell? ⟨gt, 4, none⟩ = some (.int .i64 P) := bc_ BT2 4
 have ht5 : w5.cell? ⟨gt, 5, none⟩ = some (.int .i64 V) := bc_ BT2 5
 have ht6 : w5.cell? ⟨gt, 6, none⟩ = some (.slice Av nv cv) := bc_ BT2 6
 obtain ⟨hr0, hr1, hr2, hr3, hr4, hr5⟩ := c6_ BR2
 obtain ⟨hfr0, hfr1, hfr2, hfr3, hfr4, hfr5⟩ := f6_ BR2
 go_wp2
 refine bodyPost_ret (results_ct rfl _ _ gr 29 #[.int .i64 K, .int .i64 R, .int .i64 S, .int .i64 P, .int .i64 V, .slice Av nv cv] (0, 0) _ rfl ?hx Try.underlying29 rfl (by kernel_rfl)) rfl ?_
 case hx => exact fr_put6 BR2.out _ _ _ _ _ _
 exact ⟨rfl, (below_set (below_set (below_set (below_set (below_set (below_set HB2.out GR.out) GR.out) GR.out) GR.out) GR.out) GR.out)⟩
def arb_rg (a0_0 a0_1 a0_2 a0_3 a0_4 : Int) (l0_5 : List Int) (a1 a2 : Int) (B : Bool) (T : ByteArray) : Option (List Tk) :=
 if B = true then (arb_Right.f a0_0 a0_1 a0_2 a0_3 a0_4 l0_5 a1 a2 T).bind fun r => some (tk true r.2.2.2.2.2.2 ⟨T, r.1, r.2.1, r.2.2.1, r.2.2.2.1, r.2.2.2.2.1, r.2.2.2.2.2.1⟩) else some []
def pickFirst : List Tk → Int × Int × Int × Int × Int × List S26 × Bool
 | [] => (0, 0, 0, 0, 0, [], false)
 | t :: _ => (t.K, t.R, t.S, t.P, t.V, t.E, true)
def pickTail (m : Option (Int × Int × Int × Int × Int × List S26 × Bool)) : List Tk → Option (Int × Int × Int × Int × Int × List S26 × Bool)
 | [] => m
 | [t, u] => if t.s = u.s then some (pickFirst [t, u]) else some (pickFirst [])
 | t :: r => some (pickFirst (t :: r))
def arb_Pick.f (a0_0 : Int) (a0_1 : Int) (a0_2 : Int) (a0_3 : Int) (a0_4 : Int) (l0_5 : List Int) (a1 : Int) (a2 : Int) (a3_0 : ByteArray) (a3_1 : ByteArray) (a3_2 : ByteArray) (a3_3 : Int) (a4_0 : ByteArray) (a4_1 : ByteArray) (a4_2 : ByteArray) (a4_3 : Int) : Option (Int × Int × Int × Int × Int × List S26 × Bool) :=
 (arb_rg a0_0 a0_1 a0_2 a0_3 a0_4 l0_5 a1 a2 (decide (a3_3 ≥ 2) || (a3_3 == 1 && decide (a2 ≥ a0_0))) a3_2).bind fun l1 => (arb_rg a0_0 a0_1 a0_2 a0_3 a0_4 l0_5 a1 a2 (decide (a4_3 ≥ 2) || (a4_3 == 1 && decide (a2 ≥ a0_0))) a4_2).bind fun l2 => pickTail ((arb_rg a0_0 a0_1 a0_2 a0_3 a0_4 l0_5 a1 a2 (a3_3 == 1 && !decide (a2 ≥ a0_0)) a3_0).bind fun m1 => (arb_rg a0_0 a0_1 a0_2 a0_3 a0_4 l0_5 a1 a2 (a4_3 == 1 && !decide (a2 ≥ a0_0)) a4_0).bind fun m2 => some (pickFirst (m1 ++ m2))) (l1 ++ l2)
theorem arb_rg_cases {a0_0 a0_1 a0_2 a0_3 a0_4 : Int} {l0_5 : List Int} {a1 a2 : Int} {B : Bool} {T : ByteArray} {l : List Tk} (h : arb_rg a0_0 a0_1 a0_2 a0_3 a0_4 l0_5 a1 a2 B T = some l) :
  ∃ K R S P V E F, (B = true → arb_Right.f a0_0 a0_1 a0_2 a0_3 a0_4 l0_5 a1 a2 T = some (K, R, S, P, V, E, F)) ∧ l = tk B F ⟨T, K, R, S, P, V, E⟩ := by
 unfold arb_rg at h
 cases B with
 | false =>
  rw [if_neg (by decide)] at h
  cases h
  exact ⟨0, 0, 0, 0, 0, [], false, fun h => absurd h (by decide), rfl⟩
 | true =>
  rw [if_pos rfl] at h
  obtain ⟨⟨K, R, S, P, V, E, F⟩, h1, h2⟩ := Option.bind_eq_some_iff.mp h
  exact ⟨K, R, S, P, V, E, F, fun _ => h1, (Option.some.inj h2).symm⟩
theorem arb_mc (x : Value) (W : World) : (method 242 106 x "plaiting/arb.text").run Try.prog W = .ok (105, x) W := by kernel_rfl
theorem arb_md (x : Value) (W : World) : (method 242 110 x "plaiting/arb.text").run Try.prog W = .ok (106, x) W := by kernel_rfl
theorem arb_cc (xs : Array Value) (W : World) : (callFunc 105 xs).run Try.prog W = .ok (.enter 105 xs) W := enters_ Try.func105 (by kernel_rfl) rfl xs W
theorem arb_cd (xs : Array Value) (W : World) : (callFunc 106 xs).run Try.prog W = .ok (.enter 106 xs) W := enters_ Try.func106 (by kernel_rfl) rfl xs W
theorem rows_nil {w : World} {base : Nat} {v : Value} {xs : List (List Value)} (hv : (kRaw 7).R 108 w base (fun _ => True) v xs) (he : AllE w base xs []) : ∃ A c, v = .slice A 0 c := by
 obtain ⟨A, c, rfl⟩ := Kd.R_slice hv
 rw [AllE.len he]
 exact ⟨A, c, rfl⟩
theorem rows_one {w : World} {base : Nat} {v : Value} {xs : List (List Value)} {t : Tk} {ts : List Tk} (hv : (kRaw 7).R 108 w base (fun _ => True) v xs) (he : AllE w base xs (t :: ts)) :
  ∃ g cap cur A c, v = .slice (some ⟨g, 0, Option.none⟩) (ts.length + 1) cap ∧ base ≤ g ∧ w.heap[g]? = some (.cells cur 108 (0, 0)) ∧ cur[0]? = some (.string t.s) ∧ cur[1]? = some (.int .i64 t.K) ∧ cur[2]? = some (.int .i64 t.R) ∧ cur[3]? = some (.int .i64 t.S) ∧ cur[4]? = some (.int .i64 t.P) ∧ cur[5]? = some (.int .i64 t.V) ∧ cur[6]? = some (.slice A t.E.length c) ∧ Kd.R k26 26 w base (fun _ => True) (.slice A t.E.length c) t.E ∧ (∀ u us, ts = u :: us → cur[7]? = some (.string u.s)) := by
 have hlen := AllE.len he
 match xs, he with
 | x :: xs, ⟨⟨A, n, c, ex, r⟩, h⟩ =>
  subst ex
  rcases kRaw_block hv with ⟨_, h0⟩ | ⟨g, cap, cur, rfl, hg, hh, hc⟩
  · cases h0
  ·
   obtain ⟨A', c', e'⟩ := Kd.R_slice r
   injection e' with e1 e2 e3
   subst e1 e2 e3
   have hl2 : xs.length = ts.length := AllE.len h
   refine ⟨g, cap, cur, A, c, by rw [List.length_cons, hl2], hg, hh, ?_, ?_, ?_, ?_, ?_, ?_, ?_, r, ?_⟩
   · have := hc 0 _ rfl 0 (by decide); simpa [takenRow] using this
   · have := hc 0 _ rfl 1 (by decide); simpa [takenRow] using this
   · have := hc 0 _ rfl 2 (by decide); simpa [takenRow] using this
   · have := hc 0 _ rfl 3 (by decide); simpa [takenRow] using this
   · have := hc 0 _ rfl 4 (by decide); simpa [takenRow] using this
   · have := hc 0 _ rfl 5 (by decide); simpa [takenRow] using this
   · have := hc 0 _ rfl 6 (by decide); simpa [takenRow] using this
   ·
    rintro u us rfl
    match xs, h with
    | y :: ys, ⟨⟨A2, n2, c2, e2, _⟩, _⟩ =>
     have := hc 1 _ rfl 0 (by decide)
     subst e2
     simpa [takenRow] using this
theorem slice_event {P : Program} {ops : Array Oper} {rest : List Oper} {o : Oper} {a : Act} {Q : Exit → Act → World → Prop} {W : World} (hgd : o.guard = Option.none) {N : Tmp} (_hd : o.dst = some N) {cs : Array Value} {t : TypeId} {n : Nat}
  (hrun : (execOp a.eval o).run P W = .ok (.value (.slice (some ⟨W.heap.size, 0, Option.none⟩) n n)) (W.alloc (.cells cs t (0, 0))))
  (h : ∀ g, g = W.heap.size → ∀ w1, w1.heap[g]? = some (.cells cs t (0, 0)) → Below W.heap.size W w1 → wpList P ops Q rest (a.put o.dst (.slice (some ⟨g, 0, Option.none⟩) n n)) w1) : wpList P ops Q (o :: rest) a W :=
 Kd.event_run hgd hrun (h _ rfl _ (blk_new W _) (below_alloc (Below.refl _ _) _))
def arb_Pick.T3 : Bool × List (List Nat × List Nat) := (true, [([], []), ([0], [0]), ([1], [1]), ([2], [2]), ([3], [3]), ([4, 3], [3, 4]), ([5, 3], [3, 5]), ([6, 3], [3, 6]), ([3], [3]), ([8, 3], [3, 8]), ([9, 3], [3, 9]), ([10, 3], [3, 10]), ([7, 11, 3], [3, 7, 11]), ([3, 12], [3, 12]), ([13, 3], [13])])
def arb_Pick.B3 : List Nat := [0, 1, 3, 7, 15, 31, 63, 127, 15, 271, 783, 1807, 4095, 8191, 16383]
theorem arb_Pick.tab3 : rtab .any (opsOf Try.f42 3) = arb_Pick.T3 := by kernel_rfl
theorem arb_Pick.bits3 : waitsOk arb_Pick.T3.2 arb_Pick.B3 = true := by kernel_rfl
set_option maxHeartbeats 16000000 in
set_option maxRecDepth 100000 in
theorem arb_Pick.calls (a0_0 : Int) (a0_1 : Int) (a0_2 : Int) (a0_3 : Int) (a0_4 : Int) (A0_5 : Option Addr) (c0_5 : Nat) (l0_5 : List Int) (a1 : Int) (a2 : Int) (a3_0 : ByteArray) (a3_1 : ByteArray) (a3_2 : ByteArray) (a3_3 : Int) (a4_0 : ByteArray) (a4_1 : ByteArray) (a4_2 : ByteArray) (a4_3 : Int) (r1 : Int) (r2 : Int) (r3 : Int) (r4 : Int) (r5 : Int) (r6 : List S26) (r7 : Bool) (w : World) (hr0_5 : Kd.C (Kd.int .i64) w A0_5 l0_5.length l0_5) (hc0_5 : l0_5.length ≤ c0_5) (h : arb_Pick.f a0_0 a0_1 a0_2 a0_3 a0_4 l0_5 a1 a2 a3_0 a3_1 a3_2 a3_3 a4_0 a4_1 a4_2 a4_3 = some (r1, r2, r3, r4, r5, r6, r7)) :
  Calls Try.prog 42 #[.agg #[.int .i64 a0_0, .int .i64 a0_1, .int .i64 a0_2, .int .i64 a0_3, .int .i64 a0_4, .slice A0_5 l0_5.length c0_5], .int .i64 a1, .int .i64 a2, .agg #[.string a3_0, .string a3_1, .string a3_2, .int .i64 a3_3], .agg #[.string a4_0, .string a4_1, .string a4_2, .int .i64 a4_3]] w fun e w' => ∃ v5_ : Value, e = .returned (.tuple #[.agg #[.int .i64 r1, .int .i64 r2, .int .i64 r3, .int .i64 r4, .int .i64 r5, v5_], .bool r7]) ∧ Kd.R k26 26 w' w.heap.size (fun _ => True) v5_ r6 ∧ Below w.heap.size w w' := by
 have huapi_Conf := Try.underlying24
 have huapi_Item := Try.underlying26
 have hu__api_Item := Try.underlying27
 have huapi_Frame := Try.underlying29
 have hustring := Try.underlying9
 have huint := Try.underlying3
 have hu__arb_copied := Try.underlying118
 have huarb_copied := Try.underlying120
 have hu__arb_taken := Try.underlying103
 have huarb_taken := Try.underlying108
 have huspread_Side := Try.underlying63
 have huarb_compared := Try.underlying106
 have huarb_direct := Try.underlying110
 have HR0 := Aside0.mk hr0_5; have HC0 := Aside0.mk hc0_5; clear hr0_5 hc0_5
 have HB := Aside0.mk (Below.refl w.heap.size w)
 obtain ⟨l1, A1, H⟩ := Option.bind_eq_some_iff.mp h; obtain ⟨l2, A2, H⟩ := Option.bind_eq_some_iff.mp H; clear h
 obtain ⟨K1, R1, S1, P1, V1, E1, F1, hR1, rfl⟩ := arb_rg_cases A1; obtain ⟨K2, R2, S2, P2, V2, E2, F2, hR2, rfl⟩ := arb_rg_cases A2; clear A1 A2
 have key : ∀ (gl : Nat) (W : World), Below w.heap.size w W → W.heap[gl]? = some (.cells #[.iface 106 (.agg #[.string a3_0, .string a3_1, .string a3_2, .int .i64 a3_3, .bool (decide (a2 ≥ a0_0))]), .iface 106 (.agg #[.string a4_0, .string a4_1, .string a4_2, .int .i64 a4_3, .bool (decide (a2 ≥ a0_0))])] 120 (0, 0)) → Calls Try.prog 74 #[.agg #[.int .i64 a0_0, .int .i64 a0_1, .int .i64 a0_2, .int .i64 a0_3, .int .i64 a0_4, .slice A0_5 l0_5.length c0_5], .int .i64 a1, .int .i64 a2, .slice (some ⟨gl, 0, none⟩) 2 2] W fun e w' => ∃ v xs, e = .returned v ∧ (kRaw 7).R 108 w' W.heap.size (fun _ => True) v xs ∧ AllE w' W.heap.size xs (tk (decide (a3_3 ≥ 2) || (a3_3 == 1 && decide (a2 ≥ a0_0))) F1 ⟨a3_2, K1, R1, S1, P1, V1, E1⟩ ++ tk (decide (a4_3 ≥ 2) || (a4_3 == 1 && decide (a2 ≥ a0_0))) F2 ⟨a4_2, K2, R2, S2, P2, V2, E2⟩) ∧ Below W.heap.size W w' := fun gl W hb hl => arb_rights.gen 106 105 arb_mc arb_cc a0_0 a0_1 a0_2 a0_3 a0_4 A0_5 c0_5 l0_5 a1 a2 gl _ _ _ _ _ _ (fun W => arb_ctext.calls a3_0 a3_1 a3_2 a3_3 _ W) (fun W => arb_ctext.calls a4_0 a4_1 a4_2 a4_3 _ W) K1 R1 S1 P1 V1 E1 F1 K2 R2 S2 P2 V2 E2 F2 hR1 hR2 W (Kd.C_below HR0.out hb) HC0.out hl
 clear hR1 hR2
 have hlen : (tk (decide (a3_3 ≥ 2) || (a3_3 == 1 && decide (a2 ≥ a0_0))) F1 ⟨a3_2, K1, R1, S1, P1, V1, E1⟩ ++ tk (decide (a4_3 ≥ 2) || (a4_3 == 1 && decide (a2 ≥ a0_0))) F2 ⟨a4_2, K2, R2, S2, P2, V2, E2⟩).length ≤ 2 := by rw [List.length_append]; have := tk_len (decide (a3_3 ≥ 2) || (a3_3 == 1 && decide (a2 ≥ a0_0))) F1 ⟨a3_2, K1, R1, S1, P1, V1, E1⟩; have := tk_len (decide (a4_3 ≥ 2) || (a4_3 == 1 && decide (a2 ≥ a0_0))) F2 ⟨a4_2, K2, R2, S2, P2, V2, E2⟩; omega
 generalize tk (decide (a3_3 ≥ 2) || (a3_3 == 1 && decide (a2 ≥ a0_0))) F1 ⟨a3_2, K1, R1, S1, P1, V1, E1⟩ ++ tk (decide (a4_3 ≥ 2) || (a4_3 == 1 && decide (a2 ≥ a0_0))) F2 ⟨a4_2, K2, R2, S2, P2, V2, E2⟩ = ts at key H hlen
 have KEY := Aside0.mk key; have HLEN := Aside0.mk hlen; have HH := Aside0.mk H; clear key hlen H
 go_enter Try.func42, Try.ntmps42
 try go_wp2_with (first | ((with_reducible refine gate_dst (N := 5) rfl ?_); refine be_ 5 #[.int .i64 a0_0, .int .i64 a0_1, .int .i64 a0_2, .int .i64 a0_3, .int .i64 a0_4, .slice A0_5 l0_5.length c0_5] 24 ?_; intro gc hg w2 hbox hb; have Bgc := Aside0.mk hbox; have Ggc := Aside0.mk ((by rw [hg]; exact (below_size (pH_ HB.out)) : w.heap.size ≤ gc)); replace HB := bs_ HB hb; clear hb hbox hg) | ((with_reducible refine gate_dst (N := 8) rfl ?_); refine be_ 8 #[.string a3_0, .string a3_1, .string a3_2, .int .i64 a3_3] 63 ?_; intro ga hg w3 hbox hb; have Bga := Aside0.mk hbox; have Gga := Aside0.mk ((by rw [hg]; exact (below_size (pH_ HB.out)) : w.heap.size ≤ ga)); have Ngcga := Aside0.mk (ltB_ hg Bgc.out); replace Bgc := bb_ Bgc hb; replace HB := bs_ HB hb; clear hb hbox hg) | ((with_reducible refine gate_dst (N := 9) rfl ?_); refine be_ 9 #[.string a4_0, .string a4_1, .string a4_2, .int .i64 a4_3] 63 ?_; intro gb hg w4 hbox hb; have Bgb := Aside0.mk hbox; have Ggb := Aside0.mk ((by rw [hg]; exact (below_size (pH_ HB.out)) : w.heap.size ≤ gb)); have Ngcgb := Aside0.mk (ltB_ hg Bgc.out); replace Bgc := bb_ Bgc hb; have Ngagb := Aside0.mk (ltB_ hg Bga.out); replace Bga := bb_ Bga hb; replace HB := bs_ HB hb; clear hb hbox hg) | ((with_reducible refine gate_dst (N := 10) rfl ?_); refine be_ 10 #[.int .i64 0, .int .i64 0, .int .i64 0, .int .i64 0, .int .i64 0, .slice none 0 0] 29 ?_; intro gr hg w5 hbox hb; have Bgr := Aside0.mk hbox; have Ggr := Aside0.mk ((by rw [hg]; exact (below_size (pH_ HB.out)) : w.heap.size ≤ gr)); have Ngcgr := Aside0.mk (ltB_ hg Bgc.out); replace Bgc := bb_ Bgc hb; have Ngagr := Aside0.mk (ltB_ hg Bga.out); replace Bga := bb_ Bga hb; have Ngbgr := Aside0.mk (ltB_ hg Bgb.out); replace Bgb := bb_ Bgb hb; replace HB := bs_ HB hb; clear hb hbox hg; obtain ⟨hc_0, hc_1, hc_2, hc_3, hc_4, hc_5⟩ := c6_ Bgc; obtain ⟨ha_0, ha_1, ha_2, ha_3⟩ := c4_ Bga; obtain ⟨hb_0, hb_1, hb_2, hb_3⟩ := c4_ Bgb) | ((with_reducible refine gate_dst (N := 29) rfl ?_); refine slice_event ?hg (N := 29) ?hd (cs := #[.iface 106 (.agg #[.string a3_0, .string a3_1, .string a3_2, .int .i64 a3_3, .bool (decide (a2 ≥ a0_0))]), .iface 106 (.agg #[.string a4_0, .string a4_1, .string a4_2, .int .i64 a4_3, .bool (decide (a2 ≥ a0_0))])]) (t := 120) (n := 2) ?hr ?_; (case hd => rfl); (case hg => rfl); (case hr => first | (go_simp; done) | (go_simp; rfl)); intro gl hg w6 hbox hb; have Bgl := Aside0.mk hbox; replace Bgc := bb_ Bgc hb; replace Bga := bb_ Bga hb; replace Bgb := bb_ Bgb hb; replace Bgr := bb_ Bgr hb; replace HB := bs_ HB hb; clear hb hbox hg; clear hc_0 hc_1 hc_2 hc_3 hc_4 hc_5 ha_0 ha_1 ha_2 ha_3 hb_0 hb_1 hb_2 hb_3) | ((with_reducible refine gate_callee (f := 74) rfl ?_); refine goesL_ (some 30) rfl rfl Try.func74 (by kernel_rfl) rfl #[.agg #[.int .i64 a0_0, .int .i64 a0_1, .int .i64 a0_2, .int .i64 a0_3, .int .i64 a0_4, .slice A0_5 l0_5.length c0_5], .int .i64 a1, .int .i64 a2, .slice (some ⟨gl, 0, none⟩) 2 2] rfl (by (try simp only [List.map_toArray, List.map_cons, List.map_nil]); first | done | rfl) ?_; (with_reducible refine (KEY.out gl _ HB.out Bgl.out).mono ?_); rintro e w7 ⟨vc, xsc, rfl, hv, he, hb⟩; refine ⟨_, rfl, ?_⟩; have HVc := Aside0.mk hv; have HEc := Aside0.mk he; have SZc := Aside0.mk (below_size HB.out); replace Bgc := bb_ Bgc hb; replace Bga := bb_ Bga hb; replace Bgb := bb_ Bgb hb; replace Bgr := bb_ Bgr hb; replace HB := bs_ HB hb; clear hv he hb Bgl))
 match ts, HLEN, HH, HEc with
 | [], HLEN, HH, HEc =>
  obtain ⟨Ac, cc, rfl⟩ := rows_nil HVc.out HEc.out
  replace Bgc := Aside0.mk (blk_drew Bgc.out); replace Bga := Aside0.mk (blk_drew Bga.out); replace Bgb := Aside0.mk (blk_drew Bgb.out); replace Bgr := Aside0.mk (blk_drew Bgr.out); replace HB := Aside0.mk (below_drew1 HB.out)
  refine start_ (n := 15) (S := fun w' => True) (ds := []) #[false, false, false, false, false, false, false, false, false, false, false, false, false, false, false] (by kernel_rfl) rfl rfl trivial (fun hHeld => ?_); refine with_tabW arb_Pick.tab3 arb_Pick.bits3 (fun HT_ HW_ => ?_)
  generalize w7.drew = w8 at Bgc Bga Bgb Bgr HB hHeld ⊢
  refine pq_ 0 32 HT_ ?_
  refine pq_ 1 33 HT_ ?_
  refine pq_ 2 34 HT_ ?_
  refine pq_ 3 35 HT_ ?_
  refine pu_ 4 36 HT_ ?_
  refine pu_ 5 37 HT_ ?_
  refine pu_ 6 38 HT_ ?_
  refine pu_ 7 39 HT_ ?_
  refine pu_ 8 40 HT_ ?_
  refine pu_ 9 41 HT_ ?_
  refine pu_ 10 42 HT_ ?_
  refine pu_ 11 43 HT_ ?_
  refine pu_ 12 44 HT_ ?_
  refine pq_ 13 45 HT_ ?_
  refine pq_ 14 31 HT_ ?_
  refine done_ (done_of HT_.out (by kernel_rfl)) ?_
  obtain ⟨m1, A1, H⟩ := Option.bind_eq_some_iff.mp HH.out; obtain ⟨m2, A2, H⟩ := Option.bind_eq_some_iff.mp H; clear HH
  obtain ⟨K1, R1, S1, P1, V1, E1, F1, hR1, rfl⟩ := arb_rg_cases A1; obtain ⟨K2, R2, S2, P2, V2, E2, F2, hR2, rfl⟩ := arb_rg_cases A2; clear A1 A2
  have key : ∀ (gl : Nat) (W : World), Below w.heap.size w W → W.heap[gl]? = some (.cells #[.iface 110 (.agg #[.string a3_0, .string a3_1, .string a3_2, .int .i64 a3_3, .bool (decide (a2 ≥ a0_0))]), .iface 110 (.agg #[.string a4_0, .string a4_1, .string a4_2, .int .i64 a4_3, .bool (decide (a2 ≥ a0_0))])] 120 (0, 0)) → Calls Try.prog 74 #[.agg #[.int .i64 a0_0, .int .i64 a0_1, .int .i64 a0_2, .int .i64 a0_3, .int .i64 a0_4, .slice A0_5 l0_5.length c0_5], .int .i64 a1, .int .i64 a2, .slice (some ⟨gl, 0, none⟩) 2 2] W fun e w' => ∃ v xs, e = .returned v ∧ (kRaw 7).R 108 w' W.heap.size (fun _ => True) v xs ∧ AllE w' W.heap.size xs (tk (a3_3 == 1 && !decide (a2 ≥ a0_0)) F1 ⟨a3_0, K1, R1, S1, P1, V1, E1⟩ ++ tk (a4_3 == 1 && !decide (a2 ≥ a0_0)) F2 ⟨a4_0, K2, R2, S2, P2, V2, E2⟩) ∧ Below W.heap.size W w' := fun gl W hb hl => arb_rights.gen 110 106 arb_md arb_cd a0_0 a0_1 a0_2 a0_3 a0_4 A0_5 c0_5 l0_5 a1 a2 gl _ _ _ _ _ _ (fun W => arb_dtext.calls a3_0 a3_1 a3_2 a3_3 _ W) (fun W => arb_dtext.calls a4_0 a4_1 a4_2 a4_3 _ W) K1 R1 S1 P1 V1 E1 F1 K2 R2 S2 P2 V2 E2 F2 hR1 hR2 W (Kd.C_below HR0.out hb) HC0.out hl
  clear hR1 hR2
  generalize tk (a3_3 == 1 && !decide (a2 ≥ a0_0)) F1 ⟨a3_0, K1, R1, S1, P1, V1, E1⟩ ++ tk (a4_3 == 1 && !decide (a2 ≥ a0_0)) F2 ⟨a4_0, K2, R2, S2, P2, V2, E2⟩ = us at key H
  have KEY2 := Aside0.mk key; have HH := Aside0.mk (Option.some.inj H); clear key H
  obtain ⟨hc_0, hc_1, hc_2, hc_3, hc_4, hc_5⟩ := c6_ Bgc; obtain ⟨ha_0, ha_1, ha_2, ha_3⟩ := c4_ Bga; obtain ⟨hb_0, hb_1, hb_2, hb_3⟩ := c4_ Bgb
  match us, KEY2, HH with
  | [], KEY2, HH =>
   go_wp2_with (first | ((with_reducible refine gate_dst (N := 66) rfl ?_); refine slice_event ?hg (N := 66) ?hd (cs := #[.iface 110 (.agg #[.string a3_0, .string a3_1, .string a3_2, .int .i64 a3_3, .bool (decide (a2 ≥ a0_0))]), .iface 110 (.agg #[.string a4_0, .string a4_1, .string a4_2, .int .i64 a4_3, .bool (decide (a2 ≥ a0_0))])]) (t := 120) (n := 2) ?hr ?_; (case hd => rfl); (case hg => rfl); (case hr => first | (go_simp; done) | (go_simp; rfl)); intro gl hg w9 hbox hb; have Bgl := Aside0.mk hbox; replace Bgc := bb_ Bgc hb; replace Bga := bb_ Bga hb; replace Bgb := bb_ Bgb hb; replace Bgr := bb_ Bgr hb; replace HB := bs_ HB hb; clear hb hbox hg; clear hc_0 hc_1 hc_2 hc_3 hc_4 hc_5 ha_0 ha_1 ha_2 ha_3 hb_0 hb_1 hb_2 hb_3) | ((with_reducible refine gate_callee (f := 74) rfl ?_); refine goesL_ (some 67) rfl rfl Try.func74 (by kernel_rfl) rfl #[.agg #[.int .i64 a0_0, .int .i64 a0_1, .int .i64 a0_2, .int .i64 a0_3, .int .i64 a0_4, .slice A0_5 l0_5.length c0_5], .int .i64 a1, .int .i64 a2, .slice (some ⟨gl, 0, none⟩) 2 2] rfl (by (try simp only [List.map_toArray, List.map_cons, List.map_nil]); first | done | rfl) ?_; (with_reducible refine (KEY2.out gl _ HB.out Bgl.out).mono ?_); rintro e w10 ⟨vd, xsd, rfl, hv, he, hb⟩; refine ⟨_, rfl, ?_⟩; have HVd := Aside0.mk hv; have HEd := Aside0.mk he; have SZd := Aside0.mk (below_size HB.out); replace Bgc := bb_ Bgc hb; replace Bga := bb_ Bga hb; replace Bgb := bb_ Bgb hb; replace Bgr := bb_ Bgr hb; replace HB := bs_ HB hb; clear hv he hb Bgl; obtain ⟨Ad, cd, rfl⟩ := rows_nil HVd.out HEd.out))
   refine (arb_first_nil Ad cd _).mono ?_
   rintro e w11 ⟨rfl, hb⟩
   have HX := Aside0.mk hb; replace Bgr := bb_ Bgr hb; replace HB := bs_ HB hb; clear hb
   obtain ⟨hr_0, hr_1, hr_2, hr_3, hr_4, hr_5⟩ := c6_ Bgr; obtain ⟨fr_0, fr_1, fr_2, fr_3, fr_4, fr_5⟩ := f6_ Bgr
   go_wp2
   have hh := HH.out; simp only [pickFirst, Prod.mk.injEq] at hh; obtain ⟨rfl, rfl, rfl, rfl, rfl, rfl, rfl⟩ := hh
   refine bodyPost_ret (results_ct rfl _ _ gr 29 #[.int .i64 0, .int .i64 0, .int .i64 0, .int .i64 0, .int .i64 0, .slice none 0 0] (0, 0) _ rfl ?hx Try.underlying29 rfl (by kernel_rfl)) rfl ?_
   case hx => exact fr_put6 Bgr.out _ _ _ _ _ _
   exact ⟨_, rfl, Kd.R_nil _ _ _ _ _, (below_set (below_set (below_set (below_set (below_set (below_set HB.out Ggr.out) Ggr.out) Ggr.out) Ggr.out) Ggr.out) Ggr.out)⟩
  | t :: us, KEY2, HH =>
   go_wp2_with (first | ((with_reducible refine gate_dst (N := 66) rfl ?_); refine slice_event ?hg (N := 66) ?hd (cs := #[.iface 110 (.agg #[.string a3_0, .string a3_1, .string a3_2, .int .i64 a3_3, .bool (decide (a2 ≥ a0_0))]), .iface 110 (.agg #[.string a4_0, .string a4_1, .string a4_2, .int .i64 a4_3, .bool (decide (a2 ≥ a0_0))])]) (t := 120) (n := 2) ?hr ?_; (case hd => rfl); (case hg => rfl); (case hr => first | (go_simp; done) | (go_simp; rfl)); intro gl hg w9 hbox hb; have Bgl := Aside0.mk hbox; replace Bgc := bb_ Bgc hb; replace Bga := bb_ Bga hb; replace Bgb := bb_ Bgb hb; replace Bgr := bb_ Bgr hb; replace HB := bs_ HB hb; clear hb hbox hg; clear hc_0 hc_1 hc_2 hc_3 hc_4 hc_5 ha_0 ha_1 ha_2 ha_3 hb_0 hb_1 hb_2 hb_3) | ((with_reducible refine gate_callee (f := 74) rfl ?_); refine goesL_ (some 67) rfl rfl Try.func74 (by kernel_rfl) rfl #[.agg #[.int .i64 a0_0, .int .i64 a0_1, .int .i64 a0_2, .int .i64 a0_3, .int .i64 a0_4, .slice A0_5 l0_5.length c0_5], .int .i64 a1, .int .i64 a2, .slice (some ⟨gl, 0, none⟩) 2 2] rfl (by (try simp only [List.map_toArray, List.map_cons, List.map_nil]); first | done | rfl) ?_; (with_reducible refine (KEY2.out gl _ HB.out Bgl.out).mono ?_); rintro e w10 ⟨vd, xsd, rfl, hv, he, hb⟩; refine ⟨_, rfl, ?_⟩; have HVd := Aside0.mk hv; have HEd := Aside0.mk he; have SZd := Aside0.mk (below_size HB.out); replace Bgc := bb_ Bgc hb; replace Bga := bb_ Bga hb; replace Bgb := bb_ Bgb hb; replace Bgr := bb_ Bgr hb; replace HB := bs_ HB hb; clear hv he hb Bgl; obtain ⟨gd, capd, curd, Ad, cd, rfl, GD, BGD, z0, z1, z2, z3, z4, z5, z6, RD, _⟩ := rows_one HVd.out HEd.out; have RD := Aside0.mk RD))
   refine (arb_first_one gd (us.length + 1) capd curd t.s t.K t.R t.S t.P t.V Ad t.E.length cd _ BGD (Nat.le_add_left 1 _) z0 z1 z2 z3 z4 z5 z6).mono ?_
   rintro e w11 ⟨rfl, hb⟩
   have HX := Aside0.mk hb; replace Bgr := bb_ Bgr hb; replace HB := bs_ HB hb; clear hb
   obtain ⟨hr_0, hr_1, hr_2, hr_3, hr_4, hr_5⟩ := c6_ Bgr; obtain ⟨fr_0, fr_1, fr_2, fr_3, fr_4, fr_5⟩ := f6_ Bgr
   go_wp2
   have hh := HH.out; simp only [pickFirst, Prod.mk.injEq] at hh; obtain ⟨rfl, rfl, rfl, rfl, rfl, rfl, rfl⟩ := hh
   refine bodyPost_ret (results_ct rfl _ _ gr 29 #[.int .i64 t.K, .int .i64 t.R, .int .i64 t.S, .int .i64 t.P, .int .i64 t.V, .slice Ad t.E.length cd] (0, 0) _ rfl ?hx Try.underlying29 rfl (by kernel_rfl)) rfl ?_
   case hx => exact fr_put6 Bgr.out _ _ _ _ _ _
   exact ⟨_, rfl, Kd.R_lower (Kd.R_mono (Kd.R_far (Kd.R_far (Kd.R_far (Kd.R_far (Kd.R_far (Kd.R_far (Kd.R_types (Kd.R_below RD.out HX.out) Bgr.out (by decide)) (fun _ hk => hk.2) _) (fun _ hk => hk.2) _) (fun _ hk => hk.2) _) (fun _ hk => hk.2) _) (fun _ hk => hk.2) _) (fun _ hk => hk.2) _) (fun _ _ => trivial)) SZd.out, (below_set (below_set (below_set (below_set (below_set (below_set HB.out Ggr.out) Ggr.out) Ggr.out) Ggr.out) Ggr.out) Ggr.out)⟩
 | [t], HLEN, HH, HEc =>
  obtain ⟨gd, capd, curd, Ad, cd, rfl, GD, BGD, z0, z1, z2, z3, z4, z5, z6, RD, Z7⟩ := rows_one HVc.out HEc.out
  have Z7 := Aside0.mk Z7; have RD := Aside0.mk (Kd.R_drew RD); have BGD := Aside0.mk (blk_drew BGD)
  replace Bgc := Aside0.mk (blk_drew Bgc.out); replace Bga := Aside0.mk (blk_drew Bga.out); replace Bgb := Aside0.mk (blk_drew Bgb.out); replace Bgr := Aside0.mk (blk_drew Bgr.out); replace HB := Aside0.mk (below_drew1 HB.out)
  have hh : _ = _ := HH.out; simp only [pickTail, pickFirst, Option.some.injEq, Prod.mk.injEq] at hh; obtain ⟨rfl, rfl, rfl, rfl, rfl, rfl, rfl⟩ := hh; clear HH
  refine start_ (n := 15) (S := fun w' => True) (ds := []) #[false, false, false, false, false, false, false, false, false, false, false, false, false, false, false] (by kernel_rfl) rfl rfl trivial (fun hHeld => ?_); refine with_tabW arb_Pick.tab3 arb_Pick.bits3 (fun HT_ HW_ => ?_)
  generalize w7.drew = w8 at Bgc Bga Bgb Bgr HB RD BGD hHeld ⊢
  refine pq_ 0 32 HT_ ?_
  refine pq_ 1 33 HT_ ?_
  refine pq_ 2 34 HT_ ?_
  refine pq_ 3 35 HT_ ?_
  refine pu_ 4 36 HT_ ?_
  refine pu_ 5 37 HT_ ?_
  refine pu_ 6 38 HT_ ?_
  refine pu_ 7 39 HT_ ?_
  refine pu_ 8 40 HT_ ?_
  refine pu_ 9 41 HT_ ?_
  refine pu_ 10 42 HT_ ?_
  refine pu_ 11 43 HT_ ?_
  refine pu_ 12 44 HT_ ?_
  refine pq_ 13 45 HT_ ?_
  refine pq_ 14 31 HT_ ?_
  refine done_ (done_of HT_.out (by kernel_rfl)) ?_
  go_wp2_with fail
  refine (arb_first_one gd 1 capd curd t.s t.K t.R t.S t.P t.V Ad t.E.length cd _ BGD.out (by decide) z0 z1 z2 z3 z4 z5 z6).mono ?_
  rintro e w9 ⟨rfl, hb⟩
  have HX := Aside0.mk hb; replace Bgr := bb_ Bgr hb; replace HB := bs_ HB hb; clear hb
  obtain ⟨hr_0, hr_1, hr_2, hr_3, hr_4, hr_5⟩ := c6_ Bgr; obtain ⟨fr_0, fr_1, fr_2, fr_3, fr_4, fr_5⟩ := f6_ Bgr
  go_wp2
  refine bodyPost_ret (results_ct rfl _ _ gr 29 #[.int .i64 t.K, .int .i64 t.R, .int .i64 t.S, .int .i64 t.P, .int .i64 t.V, .slice Ad t.E.length cd] (0, 0) _ rfl ?hx Try.underlying29 rfl (by kernel_rfl)) rfl ?_
  case hx => exact fr_put6 Bgr.out _ _ _ _ _ _
  exact ⟨_, rfl, Kd.R_lower (Kd.R_mono (Kd.R_far (Kd.R_far (Kd.R_far (Kd.R_far (Kd.R_far (Kd.R_far (Kd.R_types (Kd.R_below RD.out HX.out) Bgr.out (by decide)) (fun _ hk => hk.2) _) (fun _ hk => hk.2) _) (fun _ hk => hk.2) _) (fun _ hk => hk.2) _) (fun _ hk => hk.2) _) (fun _ hk => hk.2) _) (fun _ _ => trivial)) SZc.out, (below_set (below_set (below_set (below_set (below_set (below_set HB.out Ggr.out) Ggr.out) Ggr.out) Ggr.out) Ggr.out) Ggr.out)⟩
 | [t, u], HLEN, HH, HEc =>
  obtain ⟨gd, capd, curd, Ad, cd, rfl, GD, BGD, z0, z1, z2, z3, z4, z5, z6, RD, Z7⟩ := rows_one HVc.out HEc.out
  have Z7 := Aside0.mk Z7; have RD := Aside0.mk (Kd.R_drew RD); have BGD := Aside0.mk (blk_drew BGD)
  replace Bgc := Aside0.mk (blk_drew Bgc.out); replace Bga := Aside0.mk (blk_drew Bga.out); replace Bgb := Aside0.mk (blk_drew Bgb.out); replace Bgr := Aside0.mk (blk_drew Bgr.out); replace HB := Aside0.mk (below_drew1 HB.out)
  have z7 := Z7.out u [] rfl
  by_cases hs : t.s = u.s
  ·
   have hh : _ = _ := HH.out
   simp only [pickTail, if_pos hs, pickFirst, Option.some.injEq, Prod.mk.injEq] at hh; obtain ⟨rfl, rfl, rfl, rfl, rfl, rfl, rfl⟩ := hh; clear HH
   rw [← hs] at z7
   refine start_ (n := 15) (S := fun w' => w'.cell? ⟨gd, 0, none⟩ = some (.string t.s) ∧ w'.cell? ⟨gd, 7, none⟩ = some (.string t.s)) (ds := []) #[false, false, false, false, false, false, false, false, false, false, false, false, false, false, false] (by kernel_rfl) rfl rfl ⟨(blk_cell BGD.out 0).trans z0, (blk_cell BGD.out 7).trans z7⟩ (fun hHeld => ?_); refine with_tabW arb_Pick.tab3 arb_Pick.bits3 (fun HT_ HW_ => ?_)
   generalize w7.drew = w8 at Bgc Bga Bgb Bgr HB RD BGD hHeld ⊢
   refine pq_ 0 32 HT_ ?_
   refine pq_ 1 33 HT_ ?_
   refine pq_ 2 34 HT_ ?_
   refine pq_ 3 35 HT_ ?_
   refine pq_ 4 36 HT_ ?_
   refine pq_ 5 37 HT_ ?_
   refine pq_ 6 38 HT_ ?_
   refine pq_ 8 40 HT_ ?_
   refine pq_ 9 41 HT_ ?_
   refine pq_ 10 42 HT_ ?_
   refine tq_ 7 39 HT_ HW_ hHeld ?_
   refine tq_ 11 43 HT_ HW_ hHeld ?_
   refine pq_ 12 44 HT_ ?_
   refine pq_ 13 45 HT_ ?_
   refine pq_ 14 31 HT_ ?_
   refine done_ (done_of HT_.out (by kernel_rfl)) ?_
   go_wp2_with fail
   refine (arb_first_one gd 2 capd curd t.s t.K t.R t.S t.P t.V Ad t.E.length cd _ BGD.out (by decide) z0 z1 z2 z3 z4 z5 z6).mono ?_
   rintro e w9 ⟨rfl, hb⟩
   have HX := Aside0.mk hb; replace Bgr := bb_ Bgr hb; replace HB := bs_ HB hb; clear hb
   obtain ⟨hr_0, hr_1, hr_2, hr_3, hr_4, hr_5⟩ := c6_ Bgr; obtain ⟨fr_0, fr_1, fr_2, fr_3, fr_4, fr_5⟩ := f6_ Bgr
   go_wp2
   refine bodyPost_ret (results_ct rfl _ _ gr 29 #[.int .i64 t.K, .int .i64 t.R, .int .i64 t.S, .int .i64 t.P, .int .i64 t.V, .slice Ad t.E.length cd] (0, 0) _ rfl ?hx Try.underlying29 rfl (by kernel_rfl)) rfl ?_
   case hx => exact fr_put6 Bgr.out _ _ _ _ _ _
   exact ⟨_, rfl, Kd.R_lower (Kd.R_mono (Kd.R_far (Kd.R_far (Kd.R_far (Kd.R_far (Kd.R_far (Kd.R_far (Kd.R_types (Kd.R_below RD.out HX.out) Bgr.out (by decide)) (fun _ hk => hk.2) _) (fun _ hk => hk.2) _) (fun _ hk => hk.2) _) (fun _ hk => hk.2) _) (fun _ hk => hk.2) _) (fun _ hk => hk.2) _) (fun _ _ => trivial)) SZc.out, (below_set (below_set (below_set (below_set (below_set (below_set HB.out Ggr.out) Ggr.out) Ggr.out) Ggr.out) Ggr.out) Ggr.out)⟩
  ·
   have hh : _ = _ := HH.out
   simp only [pickTail, if_neg hs, pickFirst, Option.some.injEq, Prod.mk.injEq] at hh; obtain ⟨rfl, rfl, rfl, rfl, rfl, rfl, rfl⟩ := hh; clear HH
   have hs4 : ¬ t.s.toList = u.s.toList := fun e => hs (by cases ht : t.s; cases hu : u.s; simp_all [ByteArray.toList_eq])
   have hs5 : (t.s.toList == u.s.toList) = false := beq_eq_false_iff_ne.2 hs4
   refine start_ (n := 15) (S := fun w' => w'.cell? ⟨gd, 0, none⟩ = some (.string t.s) ∧ w'.cell? ⟨gd, 7, none⟩ = some (.string u.s)) (ds := []) #[false, false, false, false, false, false, false, false, false, false, false, false, false, false, false] (by kernel_rfl) rfl rfl ⟨(blk_cell BGD.out 0).trans z0, (blk_cell BGD.out 7).trans z7⟩ (fun hHeld => ?_); refine with_tabW arb_Pick.tab3 arb_Pick.bits3 (fun HT_ HW_ => ?_)
   generalize w7.drew = w8 at Bgc Bga Bgb Bgr HB RD BGD hHeld ⊢
   refine pq_ 0 32 HT_ ?_
   refine pq_ 1 33 HT_ ?_
   refine pq_ 2 34 HT_ ?_
   refine pq_ 3 35 HT_ ?_
   refine pq_ 4 36 HT_ ?_
   refine pq_ 5 37 HT_ ?_
   refine pq_ 6 38 HT_ ?_
   refine pq_ 8 40 HT_ ?_
   refine pq_ 9 41 HT_ ?_
   refine pq_ 10 42 HT_ ?_
   refine tq_ 7 39 HT_ HW_ hHeld ?_
   refine tq_ 11 43 HT_ HW_ hHeld ?_
   refine pq_ 12 44 HT_ ?_
   refine pq_ 13 45 HT_ ?_
   refine pq_ 14 31 HT_ ?_
   refine done_ (done_of HT_.out (by kernel_rfl)) ?_
   obtain ⟨hr_0, hr_1, hr_2, hr_3, hr_4, hr_5⟩ := c6_ Bgr; obtain ⟨fr_0, fr_1, fr_2, fr_3, fr_4, fr_5⟩ := f6_ Bgr
   go_wp2
   refine bodyPost_ret (results_ct rfl _ _ gr 29 #[.int .i64 0, .int .i64 0, .int .i64 0, .int .i64 0, .int .i64 0, .slice none 0 0] (0, 0) _ rfl ?hx Try.underlying29 rfl (by kernel_rfl)) rfl ?_
   case hx => exact fr_put6 Bgr.out _ _ _ _ _ _
   exact ⟨_, rfl, Kd.R_nil _ _ _ _ _, (below_set (below_set (below_set (below_set (below_set (below_set HB.out Ggr.out) Ggr.out) Ggr.out) Ggr.out) Ggr.out) Ggr.out)⟩
 | t :: u :: z :: _, HLEN, HH, HEc => exact absurd HLEN.out (by simp)
end Go.Proofs.Ytcpohmfkmgcjkaa.P
