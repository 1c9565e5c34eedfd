/- Printed by a program of this session (myprint) out of the translation: the functions as plain Lean functions, and that the calls compute them. What counts is Lean's check. -/
import Derived.Test.YtcpohmfkmgcjkaaQArbRightPx13
import Derived.Test.YtcpohmfkmgcjkaaQArbRightPx29
namespace Go.Proofs.Ytcpohmfkmgcjkaa.P
open Go.RowKit Go.Proofs.YtcpohmfkmgcjkaaW.PrintWords Go.Proofs.YtcpohmfkmgcjkaaW.PrintLast Go.Proofs.YtcpohmfkmgcjkaaW.PrintMore
attribute [local go_sem] max2_int min2_int max_two min_two max_three min_three max_four min_four
set_option linter.unusedVariables false
set_option linter.unusedSimpArgs false
attribute [-simp] ByteArray.size_extract ByteArray.size_append ByteArray.extract_append_extract
attribute [-go_sem] ByteArray.size_append'
def plaitinglaw10_known.f (k : Nat)  : Option (Bool) := (arb_Pick.f 6 4 0 0 0 ([] : List Int) 0 0 (⟨#[]⟩ : ByteArray) (⟨#[]⟩ : ByteArray) (⟨#[]⟩ : ByteArray) 0 (⟨#[]⟩ : ByteArray) (⟨#[]⟩ : ByteArray) (⟨#[]⟩ : ByteArray) 0).bind fun btAf => ((plaitingref5_Text.f k 6 4 0 0 0 ([] : List Int) 1 0 2 0 0 ([] : List (S26))).bind fun tAk => ((arb_Right.f 6 4 0 0 0 ([] : List Int) 0 2 tAk).bind fun btAm => (if btAf.2.2.2.2.2.2 = true then (some false) else (if btAm.2.2.2.2.2.2 = true then (if btAm.1 = 1 then (some (btAm.2.2.1 == 2)) else (some false)) else (some false)))))
def plaitinglaw10_known.T3 : Bool × List (List Nat × List Nat) := (true, [([], []), ([], []), ([], []), ([1, 2], [1, 2]), ([0, 3, 3], [0, 3]), ([4], [4]), ([5], [5]), ([5], [5]), ([], []), ([8, 6, 4, 0, 1, 2, 3, 4, 5, 6, 8], [6, 8]), ([7, 9, 0, 1, 2, 3, 4, 5, 6, 7, 8, 9], [7])])
def plaitinglaw10_known.B3 : List Nat := [0, 0, 0, 6, 15, 31, 63, 63, 0, 383, 1023]
theorem plaitinglaw10_known.tab3 : rtab .any (opsOf Try.f37 3) = plaitinglaw10_known.T3 := by kernel_rfl
theorem plaitinglaw10_known.bits3 : waitsOk plaitinglaw10_known.T3.2 plaitinglaw10_known.B3 = true := by kernel_rfl
set_option maxHeartbeats 8000000 in
set_option maxRecDepth 100000 in
theorem plaitinglaw10_known.calls (k : Nat)  (r : Bool) (w : World) (h : plaitinglaw10_known.f k  = some r) :
  Calls Try.prog 37 #[] w fun e w' => e = .returned (.bool r) ∧ Below w.heap.size w w' := by
 have hu24 := Try.underlying24
 have hu63 := Try.underlying63
 have hu29 := Try.underlying29
 have HB := Aside0.mk (Below.refl w.heap.size w)
 have H : ((arb_Pick.f 6 4 0 0 0 ([] : List Int) 0 0 (⟨#[]⟩ : ByteArray) (⟨#[]⟩ : ByteArray) (⟨#[]⟩ : ByteArray) 0 (⟨#[]⟩ : ByteArray) (⟨#[]⟩ : ByteArray) (⟨#[]⟩ : ByteArray) 0).bind fun btAf => ((plaitingref5_Text.f k 6 4 0 0 0 ([] : List Int) 1 0 2 0 0 ([] : List (S26))).bind fun tAk => ((arb_Right.f 6 4 0 0 0 ([] : List Int) 0 2 tAk).bind fun btAm => (if btAf.2.2.2.2.2.2 = true then (some false) else (if btAm.2.2.2.2.2.2 = true then (if btAm.1 = 1 then (some (btAm.2.2.1 == 2)) else (some false)) else (some false)))))) = some r := h
 clear h
 replace H := Option.bind_eq_some_iff.mp H
 obtain ⟨⟨tAf, tAg, tAh, tAi, tAj, tAe, tAx⟩, A10, H⟩ := H
 try dsimp only at H
 have A1 := Aside0.mk A10
 clear A10
 replace H := Option.bind_eq_some_iff.mp H
 obtain ⟨tAk, A20, H⟩ := H
 try dsimp only at H
 have A2 := Aside0.mk A20
 clear A20
 replace H := Option.bind_eq_some_iff.mp H
 obtain ⟨⟨tAm, tAr, tAq, tAs, tAt, tAu, tAv⟩, A30, H⟩ := H
 try dsimp only at H
 have A3 := Aside0.mk A30
 clear A30
 by_cases c4 : tAx = true
 ·
  subst c4
  have H1 : (some false) = some r := by rw [if_pos rfl] at H; exact H
  clear H
  have H := H1
  clear H1
  obtain rfl := Option.some.inj H
  go_enter Try.func37, Try.ntmps37
  try go_wp2_with (first | ((with_reducible refine gate_dst (N := 1) rfl ?_); refine be_ 1 #[.int .i64 0, .int .i64 0, .int .i64 0, .int .i64 0, .int .i64 0, .slice none 0 0] 24 ?_; intro gbAa hg w5 hbox hb; have BKAa := Aside0.mk (hbox); have GWAa := Aside0.mk ((by rw [hg]; exact (below_size (pH_ HB.out)) : w.heap.size ≤ gbAa)); have GEAa := Aside0.mk ((by rw [hg]; exact (below_size (pH_ HB.out)) : w.heap.size ≤ gbAa)); replace HB := bs_ HB hb; clear hb hbox hg; obtain ⟨hcz6_0, hcz6_1, hcz6_2, hcz6_3, hcz6_4, hcz6_5⟩ := c6_ BKAa; obtain ⟨hfz6_0, hfz6_1, hfz6_2, hfz6_3, hfz6_4, hfz6_5⟩ := f6_ BKAa) | ((with_reducible refine gate_callee (f := 42) rfl ?_); refine goesL_ (some 11) rfl rfl Try.func42 (by kernel_rfl) rfl #[.agg #[.int .i64 6, .int .i64 4, .int .i64 0, .int .i64 0, .int .i64 0, .slice none 0 0], .int .i64 0, .int .i64 0, .agg #[.string (⟨#[]⟩ : ByteArray), .string (⟨#[]⟩ : ByteArray), .string (⟨#[]⟩ : ByteArray), .int .i64 0], .agg #[.string (⟨#[]⟩ : ByteArray), .string (⟨#[]⟩ : ByteArray), .string (⟨#[]⟩ : ByteArray), .int .i64 0]] rfl (by (try simp only [List.map_toArray, List.map_cons, List.map_nil]); first | done | rfl | (simp only [List.length_drop, List.length_take]; rfl)) ?_; (refine (arb_Pick.calls 6 4 0 0 0 _ _ ([] : List Int) 0 0 (⟨#[]⟩ : ByteArray) (⟨#[]⟩ : ByteArray) (⟨#[]⟩ : ByteArray) 0 (⟨#[]⟩ : ByteArray) (⟨#[]⟩ : ByteArray) (⟨#[]⟩ : ByteArray) 0 tAf tAg tAh tAi tAj tAe true _ ?side1 ?side2 A1.out).mono ?_); (case side1 => exact Kd.C_nil _ _); (case side2 => exact Nat.le_refl _); rintro e w7 ⟨vAw, rfl, ho0, hb⟩; refine ⟨_, rfl, ?_⟩; have HOAd := Aside0.mk (Kd.R_lower ho0 (below_size (pH_ HB.out))); replace BKAa := Aside0.mk (blk_below (g := gbAa) (o := .cells #[.int .i64 6, .int .i64 4, .int .i64 0, .int .i64 0, .int .i64 0, .slice none 0 0] 24 (0, 0)) (by (with_reducible repeat (first | refine blk_drewN ?_ _ | refine blk_drew ?_ | refine blk_alloc ?_ _)); refine blk_put (cs := #[.int .i64 6, .int .i64 4, .int .i64 0, .int .i64 0, .int .i64 0, .slice none 0 0]) ?_ 5 _ rfl; (with_reducible repeat (first | refine blk_drewN ?_ _ | refine blk_drew ?_ | refine blk_alloc ?_ _)); refine blk_put (cs := #[.int .i64 6, .int .i64 4, .int .i64 0, .int .i64 0, .int .i64 0, .slice none 0 0]) ?_ 4 _ rfl; (with_reducible repeat (first | refine blk_drewN ?_ _ | refine blk_drew ?_ | refine blk_alloc ?_ _)); refine blk_put (cs := #[.int .i64 6, .int .i64 4, .int .i64 0, .int .i64 0, .int .i64 0, .slice none 0 0]) ?_ 3 _ rfl; (with_reducible repeat (first | refine blk_drewN ?_ _ | refine blk_drew ?_ | refine blk_alloc ?_ _)); refine blk_put (cs := #[.int .i64 6, .int .i64 4, .int .i64 0, .int .i64 0, .int .i64 0, .slice none 0 0]) ?_ 2 _ rfl; (with_reducible repeat (first | refine blk_drewN ?_ _ | refine blk_drew ?_ | refine blk_alloc ?_ _)); refine blk_put (cs := #[.int .i64 6, .int .i64 0, .int .i64 0, .int .i64 0, .int .i64 0, .slice none 0 0]) ?_ 1 _ rfl; (with_reducible repeat (first | refine blk_drewN ?_ _ | refine blk_drew ?_ | refine blk_alloc ?_ _)); refine blk_put (cs := #[.int .i64 0, .int .i64 0, .int .i64 0, .int .i64 0, .int .i64 0, .slice none 0 0]) ?_ 0 _ rfl; (with_reducible repeat (first | refine blk_drewN ?_ _ | refine blk_drew ?_ | refine blk_alloc ?_ _)); exact BKAa.out) hb); replace HB := bs_ HB hb; (try clear hb); (try clear hb2); (try clear hk); (try clear hi); (try clear ho0)) | ((with_reducible refine gate_dst (N := 2) rfl ?_); refine be_ 2 #[.int .i64 0, .int .i64 0, .int .i64 0, .int .i64 0, .int .i64 0, .slice none 0 0] 29 ?_; intro gbAc hg w8 hbox hb; have BKAc := Aside0.mk (hbox); have GWAc := Aside0.mk ((by rw [hg]; exact (below_size (pH_ HB.out)) : w.heap.size ≤ gbAc)); have GEAc := Aside0.mk ((by rw [hg]; exact (below_size (pH_ HB.out)) : w.heap.size ≤ gbAc)); have NBAa_Ac := Aside0.mk (ltB_ hg BKAa.out); have NBAc_Aa := Aside0.mk (ltB_ hg BKAa.out).symm; replace HOAd := Aside0.mk (Kd.R_below (pR_ HOAd.out) hb); replace BKAa := bb_ BKAa hb; replace HB := bs_ HB hb; clear hb hbox hg; have hnb9 := NBAc_Aa.out; have hnc9 := NBAa_Ac.out; obtain ⟨hcz10_0, hcz10_1, hcz10_2, hcz10_3, hcz10_4, hcz10_5⟩ := c6_ BKAc; obtain ⟨hfz10_0, hfz10_1, hfz10_2, hfz10_3, hfz10_4, hfz10_5⟩ := f6_ BKAc; obtain ⟨Ao11, co11, eo11⟩ := Kd.R_slice HOAd.out; subst eo11))
  have n0_ : Aside0 (Kd.R k26 26 ((((((w8.setCell ⟨gbAc, 0, none⟩ (.int .i64 tAf)).setCell ⟨gbAc, 1, none⟩ (.int .i64 tAg)).setCell ⟨gbAc, 2, none⟩ (.int .i64 tAh)).setCell ⟨gbAc, 3, none⟩ (.int .i64 tAi)).setCell ⟨gbAc, 4, none⟩ (.int .i64 tAj)).setCell ⟨gbAc, 5, none⟩ (.slice Ao11 tAe.length co11)) w.heap.size (fun _ => True) (.slice Ao11 tAe.length co11) tAe) := ⟨by (with_reducible repeat (first | apply Kd.R_alloc | apply Kd.R_drewN | apply Kd.R_drew)); exact Kd.R_mono (Kd.R_far (p := ⟨gbAc, 5, none⟩) (Kd.R_far (p := ⟨gbAc, 4, none⟩) (Kd.R_far (p := ⟨gbAc, 3, none⟩) (Kd.R_far (p := ⟨gbAc, 2, none⟩) (Kd.R_far (p := ⟨gbAc, 1, none⟩) (Kd.R_far (p := ⟨gbAc, 0, none⟩) (Kd.R_types HOAd.out BKAc.out (by decide)) (fun _ hk => hk.2) (.int .i64 tAf)) (fun _ hk => hk.2) (.int .i64 tAg)) (fun _ hk => hk.2) (.int .i64 tAh)) (fun _ hk => hk.2) (.int .i64 tAi)) (fun _ hk => hk.2) (.int .i64 tAj)) (fun _ hk => hk.2) (.slice Ao11 tAe.length co11)) (fun _ hk => trivial)⟩
  have n1_ : Aside0 (((((((w8.setCell ⟨gbAc, 0, none⟩ (.int .i64 tAf)).setCell ⟨gbAc, 1, none⟩ (.int .i64 tAg)).setCell ⟨gbAc, 2, none⟩ (.int .i64 tAh)).setCell ⟨gbAc, 3, none⟩ (.int .i64 tAi)).setCell ⟨gbAc, 4, none⟩ (.int .i64 tAj)).setCell ⟨gbAc, 5, none⟩ (.slice Ao11 tAe.length co11)).heap[gbAa]? = some (.cells #[.int .i64 6, .int .i64 4, .int .i64 0, .int .i64 0, .int .i64 0, .slice none 0 0] 24 (0, 0))) := ⟨bF_ BKAa.out NBAa_Ac.out⟩
  have n2_ : Aside0 (((((((w8.setCell ⟨gbAc, 0, none⟩ (.int .i64 tAf)).setCell ⟨gbAc, 1, none⟩ (.int .i64 tAg)).setCell ⟨gbAc, 2, none⟩ (.int .i64 tAh)).setCell ⟨gbAc, 3, none⟩ (.int .i64 tAi)).setCell ⟨gbAc, 4, none⟩ (.int .i64 tAj)).setCell ⟨gbAc, 5, none⟩ (.slice Ao11 tAe.length co11)).heap[gbAc]? = some (.cells #[.int .i64 tAf, .int .i64 tAg, .int .i64 tAh, .int .i64 tAi, .int .i64 tAj, .slice Ao11 tAe.length co11] 29 (0, 0))) := ⟨by (with_reducible repeat (first | refine blk_drewN ?_ _ | refine blk_drew ?_ | refine blk_alloc ?_ _)); refine blk_put (cs := #[.int .i64 tAf, .int .i64 tAg, .int .i64 tAh, .int .i64 tAi, .int .i64 tAj, .slice none 0 0]) ?_ 5 _ rfl; (with_reducible repeat (first | refine blk_drewN ?_ _ | refine blk_drew ?_ | refine blk_alloc ?_ _)); refine blk_put (cs := #[.int .i64 tAf, .int .i64 tAg, .int .i64 tAh, .int .i64 tAi, .int .i64 0, .slice none 0 0]) ?_ 4 _ rfl; (with_reducible repeat (first | refine blk_drewN ?_ _ | refine blk_drew ?_ | refine blk_alloc ?_ _)); refine blk_put (cs := #[.int .i64 tAf, .int .i64 tAg, .int .i64 tAh, .int .i64 0, .int .i64 0, .slice none 0 0]) ?_ 3 _ rfl; (with_reducible repeat (first | refine blk_drewN ?_ _ | refine blk_drew ?_ | refine blk_alloc ?_ _)); refine blk_put (cs := #[.int .i64 tAf, .int .i64 tAg, .int .i64 0, .int .i64 0, .int .i64 0, .slice none 0 0]) ?_ 2 _ rfl; (with_reducible repeat (first | refine blk_drewN ?_ _ | refine blk_drew ?_ | refine blk_alloc ?_ _)); refine blk_put (cs := #[.int .i64 tAf, .int .i64 0, .int .i64 0, .int .i64 0, .int .i64 0, .slice none 0 0]) ?_ 1 _ rfl; (with_reducible repeat (first | refine blk_drewN ?_ _ | refine blk_drew ?_ | refine blk_alloc ?_ _)); refine blk_put (cs := #[.int .i64 0, .int .i64 0, .int .i64 0, .int .i64 0, .int .i64 0, .slice none 0 0]) ?_ 0 _ rfl; (with_reducible repeat (first | refine blk_drewN ?_ _ | refine blk_drew ?_ | refine blk_alloc ?_ _)); exact BKAc.out⟩
  have n3_ : Aside0 (Below w.heap.size w ((((((w8.setCell ⟨gbAc, 0, none⟩ (.int .i64 tAf)).setCell ⟨gbAc, 1, none⟩ (.int .i64 tAg)).setCell ⟨gbAc, 2, none⟩ (.int .i64 tAh)).setCell ⟨gbAc, 3, none⟩ (.int .i64 tAi)).setCell ⟨gbAc, 4, none⟩ (.int .i64 tAj)).setCell ⟨gbAc, 5, none⟩ (.slice Ao11 tAe.length co11))) := ⟨pH_ HB.out⟩
  (try clear HOAd)
  (try clear BKAa)
  (try clear BKAc)
  (try clear HB)
  generalize ((((((w8.setCell ⟨gbAc, 0, none⟩ (.int .i64 tAf)).setCell ⟨gbAc, 1, none⟩ (.int .i64 tAg)).setCell ⟨gbAc, 2, none⟩ (.int .i64 tAh)).setCell ⟨gbAc, 3, none⟩ (.int .i64 tAi)).setCell ⟨gbAc, 4, none⟩ (.int .i64 tAj)).setCell ⟨gbAc, 5, none⟩ (.slice Ao11 tAe.length co11)) = w12 at n0_ n1_ n2_ n3_ ⊢
  have HOAd := n0_
  have BKAa := n1_
  have BKAc := n2_
  have HB := n3_
  clear n0_ n1_ n2_ n3_
  replace HOAd := Aside0.mk (Kd.R_drew HOAd.out)
  replace BKAa := Aside0.mk (blk_drew BKAa.out)
  replace BKAc := Aside0.mk (blk_drew BKAc.out)
  replace HB := Aside0.mk (below_drew1 HB.out)
  refine start_ (n := 11) (S := fun w' => w'.cell? ⟨gbAa, 0, none⟩ = some (.int .i64 6) ∧ w'.cell? ⟨gbAa, 1, none⟩ = some (.int .i64 4) ∧ w'.cell? ⟨gbAa, 2, none⟩ = some (.int .i64 0) ∧ w'.cell? ⟨gbAa, 3, none⟩ = some (.int .i64 0) ∧ w'.cell? ⟨gbAa, 4, none⟩ = some (.int .i64 0) ∧ w'.cell? ⟨gbAa, 5, none⟩ = some (.slice none 0 0)) (ds := []) #[false, false, false, false, false, false, false, false, false, false, false] (by kernel_rfl) rfl rfl ⟨bc_ BKAa 0, bc_ BKAa 1, bc_ BKAa 2, bc_ BKAa 3, bc_ BKAa 4, bc_ BKAa 5⟩ (fun hHeld => ?_); refine with_tabW plaitinglaw10_known.tab3 plaitinglaw10_known.bits3 (fun HT_ HW_ => ?_)
  generalize w12.drew = w13 at HOAd BKAa BKAc HB hHeld ⊢
  refine pq_ 2 17 HT_ ?_
  refine tq_ 0 15 HT_ HW_ hHeld ?_
  refine tq_ 1 16 HT_ HW_ hHeld ?_
  refine join_ (σ := Value × Nat) 2 #[true, true, true, true, true, true, true, true, true, false, false] (fun s_ => [(18, .string tAk), (19, .tuple #[.agg #[.int .i64 tAm, .int .i64 tAr, .int .i64 tAq, .int .i64 tAs, .int .i64 tAt, s_.1], .bool tAv]), (4, .pointer (some ⟨s_.2, 0, none⟩)), (14, .tuple #[.agg #[.int .i64 tAm, .int .i64 tAr, .int .i64 tAq, .int .i64 tAs, .int .i64 tAt, s_.1], .bool tAv]), (20, .agg #[.int .i64 tAm, .int .i64 tAr, .int .i64 tAq, .int .i64 tAs, .int .i64 tAt, s_.1]), (21, .bool tAv)]) (fun s_ w' => (w'.cell? ⟨gbAa, 0, none⟩ = some (.int .i64 6) ∧ w'.cell? ⟨gbAa, 1, none⟩ = some (.int .i64 4) ∧ w'.cell? ⟨gbAa, 2, none⟩ = some (.int .i64 0) ∧ w'.cell? ⟨gbAa, 3, none⟩ = some (.int .i64 0) ∧ w'.cell? ⟨gbAa, 4, none⟩ = some (.int .i64 0) ∧ w'.cell? ⟨gbAa, 5, none⟩ = some (.slice none 0 0)) ∧ (Kd.R k26 26 w' w.heap.size (fun k_ => some k_ ≠ (s_.1 : Value).ownBlock) (.slice Ao11 tAe.length co11) tAe) ∧ (Kd.R k26 26 w' w.heap.size (fun k_ => some k_ ≠ (.slice Ao11 tAe.length co11 : Value).ownBlock) s_.1 tAu) ∧ (w'.heap[gbAa]? = some (.cells #[.int .i64 6, .int .i64 4, .int .i64 0, .int .i64 0, .int .i64 0, .slice none 0 0] 24 (0, 0))) ∧ (w'.heap[gbAc]? = some (.cells #[.int .i64 tAf, .int .i64 tAg, .int .i64 tAh, .int .i64 tAi, .int .i64 tAj, .slice Ao11 tAe.length co11] 29 (0, 0))) ∧ (w'.heap[s_.2]? = some (.cells #[.int .i64 0, .int .i64 0, .int .i64 0, .int .i64 0, .int .i64 0, .slice none 0 0] 29 (0, 0))) ∧ (w.heap.size ≤ s_.2) ∧ (w.heap.size ≤ s_.2) ∧ (gbAa ≠ s_.2) ∧ (s_.2 ≠ gbAa) ∧ (gbAc ≠ s_.2) ∧ (s_.2 ≠ gbAc) ∧ (Below w.heap.size w w')) ?_ ?_
  rotate_left
  ·
   intro hCont
   refine two_ (i := 3) (j := 8) (Ni := some 18) (Nj := some 4) #[true, true, true, true, false, false, false, false, false, false, false] #[true, true, true, false, false, false, false, false, true, false, false] rfl rfl rfl rfl (two_of HT_.out (by kernel_rfl)) (by decide) (by decide) (fun K hK => ?_) (fun K hK => ?_)
   ·
    skip
    refine gs_ Try.func31 #[.agg #[.int .i64 6, .int .i64 4, .int .i64 0, .int .i64 0, .int .i64 0, .slice none 0 0], .agg #[.int .i64 1, .int .i64 0, .int .i64 2, .int .i64 0, .int .i64 0, .slice none 0 0]] ?_
    refine (plaitingref5_Text.calls k 6 4 0 0 0 _ _ ([] : List Int) 1 0 2 0 0 _ _ ([] : List (S26)) tAk _ ?side1 ?side2 ?side3 ?side4 A2.out).mono ?_
    (case side1 => exact Kd.C_nil _ _)
    (case side2 => exact Nat.le_refl _)
    (case side3 => exact Kd.C_nil _ _)
    (case side4 => exact Nat.le_refl _)
    rintro e w14 ⟨rfl, hb⟩
    refine ⟨_, rfl, ?_⟩
    replace HOAd := Aside0.mk (Kd.R_below (pR_ HOAd.out) hb)
    replace BKAa := bb_ BKAa hb
    replace BKAc := bb_ BKAc hb
    replace HB := bs_ HB hb
    (try clear hb)
    (try clear hb2)
    (try clear hk)
    (try clear hi)
    refine hK.out _ _ ⟨bc_ BKAa 0, bc_ BKAa 1, bc_ BKAa 2, bc_ BKAa 3, bc_ BKAa 4, bc_ BKAa 5⟩ (fun hHeld => ?_)
    clear hK K
    refine nq_ 18 ?_
    refine two_ (i := 4) (j := 8) (Ni := some 19) (Nj := some 4) #[true, true, true, true, true, false, false, false, false, false, false] #[true, true, true, true, false, false, false, false, true, false, false] rfl rfl rfl rfl (two_of HT_.out (by kernel_rfl)) (by decide) (by decide) (fun K hK => ?_) (fun K hK => ?_)
    ·
     skip
     refine gs_ Try.func40 #[.agg #[.int .i64 6, .int .i64 4, .int .i64 0, .int .i64 0, .int .i64 0, .slice none 0 0], .int .i64 0, .int .i64 2, .string tAk] ?_
     refine (arb_Right.calls 6 4 0 0 0 _ _ ([] : List Int) 0 2 tAk tAm tAr tAq tAs tAt tAu tAv _ ?side1 ?side2 A3.out).mono ?_
     (case side1 => exact Kd.C_nil _ _)
     (case side2 => exact Nat.le_refl _)
     rintro e w15 ⟨vAp, rfl, ho0, hb⟩
     refine ⟨_, rfl, ?_⟩
     have HOAn := Aside0.mk (Kd.R_lower (Kd.R_new' ho0 (Kd.R_lt (pR_ HOAd.out))) (below_size (pH_ HB.out)))
     replace HOAd := Aside0.mk (Kd.R_elder' (pR_ HOAd.out) (Kd.R_base ho0) hb)
     replace BKAa := bb_ BKAa hb
     replace BKAc := bb_ BKAc hb
     replace HB := bs_ HB hb
     (try clear hb)
     (try clear hb2)
     (try clear hk)
     (try clear hi)
     (try clear ho0)
     refine hK.out _ _ ⟨bc_ BKAa 0, bc_ BKAa 1, bc_ BKAa 2, bc_ BKAa 3, bc_ BKAa 4, bc_ BKAa 5⟩ (fun hHeld => ?_)
     clear hK K
     refine nq_ 19 ?_
     refine pq_ 5 14 HT_ ?_
     refine pq_ 6 20 HT_ ?_
     refine pq_ 7 21 HT_ ?_
     refine oq_ 8 4 HT_ (fun K hK => ?_)
     refine box_step ?hg (N := 4) ?hd (cs := #[.int .i64 0, .int .i64 0, .int .i64 0, .int .i64 0, .int .i64 0, .slice none 0 0]) (t := 29) ?hr ?_; (case hd => rfl); (case hg => rfl); (case hr => first | (go_simp; done) | (go_simp; rfl))
     intro gbAb hg w16 hbox hb
     have BKAb := Aside0.mk (hbox)
     have GWAb := Aside0.mk ((by rw [hg]; exact (below_size (pH_ HB.out)) : w.heap.size ≤ gbAb))
     have GEAb := Aside0.mk ((by rw [hg]; exact (below_size (pH_ HB.out)) : w.heap.size ≤ gbAb))
     have NBAa_Ab := Aside0.mk (ltB_ hg BKAa.out)
     have NBAb_Aa := Aside0.mk (ltB_ hg BKAa.out).symm
     have NBAc_Ab := Aside0.mk (ltB_ hg BKAc.out)
     have NBAb_Ac := Aside0.mk (ltB_ hg BKAc.out).symm
     replace HOAd := Aside0.mk (Kd.R_below (pR_ HOAd.out) hb)
     replace HOAn := Aside0.mk (Kd.R_below (pR_ HOAn.out) hb)
     replace BKAa := bb_ BKAa hb
     replace BKAc := bb_ BKAc hb
     replace HB := bs_ HB hb
     clear hb hbox hg
     refine hK.out _ _ ⟨bc_ BKAa 0, bc_ BKAa 1, bc_ BKAa 2, bc_ BKAa 3, bc_ BKAa 4, bc_ BKAa 5⟩ (fun hHeld => ?_)
     clear hK K
     refine nq_ 4 ?_
     exact norm_ (by simp only [putAll, Act.put, List.setIfInBounds_toArray, List.set_cons_zero, List.set_cons_succ]) (hCont (vAp, gbAb) _ ⟨hHeld, (by (with_reducible repeat (first | apply Kd.R_alloc | apply Kd.R_drewN | apply Kd.R_drew)); exact Kd.R_mono HOAd.out (fun _ hk => hk.2)), (by (with_reducible repeat (first | apply Kd.R_alloc | apply Kd.R_drewN | apply Kd.R_drew)); exact Kd.R_mono HOAn.out (fun _ hk => hk.2)), (pB_ BKAa.out), (pB_ BKAc.out), (pB_ BKAb.out), GWAb.out, GEAb.out, NBAa_Ab.out, NBAb_Aa.out, NBAc_Ab.out, NBAb_Ac.out, (pH_ HB.out)⟩)
    skip
    refine box_step ?hg (N := 4) ?hd (cs := #[.int .i64 0, .int .i64 0, .int .i64 0, .int .i64 0, .int .i64 0, .slice none 0 0]) (t := 29) ?hr ?_; (case hd => rfl); (case hg => rfl); (case hr => first | (go_simp; done) | (go_simp; rfl))
    intro gbAb hg w15 hbox hb
    have BKAb := Aside0.mk (hbox)
    have GWAb := Aside0.mk ((by rw [hg]; exact (below_size (pH_ HB.out)) : w.heap.size ≤ gbAb))
    have GEAb := Aside0.mk ((by rw [hg]; exact (below_size (pH_ HB.out)) : w.heap.size ≤ gbAb))
    have NBAa_Ab := Aside0.mk (ltB_ hg BKAa.out)
    have NBAb_Aa := Aside0.mk (ltB_ hg BKAa.out).symm
    have NBAc_Ab := Aside0.mk (ltB_ hg BKAc.out)
    have NBAb_Ac := Aside0.mk (ltB_ hg BKAc.out).symm
    replace HOAd := Aside0.mk (Kd.R_below (pR_ HOAd.out) hb)
    replace BKAa := bb_ BKAa hb
    replace BKAc := bb_ BKAc hb
    replace HB := bs_ HB hb
    clear hb hbox hg
    refine hK.out _ _ ⟨bc_ BKAa 0, bc_ BKAa 1, bc_ BKAa 2, bc_ BKAa 3, bc_ BKAa 4, bc_ BKAa 5⟩ (fun hHeld => ?_)
    clear hK K
    refine nq_ 4 ?_
    refine oq_ 4 19 HT_ (fun K hK => ?_)
    refine gs_ Try.func40 #[.agg #[.int .i64 6, .int .i64 4, .int .i64 0, .int .i64 0, .int .i64 0, .slice none 0 0], .int .i64 0, .int .i64 2, .string tAk] ?_
    refine (arb_Right.calls 6 4 0 0 0 _ _ ([] : List Int) 0 2 tAk tAm tAr tAq tAs tAt tAu tAv _ ?side1 ?side2 A3.out).mono ?_
    (case side1 => exact Kd.C_nil _ _)
    (case side2 => exact Nat.le_refl _)
    rintro e w16 ⟨vAp, rfl, ho0, hb⟩
    refine ⟨_, rfl, ?_⟩
    have HOAn := Aside0.mk (Kd.R_lower (Kd.R_new' ho0 (Kd.R_lt (pR_ HOAd.out))) (below_size (pH_ HB.out)))
    replace HOAd := Aside0.mk (Kd.R_elder' (pR_ HOAd.out) (Kd.R_base ho0) hb)
    replace BKAa := bb_ BKAa hb
    replace BKAc := bb_ BKAc hb
    replace BKAb := bb_ BKAb hb
    replace HB := bs_ HB hb
    (try clear hb)
    (try clear hb2)
    (try clear hk)
    (try clear hi)
    (try clear ho0)
    refine hK.out _ _ ⟨bc_ BKAa 0, bc_ BKAa 1, bc_ BKAa 2, bc_ BKAa 3, bc_ BKAa 4, bc_ BKAa 5⟩ (fun hHeld => ?_)
    clear hK K
    refine nq_ 19 ?_
    refine pq_ 5 14 HT_ ?_
    refine pq_ 6 20 HT_ ?_
    refine pq_ 7 21 HT_ ?_
    exact norm_ (by simp only [putAll, Act.put, List.setIfInBounds_toArray, List.set_cons_zero, List.set_cons_succ]) (hCont (vAp, gbAb) _ ⟨hHeld, (by (with_reducible repeat (first | apply Kd.R_alloc | apply Kd.R_drewN | apply Kd.R_drew)); exact Kd.R_mono HOAd.out (fun _ hk => hk.2)), (by (with_reducible repeat (first | apply Kd.R_alloc | apply Kd.R_drewN | apply Kd.R_drew)); exact Kd.R_mono HOAn.out (fun _ hk => hk.2)), (pB_ BKAa.out), (pB_ BKAc.out), (pB_ BKAb.out), GWAb.out, GEAb.out, NBAa_Ab.out, NBAb_Aa.out, NBAc_Ab.out, NBAb_Ac.out, (pH_ HB.out)⟩)
   skip
   refine box_step ?hg (N := 4) ?hd (cs := #[.int .i64 0, .int .i64 0, .int .i64 0, .int .i64 0, .int .i64 0, .slice none 0 0]) (t := 29) ?hr ?_; (case hd => rfl); (case hg => rfl); (case hr => first | (go_simp; done) | (go_simp; rfl))
   intro gbAb hg w14 hbox hb
   have BKAb := Aside0.mk (hbox)
   have GWAb := Aside0.mk ((by rw [hg]; exact (below_size (pH_ HB.out)) : w.heap.size ≤ gbAb))
   have GEAb := Aside0.mk ((by rw [hg]; exact (below_size (pH_ HB.out)) : w.heap.size ≤ gbAb))
   have NBAa_Ab := Aside0.mk (ltB_ hg BKAa.out)
   have NBAb_Aa := Aside0.mk (ltB_ hg BKAa.out).symm
   have NBAc_Ab := Aside0.mk (ltB_ hg BKAc.out)
   have NBAb_Ac := Aside0.mk (ltB_ hg BKAc.out).symm
   replace HOAd := Aside0.mk (Kd.R_below (pR_ HOAd.out) hb)
   replace BKAa := bb_ BKAa hb
   replace BKAc := bb_ BKAc hb
   replace HB := bs_ HB hb
   clear hb hbox hg
   refine hK.out _ _ ⟨bc_ BKAa 0, bc_ BKAa 1, bc_ BKAa 2, bc_ BKAa 3, bc_ BKAa 4, bc_ BKAa 5⟩ (fun hHeld => ?_)
   clear hK K
   refine nq_ 4 ?_
   refine oq_ 3 18 HT_ (fun K hK => ?_)
   refine gs_ Try.func31 #[.agg #[.int .i64 6, .int .i64 4, .int .i64 0, .int .i64 0, .int .i64 0, .slice none 0 0], .agg #[.int .i64 1, .int .i64 0, .int .i64 2, .int .i64 0, .int .i64 0, .slice none 0 0]] ?_
   refine (plaitingref5_Text.calls k 6 4 0 0 0 _ _ ([] : List Int) 1 0 2 0 0 _ _ ([] : List (S26)) tAk _ ?side1 ?side2 ?side3 ?side4 A2.out).mono ?_
   (case side1 => exact Kd.C_nil _ _)
   (case side2 => exact Nat.le_refl _)
   (case side3 => exact Kd.C_nil _ _)
   (case side4 => exact Nat.le_refl _)
   rintro e w15 ⟨rfl, hb⟩
   refine ⟨_, rfl, ?_⟩
   replace HOAd := Aside0.mk (Kd.R_below (pR_ HOAd.out) hb)
   replace BKAa := bb_ BKAa hb
   replace BKAc := bb_ BKAc hb
   replace BKAb := bb_ BKAb hb
   replace HB := bs_ HB hb
   (try clear hb)
   (try clear hb2)
   (try clear hk)
   (try clear hi)
   refine hK.out _ _ ⟨bc_ BKAa 0, bc_ BKAa 1, bc_ BKAa 2, bc_ BKAa 3, bc_ BKAa 4, bc_ BKAa 5⟩ (fun hHeld => ?_)
   clear hK K
   refine nq_ 18 ?_
   refine oq_ 4 19 HT_ (fun K hK => ?_)
   refine gs_ Try.func40 #[.agg #[.int .i64 6, .int .i64 4, .int .i64 0, .int .i64 0, .int .i64 0, .slice none 0 0], .int .i64 0, .int .i64 2, .string tAk] ?_
   refine (arb_Right.calls 6 4 0 0 0 _ _ ([] : List Int) 0 2 tAk tAm tAr tAq tAs tAt tAu tAv _ ?side1 ?side2 A3.out).mono ?_
   (case side1 => exact Kd.C_nil _ _)
   (case side2 => exact Nat.le_refl _)
   rintro e w16 ⟨vAp, rfl, ho0, hb⟩
   refine ⟨_, rfl, ?_⟩
   have HOAn := Aside0.mk (Kd.R_lower (Kd.R_new' ho0 (Kd.R_lt (pR_ HOAd.out))) (below_size (pH_ HB.out)))
   replace HOAd := Aside0.mk (Kd.R_elder' (pR_ HOAd.out) (Kd.R_base ho0) hb)
   replace BKAa := bb_ BKAa hb
   replace BKAc := bb_ BKAc hb
   replace BKAb := bb_ BKAb hb
   replace HB := bs_ HB hb
   (try clear hb)
   (try clear hb2)
   (try clear hk)
   (try clear hi)
   (try clear ho0)
   refine hK.out _ _ ⟨bc_ BKAa 0, bc_ BKAa 1, bc_ BKAa 2, bc_ BKAa 3, bc_ BKAa 4, bc_ BKAa 5⟩ (fun hHeld => ?_)
   clear hK K
   refine nq_ 19 ?_
   refine pq_ 5 14 HT_ ?_
   refine pq_ 6 20 HT_ ?_
   refine pq_ 7 21 HT_ ?_
   exact norm_ (by simp only [putAll, Act.put, List.setIfInBounds_toArray, List.set_cons_zero, List.set_cons_succ]) (hCont (vAp, gbAb) _ ⟨hHeld, (by (with_reducible repeat (first | apply Kd.R_alloc | apply Kd.R_drewN | apply Kd.R_drew)); exact Kd.R_mono HOAd.out (fun _ hk => hk.2)), (by (with_reducible repeat (first | apply Kd.R_alloc | apply Kd.R_drewN | apply Kd.R_drew)); exact Kd.R_mono HOAn.out (fun _ hk => hk.2)), (pB_ BKAa.out), (pB_ BKAc.out), (pB_ BKAb.out), GWAb.out, GEAb.out, NBAa_Ab.out, NBAb_Aa.out, NBAc_Ab.out, NBAb_Ac.out, (pH_ HB.out)⟩)
  rintro ⟨vAp, gbAb⟩ w17 ⟨hS_, h0_, h1_, h2_, h3_, h4_, h5_, h6_, h7_, h8_, h9_, h10_, h11_⟩
  have n0_ : Aside0 (Kd.R k26 26 w17 w.heap.size (fun k_ => some k_ ≠ (vAp : Value).ownBlock) (.slice Ao11 tAe.length co11) tAe) := ⟨h0_⟩
  have n1_ : Aside0 (Kd.R k26 26 w17 w.heap.size (fun k_ => some k_ ≠ (.slice Ao11 tAe.length co11 : Value).ownBlock) vAp tAu) := ⟨h1_⟩
  have n2_ : Aside0 (w17.heap[gbAa]? = some (.cells #[.int .i64 6, .int .i64 4, .int .i64 0, .int .i64 0, .int .i64 0, .slice none 0 0] 24 (0, 0))) := ⟨h2_⟩
  have n3_ : Aside0 (w17.heap[gbAc]? = some (.cells #[.int .i64 tAf, .int .i64 tAg, .int .i64 tAh, .int .i64 tAi, .int .i64 tAj, .slice Ao11 tAe.length co11] 29 (0, 0))) := ⟨h3_⟩
  have n4_ : Aside0 (w17.heap[gbAb]? = some (.cells #[.int .i64 0, .int .i64 0, .int .i64 0, .int .i64 0, .int .i64 0, .slice none 0 0] 29 (0, 0))) := ⟨h4_⟩
  have n5_ : Aside0 (w.heap.size ≤ gbAb) := ⟨h5_⟩
  have n6_ : Aside0 (w.heap.size ≤ gbAb) := ⟨h6_⟩
  have n7_ : Aside0 (gbAa ≠ gbAb) := ⟨h7_⟩
  have n8_ : Aside0 (gbAb ≠ gbAa) := ⟨h8_⟩
  have n9_ : Aside0 (gbAc ≠ gbAb) := ⟨h9_⟩
  have n10_ : Aside0 (gbAb ≠ gbAc) := ⟨h10_⟩
  have n11_ : Aside0 (Below w.heap.size w w17) := ⟨h11_⟩
  clear HOAd
  clear BKAa
  clear BKAc
  clear HB
  clear h0_ h1_ h2_ h3_ h4_ h5_ h6_ h7_ h8_ h9_ h10_ h11_
  have HOAd := n0_
  have HOAn := n1_
  have BKAa := n2_
  have BKAc := n3_
  have BKAb := n4_
  have GWAb := n5_
  have GEAb := n6_
  have NBAa_Ab := n7_
  have NBAb_Aa := n8_
  have NBAc_Ab := n9_
  have NBAb_Ac := n10_
  have HB := n11_
  clear n0_ n1_ n2_ n3_ n4_ n5_ n6_ n7_ n8_ n9_ n10_ n11_
  have hHeld : w17.cell? ⟨gbAa, 0, none⟩ = some (.int .i64 6) ∧ w17.cell? ⟨gbAa, 1, none⟩ = some (.int .i64 4) ∧ w17.cell? ⟨gbAa, 2, none⟩ = some (.int .i64 0) ∧ w17.cell? ⟨gbAa, 3, none⟩ = some (.int .i64 0) ∧ w17.cell? ⟨gbAa, 4, none⟩ = some (.int .i64 0) ∧ w17.cell? ⟨gbAa, 5, none⟩ = some (.slice none 0 0) := hS_
  obtain ⟨Ao23, co23, eo23⟩ := Kd.R_slice HOAn.out
  (first | subst eo23 | (injection eo23 with f1_ f2_ f3_; have f4_ := f1_.symm; have f5_ := f3_.symm; clear f1_ f2_ f3_; subst f4_; subst f5_))
  refine norm_ (a' := ?_) ?_ ?_
  rotate_left
  ·
   simp only [putAll, Act.put, List.setIfInBounds_toArray, List.set_cons_zero, List.set_cons_succ]
   rfl
  refine one_ (i := 9) (N := none) #[true, true, true, true, true, true, true, true, true, true, false] rfl rfl (one_of HT_.out (by kernel_rfl)) (by decide) (fun K hK => ?_)
  have hs18 : w17.cell? ⟨gbAb, 0, none⟩ = some (.int .i64 0) := bc_ BKAb 0
  have hfs18 := blk_frozen BKAb.out 0
  have hns18_0 := NBAa_Ab.out
  have hns18_1 := NBAc_Ab.out
  have hms18_0 := NBAb_Aa.out
  have hms18_1 := NBAb_Ac.out
  have hs19 : w17.cell? ⟨gbAb, 1, none⟩ = some (.int .i64 0) := bc_ BKAb 1
  have hfs19 := blk_frozen BKAb.out 1
  have hns19_0 := NBAa_Ab.out
  have hns19_1 := NBAc_Ab.out
  have hms19_0 := NBAb_Aa.out
  have hms19_1 := NBAb_Ac.out
  have hs20 : w17.cell? ⟨gbAb, 2, none⟩ = some (.int .i64 0) := bc_ BKAb 2
  have hfs20 := blk_frozen BKAb.out 2
  have hns20_0 := NBAa_Ab.out
  have hns20_1 := NBAc_Ab.out
  have hms20_0 := NBAb_Aa.out
  have hms20_1 := NBAb_Ac.out
  have hs21 : w17.cell? ⟨gbAb, 3, none⟩ = some (.int .i64 0) := bc_ BKAb 3
  have hfs21 := blk_frozen BKAb.out 3
  have hns21_0 := NBAa_Ab.out
  have hns21_1 := NBAc_Ab.out
  have hms21_0 := NBAb_Aa.out
  have hms21_1 := NBAb_Ac.out
  have hs22 : w17.cell? ⟨gbAb, 4, none⟩ = some (.int .i64 0) := bc_ BKAb 4
  have hfs22 := blk_frozen BKAb.out 4
  have hns22_0 := NBAa_Ab.out
  have hns22_1 := NBAc_Ab.out
  have hms22_0 := NBAb_Aa.out
  have hms22_1 := NBAb_Ac.out
  have hs24 : w17.cell? ⟨gbAb, 5, none⟩ = some (.slice none 0 0) := bc_ BKAb 5
  have hfs24 := blk_frozen BKAb.out 5
  have hns24_0 := NBAa_Ab.out
  have hns24_1 := NBAc_Ab.out
  have hms24_0 := NBAb_Aa.out
  have hms24_1 := NBAb_Ac.out
  refine skip_ (w1 := ?_) (by rfl) rfl ?_ ?_
  rotate_left
  ·
   go_simp
   rfl
  refine hK.out _ _ ⟨((cell_far (p := ⟨gbAb, _, none⟩) NBAa_Ab.out _).trans (((cell_far (p := ⟨gbAb, _, none⟩) NBAa_Ab.out _).trans (((cell_far (p := ⟨gbAb, _, none⟩) NBAa_Ab.out _).trans (((cell_far (p := ⟨gbAb, _, none⟩) NBAa_Ab.out _).trans (((cell_far (p := ⟨gbAb, _, none⟩) NBAa_Ab.out _).trans (((cell_far (p := ⟨gbAb, _, none⟩) NBAa_Ab.out _).trans (hHeld.1)))))))))))), ((cell_far (p := ⟨gbAb, _, none⟩) NBAa_Ab.out _).trans (((cell_far (p := ⟨gbAb, _, none⟩) NBAa_Ab.out _).trans (((cell_far (p := ⟨gbAb, _, none⟩) NBAa_Ab.out _).trans (((cell_far (p := ⟨gbAb, _, none⟩) NBAa_Ab.out _).trans (((cell_far (p := ⟨gbAb, _, none⟩) NBAa_Ab.out _).trans (((cell_far (p := ⟨gbAb, _, none⟩) NBAa_Ab.out _).trans (hHeld.2.1)))))))))))), ((cell_far (p := ⟨gbAb, _, none⟩) NBAa_Ab.out _).trans (((cell_far (p := ⟨gbAb, _, none⟩) NBAa_Ab.out _).trans (((cell_far (p := ⟨gbAb, _, none⟩) NBAa_Ab.out _).trans (((cell_far (p := ⟨gbAb, _, none⟩) NBAa_Ab.out _).trans (((cell_far (p := ⟨gbAb, _, none⟩) NBAa_Ab.out _).trans (((cell_far (p := ⟨gbAb, _, none⟩) NBAa_Ab.out _).trans (hHeld.2.2.1)))))))))))), ((cell_far (p := ⟨gbAb, _, none⟩) NBAa_Ab.out _).trans (((cell_far (p := ⟨gbAb, _, none⟩) NBAa_Ab.out _).trans (((cell_far (p := ⟨gbAb, _, none⟩) NBAa_Ab.out _).trans (((cell_far (p := ⟨gbAb, _, none⟩) NBAa_Ab.out _).trans (((cell_far (p := ⟨gbAb, _, none⟩) NBAa_Ab.out _).trans (((cell_far (p := ⟨gbAb, _, none⟩) NBAa_Ab.out _).trans (hHeld.2.2.2.1)))))))))))), ((cell_far (p := ⟨gbAb, _, none⟩) NBAa_Ab.out _).trans (((cell_far (p := ⟨gbAb, _, none⟩) NBAa_Ab.out _).trans (((cell_far (p := ⟨gbAb, _, none⟩) NBAa_Ab.out _).trans (((cell_far (p := ⟨gbAb, _, none⟩) NBAa_Ab.out _).trans (((cell_far (p := ⟨gbAb, _, none⟩) NBAa_Ab.out _).trans (((cell_far (p := ⟨gbAb, _, none⟩) NBAa_Ab.out _).trans (hHeld.2.2.2.2.1)))))))))))), ((cell_far (p := ⟨gbAb, _, none⟩) NBAa_Ab.out _).trans (((cell_far (p := ⟨gbAb, _, none⟩) NBAa_Ab.out _).trans (((cell_far (p := ⟨gbAb, _, none⟩) NBAa_Ab.out _).trans (((cell_far (p := ⟨gbAb, _, none⟩) NBAa_Ab.out _).trans (((cell_far (p := ⟨gbAb, _, none⟩) NBAa_Ab.out _).trans (((cell_far (p := ⟨gbAb, _, none⟩) NBAa_Ab.out _).trans (hHeld.2.2.2.2.2))))))))))))⟩ (fun hHeld => ?_)
  clear hK K
  refine pq_ 10 5 HT_ ?_
  refine done_ (done_of HT_.out (by kernel_rfl)) ?_
  try go_wp2
  go_ret
  exact ⟨by first | rfl | (simp [errW_none, errW_some] <;> rfl) | (simp [*, errW_none, errW_some] <;> rfl), pH_ HB.out⟩
 replace c4 := Bool.eq_false_iff.mpr c4
 subst c4
 have H1 : (if tAv = true then (if tAm = 1 then (some (tAq == 2)) else (some false)) else (some false)) = some r := by rw [if_neg (show ¬ (false = true) by decide)] at H; exact H
 clear H
 have H := H1
 clear H1
 by_cases c25 : tAv = true
 ·
  subst c25
  have H1 : (if tAm = 1 then (some (tAq == 2)) else (some false)) = some r := by rw [if_pos rfl] at H; exact H
  clear H
  have H := H1
  clear H1
  by_cases c26 : tAm = 1
  ·
   rw [if_pos c26] at H
   have c26b0 : (tAm == 1) = true := beq_iff_eq.mpr c26
   have c26b1 : (tAm != 1) = false := bne_eq_false_iff_eq.mpr c26
   clear c26
   obtain rfl := Option.some.inj H
   go_enter Try.func37, Try.ntmps37
   try go_wp2_with (first | ((with_reducible refine gate_dst (N := 1) rfl ?_); refine be_ 1 #[.int .i64 0, .int .i64 0, .int .i64 0, .int .i64 0, .int .i64 0, .slice none 0 0] 24 ?_; intro gbAa hg w27 hbox hb; have BKAa := Aside0.mk (hbox); have GWAa := Aside0.mk ((by rw [hg]; exact (below_size (pH_ HB.out)) : w.heap.size ≤ gbAa)); have GEAa := Aside0.mk ((by rw [hg]; exact (below_size (pH_ HB.out)) : w.heap.size ≤ gbAa)); replace HB := bs_ HB hb; clear hb hbox hg; obtain ⟨hcz28_0, hcz28_1, hcz28_2, hcz28_3, hcz28_4, hcz28_5⟩ := c6_ BKAa; obtain ⟨hfz28_0, hfz28_1, hfz28_2, hfz28_3, hfz28_4, hfz28_5⟩ := f6_ BKAa) | ((with_reducible refine gate_callee (f := 42) rfl ?_); refine goesL_ (some 11) rfl rfl Try.func42 (by kernel_rfl) rfl #[.agg #[.int .i64 6, .int .i64 4, .int .i64 0, .int .i64 0, .int .i64 0, .slice none 0 0], .int .i64 0, .int .i64 0, .agg #[.string (⟨#[]⟩ : ByteArray), .string (⟨#[]⟩ : ByteArray), .string (⟨#[]⟩ : ByteArray), .int .i64 0], .agg #[.string (⟨#[]⟩ : ByteArray), .string (⟨#[]⟩ : ByteArray), .string (⟨#[]⟩ : ByteArray), .int .i64 0]] rfl (by (try simp only [List.map_toArray, List.map_cons, List.map_nil]); first | done | rfl | (simp only [List.length_drop, List.length_take]; rfl)) ?_; (refine (arb_Pick.calls 6 4 0 0 0 _ _ ([] : List Int) 0 0 (⟨#[]⟩ : ByteArray) (⟨#[]⟩ : ByteArray) (⟨#[]⟩ : ByteArray) 0 (⟨#[]⟩ : ByteArray) (⟨#[]⟩ : ByteArray) (⟨#[]⟩ : ByteArray) 0 tAf tAg tAh tAi tAj tAe false _ ?side1 ?side2 A1.out).mono ?_); (case side1 => exact Kd.C_nil _ _); (case side2 => exact Nat.le_refl _); rintro e w29 ⟨vAw, rfl, ho0, hb⟩; refine ⟨_, rfl, ?_⟩; have HOAd := Aside0.mk (Kd.R_lower ho0 (below_size (pH_ HB.out))); replace BKAa := Aside0.mk (blk_below (g := gbAa) (o := .cells #[.int .i64 6, .int .i64 4, .int .i64 0, .int .i64 0, .int .i64 0, .slice none 0 0] 24 (0, 0)) (by (with_reducible repeat (first | refine blk_drewN ?_ _ | refine blk_drew ?_ | refine blk_alloc ?_ _)); refine blk_put (cs := #[.int .i64 6, .int .i64 4, .int .i64 0, .int .i64 0, .int .i64 0, .slice none 0 0]) ?_ 5 _ rfl; (with_reducible repeat (first | refine blk_drewN ?_ _ | refine blk_drew ?_ | refine blk_alloc ?_ _)); refine blk_put (cs := #[.int .i64 6, .int .i64 4, .int .i64 0, .int .i64 0, .int .i64 0, .slice none 0 0]) ?_ 4 _ rfl; (with_reducible repeat (first | refine blk_drewN ?_ _ | refine blk_drew ?_ | refine blk_alloc ?_ _)); refine blk_put (cs := #[.int .i64 6, .int .i64 4, .int .i64 0, .int .i64 0, .int .i64 0, .slice none 0 0]) ?_ 3 _ rfl; (with_reducible repeat (first | refine blk_drewN ?_ _ | refine blk_drew ?_ | refine blk_alloc ?_ _)); refine blk_put (cs := #[.int .i64 6, .int .i64 4, .int .i64 0, .int .i64 0, .int .i64 0, .slice none 0 0]) ?_ 2 _ rfl; (with_reducible repeat (first | refine blk_drewN ?_ _ | refine blk_drew ?_ | refine blk_alloc ?_ _)); refine blk_put (cs := #[.int .i64 6, .int .i64 0, .int .i64 0, .int .i64 0, .int .i64 0, .slice none 0 0]) ?_ 1 _ rfl; (with_reducible repeat (first | refine blk_drewN ?_ _ | refine blk_drew ?_ | refine blk_alloc ?_ _)); refine blk_put (cs := #[.int .i64 0, .int .i64 0, .int .i64 0, .int .i64 0, .int .i64 0, .slice none 0 0]) ?_ 0 _ rfl; (with_reducible repeat (first | refine blk_drewN ?_ _ | refine blk_drew ?_ | refine blk_alloc ?_ _)); exact BKAa.out) hb); replace HB := bs_ HB hb; (try clear hb); (try clear hb2); (try clear hk); (try clear hi); (try clear ho0)) | ((with_reducible refine gate_dst (N := 2) rfl ?_); refine be_ 2 #[.int .i64 0, .int .i64 0, .int .i64 0, .int .i64 0, .int .i64 0, .slice none 0 0] 29 ?_; intro gbAc hg w30 hbox hb; have BKAc := Aside0.mk (hbox); have GWAc := Aside0.mk ((by rw [hg]; exact (below_size (pH_ HB.out)) : w.heap.size ≤ gbAc)); have GEAc := Aside0.mk ((by rw [hg]; exact (below_size (pH_ HB.out)) : w.heap.size ≤ gbAc)); have NBAa_Ac := Aside0.mk (ltB_ hg BKAa.out); have NBAc_Aa := Aside0.mk (ltB_ hg BKAa.out).symm; replace HOAd := Aside0.mk (Kd.R_below (pR_ HOAd.out) hb); replace BKAa := bb_ BKAa hb; replace HB := bs_ HB hb; clear hb hbox hg; have hnb31 := NBAc_Aa.out; have hnc31 := NBAa_Ac.out; obtain ⟨hcz32_0, hcz32_1, hcz32_2, hcz32_3, hcz32_4, hcz32_5⟩ := c6_ BKAc; obtain ⟨hfz32_0, hfz32_1, hfz32_2, hfz32_3, hfz32_4, hfz32_5⟩ := f6_ BKAc; obtain ⟨Ao33, co33, eo33⟩ := Kd.R_slice HOAd.out; subst eo33))
   have n0_ : Aside0 (Kd.R k26 26 ((((((w30.setCell ⟨gbAc, 0, none⟩ (.int .i64 tAf)).setCell ⟨gbAc, 1, none⟩ (.int .i64 tAg)).setCell ⟨gbAc, 2, none⟩ (.int .i64 tAh)).setCell ⟨gbAc, 3, none⟩ (.int .i64 tAi)).setCell ⟨gbAc, 4, none⟩ (.int .i64 tAj)).setCell ⟨gbAc, 5, none⟩ (.slice Ao33 tAe.length co33)) w.heap.size (fun _ => True) (.slice Ao33 tAe.length co33) tAe) := ⟨by (with_reducible repeat (first | apply Kd.R_alloc | apply Kd.R_drewN | apply Kd.R_drew)); exact Kd.R_mono (Kd.R_far (p := ⟨gbAc, 5, none⟩) (Kd.R_far (p := ⟨gbAc, 4, none⟩) (Kd.R_far (p := ⟨gbAc, 3, none⟩) (Kd.R_far (p := ⟨gbAc, 2, none⟩) (Kd.R_far (p := ⟨gbAc, 1, none⟩) (Kd.R_far (p := ⟨gbAc, 0, none⟩) (Kd.R_types HOAd.out BKAc.out (by decide)) (fun _ hk => hk.2) (.int .i64 tAf)) (fun _ hk => hk.2) (.int .i64 tAg)) (fun _ hk => hk.2) (.int .i64 tAh)) (fun _ hk => hk.2) (.int .i64 tAi)) (fun _ hk => hk.2) (.int .i64 tAj)) (fun _ hk => hk.2) (.slice Ao33 tAe.length co33)) (fun _ hk => trivial)⟩
   have n1_ : Aside0 (((((((w30.setCell ⟨gbAc, 0, none⟩ (.int .i64 tAf)).setCell ⟨gbAc, 1, none⟩ (.int .i64 tAg)).setCell ⟨gbAc, 2, none⟩ (.int .i64 tAh)).setCell ⟨gbAc, 3, none⟩ (.int .i64 tAi)).setCell ⟨gbAc, 4, none⟩ (.int .i64 tAj)).setCell ⟨gbAc, 5, none⟩ (.slice Ao33 tAe.length co33)).heap[gbAa]? = some (.cells #[.int .i64 6, .int .i64 4, .int .i64 0, .int .i64 0, .int .i64 0, .slice none 0 0] 24 (0, 0))) := ⟨bF_ BKAa.out NBAa_Ac.out⟩
   have n2_ : Aside0 (((((((w30.setCell ⟨gbAc, 0, none⟩ (.int .i64 tAf)).setCell ⟨gbAc, 1, none⟩ (.int .i64 tAg)).setCell ⟨gbAc, 2, none⟩ (.int .i64 tAh)).setCell ⟨gbAc, 3, none⟩ (.int .i64 tAi)).setCell ⟨gbAc, 4, none⟩ (.int .i64 tAj)).setCell ⟨gbAc, 5, none⟩ (.slice Ao33 tAe.length co33)).heap[gbAc]? = some (.cells #[.int .i64 tAf, .int .i64 tAg, .int .i64 tAh, .int .i64 tAi, .int .i64 tAj, .slice Ao33 tAe.length co33] 29 (0, 0))) := ⟨by (with_reducible repeat (first | refine blk_drewN ?_ _ | refine blk_drew ?_ | refine blk_alloc ?_ _)); refine blk_put (cs := #[.int .i64 tAf, .int .i64 tAg, .int .i64 tAh, .int .i64 tAi, .int .i64 tAj, .slice none 0 0]) ?_ 5 _ rfl; (with_reducible repeat (first | refine blk_drewN ?_ _ | refine blk_drew ?_ | refine blk_alloc ?_ _)); refine blk_put (cs := #[.int .i64 tAf, .int .i64 tAg, .int .i64 tAh, .int .i64 tAi, .int .i64 0, .slice none 0 0]) ?_ 4 _ rfl; (with_reducible repeat (first | refine blk_drewN ?_ _ | refine blk_drew ?_ | refine blk_alloc ?_ _)); refine blk_put (cs := #[.int .i64 tAf, .int .i64 tAg, .int .i64 tAh, .int .i64 0, .int .i64 0, .slice none 0 0]) ?_ 3 _ rfl; (with_reducible repeat (first | refine blk_drewN ?_ _ | refine blk_drew ?_ | refine blk_alloc ?_ _)); refine blk_put (cs := #[.int .i64 tAf, .int .i64 tAg, .int .i64 0, .int .i64 0, .int .i64 0, .slice none 0 0]) ?_ 2 _ rfl; (with_reducible repeat (first | refine blk_drewN ?_ _ | refine blk_drew ?_ | refine blk_alloc ?_ _)); refine blk_put (cs := #[.int .i64 tAf, .int .i64 0, .int .i64 0, .int .i64 0, .int .i64 0, .slice none 0 0]) ?_ 1 _ rfl; (with_reducible repeat (first | refine blk_drewN ?_ _ | refine blk_drew ?_ | refine blk_alloc ?_ _)); refine blk_put (cs := #[.int .i64 0, .int .i64 0, .int .i64 0, .int .i64 0, .int .i64 0, .slice none 0 0]) ?_ 0 _ rfl; (with_reducible repeat (first | refine blk_drewN ?_ _ | refine blk_drew ?_ | refine blk_alloc ?_ _)); exact BKAc.out⟩
   have n3_ : Aside0 (Below w.heap.size w ((((((w30.setCell ⟨gbAc, 0, none⟩ (.int .i64 tAf)).setCell ⟨gbAc, 1, none⟩ (.int .i64 tAg)).setCell ⟨gbAc, 2, none⟩ (.int .i64 tAh)).setCell ⟨gbAc, 3, none⟩ (.int .i64 tAi)).setCell ⟨gbAc, 4, none⟩ (.int .i64 tAj)).setCell ⟨gbAc, 5, none⟩ (.slice Ao33 tAe.length co33))) := ⟨pH_ HB.out⟩
   (try clear HOAd)
   (try clear BKAa)
   (try clear BKAc)
   (try clear HB)
   generalize ((((((w30.setCell ⟨gbAc, 0, none⟩ (.int .i64 tAf)).setCell ⟨gbAc, 1, none⟩ (.int .i64 tAg)).setCell ⟨gbAc, 2, none⟩ (.int .i64 tAh)).setCell ⟨gbAc, 3, none⟩ (.int .i64 tAi)).setCell ⟨gbAc, 4, none⟩ (.int .i64 tAj)).setCell ⟨gbAc, 5, none⟩ (.slice Ao33 tAe.length co33)) = w34 at n0_ n1_ n2_ n3_ ⊢
   have HOAd := n0_
   have BKAa := n1_
   have BKAc := n2_
   have HB := n3_
   clear n0_ n1_ n2_ n3_
   replace HOAd := Aside0.mk (Kd.R_drew HOAd.out)
   replace BKAa := Aside0.mk (blk_drew BKAa.out)
   replace BKAc := Aside0.mk (blk_drew BKAc.out)
   replace HB := Aside0.mk (below_drew1 HB.out)
   refine start_ (n := 11) (S := fun w' => w'.cell? ⟨gbAa, 0, none⟩ = some (.int .i64 6) ∧ w'.cell? ⟨gbAa, 1, none⟩ = some (.int .i64 4) ∧ w'.cell? ⟨gbAa, 2, none⟩ = some (.int .i64 0) ∧ w'.cell? ⟨gbAa, 3, none⟩ = some (.int .i64 0) ∧ w'.cell? ⟨gbAa, 4, none⟩ = some (.int .i64 0) ∧ w'.cell? ⟨gbAa, 5, none⟩ = some (.slice none 0 0)) (ds := []) #[false, false, false, false, false, false, false, false, false, false, false] (by kernel_rfl) rfl rfl ⟨bc_ BKAa 0, bc_ BKAa 1, bc_ BKAa 2, bc_ BKAa 3, bc_ BKAa 4, bc_ BKAa 5⟩ (fun hHeld => ?_); refine with_tabW plaitinglaw10_known.tab3 plaitinglaw10_known.bits3 (fun HT_ HW_ => ?_)
   generalize w34.drew = w35 at HOAd BKAa BKAc HB hHeld ⊢
   refine pq_ 2 17 HT_ ?_
   refine tq_ 0 15 HT_ HW_ hHeld ?_
   refine tq_ 1 16 HT_ HW_ hHeld ?_
   refine join_ (σ := Value × Nat) 2 #[true, true, true, true, true, true, true, true, true, false, false] (fun s_ => [(18, .string tAk), (19, .tuple #[.agg #[.int .i64 tAm, .int .i64 tAr, .int .i64 tAq, .int .i64 tAs, .int .i64 tAt, s_.1], .bool true]), (4, .pointer (some ⟨s_.2, 0, none⟩)), (14, .tuple #[.agg #[.int .i64 tAm, .int .i64 tAr, .int .i64 tAq, .int .i64 tAs, .int .i64 tAt, s_.1], .bool true]), (20, .agg #[.int .i64 tAm, .int .i64 tAr, .int .i64 tAq, .int .i64 tAs, .int .i64 tAt, s_.1]), (21, .bool true)]) (fun s_ w' => (w'.cell? ⟨gbAa, 0, none⟩ = some (.int .i64 6) ∧ w'.cell? ⟨gbAa, 1, none⟩ = some (.int .i64 4) ∧ w'.cell? ⟨gbAa, 2, none⟩ = some (.int .i64 0) ∧ w'.cell? ⟨gbAa, 3, none⟩ = some (.int .i64 0) ∧ w'.cell? ⟨gbAa, 4, none⟩ = some (.int .i64 0) ∧ w'.cell? ⟨gbAa, 5, none⟩ = some (.slice none 0 0)) ∧ (Kd.R k26 26 w' w.heap.size (fun k_ => some k_ ≠ (s_.1 : Value).ownBlock) (.slice Ao33 tAe.length co33) tAe) ∧ (Kd.R k26 26 w' w.heap.size (fun k_ => some k_ ≠ (.slice Ao33 tAe.length co33 : Value).ownBlock) s_.1 tAu) ∧ (w'.heap[gbAa]? = some (.cells #[.int .i64 6, .int .i64 4, .int .i64 0, .int .i64 0, .int .i64 0, .slice none 0 0] 24 (0, 0))) ∧ (w'.heap[gbAc]? = some (.cells #[.int .i64 tAf, .int .i64 tAg, .int .i64 tAh, .int .i64 tAi, .int .i64 tAj, .slice Ao33 tAe.length co33] 29 (0, 0))) ∧ (w'.heap[s_.2]? = some (.cells #[.int .i64 0, .int .i64 0, .int .i64 0, .int .i64 0, .int .i64 0, .slice none 0 0] 29 (0, 0))) ∧ (w.heap.size ≤ s_.2) ∧ (w.heap.size ≤ s_.2) ∧ (gbAa ≠ s_.2) ∧ (s_.2 ≠ gbAa) ∧ (gbAc ≠ s_.2) ∧ (s_.2 ≠ gbAc) ∧ (Below w.heap.size w w')) ?_ ?_
   rotate_left
   ·
    intro hCont
    refine two_ (i := 3) (j := 8) (Ni := some 18) (Nj := some 4) #[true, true, true, true, false, false, false, false, false, false, false] #[true, true, true, false, false, false, false, false, true, false, false] rfl rfl rfl rfl (two_of HT_.out (by kernel_rfl)) (by decide) (by decide) (fun K hK => ?_) (fun K hK => ?_)
    ·
     skip
     refine gs_ Try.func31 #[.agg #[.int .i64 6, .int .i64 4, .int .i64 0, .int .i64 0, .int .i64 0, .slice none 0 0], .agg #[.int .i64 1, .int .i64 0, .int .i64 2, .int .i64 0, .int .i64 0, .slice none 0 0]] ?_
     refine (plaitingref5_Text.calls k 6 4 0 0 0 _ _ ([] : List Int) 1 0 2 0 0 _ _ ([] : List (S26)) tAk _ ?side1 ?side2 ?side3 ?side4 A2.out).mono ?_
     (case side1 => exact Kd.C_nil _ _)
     (case side2 => exact Nat.le_refl _)
     (case side3 => exact Kd.C_nil _ _)
     (case side4 => exact Nat.le_refl _)
     rintro e w36 ⟨rfl, hb⟩
     refine ⟨_, rfl, ?_⟩
     replace HOAd := Aside0.mk (Kd.R_below (pR_ HOAd.out) hb)
     replace BKAa := bb_ BKAa hb
     replace BKAc := bb_ BKAc hb
     replace HB := bs_ HB hb
     (try clear hb)
     (try clear hb2)
     (try clear hk)
     (try clear hi)
     refine hK.out _ _ ⟨bc_ BKAa 0, bc_ BKAa 1, bc_ BKAa 2, bc_ BKAa 3, bc_ BKAa 4, bc_ BKAa 5⟩ (fun hHeld => ?_)
     clear hK K
     refine nq_ 18 ?_
     refine two_ (i := 4) (j := 8) (Ni := some 19) (Nj := some 4) #[true, true, true, true, true, false, false, false, false, false, false] #[true, true, true, true, false, false, false, false, true, false, false] rfl rfl rfl rfl (two_of HT_.out (by kernel_rfl)) (by decide) (by decide) (fun K hK => ?_) (fun K hK => ?_)
     ·
      skip
      refine gs_ Try.func40 #[.agg #[.int .i64 6, .int .i64 4, .int .i64 0, .int .i64 0, .int .i64 0, .slice none 0 0], .int .i64 0, .int .i64 2, .string tAk] ?_
      refine (arb_Right.calls 6 4 0 0 0 _ _ ([] : List Int) 0 2 tAk tAm tAr tAq tAs tAt tAu true _ ?side1 ?side2 A3.out).mono ?_
      (case side1 => exact Kd.C_nil _ _)
      (case side2 => exact Nat.le_refl _)
      rintro e w37 ⟨vAp, rfl, ho0, hb⟩
      refine ⟨_, rfl, ?_⟩
      have HOAn := Aside0.mk (Kd.R_lower (Kd.R_new' ho0 (Kd.R_lt (pR_ HOAd.out))) (below_size (pH_ HB.out)))
      replace HOAd := Aside0.mk (Kd.R_elder' (pR_ HOAd.out) (Kd.R_base ho0) hb)
      replace BKAa := bb_ BKAa hb
      replace BKAc := bb_ BKAc hb
      replace HB := bs_ HB hb
      (try clear hb)
      (try clear hb2)
      (try clear hk)
      (try clear hi)
      (try clear ho0)
      refine hK.out _ _ ⟨bc_ BKAa 0, bc_ BKAa 1, bc_ BKAa 2, bc_ BKAa 3, bc_ BKAa 4, bc_ BKAa 5⟩ (fun hHeld => ?_)
      clear hK K
      refine nq_ 19 ?_
      refine pq_ 5 14 HT_ ?_
      refine pq_ 6 20 HT_ ?_
      refine pq_ 7 21 HT_ ?_
      refine oq_ 8 4 HT_ (fun K hK => ?_)
      refine box_step ?hg (N := 4) ?hd (cs := #[.int .i64 0, .int .i64 0, .int .i64 0, .int .i64 0, .int .i64 0, .slice none 0 0]) (t := 29) ?hr ?_; (case hd => rfl); (case hg => rfl); (case hr => first | (go_simp; done) | (go_simp; rfl))
      intro gbAb hg w38 hbox hb
      have BKAb := Aside0.mk (hbox)
      have GWAb := Aside0.mk ((by rw [hg]; exact (below_size (pH_ HB.out)) : w.heap.size ≤ gbAb))
      have GEAb := Aside0.mk ((by rw [hg]; exact (below_size (pH_ HB.out)) : w.heap.size ≤ gbAb))
      have NBAa_Ab := Aside0.mk (ltB_ hg BKAa.out)
      have NBAb_Aa := Aside0.mk (ltB_ hg BKAa.out).symm
      have NBAc_Ab := Aside0.mk (ltB_ hg BKAc.out)
      have NBAb_Ac := Aside0.mk (ltB_ hg BKAc.out).symm
      replace HOAd := Aside0.mk (Kd.R_below (pR_ HOAd.out) hb)
      replace HOAn := Aside0.mk (Kd.R_below (pR_ HOAn.out) hb)
      replace BKAa := bb_ BKAa hb
      replace BKAc := bb_ BKAc hb
      replace HB := bs_ HB hb
      clear hb hbox hg
      refine hK.out _ _ ⟨bc_ BKAa 0, bc_ BKAa 1, bc_ BKAa 2, bc_ BKAa 3, bc_ BKAa 4, bc_ BKAa 5⟩ (fun hHeld => ?_)
      clear hK K
      refine nq_ 4 ?_
      exact norm_ (by simp only [putAll, Act.put, List.setIfInBounds_toArray, List.set_cons_zero, List.set_cons_succ]) (hCont (vAp, gbAb) _ ⟨hHeld, (by (with_reducible repeat (first | apply Kd.R_alloc | apply Kd.R_drewN | apply Kd.R_drew)); exact Kd.R_mono HOAd.out (fun _ hk => hk.2)), (by (with_reducible repeat (first | apply Kd.R_alloc | apply Kd.R_drewN | apply Kd.R_drew)); exact Kd.R_mono HOAn.out (fun _ hk => hk.2)), (pB_ BKAa.out), (pB_ BKAc.out), (pB_ BKAb.out), GWAb.out, GEAb.out, NBAa_Ab.out, NBAb_Aa.out, NBAc_Ab.out, NBAb_Ac.out, (pH_ HB.out)⟩)
     skip
     refine box_step ?hg (N := 4) ?hd (cs := #[.int .i64 0, .int .i64 0, .int .i64 0, .int .i64 0, .int .i64 0, .slice none 0 0]) (t := 29) ?hr ?_; (case hd => rfl); (case hg => rfl); (case hr => first | (go_simp; done) | (go_simp; rfl))
     intro gbAb hg w37 hbox hb
     have BKAb := Aside0.mk (hbox)
     have GWAb := Aside0.mk ((by rw [hg]; exact (below_size (pH_ HB.out)) : w.heap.size ≤ gbAb))
     have GEAb := Aside0.mk ((by rw [hg]; exact (below_size (pH_ HB.out)) : w.heap.size ≤ gbAb))
     have NBAa_Ab := Aside0.mk (ltB_ hg BKAa.out)
     have NBAb_Aa := Aside0.mk (ltB_ hg BKAa.out).symm
     have NBAc_Ab := Aside0.mk (ltB_ hg BKAc.out)
     have NBAb_Ac := Aside0.mk (ltB_ hg BKAc.out).symm
     replace HOAd := Aside0.mk (Kd.R_below (pR_ HOAd.out) hb)
     replace BKAa := bb_ BKAa hb
     replace BKAc := bb_ BKAc hb
     replace HB := bs_ HB hb
     clear hb hbox hg
     refine hK.out _ _ ⟨bc_ BKAa 0, bc_ BKAa 1, bc_ BKAa 2, bc_ BKAa 3, bc_ BKAa 4, bc_ BKAa 5⟩ (fun hHeld => ?_)
     clear hK K
     refine nq_ 4 ?_
     refine oq_ 4 19 HT_ (fun K hK => ?_)
     refine gs_ Try.func40 #[.agg #[.int .i64 6, .int .i64 4, .int .i64 0, .int .i64 0, .int .i64 0, .slice none 0 0], .int .i64 0, .int .i64 2, .string tAk] ?_
     refine (arb_Right.calls 6 4 0 0 0 _ _ ([] : List Int) 0 2 tAk tAm tAr tAq tAs tAt tAu true _ ?side1 ?side2 A3.out).mono ?_
     (case side1 => exact Kd.C_nil _ _)
     (case side2 => exact Nat.le_refl _)
     rintro e w38 ⟨vAp, rfl, ho0, hb⟩
     refine ⟨_, rfl, ?_⟩
     have HOAn := Aside0.mk (Kd.R_lower (Kd.R_new' ho0 (Kd.R_lt (pR_ HOAd.out))) (below_size (pH_ HB.out)))
     replace HOAd := Aside0.mk (Kd.R_elder' (pR_ HOAd.out) (Kd.R_base ho0) hb)
     replace BKAa := bb_ BKAa hb
     replace BKAc := bb_ BKAc hb
     replace BKAb := bb_ BKAb hb
     replace HB := bs_ HB hb
     (try clear hb)
     (try clear hb2)
     (try clear hk)
     (try clear hi)
     (try clear ho0)
     refine hK.out _ _ ⟨bc_ BKAa 0, bc_ BKAa 1, bc_ BKAa 2, bc_ BKAa 3, bc_ BKAa 4, bc_ BKAa 5⟩ (fun hHeld => ?_)
     clear hK K
     refine nq_ 19 ?_
     refine pq_ 5 14 HT_ ?_
     refine pq_ 6 20 HT_ ?_
     refine pq_ 7 21 HT_ ?_
     exact norm_ (by simp only [putAll, Act.put, List.setIfInBounds_toArray, List.set_cons_zero, List.set_cons_succ]) (hCont (vAp, gbAb) _ ⟨hHeld, (by (with_reducible repeat (first | apply Kd.R_alloc | apply Kd.R_drewN | apply Kd.R_drew)); exact Kd.R_mono HOAd.out (fun _ hk => hk.2)), (by (with_reducible repeat (first | apply Kd.R_alloc | apply Kd.R_drewN | apply Kd.R_drew)); exact Kd.R_mono HOAn.out (fun _ hk => hk.2)), (pB_ BKAa.out), (pB_ BKAc.out), (pB_ BKAb.out), GWAb.out, GEAb.out, NBAa_Ab.out, NBAb_Aa.out, NBAc_Ab.out, NBAb_Ac.out, (pH_ HB.out)⟩)
    skip
    refine box_step ?hg (N := 4) ?hd (cs := #[.int .i64 0, .int .i64 0, .int .i64 0, .int .i64 0, .int .i64 0, .slice none 0 0]) (t := 29) ?hr ?_; (case hd => rfl); (case hg => rfl); (case hr => first | (go_simp; done) | (go_simp; rfl))
    intro gbAb hg w36 hbox hb
    have BKAb := Aside0.mk (hbox)
    have GWAb := Aside0.mk ((by rw [hg]; exact (below_size (pH_ HB.out)) : w.heap.size ≤ gbAb))
    have GEAb := Aside0.mk ((by rw [hg]; exact (below_size (pH_ HB.out)) : w.heap.size ≤ gbAb))
    have NBAa_Ab := Aside0.mk (ltB_ hg BKAa.out)
    have NBAb_Aa := Aside0.mk (ltB_ hg BKAa.out).symm
    have NBAc_Ab := Aside0.mk (ltB_ hg BKAc.out)
    have NBAb_Ac := Aside0.mk (ltB_ hg BKAc.out).symm
    replace HOAd := Aside0.mk (Kd.R_below (pR_ HOAd.out) hb)
    replace BKAa := bb_ BKAa hb
    replace BKAc := bb_ BKAc hb
    replace HB := bs_ HB hb
    clear hb hbox hg
    refine hK.out _ _ ⟨bc_ BKAa 0, bc_ BKAa 1, bc_ BKAa 2, bc_ BKAa 3, bc_ BKAa 4, bc_ BKAa 5⟩ (fun hHeld => ?_)
    clear hK K
    refine nq_ 4 ?_
    refine oq_ 3 18 HT_ (fun K hK => ?_)
    refine gs_ Try.func31 #[.agg #[.int .i64 6, .int .i64 4, .int .i64 0, .int .i64 0, .int .i64 0, .slice none 0 0], .agg #[.int .i64 1, .int .i64 0, .int .i64 2, .int .i64 0, .int .i64 0, .slice none 0 0]] ?_
    refine (plaitingref5_Text.calls k 6 4 0 0 0 _ _ ([] : List Int) 1 0 2 0 0 _ _ ([] : List (S26)) tAk _ ?side1 ?side2 ?side3 ?side4 A2.out).mono ?_
    (case side1 => exact Kd.C_nil _ _)
    (case side2 => exact Nat.le_refl _)
    (case side3 => exact Kd.C_nil _ _)
    (case side4 => exact Nat.le_refl _)
    rintro e w37 ⟨rfl, hb⟩
    refine ⟨_, rfl, ?_⟩
    replace HOAd := Aside0.mk (Kd.R_below (pR_ HOAd.out) hb)
    replace BKAa := bb_ BKAa hb
    replace BKAc := bb_ BKAc hb
    replace BKAb := bb_ BKAb hb
    replace HB := bs_ HB hb
    (try clear hb)
    (try clear hb2)
    (try clear hk)
    (try clear hi)
    refine hK.out _ _ ⟨bc_ BKAa 0, bc_ BKAa 1, bc_ BKAa 2, bc_ BKAa 3, bc_ BKAa 4, bc_ BKAa 5⟩ (fun hHeld => ?_)
    clear hK K
    refine nq_ 18 ?_
    refine oq_ 4 19 HT_ (fun K hK => ?_)
    refine gs_ Try.func40 #[.agg #[.int .i64 6, .int .i64 4, .int .i64 0, .int .i64 0, .int .i64 0, .slice none 0 0], .int .i64 0, .int .i64 2, .string tAk] ?_
    refine (arb_Right.calls 6 4 0 0 0 _ _ ([] : List Int) 0 2 tAk tAm tAr tAq tAs tAt tAu true _ ?side1 ?side2 A3.out).mono ?_
    (case side1 => exact Kd.C_nil _ _)
    (case side2 => exact Nat.le_refl _)
    rintro e w38 ⟨vAp, rfl, ho0, hb⟩
    refine ⟨_, rfl, ?_⟩
    have HOAn := Aside0.mk (Kd.R_lower (Kd.R_new' ho0 (Kd.R_lt (pR_ HOAd.out))) (below_size (pH_ HB.out)))
    replace HOAd := Aside0.mk (Kd.R_elder' (pR_ HOAd.out) (Kd.R_base ho0) hb)
    replace BKAa := bb_ BKAa hb
    replace BKAc := bb_ BKAc hb
    replace BKAb := bb_ BKAb hb
    replace HB := bs_ HB hb
    (try clear hb)
    (try clear hb2)
    (try clear hk)
    (try clear hi)
    (try clear ho0)
    refine hK.out _ _ ⟨bc_ BKAa 0, bc_ BKAa 1, bc_ BKAa 2, bc_ BKAa 3, bc_ BKAa 4, bc_ BKAa 5⟩ (fun hHeld => ?_)
    clear hK K
    refine nq_ 19 ?_
    refine pq_ 5 14 HT_ ?_
    refine pq_ 6 20 HT_ ?_
    refine pq_ 7 21 HT_ ?_
    exact norm_ (by simp only [putAll, Act.put, List.setIfInBounds_toArray, List.set_cons_zero, List.set_cons_succ]) (hCont (vAp, gbAb) _ ⟨hHeld, (by (with_reducible repeat (first | apply Kd.R_alloc | apply Kd.R_drewN | apply Kd.R_drew)); exact Kd.R_mono HOAd.out (fun _ hk => hk.2)), (by (with_reducible repeat (first | apply Kd.R_alloc | apply Kd.R_drewN | apply Kd.R_drew)); exact Kd.R_mono HOAn.out (fun _ hk => hk.2)), (pB_ BKAa.out), (pB_ BKAc.out), (pB_ BKAb.out), GWAb.out, GEAb.out, NBAa_Ab.out, NBAb_Aa.out, NBAc_Ab.out, NBAb_Ac.out, (pH_ HB.out)⟩)
   rintro ⟨vAp, gbAb⟩ w39 ⟨hS_, h0_, h1_, h2_, h3_, h4_, h5_, h6_, h7_, h8_, h9_, h10_, h11_⟩
   have n0_ : Aside0 (Kd.R k26 26 w39 w.heap.size (fun k_ => some k_ ≠ (vAp : Value).ownBlock) (.slice Ao33 tAe.length co33) tAe) := ⟨h0_⟩
   have n1_ : Aside0 (Kd.R k26 26 w39 w.heap.size (fun k_ => some k_ ≠ (.slice Ao33 tAe.length co33 : Value).ownBlock) vAp tAu) := ⟨h1_⟩
   have n2_ : Aside0 (w39.heap[gbAa]? = some (.cells #[.int .i64 6, .int .i64 4, .int .i64 0, .int .i64 0, .int .i64 0, .slice none 0 0] 24 (0, 0))) := ⟨h2_⟩
   have n3_ : Aside0 (w39.heap[gbAc]? = some (.cells #[.int .i64 tAf, .int .i64 tAg, .int .i64 tAh, .int .i64 tAi, .int .i64 tAj, .slice Ao33 tAe.length co33] 29 (0, 0))) := ⟨h3_⟩
   have n4_ : Aside0 (w39.heap[gbAb]? = some (.cells #[.int .i64 0, .int .i64 0, .int .i64 0, .int .i64 0, .int .i64 0, .slice none 0 0] 29 (0, 0))) := ⟨h4_⟩
   have n5_ : Aside0 (w.heap.size ≤ gbAb) := ⟨h5_⟩
   have n6_ : Aside0 (w.heap.size ≤ gbAb) := ⟨h6_⟩
   have n7_ : Aside0 (gbAa ≠ gbAb) := ⟨h7_⟩
   have n8_ : Aside0 (gbAb ≠ gbAa) := ⟨h8_⟩
   have n9_ : Aside0 (gbAc ≠ gbAb) := ⟨h9_⟩
   have n10_ : Aside0 (gbAb ≠ gbAc) := ⟨h10_⟩
   have n11_ : Aside0 (Below w.heap.size w w39) := ⟨h11_⟩
   clear HOAd
   clear BKAa
   clear BKAc
   clear HB
   clear h0_ h1_ h2_ h3_ h4_ h5_ h6_ h7_ h8_ h9_ h10_ h11_
   have HOAd := n0_
   have HOAn := n1_
   have BKAa := n2_
   have BKAc := n3_
   have BKAb := n4_
   have GWAb := n5_
   have GEAb := n6_
   have NBAa_Ab := n7_
   have NBAb_Aa := n8_
   have NBAc_Ab := n9_
   have NBAb_Ac := n10_
   have HB := n11_
   clear n0_ n1_ n2_ n3_ n4_ n5_ n6_ n7_ n8_ n9_ n10_ n11_
   have hHeld : w39.cell? ⟨gbAa, 0, none⟩ = some (.int .i64 6) ∧ w39.cell? ⟨gbAa, 1, none⟩ = some (.int .i64 4) ∧ w39.cell? ⟨gbAa, 2, none⟩ = some (.int .i64 0) ∧ w39.cell? ⟨gbAa, 3, none⟩ = some (.int .i64 0) ∧ w39.cell? ⟨gbAa, 4, none⟩ = some (.int .i64 0) ∧ w39.cell? ⟨gbAa, 5, none⟩ = some (.slice none 0 0) := hS_
   obtain ⟨Ao45, co45, eo45⟩ := Kd.R_slice HOAn.out
   (first | subst eo45 | (injection eo45 with f1_ f2_ f3_; have f4_ := f1_.symm; have f5_ := f3_.symm; clear f1_ f2_ f3_; subst f4_; subst f5_))
   refine norm_ (a' := ?_) ?_ ?_
   rotate_left
   ·
    simp only [putAll, Act.put, List.setIfInBounds_toArray, List.set_cons_zero, List.set_cons_succ]
    rfl
   refine one_ (i := 9) (N := none) #[true, true, true, true, true, true, true, true, true, true, false] rfl rfl (one_of HT_.out (by kernel_rfl)) (by decide) (fun K hK => ?_)
   have hs40 : w39.cell? ⟨gbAb, 0, none⟩ = some (.int .i64 0) := bc_ BKAb 0
   have hfs40 := blk_frozen BKAb.out 0
   have hns40_0 := NBAa_Ab.out
   have hns40_1 := NBAc_Ab.out
   have hms40_0 := NBAb_Aa.out
   have hms40_1 := NBAb_Ac.out
   have hs41 : w39.cell? ⟨gbAb, 1, none⟩ = some (.int .i64 0) := bc_ BKAb 1
   have hfs41 := blk_frozen BKAb.out 1
   have hns41_0 := NBAa_Ab.out
   have hns41_1 := NBAc_Ab.out
   have hms41_0 := NBAb_Aa.out
   have hms41_1 := NBAb_Ac.out
   have hs42 : w39.cell? ⟨gbAb, 2, none⟩ = some (.int .i64 0) := bc_ BKAb 2
   have hfs42 := blk_frozen BKAb.out 2
   have hns42_0 := NBAa_Ab.out
   have hns42_1 := NBAc_Ab.out
   have hms42_0 := NBAb_Aa.out
   have hms42_1 := NBAb_Ac.out
   have hs43 : w39.cell? ⟨gbAb, 3, none⟩ = some (.int .i64 0) := bc_ BKAb 3
   have hfs43 := blk_frozen BKAb.out 3
   have hns43_0 := NBAa_Ab.out
   have hns43_1 := NBAc_Ab.out
   have hms43_0 := NBAb_Aa.out
   have hms43_1 := NBAb_Ac.out
   have hs44 : w39.cell? ⟨gbAb, 4, none⟩ = some (.int .i64 0) := bc_ BKAb 4
   have hfs44 := blk_frozen BKAb.out 4
   have hns44_0 := NBAa_Ab.out
   have hns44_1 := NBAc_Ab.out
   have hms44_0 := NBAb_Aa.out
   have hms44_1 := NBAb_Ac.out
   have hs46 : w39.cell? ⟨gbAb, 5, none⟩ = some (.slice none 0 0) := bc_ BKAb 5
   have hfs46 := blk_frozen BKAb.out 5
   have hns46_0 := NBAa_Ab.out
   have hns46_1 := NBAc_Ab.out
   have hms46_0 := NBAb_Aa.out
   have hms46_1 := NBAb_Ac.out
   refine skip_ (w1 := ?_) (by rfl) rfl ?_ ?_
   rotate_left
   ·
    go_simp
    rfl
   refine hK.out _ _ ⟨((cell_far (p := ⟨gbAb, _, none⟩) NBAa_Ab.out _).trans (((cell_far (p := ⟨gbAb, _, none⟩) NBAa_Ab.out _).trans (((cell_far (p := ⟨gbAb, _, none⟩) NBAa_Ab.out _).trans (((cell_far (p := ⟨gbAb, _, none⟩) NBAa_Ab.out _).trans (((cell_far (p := ⟨gbAb, _, none⟩) NBAa_Ab.out _).trans (((cell_far (p := ⟨gbAb, _, none⟩) NBAa_Ab.out _).trans (hHeld.1)))))))))))), ((cell_far (p := ⟨gbAb, _, none⟩) NBAa_Ab.out _).trans (((cell_far (p := ⟨gbAb, _, none⟩) NBAa_Ab.out _).trans (((cell_far (p := ⟨gbAb, _, none⟩) NBAa_Ab.out _).trans (((cell_far (p := ⟨gbAb, _, none⟩) NBAa_Ab.out _).trans (((cell_far (p := ⟨gbAb, _, none⟩) NBAa_Ab.out _).trans (((cell_far (p := ⟨gbAb, _, none⟩) NBAa_Ab.out _).trans (hHeld.2.1)))))))))))), ((cell_far (p := ⟨gbAb, _, none⟩) NBAa_Ab.out _).trans (((cell_far (p := ⟨gbAb, _, none⟩) NBAa_Ab.out _).trans (((cell_far (p := ⟨gbAb, _, none⟩) NBAa_Ab.out _).trans (((cell_far (p := ⟨gbAb, _, none⟩) NBAa_Ab.out _).trans (((cell_far (p := ⟨gbAb, _, none⟩) NBAa_Ab.out _).trans (((cell_far (p := ⟨gbAb, _, none⟩) NBAa_Ab.out _).trans (hHeld.2.2.1)))))))))))), ((cell_far (p := ⟨gbAb, _, none⟩) NBAa_Ab.out _).trans (((cell_far (p := ⟨gbAb, _, none⟩) NBAa_Ab.out _).trans (((cell_far (p := ⟨gbAb, _, none⟩) NBAa_Ab.out _).trans (((cell_far (p := ⟨gbAb, _, none⟩) NBAa_Ab.out _).trans (((cell_far (p := ⟨gbAb, _, none⟩) NBAa_Ab.out _).trans (((cell_far (p := ⟨gbAb, _, none⟩) NBAa_Ab.out _).trans (hHeld.2.2.2.1)))))))))))), ((cell_far (p := ⟨gbAb, _, none⟩) NBAa_Ab.out _).trans (((cell_far (p := ⟨gbAb, _, none⟩) NBAa_Ab.out _).trans (((cell_far (p := ⟨gbAb, _, none⟩) NBAa_Ab.out _).trans (((cell_far (p := ⟨gbAb, _, none⟩) NBAa_Ab.out _).trans (((cell_far (p := ⟨gbAb, _, none⟩) NBAa_Ab.out _).trans (((cell_far (p := ⟨gbAb, _, none⟩) NBAa_Ab.out _).trans (hHeld.2.2.2.2.1)))))))))))), ((cell_far (p := ⟨gbAb, _, none⟩) NBAa_Ab.out _).trans (((cell_far (p := ⟨gbAb, _, none⟩) NBAa_Ab.out _).trans (((cell_far (p := ⟨gbAb, _, none⟩) NBAa_Ab.out _).trans (((cell_far (p := ⟨gbAb, _, none⟩) NBAa_Ab.out _).trans (((cell_far (p := ⟨gbAb, _, none⟩) NBAa_Ab.out _).trans (((cell_far (p := ⟨gbAb, _, none⟩) NBAa_Ab.out _).trans (hHeld.2.2.2.2.2))))))))))))⟩ (fun hHeld => ?_)
   clear hK K
   refine pq_ 10 5 HT_ ?_
   refine done_ (done_of HT_.out (by kernel_rfl)) ?_
   have hnb47 := NBAb_Aa.out
   have hnc47 := NBAa_Ab.out
   have hnb48 := NBAb_Ac.out
   have hnc48 := NBAc_Ab.out
   obtain ⟨hcz49_0, hcz49_1, hcz49_2, hcz49_3, hcz49_4, hcz49_5⟩ := c6_ BKAb
   obtain ⟨hfz49_0, hfz49_1, hfz49_2, hfz49_3, hfz49_4, hfz49_5⟩ := f6_ BKAb
   try go_wp2
   go_ret
   exact ⟨by first | rfl | (simp [errW_none, errW_some] <;> rfl) | (simp [*, errW_none, errW_some] <;> rfl), pH_ HB.out⟩
  rw [if_neg c26] at H
  have c26b0 : (tAm == 1) = false := beq_eq_false_iff_ne.mpr c26
  have c26b1 : (tAm != 1) = true := bne_iff_ne.mpr c26
  obtain rfl := Option.some.inj H
  go_enter Try.func37, Try.ntmps37
  try go_wp2_with (first | ((with_reducible refine gate_dst (N := 1) rfl ?_); refine be_ 1 #[.int .i64 0, .int .i64 0, .int .i64 0, .int .i64 0, .int .i64 0, .slice none 0 0] 24 ?_; intro gbAa hg w50 hbox hb; have BKAa := Aside0.mk (hbox); have GWAa := Aside0.mk ((by rw [hg]; exact (below_size (pH_ HB.out)) : w.heap.size ≤ gbAa)); have GEAa := Aside0.mk ((by rw [hg]; exact (below_size (pH_ HB.out)) : w.heap.size ≤ gbAa)); replace HB := bs_ HB hb; clear hb hbox hg; obtain ⟨hcz51_0, hcz51_1, hcz51_2, hcz51_3, hcz51_4, hcz51_5⟩ := c6_ BKAa; obtain ⟨hfz51_0, hfz51_1, hfz51_2, hfz51_3, hfz51_4, hfz51_5⟩ := f6_ BKAa) | ((with_reducible refine gate_callee (f := 42) rfl ?_); refine goesL_ (some 11) rfl rfl Try.func42 (by kernel_rfl) rfl #[.agg #[.int .i64 6, .int .i64 4, .int .i64 0, .int .i64 0, .int .i64 0, .slice none 0 0], .int .i64 0, .int .i64 0, .agg #[.string (⟨#[]⟩ : ByteArray), .string (⟨#[]⟩ : ByteArray), .string (⟨#[]⟩ : ByteArray), .int .i64 0], .agg #[.string (⟨#[]⟩ : ByteArray), .string (⟨#[]⟩ : ByteArray), .string (⟨#[]⟩ : ByteArray), .int .i64 0]] rfl (by (try simp only [List.map_toArray, List.map_cons, List.map_nil]); first | done | rfl | (simp only [List.length_drop, List.length_take]; rfl)) ?_; (refine (arb_Pick.calls 6 4 0 0 0 _ _ ([] : List Int) 0 0 (⟨#[]⟩ : ByteArray) (⟨#[]⟩ : ByteArray) (⟨#[]⟩ : ByteArray) 0 (⟨#[]⟩ : ByteArray) (⟨#[]⟩ : ByteArray) (⟨#[]⟩ : ByteArray) 0 tAf tAg tAh tAi tAj tAe false _ ?side1 ?side2 A1.out).mono ?_); (case side1 => exact Kd.C_nil _ _); (case side2 => exact Nat.le_refl _); rintro e w52 ⟨vAw, rfl, ho0, hb⟩; refine ⟨_, rfl, ?_⟩; have HOAd := Aside0.mk (Kd.R_lower ho0 (below_size (pH_ HB.out))); replace BKAa := Aside0.mk (blk_below (g := gbAa) (o := .cells #[.int .i64 6, .int .i64 4, .int .i64 0, .int .i64 0, .int .i64 0, .slice none 0 0] 24 (0, 0)) (by (with_reducible repeat (first | refine blk_drewN ?_ _ | refine blk_drew ?_ | refine blk_alloc ?_ _)); refine blk_put (cs := #[.int .i64 6, .int .i64 4, .int .i64 0, .int .i64 0, .int .i64 0, .slice none 0 0]) ?_ 5 _ rfl; (with_reducible repeat (first | refine blk_drewN ?_ _ | refine blk_drew ?_ | refine blk_alloc ?_ _)); refine blk_put (cs := #[.int .i64 6, .int .i64 4, .int .i64 0, .int .i64 0, .int .i64 0, .slice none 0 0]) ?_ 4 _ rfl; (with_reducible repeat (first | refine blk_drewN ?_ _ | refine blk_drew ?_ | refine blk_alloc ?_ _)); refine blk_put (cs := #[.int .i64 6, .int .i64 4, .int .i64 0, .int .i64 0, .int .i64 0, .slice none 0 0]) ?_ 3 _ rfl; (with_reducible repeat (first | refine blk_drewN ?_ _ | refine blk_drew ?_ | refine blk_alloc ?_ _)); refine blk_put (cs := #[.int .i64 6, .int .i64 4, .int .i64 0, .int .i64 0, .int .i64 0, .slice none 0 0]) ?_ 2 _ rfl; (with_reducible repeat (first | refine blk_drewN ?_ _ | refine blk_drew ?_ | refine blk_alloc ?_ _)); refine blk_put (cs := #[.int .i64 6, .int .i64 0, .int .i64 0, .int .i64 0, .int .i64 0, .slice none 0 0]) ?_ 1 _ rfl; (with_reducible repeat (first | refine blk_drewN ?_ _ | refine blk_drew ?_ | refine blk_alloc ?_ _)); refine blk_put (cs := #[.int .i64 0, .int .i64 0, .int .i64 0, .int .i64 0, .int .i64 0, .slice none 0 0]) ?_ 0 _ rfl; (with_reducible repeat (first | refine blk_drewN ?_ _ | refine blk_drew ?_ | refine blk_alloc ?_ _)); exact BKAa.out) hb); replace HB := bs_ HB hb; (try clear hb); (try clear hb2); (try clear hk); (try clear hi); (try clear ho0)) | ((with_reducible refine gate_dst (N := 2) rfl ?_); refine be_ 2 #[.int .i64 0, .int .i64 0, .int .i64 0, .int .i64 0, .int .i64 0, .slice none 0 0] 29 ?_; intro gbAc hg w53 hbox hb; have BKAc := Aside0.mk (hbox); have GWAc := Aside0.mk ((by rw [hg]; exact (below_size (pH_ HB.out)) : w.heap.size ≤ gbAc)); have GEAc := Aside0.mk ((by rw [hg]; exact (below_size (pH_ HB.out)) : w.heap.size ≤ gbAc)); have NBAa_Ac := Aside0.mk (ltB_ hg BKAa.out); have NBAc_Aa := Aside0.mk (ltB_ hg BKAa.out).symm; replace HOAd := Aside0.mk (Kd.R_below (pR_ HOAd.out) hb); replace BKAa := bb_ BKAa hb; replace HB := bs_ HB hb; clear hb hbox hg; have hnb54 := NBAc_Aa.out; have hnc54 := NBAa_Ac.out; obtain ⟨hcz55_0, hcz55_1, hcz55_2, hcz55_3, hcz55_4, hcz55_5⟩ := c6_ BKAc; obtain ⟨hfz55_0, hfz55_1, hfz55_2, hfz55_3, hfz55_4, hfz55_5⟩ := f6_ BKAc; obtain ⟨Ao56, co56, eo56⟩ := Kd.R_slice HOAd.out; subst eo56))
  have n0_ : Aside0 (Kd.R k26 26 ((((((w53.setCell ⟨gbAc, 0, none⟩ (.int .i64 tAf)).setCell ⟨gbAc, 1, none⟩ (.int .i64 tAg)).setCell ⟨gbAc, 2, none⟩ (.int .i64 tAh)).setCell ⟨gbAc, 3, none⟩ (.int .i64 tAi)).setCell ⟨gbAc, 4, none⟩ (.int .i64 tAj)).setCell ⟨gbAc, 5, none⟩ (.slice Ao56 tAe.length co56)) w.heap.size (fun _ => True) (.slice Ao56 tAe.length co56) tAe) := ⟨by (with_reducible repeat (first | apply Kd.R_alloc | apply Kd.R_drewN | apply Kd.R_drew)); exact Kd.R_mono (Kd.R_far (p := ⟨gbAc, 5, none⟩) (Kd.R_far (p := ⟨gbAc, 4, none⟩) (Kd.R_far (p := ⟨gbAc, 3, none⟩) (Kd.R_far (p := ⟨gbAc, 2, none⟩) (Kd.R_far (p := ⟨gbAc, 1, none⟩) (Kd.R_far (p := ⟨gbAc, 0, none⟩) (Kd.R_types HOAd.out BKAc.out (by decide)) (fun _ hk => hk.2) (.int .i64 tAf)) (fun _ hk => hk.2) (.int .i64 tAg)) (fun _ hk => hk.2) (.int .i64 tAh)) (fun _ hk => hk.2) (.int .i64 tAi)) (fun _ hk => hk.2) (.int .i64 tAj)) (fun _ hk => hk.2) (.slice Ao56 tAe.length co56)) (fun _ hk => trivial)⟩
  have n1_ : Aside0 (((((((w53.setCell ⟨gbAc, 0, none⟩ (.int .i64 tAf)).setCell ⟨gbAc, 1, none⟩ (.int .i64 tAg)).setCell ⟨gbAc, 2, none⟩ (.int .i64 tAh)).setCell ⟨gbAc, 3, none⟩ (.int .i64 tAi)).setCell ⟨gbAc, 4, none⟩ (.int .i64 tAj)).setCell ⟨gbAc, 5, none⟩ (.slice Ao56 tAe.length co56)).heap[gbAa]? = some (.cells #[.int .i64 6, .int .i64 4, .int .i64 0, .int .i64 0, .int .i64 0, .slice none 0 0] 24 (0, 0))) := ⟨bF_ BKAa.out NBAa_Ac.out⟩
  have n2_ : Aside0 (((((((w53.setCell ⟨gbAc, 0, none⟩ (.int .i64 tAf)).setCell ⟨gbAc, 1, none⟩ (.int .i64 tAg)).setCell ⟨gbAc, 2, none⟩ (.int .i64 tAh)).setCell ⟨gbAc, 3, none⟩ (.int .i64 tAi)).setCell ⟨gbAc, 4, none⟩ (.int .i64 tAj)).setCell ⟨gbAc, 5, none⟩ (.slice Ao56 tAe.length co56)).heap[gbAc]? = some (.cells #[.int .i64 tAf, .int .i64 tAg, .int .i64 tAh, .int .i64 tAi, .int .i64 tAj, .slice Ao56 tAe.length co56] 29 (0, 0))) := ⟨by (with_reducible repeat (first | refine blk_drewN ?_ _ | refine blk_drew ?_ | refine blk_alloc ?_ _)); refine blk_put (cs := #[.int .i64 tAf, .int .i64 tAg, .int .i64 tAh, .int .i64 tAi, .int .i64 tAj, .slice none 0 0]) ?_ 5 _ rfl; (with_reducible repeat (first | refine blk_drewN ?_ _ | refine blk_drew ?_ | refine blk_alloc ?_ _)); refine blk_put (cs := #[.int .i64 tAf, .int .i64 tAg, .int .i64 tAh, .int .i64 tAi, .int .i64 0, .slice none 0 0]) ?_ 4 _ rfl; (with_reducible repeat (first | refine blk_drewN ?_ _ | refine blk_drew ?_ | refine blk_alloc ?_ _)); refine blk_put (cs := #[.int .i64 tAf, .int .i64 tAg, .int .i64 tAh, .int .i64 0, .int .i64 0, .slice none 0 0]) ?_ 3 _ rfl; (with_reducible repeat (first | refine blk_drewN ?_ _ | refine blk_drew ?_ | refine blk_alloc ?_ _)); refine blk_put (cs := #[.int .i64 tAf, .int .i64 tAg, .int .i64 0, .int .i64 0, .int .i64 0, .slice none 0 0]) ?_ 2 _ rfl; (with_reducible repeat (first | refine blk_drewN ?_ _ | refine blk_drew ?_ | refine blk_alloc ?_ _)); refine blk_put (cs := #[.int .i64 tAf, .int .i64 0, .int .i64 0, .int .i64 0, .int .i64 0, .slice none 0 0]) ?_ 1 _ rfl; (with_reducible repeat (first | refine blk_drewN ?_ _ | refine blk_drew ?_ | refine blk_alloc ?_ _)); refine blk_put (cs := #[.int .i64 0, .int .i64 0, .int .i64 0, .int .i64 0, .int .i64 0, .slice none 0 0]) ?_ 0 _ rfl; (with_reducible repeat (first | refine blk_drewN ?_ _ | refine blk_drew ?_ | refine blk_alloc ?_ _)); exact BKAc.out⟩
  have n3_ : Aside0 (Below w.heap.size w ((((((w53.setCell ⟨gbAc, 0, none⟩ (.int .i64 tAf)).setCell ⟨gbAc, 1, none⟩ (.int .i64 tAg)).setCell ⟨gbAc, 2, none⟩ (.int .i64 tAh)).setCell ⟨gbAc, 3, none⟩ (.int .i64 tAi)).setCell ⟨gbAc, 4, none⟩ (.int .i64 tAj)).setCell ⟨gbAc, 5, none⟩ (.slice Ao56 tAe.length co56))) := ⟨pH_ HB.out⟩
  (try clear HOAd)
  (try clear BKAa)
  (try clear BKAc)
  (try clear HB)
  generalize ((((((w53.setCell ⟨gbAc, 0, none⟩ (.int .i64 tAf)).setCell ⟨gbAc, 1, none⟩ (.int .i64 tAg)).setCell ⟨gbAc, 2, none⟩ (.int .i64 tAh)).setCell ⟨gbAc, 3, none⟩ (.int .i64 tAi)).setCell ⟨gbAc, 4, none⟩ (.int .i64 tAj)).setCell ⟨gbAc, 5, none⟩ (.slice Ao56 tAe.length co56)) = w57 at n0_ n1_ n2_ n3_ ⊢
  have HOAd := n0_
  have BKAa := n1_
  have BKAc := n2_
  have HB := n3_
  clear n0_ n1_ n2_ n3_
  replace HOAd := Aside0.mk (Kd.R_drew HOAd.out)
  replace BKAa := Aside0.mk (blk_drew BKAa.out)
  replace BKAc := Aside0.mk (blk_drew BKAc.out)
  replace HB := Aside0.mk (below_drew1 HB.out)
  refine start_ (n := 11) (S := fun w' => w'.cell? ⟨gbAa, 0, none⟩ = some (.int .i64 6) ∧ w'.cell? ⟨gbAa, 1, none⟩ = some (.int .i64 4) ∧ w'.cell? ⟨gbAa, 2, none⟩ = some (.int .i64 0) ∧ w'.cell? ⟨gbAa, 3, none⟩ = some (.int .i64 0) ∧ w'.cell? ⟨gbAa, 4, none⟩ = some (.int .i64 0) ∧ w'.cell? ⟨gbAa, 5, none⟩ = some (.slice none 0 0)) (ds := []) #[false, false, false, false, false, false, false, false, false, false, false] (by kernel_rfl) rfl rfl ⟨bc_ BKAa 0, bc_ BKAa 1, bc_ BKAa 2, bc_ BKAa 3, bc_ BKAa 4, bc_ BKAa 5⟩ (fun hHeld => ?_); refine with_tabW plaitinglaw10_known.tab3 plaitinglaw10_known.bits3 (fun HT_ HW_ => ?_)
  generalize w57.drew = w58 at HOAd BKAa BKAc HB hHeld ⊢
  refine pq_ 2 17 HT_ ?_
  refine tq_ 0 15 HT_ HW_ hHeld ?_
  refine tq_ 1 16 HT_ HW_ hHeld ?_
  refine join_ (σ := Value × Nat) 2 #[true, true, true, true, true, true, true, true, true, false, false] (fun s_ => [(18, .string tAk), (19, .tuple #[.agg #[.int .i64 tAm, .int .i64 tAr, .int .i64 tAq, .int .i64 tAs, .int .i64 tAt, s_.1], .bool true]), (4, .pointer (some ⟨s_.2, 0, none⟩)), (14, .tuple #[.agg #[.int .i64 tAm, .int .i64 tAr, .int .i64 tAq, .int .i64 tAs, .int .i64 tAt, s_.1], .bool true]), (20, .agg #[.int .i64 tAm, .int .i64 tAr, .int .i64 tAq, .int .i64 tAs, .int .i64 tAt, s_.1]), (21, .bool true)]) (fun s_ w' => (w'.cell? ⟨gbAa, 0, none⟩ = some (.int .i64 6) ∧ w'.cell? ⟨gbAa, 1, none⟩ = some (.int .i64 4) ∧ w'.cell? ⟨gbAa, 2, none⟩ = some (.int .i64 0) ∧ w'.cell? ⟨gbAa, 3, none⟩ = some (.int .i64 0) ∧ w'.cell? ⟨gbAa, 4, none⟩ = some (.int .i64 0) ∧ w'.cell? ⟨gbAa, 5, none⟩ = some (.slice none 0 0)) ∧ (Kd.R k26 26 w' w.heap.size (fun k_ => some k_ ≠ (s_.1 : Value).ownBlock) (.slice Ao56 tAe.length co56) tAe) ∧ (Kd.R k26 26 w' w.heap.size (fun k_ => some k_ ≠ (.slice Ao56 tAe.length co56 : Value).ownBlock) s_.1 tAu) ∧ (w'.heap[gbAa]? = some (.cells #[.int .i64 6, .int .i64 4, .int .i64 0, .int .i64 0, .int .i64 0, .slice none 0 0] 24 (0, 0))) ∧ (w'.heap[gbAc]? = some (.cells #[.int .i64 tAf, .int .i64 tAg, .int .i64 tAh, .int .i64 tAi, .int .i64 tAj, .slice Ao56 tAe.length co56] 29 (0, 0))) ∧ (w'.heap[s_.2]? = some (.cells #[.int .i64 0, .int .i64 0, .int .i64 0, .int .i64 0, .int .i64 0, .slice none 0 0] 29 (0, 0))) ∧ (w.heap.size ≤ s_.2) ∧ (w.heap.size ≤ s_.2) ∧ (gbAa ≠ s_.2) ∧ (s_.2 ≠ gbAa) ∧ (gbAc ≠ s_.2) ∧ (s_.2 ≠ gbAc) ∧ (Below w.heap.size w w')) ?_ ?_
  rotate_left
  ·
   intro hCont
   refine two_ (i := 3) (j := 8) (Ni := some 18) (Nj := some 4) #[true, true, true, true, false, false, false, false, false, false, false] #[true, true, true, false, false, false, false, false, true, false, false] rfl rfl rfl rfl (two_of HT_.out (by kernel_rfl)) (by decide) (by decide) (fun K hK => ?_) (fun K hK => ?_)
   ·
    skip
    refine gs_ Try.func31 #[.agg #[.int .i64 6, .int .i64 4, .int .i64 0, .int .i64 0, .int .i64 0, .slice none 0 0], .agg #[.int .i64 1, .int .i64 0, .int .i64 2, .int .i64 0, .int .i64 0, .slice none 0 0]] ?_
    refine (plaitingref5_Text.calls k 6 4 0 0 0 _ _ ([] : List Int) 1 0 2 0 0 _ _ ([] : List (S26)) tAk _ ?side1 ?side2 ?side3 ?side4 A2.out).mono ?_
    (case side1 => exact Kd.C_nil _ _)
    (case side2 => exact Nat.le_refl _)
    (case side3 => exact Kd.C_nil _ _)
    (case side4 => exact Nat.le_refl _)
    rintro e w59 ⟨rfl, hb⟩
    refine ⟨_, rfl, ?_⟩
    replace HOAd := Aside0.mk (Kd.R_below (pR_ HOAd.out) hb)
    replace BKAa := bb_ BKAa hb
    replace BKAc := bb_ BKAc hb
    replace HB := bs_ HB hb
    (try clear hb)
    (try clear hb2)
    (try clear hk)
    (try clear hi)
    refine hK.out _ _ ⟨bc_ BKAa 0, bc_ BKAa 1, bc_ BKAa 2, bc_ BKAa 3, bc_ BKAa 4, bc_ BKAa 5⟩ (fun hHeld => ?_)
    clear hK K
    refine nq_ 18 ?_
    refine two_ (i := 4) (j := 8) (Ni := some 19) (Nj := some 4) #[true, true, true, true, true, false, false, false, false, false, false] #[true, true, true, true, false, false, false, false, true, false, false] rfl rfl rfl rfl (two_of HT_.out (by kernel_rfl)) (by decide) (by decide) (fun K hK => ?_) (fun K hK => ?_)
    ·
     skip
     refine gs_ Try.func40 #[.agg #[.int .i64 6, .int .i64 4, .int .i64 0, .int .i64 0, .int .i64 0, .slice none 0 0], .int .i64 0, .int .i64 2, .string tAk] ?_
     refine (arb_Right.calls 6 4 0 0 0 _ _ ([] : List Int) 0 2 tAk tAm tAr tAq tAs tAt tAu true _ ?side1 ?side2 A3.out).mono ?_
     (case side1 => exact Kd.C_nil _ _)
     (case side2 => exact Nat.le_refl _)
     rintro e w60 ⟨vAp, rfl, ho0, hb⟩
     refine ⟨_, rfl, ?_⟩
     have HOAn := Aside0.mk (Kd.R_lower (Kd.R_new' ho0 (Kd.R_lt (pR_ HOAd.out))) (below_size (pH_ HB.out)))
     replace HOAd := Aside0.mk (Kd.R_elder' (pR_ HOAd.out) (Kd.R_base ho0) hb)
     replace BKAa := bb_ BKAa hb
     replace BKAc := bb_ BKAc hb
     replace HB := bs_ HB hb
     (try clear hb)
     (try clear hb2)
     (try clear hk)
     (try clear hi)
     (try clear ho0)
     refine hK.out _ _ ⟨bc_ BKAa 0, bc_ BKAa 1, bc_ BKAa 2, bc_ BKAa 3, bc_ BKAa 4, bc_ BKAa 5⟩ (fun hHeld => ?_)
     clear hK K
     refine nq_ 19 ?_
     refine pq_ 5 14 HT_ ?_
     refine pq_ 6 20 HT_ ?_
     refine pq_ 7 21 HT_ ?_
     refine oq_ 8 4 HT_ (fun K hK => ?_)
     refine box_step ?hg (N := 4) ?hd (cs := #[.int .i64 0, .int .i64 0, .int .i64 0, .int .i64 0, .int .i64 0, .slice none 0 0]) (t := 29) ?hr ?_; (case hd => rfl); (case hg => rfl); (case hr => first | (go_simp; done) | (go_simp; rfl))
     intro gbAb hg w61 hbox hb
     have BKAb := Aside0.mk (hbox)
     have GWAb := Aside0.mk ((by rw [hg]; exact (below_size (pH_ HB.out)) : w.heap.size ≤ gbAb))
     have GEAb := Aside0.mk ((by rw [hg]; exact (below_size (pH_ HB.out)) : w.heap.size ≤ gbAb))
     have NBAa_Ab := Aside0.mk (ltB_ hg BKAa.out)
     have NBAb_Aa := Aside0.mk (ltB_ hg BKAa.out).symm
     have NBAc_Ab := Aside0.mk (ltB_ hg BKAc.out)
     have NBAb_Ac := Aside0.mk (ltB_ hg BKAc.out).symm
     replace HOAd := Aside0.mk (Kd.R_below (pR_ HOAd.out) hb)
     replace HOAn := Aside0.mk (Kd.R_below (pR_ HOAn.out) hb)
     replace BKAa := bb_ BKAa hb
     replace BKAc := bb_ BKAc hb
     replace HB := bs_ HB hb
     clear hb hbox hg
     refine hK.out _ _ ⟨bc_ BKAa 0, bc_ BKAa 1, bc_ BKAa 2, bc_ BKAa 3, bc_ BKAa 4, bc_ BKAa 5⟩ (fun hHeld => ?_)
     clear hK K
     refine nq_ 4 ?_
     exact norm_ (by simp only [putAll, Act.put, List.setIfInBounds_toArray, List.set_cons_zero, List.set_cons_succ]) (hCont (vAp, gbAb) _ ⟨hHeld, (by (with_reducible repeat (first | apply Kd.R_alloc | apply Kd.R_drewN | apply Kd.R_drew)); exact Kd.R_mono HOAd.out (fun _ hk => hk.2)), (by (with_reducible repeat (first | apply Kd.R_alloc | apply Kd.R_drewN | apply Kd.R_drew)); exact Kd.R_mono HOAn.out (fun _ hk => hk.2)), (pB_ BKAa.out), (pB_ BKAc.out), (pB_ BKAb.out), GWAb.out, GEAb.out, NBAa_Ab.out, NBAb_Aa.out, NBAc_Ab.out, NBAb_Ac.out, (pH_ HB.out)⟩)
    skip
    refine box_step ?hg (N := 4) ?hd (cs := #[.int .i64 0, .int .i64 0, .int .i64 0, .int .i64 0, .int .i64 0, .slice none 0 0]) (t := 29) ?hr ?_; (case hd => rfl); (case hg => rfl); (case hr => first | (go_simp; done) | (go_simp; rfl))
    intro gbAb hg w60 hbox hb
    have BKAb := Aside0.mk (hbox)
    have GWAb := Aside0.mk ((by rw [hg]; exact (below_size (pH_ HB.out)) : w.heap.size ≤ gbAb))
    have GEAb := Aside0.mk ((by rw [hg]; exact (below_size (pH_ HB.out)) : w.heap.size ≤ gbAb))
    have NBAa_Ab := Aside0.mk (ltB_ hg BKAa.out)
    have NBAb_Aa := Aside0.mk (ltB_ hg BKAa.out).symm
    have NBAc_Ab := Aside0.mk (ltB_ hg BKAc.out)
    have NBAb_Ac := Aside0.mk (ltB_ hg BKAc.out).symm
    replace HOAd := Aside0.mk (Kd.R_below (pR_ HOAd.out) hb)
    replace BKAa := bb_ BKAa hb
    replace BKAc := bb_ BKAc hb
    replace HB := bs_ HB hb
    clear hb hbox hg
    refine hK.out _ _ ⟨bc_ BKAa 0, bc_ BKAa 1, bc_ BKAa 2, bc_ BKAa 3, bc_ BKAa 4, bc_ BKAa 5⟩ (fun hHeld => ?_)
    clear hK K
    refine nq_ 4 ?_
    refine oq_ 4 19 HT_ (fun K hK => ?_)
    refine gs_ Try.func40 #[.agg #[.int .i64 6, .int .i64 4, .int .i64 0, .int .i64 0, .int .i64 0, .slice none 0 0], .int .i64 0, .int .i64 2, .string tAk] ?_
    refine (arb_Right.calls 6 4 0 0 0 _ _ ([] : List Int) 0 2 tAk tAm tAr tAq tAs tAt tAu true _ ?side1 ?side2 A3.out).mono ?_
    (case side1 => exact Kd.C_nil _ _)
    (case side2 => exact Nat.le_refl _)
    rintro e w61 ⟨vAp, rfl, ho0, hb⟩
    refine ⟨_, rfl, ?_⟩
    have HOAn := Aside0.mk (Kd.R_lower (Kd.R_new' ho0 (Kd.R_lt (pR_ HOAd.out))) (below_size (pH_ HB.out)))
    replace HOAd := Aside0.mk (Kd.R_elder' (pR_ HOAd.out) (Kd.R_base ho0) hb)
    replace BKAa := bb_ BKAa hb
    replace BKAc := bb_ BKAc hb
    replace BKAb := bb_ BKAb hb
    replace HB := bs_ HB hb
    (try clear hb)
    (try clear hb2)
    (try clear hk)
    (try clear hi)
    (try clear ho0)
    refine hK.out _ _ ⟨bc_ BKAa 0, bc_ BKAa 1, bc_ BKAa 2, bc_ BKAa 3, bc_ BKAa 4, bc_ BKAa 5⟩ (fun hHeld => ?_)
    clear hK K
    refine nq_ 19 ?_
    refine pq_ 5 14 HT_ ?_
    refine pq_ 6 20 HT_ ?_
    refine pq_ 7 21 HT_ ?_
    exact norm_ (by simp only [putAll, Act.put, List.setIfInBounds_toArray, List.set_cons_zero, List.set_cons_succ]) (hCont (vAp, gbAb) _ ⟨hHeld, (by (with_reducible repeat (first | apply Kd.R_alloc | apply Kd.R_drewN | apply Kd.R_drew)); exact Kd.R_mono HOAd.out (fun _ hk => hk.2)), (by (with_reducible repeat (first | apply Kd.R_alloc | apply Kd.R_drewN | apply Kd.R_drew)); exact Kd.R_mono HOAn.out (fun _ hk => hk.2)), (pB_ BKAa.out), (pB_ BKAc.out), (pB_ BKAb.out), GWAb.out, GEAb.out, NBAa_Ab.out, NBAb_Aa.out, NBAc_Ab.out, NBAb_Ac.out, (pH_ HB.out)⟩)
   skip
   refine box_step ?hg (N := 4) ?hd (cs := #[.int .i64 0, .int .i64 0, .int .i64 0, .int .i64 0, .int .i64 0, .slice none 0 0]) (t := 29) ?hr ?_; (case hd => rfl); (case hg => rfl); (case hr => first | (go_simp; done) | (go_simp; rfl))
   intro gbAb hg w59 hbox hb
   have BKAb := Aside0.mk (hbox)
   have GWAb := Aside0.mk ((by rw [hg]; exact (below_size (pH_ HB.out)) : w.heap.size ≤ gbAb))
   have GEAb := Aside0.mk ((by rw [hg]; exact (below_size (pH_ HB.out)) : w.heap.size ≤ gbAb))
   have NBAa_Ab := Aside0.mk (ltB_ hg BKAa.out)
   have NBAb_Aa := Aside0.mk (ltB_ hg BKAa.out).symm
   have NBAc_Ab := Aside0.mk (ltB_ hg BKAc.out)
   have NBAb_Ac := Aside0.mk (ltB_ hg BKAc.out).symm
   replace HOAd := Aside0.mk (Kd.R_below (pR_ HOAd.out) hb)
   replace BKAa := bb_ BKAa hb
   replace BKAc := bb_ BKAc hb
   replace HB := bs_ HB hb
   clear hb hbox hg
   refine hK.out _ _ ⟨bc_ BKAa 0, bc_ BKAa 1, bc_ BKAa 2, bc_ BKAa 3, bc_ BKAa 4, bc_ BKAa 5⟩ (fun hHeld => ?_)
   clear hK K
   refine nq_ 4 ?_
   refine oq_ 3 18 HT_ (fun K hK => ?_)
   refine gs_ Try.func31 #[.agg #[.int .i64 6, .int .i64 4, .int .i64 0, .int .i64 0, .int .i64 0, .slice none 0 0], .agg #[.int .i64 1, .int .i64 0, .int .i64 2, .int .i64 0, .int .i64 0, .slice none 0 0]] ?_
   refine (plaitingref5_Text.calls k 6 4 0 0 0 _ _ ([] : List Int) 1 0 2 0 0 _ _ ([] : List (S26)) tAk _ ?side1 ?side2 ?side3 ?side4 A2.out).mono ?_
   (case side1 => exact Kd.C_nil _ _)
   (case side2 => exact Nat.le_refl _)
   (case side3 => exact Kd.C_nil _ _)
   (case side4 => exact Nat.le_refl _)
   rintro e w60 ⟨rfl, hb⟩
   refine ⟨_, rfl, ?_⟩
   replace HOAd := Aside0.mk (Kd.R_below (pR_ HOAd.out) hb)
   replace BKAa := bb_ BKAa hb
   replace BKAc := bb_ BKAc hb
   replace BKAb := bb_ BKAb hb
   replace HB := bs_ HB hb
   (try clear hb)
   (try clear hb2)
   (try clear hk)
   (try clear hi)
   refine hK.out _ _ ⟨bc_ BKAa 0, bc_ BKAa 1, bc_ BKAa 2, bc_ BKAa 3, bc_ BKAa 4, bc_ BKAa 5⟩ (fun hHeld => ?_)
   clear hK K
   refine nq_ 18 ?_
   refine oq_ 4 19 HT_ (fun K hK => ?_)
   refine gs_ Try.func40 #[.agg #[.int .i64 6, .int .i64 4, .int .i64 0, .int .i64 0, .int .i64 0, .slice none 0 0], .int .i64 0, .int .i64 2, .string tAk] ?_
   refine (arb_Right.calls 6 4 0 0 0 _ _ ([] : List Int) 0 2 tAk tAm tAr tAq tAs tAt tAu true _ ?side1 ?side2 A3.out).mono ?_
   (case side1 => exact Kd.C_nil _ _)
   (case side2 => exact Nat.le_refl _)
   rintro e w61 ⟨vAp, rfl, ho0, hb⟩
   refine ⟨_, rfl, ?_⟩
   have HOAn := Aside0.mk (Kd.R_lower (Kd.R_new' ho0 (Kd.R_lt (pR_ HOAd.out))) (below_size (pH_ HB.out)))
   replace HOAd := Aside0.mk (Kd.R_elder' (pR_ HOAd.out) (Kd.R_base ho0) hb)
   replace BKAa := bb_ BKAa hb
   replace BKAc := bb_ BKAc hb
   replace BKAb := bb_ BKAb hb
   replace HB := bs_ HB hb
   (try clear hb)
   (try clear hb2)
   (try clear hk)
   (try clear hi)
   (try clear ho0)
   refine hK.out _ _ ⟨bc_ BKAa 0, bc_ BKAa 1, bc_ BKAa 2, bc_ BKAa 3, bc_ BKAa 4, bc_ BKAa 5⟩ (fun hHeld => ?_)
   clear hK K
   refine nq_ 19 ?_
   refine pq_ 5 14 HT_ ?_
   refine pq_ 6 20 HT_ ?_
   refine pq_ 7 21 HT_ ?_
   exact norm_ (by simp only [putAll, Act.put, List.setIfInBounds_toArray, List.set_cons_zero, List.set_cons_succ]) (hCont (vAp, gbAb) _ ⟨hHeld, (by (with_reducible repeat (first | apply Kd.R_alloc | apply Kd.R_drewN | apply Kd.R_drew)); exact Kd.R_mono HOAd.out (fun _ hk => hk.2)), (by (with_reducible repeat (first | apply Kd.R_alloc | apply Kd.R_drewN | apply Kd.R_drew)); exact Kd.R_mono HOAn.out (fun _ hk => hk.2)), (pB_ BKAa.out), (pB_ BKAc.out), (pB_ BKAb.out), GWAb.out, GEAb.out, NBAa_Ab.out, NBAb_Aa.out, NBAc_Ab.out, NBAb_Ac.out, (pH_ HB.out)⟩)
  rintro ⟨vAp, gbAb⟩ w62 ⟨hS_, h0_, h1_, h2_, h3_, h4_, h5_, h6_, h7_, h8_, h9_, h10_, h11_⟩
  have n0_ : Aside0 (Kd.R k26 26 w62 w.heap.size (fun k_ => some k_ ≠ (vAp : Value).ownBlock) (.slice Ao56 tAe.length co56) tAe) := ⟨h0_⟩
  have n1_ : Aside0 (Kd.R k26 26 w62 w.heap.size (fun k_ => some k_ ≠ (.slice Ao56 tAe.length co56 : Value).ownBlock) vAp tAu) := ⟨h1_⟩
  have n2_ : Aside0 (w62.heap[gbAa]? = some (.cells #[.int .i64 6, .int .i64 4, .int .i64 0, .int .i64 0, .int .i64 0, .slice none 0 0] 24 (0, 0))) := ⟨h2_⟩
  have n3_ : Aside0 (w62.heap[gbAc]? = some (.cells #[.int .i64 tAf, .int .i64 tAg, .int .i64 tAh, .int .i64 tAi, .int .i64 tAj, .slice Ao56 tAe.length co56] 29 (0, 0))) := ⟨h3_⟩
  have n4_ : Aside0 (w62.heap[gbAb]? = some (.cells #[.int .i64 0, .int .i64 0, .int .i64 0, .int .i64 0, .int .i64 0, .slice none 0 0] 29 (0, 0))) := ⟨h4_⟩
  have n5_ : Aside0 (w.heap.size ≤ gbAb) := ⟨h5_⟩
  have n6_ : Aside0 (w.heap.size ≤ gbAb) := ⟨h6_⟩
  have n7_ : Aside0 (gbAa ≠ gbAb) := ⟨h7_⟩
  have n8_ : Aside0 (gbAb ≠ gbAa) := ⟨h8_⟩
  have n9_ : Aside0 (gbAc ≠ gbAb) := ⟨h9_⟩
  have n10_ : Aside0 (gbAb ≠ gbAc) := ⟨h10_⟩
  have n11_ : Aside0 (Below w.heap.size w w62) := ⟨h11_⟩
  clear HOAd
  clear BKAa
  clear BKAc
  clear HB
  clear h0_ h1_ h2_ h3_ h4_ h5_ h6_ h7_ h8_ h9_ h10_ h11_
  have HOAd := n0_
  have HOAn := n1_
  have BKAa := n2_
  have BKAc := n3_
  have BKAb := n4_
  have GWAb := n5_
  have GEAb := n6_
  have NBAa_Ab := n7_
  have NBAb_Aa := n8_
  have NBAc_Ab := n9_
  have NBAb_Ac := n10_
  have HB := n11_
  clear n0_ n1_ n2_ n3_ n4_ n5_ n6_ n7_ n8_ n9_ n10_ n11_
  have hHeld : w62.cell? ⟨gbAa, 0, none⟩ = some (.int .i64 6) ∧ w62.cell? ⟨gbAa, 1, none⟩ = some (.int .i64 4) ∧ w62.cell? ⟨gbAa, 2, none⟩ = some (.int .i64 0) ∧ w62.cell? ⟨gbAa, 3, none⟩ = some (.int .i64 0) ∧ w62.cell? ⟨gbAa, 4, none⟩ = some (.int .i64 0) ∧ w62.cell? ⟨gbAa, 5, none⟩ = some (.slice none 0 0) := hS_
  obtain ⟨Ao68, co68, eo68⟩ := Kd.R_slice HOAn.out
  (first | subst eo68 | (injection eo68 with f1_ f2_ f3_; have f4_ := f1_.symm; have f5_ := f3_.symm; clear f1_ f2_ f3_; subst f4_; subst f5_))
  refine norm_ (a' := ?_) ?_ ?_
  rotate_left
  ·
   simp only [putAll, Act.put, List.setIfInBounds_toArray, List.set_cons_zero, List.set_cons_succ]
   rfl
  refine one_ (i := 9) (N := none) #[true, true, true, true, true, true, true, true, true, true, false] rfl rfl (one_of HT_.out (by kernel_rfl)) (by decide) (fun K hK => ?_)
  have hs63 : w62.cell? ⟨gbAb, 0, none⟩ = some (.int .i64 0) := bc_ BKAb 0
  have hfs63 := blk_frozen BKAb.out 0
  have hns63_0 := NBAa_Ab.out
  have hns63_1 := NBAc_Ab.out
  have hms63_0 := NBAb_Aa.out
  have hms63_1 := NBAb_Ac.out
  have hs64 : w62.cell? ⟨gbAb, 1, none⟩ = some (.int .i64 0) := bc_ BKAb 1
  have hfs64 := blk_frozen BKAb.out 1
  have hns64_0 := NBAa_Ab.out
  have hns64_1 := NBAc_Ab.out
  have hms64_0 := NBAb_Aa.out
  have hms64_1 := NBAb_Ac.out
  have hs65 : w62.cell? ⟨gbAb, 2, none⟩ = some (.int .i64 0) := bc_ BKAb 2
  have hfs65 := blk_frozen BKAb.out 2
  have hns65_0 := NBAa_Ab.out
  have hns65_1 := NBAc_Ab.out
  have hms65_0 := NBAb_Aa.out
  have hms65_1 := NBAb_Ac.out
  have hs66 : w62.cell? ⟨gbAb, 3, none⟩ = some (.int .i64 0) := bc_ BKAb 3
  have hfs66 := blk_frozen BKAb.out 3
  have hns66_0 := NBAa_Ab.out
  have hns66_1 := NBAc_Ab.out
  have hms66_0 := NBAb_Aa.out
  have hms66_1 := NBAb_Ac.out
  have hs67 : w62.cell? ⟨gbAb, 4, none⟩ = some (.int .i64 0) := bc_ BKAb 4
  have hfs67 := blk_frozen BKAb.out 4
  have hns67_0 := NBAa_Ab.out
  have hns67_1 := NBAc_Ab.out
  have hms67_0 := NBAb_Aa.out
  have hms67_1 := NBAb_Ac.out
  have hs69 : w62.cell? ⟨gbAb, 5, none⟩ = some (.slice none 0 0) := bc_ BKAb 5
  have hfs69 := blk_frozen BKAb.out 5
  have hns69_0 := NBAa_Ab.out
  have hns69_1 := NBAc_Ab.out
  have hms69_0 := NBAb_Aa.out
  have hms69_1 := NBAb_Ac.out
  refine skip_ (w1 := ?_) (by rfl) rfl ?_ ?_
  rotate_left
  ·
   go_simp
   rfl
  refine hK.out _ _ ⟨((cell_far (p := ⟨gbAb, _, none⟩) NBAa_Ab.out _).trans (((cell_far (p := ⟨gbAb, _, none⟩) NBAa_Ab.out _).trans (((cell_far (p := ⟨gbAb, _, none⟩) NBAa_Ab.out _).trans (((cell_far (p := ⟨gbAb, _, none⟩) NBAa_Ab.out _).trans (((cell_far (p := ⟨gbAb, _, none⟩) NBAa_Ab.out _).trans (((cell_far (p := ⟨gbAb, _, none⟩) NBAa_Ab.out _).trans (hHeld.1)))))))))))), ((cell_far (p := ⟨gbAb, _, none⟩) NBAa_Ab.out _).trans (((cell_far (p := ⟨gbAb, _, none⟩) NBAa_Ab.out _).trans (((cell_far (p := ⟨gbAb, _, none⟩) NBAa_Ab.out _).trans (((cell_far (p := ⟨gbAb, _, none⟩) NBAa_Ab.out _).trans (((cell_far (p := ⟨gbAb, _, none⟩) NBAa_Ab.out _).trans (((cell_far (p := ⟨gbAb, _, none⟩) NBAa_Ab.out _).trans (hHeld.2.1)))))))))))), ((cell_far (p := ⟨gbAb, _, none⟩) NBAa_Ab.out _).trans (((cell_far (p := ⟨gbAb, _, none⟩) NBAa_Ab.out _).trans (((cell_far (p := ⟨gbAb, _, none⟩) NBAa_Ab.out _).trans (((cell_far (p := ⟨gbAb, _, none⟩) NBAa_Ab.out _).trans (((cell_far (p := ⟨gbAb, _, none⟩) NBAa_Ab.out _).trans (((cell_far (p := ⟨gbAb, _, none⟩) NBAa_Ab.out _).trans (hHeld.2.2.1)))))))))))), ((cell_far (p := ⟨gbAb, _, none⟩) NBAa_Ab.out _).trans (((cell_far (p := ⟨gbAb, _, none⟩) NBAa_Ab.out _).trans (((cell_far (p := ⟨gbAb, _, none⟩) NBAa_Ab.out _).trans (((cell_far (p := ⟨gbAb, _, none⟩) NBAa_Ab.out _).trans (((cell_far (p := ⟨gbAb, _, none⟩) NBAa_Ab.out _).trans (((cell_far (p := ⟨gbAb, _, none⟩) NBAa_Ab.out _).trans (hHeld.2.2.2.1)))))))))))), ((cell_far (p := ⟨gbAb, _, none⟩) NBAa_Ab.out _).trans (((cell_far (p := ⟨gbAb, _, none⟩) NBAa_Ab.out _).trans (((cell_far (p := ⟨gbAb, _, none⟩) NBAa_Ab.out _).trans (((cell_far (p := ⟨gbAb, _, none⟩) NBAa_Ab.out _).trans (((cell_far (p := ⟨gbAb, _, none⟩) NBAa_Ab.out _).trans (((cell_far (p := ⟨gbAb, _, none⟩) NBAa_Ab.out _).trans (hHeld.2.2.2.2.1)))))))))))), ((cell_far (p := ⟨gbAb, _, none⟩) NBAa_Ab.out _).trans (((cell_far (p := ⟨gbAb, _, none⟩) NBAa_Ab.out _).trans (((cell_far (p := ⟨gbAb, _, none⟩) NBAa_Ab.out _).trans (((cell_far (p := ⟨gbAb, _, none⟩) NBAa_Ab.out _).trans (((cell_far (p := ⟨gbAb, _, none⟩) NBAa_Ab.out _).trans (((cell_far (p := ⟨gbAb, _, none⟩) NBAa_Ab.out _).trans (hHeld.2.2.2.2.2))))))))))))⟩ (fun hHeld => ?_)
  clear hK K
  refine pq_ 10 5 HT_ ?_
  refine done_ (done_of HT_.out (by kernel_rfl)) ?_
  have hnb70 := NBAb_Aa.out
  have hnc70 := NBAa_Ab.out
  have hnb71 := NBAb_Ac.out
  have hnc71 := NBAc_Ab.out
  obtain ⟨hcz72_0, hcz72_1, hcz72_2, hcz72_3, hcz72_4, hcz72_5⟩ := c6_ BKAb
  obtain ⟨hfz72_0, hfz72_1, hfz72_2, hfz72_3, hfz72_4, hfz72_5⟩ := f6_ BKAb
  try go_wp2
  go_ret
  exact ⟨by first | rfl | (simp [errW_none, errW_some] <;> rfl) | (simp [*, errW_none, errW_some] <;> rfl), pH_ HB.out⟩
 replace c25 := Bool.eq_false_iff.mpr c25
 subst c25
 have H1 : (some false) = some r := by rw [if_neg (show ¬ (false = true) by decide)] at H; exact H
 clear H
 have H := H1
 clear H1
 obtain rfl := Option.some.inj H
 go_enter Try.func37, Try.ntmps37
 try go_wp2_with (first | ((with_reducible refine gate_dst (N := 1) rfl ?_); refine be_ 1 #[.int .i64 0, .int .i64 0, .int .i64 0, .int .i64 0, .int .i64 0, .slice none 0 0] 24 ?_; intro gbAa hg w73 hbox hb; have BKAa := Aside0.mk (hbox); have GWAa := Aside0.mk ((by rw [hg]; exact (below_size (pH_ HB.out)) : w.heap.size ≤ gbAa)); have GEAa := Aside0.mk ((by rw [hg]; exact (below_size (pH_ HB.out)) : w.heap.size ≤ gbAa)); replace HB := bs_ HB hb; clear hb hbox hg; obtain ⟨hcz74_0, hcz74_1, hcz74_2, hcz74_3, hcz74_4, hcz74_5⟩ := c6_ BKAa; obtain ⟨hfz74_0, hfz74_1, hfz74_2, hfz74_3, hfz74_4, hfz74_5⟩ := f6_ BKAa) | ((with_reducible refine gate_callee (f := 42) rfl ?_); refine goesL_ (some 11) rfl rfl Try.func42 (by kernel_rfl) rfl #[.agg #[.int .i64 6, .int .i64 4, .int .i64 0, .int .i64 0, .int .i64 0, .slice none 0 0], .int .i64 0, .int .i64 0, .agg #[.string (⟨#[]⟩ : ByteArray), .string (⟨#[]⟩ : ByteArray), .string (⟨#[]⟩ : ByteArray), .int .i64 0], .agg #[.string (⟨#[]⟩ : ByteArray), .string (⟨#[]⟩ : ByteArray), .string (⟨#[]⟩ : ByteArray), .int .i64 0]] rfl (by (try simp only [List.map_toArray, List.map_cons, List.map_nil]); first | done | rfl | (simp only [List.length_drop, List.length_take]; rfl)) ?_; (refine (arb_Pick.calls 6 4 0 0 0 _ _ ([] : List Int) 0 0 (⟨#[]⟩ : ByteArray) (⟨#[]⟩ : ByteArray) (⟨#[]⟩ : ByteArray) 0 (⟨#[]⟩ : ByteArray) (⟨#[]⟩ : ByteArray) (⟨#[]⟩ : ByteArray) 0 tAf tAg tAh tAi tAj tAe false _ ?side1 ?side2 A1.out).mono ?_); (case side1 => exact Kd.C_nil _ _); (case side2 => exact Nat.le_refl _); rintro e w75 ⟨vAw, rfl, ho0, hb⟩; refine ⟨_, rfl, ?_⟩; have HOAd := Aside0.mk (Kd.R_lower ho0 (below_size (pH_ HB.out))); replace BKAa := Aside0.mk (blk_below (g := gbAa) (o := .cells #[.int .i64 6, .int .i64 4, .int .i64 0, .int .i64 0, .int .i64 0, .slice none 0 0] 24 (0, 0)) (by (with_reducible repeat (first | refine blk_drewN ?_ _ | refine blk_drew ?_ | refine blk_alloc ?_ _)); refine blk_put (cs := #[.int .i64 6, .int .i64 4, .int .i64 0, .int .i64 0, .int .i64 0, .slice none 0 0]) ?_ 5 _ rfl; (with_reducible repeat (first | refine blk_drewN ?_ _ | refine blk_drew ?_ | refine blk_alloc ?_ _)); refine blk_put (cs := #[.int .i64 6, .int .i64 4, .int .i64 0, .int .i64 0, .int .i64 0, .slice none 0 0]) ?_ 4 _ rfl; (with_reducible repeat (first | refine blk_drewN ?_ _ | refine blk_drew ?_ | refine blk_alloc ?_ _)); refine blk_put (cs := #[.int .i64 6, .int .i64 4, .int .i64 0, .int .i64 0, .int .i64 0, .slice none 0 0]) ?_ 3 _ rfl; (with_reducible repeat (first | refine blk_drewN ?_ _ | refine blk_drew ?_ | refine blk_alloc ?_ _)); refine blk_put (cs := #[.int .i64 6, .int .i64 4, .int .i64 0, .int .i64 0, .int .i64 0, .slice none 0 0]) ?_ 2 _ rfl; (with_reducible repeat (first | refine blk_drewN ?_ _ | refine blk_drew ?_ | refine blk_alloc ?_ _)); refine blk_put (cs := #[.int .i64 6, .int .i64 0, .int .i64 0, .int .i64 0, .int .i64 0, .slice none 0 0]) ?_ 1 _ rfl; (with_reducible repeat (first | refine blk_drewN ?_ _ | refine blk_drew ?_ | refine blk_alloc ?_ _)); refine blk_put (cs := #[.int .i64 0, .int .i64 0, .int .i64 0, .int .i64 0, .int .i64 0, .slice none 0 0]) ?_ 0 _ rfl; (with_reducible repeat (first | refine blk_drewN ?_ _ | refine blk_drew ?_ | refine blk_alloc ?_ _)); exact BKAa.out) hb); replace HB := bs_ HB hb; (try clear hb); (try clear hb2); (try clear hk); (try clear hi); (try clear ho0)) | ((with_reducible refine gate_dst (N := 2) rfl ?_); refine be_ 2 #[.int .i64 0, .int .i64 0, .int .i64 0, .int .i64 0, .int .i64 0, .slice none 0 0] 29 ?_; intro gbAc hg w76 hbox hb; have BKAc := Aside0.mk (hbox); have GWAc := Aside0.mk ((by rw [hg]; exact (below_size (pH_ HB.out)) : w.heap.size ≤ gbAc)); have GEAc := Aside0.mk ((by rw [hg]; exact (below_size (pH_ HB.out)) : w.heap.size ≤ gbAc)); have NBAa_Ac := Aside0.mk (ltB_ hg BKAa.out); have NBAc_Aa := Aside0.mk (ltB_ hg BKAa.out).symm; replace HOAd := Aside0.mk (Kd.R_below (pR_ HOAd.out) hb); replace BKAa := bb_ BKAa hb; replace HB := bs_ HB hb; clear hb hbox hg; have hnb77 := NBAc_Aa.out; have hnc77 := NBAa_Ac.out; obtain ⟨hcz78_0, hcz78_1, hcz78_2, hcz78_3, hcz78_4, hcz78_5⟩ := c6_ BKAc; obtain ⟨hfz78_0, hfz78_1, hfz78_2, hfz78_3, hfz78_4, hfz78_5⟩ := f6_ BKAc; obtain ⟨Ao79, co79, eo79⟩ := Kd.R_slice HOAd.out; subst eo79))
 have n0_ : Aside0 (Kd.R k26 26 ((((((w76.setCell ⟨gbAc, 0, none⟩ (.int .i64 tAf)).setCell ⟨gbAc, 1, none⟩ (.int .i64 tAg)).setCell ⟨gbAc, 2, none⟩ (.int .i64 tAh)).setCell ⟨gbAc, 3, none⟩ (.int .i64 tAi)).setCell ⟨gbAc, 4, none⟩ (.int .i64 tAj)).setCell ⟨gbAc, 5, none⟩ (.slice Ao79 tAe.length co79)) w.heap.size (fun _ => True) (.slice Ao79 tAe.length co79) tAe) := ⟨by (with_reducible repeat (first | apply Kd.R_alloc | apply Kd.R_drewN | apply Kd.R_drew)); exact Kd.R_mono (Kd.R_far (p := ⟨gbAc, 5, none⟩) (Kd.R_far (p := ⟨gbAc, 4, none⟩) (Kd.R_far (p := ⟨gbAc, 3, none⟩) (Kd.R_far (p := ⟨gbAc, 2, none⟩) (Kd.R_far (p := ⟨gbAc, 1, none⟩) (Kd.R_far (p := ⟨gbAc, 0, none⟩) (Kd.R_types HOAd.out BKAc.out (by decide)) (fun _ hk => hk.2) (.int .i64 tAf)) (fun _ hk => hk.2) (.int .i64 tAg)) (fun _ hk => hk.2) (.int .i64 tAh)) (fun _ hk => hk.2) (.int .i64 tAi)) (fun _ hk => hk.2) (.int .i64 tAj)) (fun _ hk => hk.2) (.slice Ao79 tAe.length co79)) (fun _ hk => trivial)⟩
 have n1_ : Aside0 (((((((w76.setCell ⟨gbAc, 0, none⟩ (.int .i64 tAf)).setCell ⟨gbAc, 1, none⟩ (.int .i64 tAg)).setCell ⟨gbAc, 2, none⟩ (.int .i64 tAh)).setCell ⟨gbAc, 3, none⟩ (.int .i64 tAi)).setCell ⟨gbAc, 4, none⟩ (.int .i64 tAj)).setCell ⟨gbAc, 5, none⟩ (.slice Ao79 tAe.length co79)).heap[gbAa]? = some (.cells #[.int .i64 6, .int .i64 4, .int .i64 0, .int .i64 0, .int .i64 0, .slice none 0 0] 24 (0, 0))) := ⟨bF_ BKAa.out NBAa_Ac.out⟩
 have n2_ : Aside0 (((((((w76.setCell ⟨gbAc, 0, none⟩ (.int .i64 tAf)).setCell ⟨gbAc, 1, none⟩ (.int .i64 tAg)).setCell ⟨gbAc, 2, none⟩ (.int .i64 tAh)).setCell ⟨gbAc, 3, none⟩ (.int .i64 tAi)).setCell ⟨gbAc, 4, none⟩ (.int .i64 tAj)).setCell ⟨gbAc, 5, none⟩ (.slice Ao79 tAe.length co79)).heap[gbAc]? = some (.cells #[.int .i64 tAf, .int .i64 tAg, .int .i64 tAh, .int .i64 tAi, .int .i64 tAj, .slice Ao79 tAe.length co79] 29 (0, 0))) := ⟨by (with_reducible repeat (first | refine blk_drewN ?_ _ | refine blk_drew ?_ | refine blk_alloc ?_ _)); refine blk_put (cs := #[.int .i64 tAf, .int .i64 tAg, .int .i64 tAh, .int .i64 tAi, .int .i64 tAj, .slice none 0 0]) ?_ 5 _ rfl; (with_reducible repeat (first | refine blk_drewN ?_ _ | refine blk_drew ?_ | refine blk_alloc ?_ _)); refine blk_put (cs := #[.int .i64 tAf, .int .i64 tAg, .int .i64 tAh, .int .i64 tAi, .int .i64 0, .slice none 0 0]) ?_ 4 _ rfl; (with_reducible repeat (first | refine blk_drewN ?_ _ | refine blk_drew ?_ | refine blk_alloc ?_ _)); refine blk_put (cs := #[.int .i64 tAf, .int .i64 tAg, .int .i64 tAh, .int .i64 0, .int .i64 0, .slice none 0 0]) ?_ 3 _ rfl; (with_reducible repeat (first | refine blk_drewN ?_ _ | refine blk_drew ?_ | refine blk_alloc ?_ _)); refine blk_put (cs := #[.int .i64 tAf, .int .i64 tAg, .int .i64 0, .int .i64 0, .int .i64 0, .slice none 0 0]) ?_ 2 _ rfl; (with_reducible repeat (first | refine blk_drewN ?_ _ | refine blk_drew ?_ | refine blk_alloc ?_ _)); refine blk_put (cs := #[.int .i64 tAf, .int .i64 0, .int .i64 0, .int .i64 0, .int .i64 0, .slice none 0 0]) ?_ 1 _ rfl; (with_reducible repeat (first | refine blk_drewN ?_ _ | refine blk_drew ?_ | refine blk_alloc ?_ _)); refine blk_put (cs := #[.int .i64 0, .int .i64 0, .int .i64 0, .int .i64 0, .int .i64 0, .slice none 0 0]) ?_ 0 _ rfl; (with_reducible repeat (first | refine blk_drewN ?_ _ | refine blk_drew ?_ | refine blk_alloc ?_ _)); exact BKAc.out⟩
 have n3_ : Aside0 (Below w.heap.size w ((((((w76.setCell ⟨gbAc, 0, none⟩ (.int .i64 tAf)).setCell ⟨gbAc, 1, none⟩ (.int .i64 tAg)).setCell ⟨gbAc, 2, none⟩ (.int .i64 tAh)).setCell ⟨gbAc, 3, none⟩ (.int .i64 tAi)).setCell ⟨gbAc, 4, none⟩ (.int .i64 tAj)).setCell ⟨gbAc, 5, none⟩ (.slice Ao79 tAe.length co79))) := ⟨pH_ HB.out⟩
 (try clear HOAd)
 (try clear BKAa)
 (try clear BKAc)
 (try clear HB)
 generalize ((((((w76.setCell ⟨gbAc, 0, none⟩ (.int .i64 tAf)).setCell ⟨gbAc, 1, none⟩ (.int .i64 tAg)).setCell ⟨gbAc, 2, none⟩ (.int .i64 tAh)).setCell ⟨gbAc, 3, none⟩ (.int .i64 tAi)).setCell ⟨gbAc, 4, none⟩ (.int .i64 tAj)).setCell ⟨gbAc, 5, none⟩ (.slice Ao79 tAe.length co79)) = w80 at n0_ n1_ n2_ n3_ ⊢
 have HOAd := n0_
 have BKAa := n1_
 have BKAc := n2_
 have HB := n3_
 clear n0_ n1_ n2_ n3_
 replace HOAd := Aside0.mk (Kd.R_drew HOAd.out)
 replace BKAa := Aside0.mk (blk_drew BKAa.out)
 replace BKAc := Aside0.mk (blk_drew BKAc.out)
 replace HB := Aside0.mk (below_drew1 HB.out)
 refine start_ (n := 11) (S := fun w' => w'.cell? ⟨gbAa, 0, none⟩ = some (.int .i64 6) ∧ w'.cell? ⟨gbAa, 1, none⟩ = some (.int .i64 4) ∧ w'.cell? ⟨gbAa, 2, none⟩ = some (.int .i64 0) ∧ w'.cell? ⟨gbAa, 3, none⟩ = some (.int .i64 0) ∧ w'.cell? ⟨gbAa, 4, none⟩ = some (.int .i64 0) ∧ w'.cell? ⟨gbAa, 5, none⟩ = some (.slice none 0 0)) (ds := []) #[false, false, false, false, false, false, false, false, false, false, false] (by kernel_rfl) rfl rfl ⟨bc_ BKAa 0, bc_ BKAa 1, bc_ BKAa 2, bc_ BKAa 3, bc_ BKAa 4, bc_ BKAa 5⟩ (fun hHeld => ?_); refine with_tabW plaitinglaw10_known.tab3 plaitinglaw10_known.bits3 (fun HT_ HW_ => ?_)
 generalize w80.drew = w81 at HOAd BKAa BKAc HB hHeld ⊢
 refine pq_ 2 17 HT_ ?_
 refine tq_ 0 15 HT_ HW_ hHeld ?_
 refine tq_ 1 16 HT_ HW_ hHeld ?_
 refine join_ (σ := Value × Nat) 2 #[true, true, true, true, true, true, true, true, true, false, false] (fun s_ => [(18, .string tAk), (19, .tuple #[.agg #[.int .i64 tAm, .int .i64 tAr, .int .i64 tAq, .int .i64 tAs, .int .i64 tAt, s_.1], .bool false]), (4, .pointer (some ⟨s_.2, 0, none⟩)), (14, .tuple #[.agg #[.int .i64 tAm, .int .i64 tAr, .int .i64 tAq, .int .i64 tAs, .int .i64 tAt, s_.1], .bool false]), (20, .agg #[.int .i64 tAm, .int .i64 tAr, .int .i64 tAq, .int .i64 tAs, .int .i64 tAt, s_.1]), (21, .bool false)]) (fun s_ w' => (w'.cell? ⟨gbAa, 0, none⟩ = some (.int .i64 6) ∧ w'.cell? ⟨gbAa, 1, none⟩ = some (.int .i64 4) ∧ w'.cell? ⟨gbAa, 2, none⟩ = some (.int .i64 0) ∧ w'.cell? ⟨gbAa, 3, none⟩ = some (.int .i64 0) ∧ w'.cell? ⟨gbAa, 4, none⟩ = some (.int .i64 0) ∧ w'.cell? ⟨gbAa, 5, none⟩ = some (.slice none 0 0)) ∧ (Kd.R k26 26 w' w.heap.size (fun k_ => some k_ ≠ (s_.1 : Value).ownBlock) (.slice Ao79 tAe.length co79) tAe) ∧ (Kd.R k26 26 w' w.heap.size (fun k_ => some k_ ≠ (.slice Ao79 tAe.length co79 : Value).ownBlock) s_.1 tAu) ∧ (w'.heap[gbAa]? = some (.cells #[.int .i64 6, .int .i64 4, .int .i64 0, .int .i64 0, .int .i64 0, .slice none 0 0] 24 (0, 0))) ∧ (w'.heap[gbAc]? = some (.cells #[.int .i64 tAf, .int .i64 tAg, .int .i64 tAh, .int .i64 tAi, .int .i64 tAj, .slice Ao79 tAe.length co79] 29 (0, 0))) ∧ (w'.heap[s_.2]? = some (.cells #[.int .i64 0, .int .i64 0, .int .i64 0, .int .i64 0, .int .i64 0, .slice none 0 0] 29 (0, 0))) ∧ (w.heap.size ≤ s_.2) ∧ (w.heap.size ≤ s_.2) ∧ (gbAa ≠ s_.2) ∧ (s_.2 ≠ gbAa) ∧ (gbAc ≠ s_.2) ∧ (s_.2 ≠ gbAc) ∧ (Below w.heap.size w w')) ?_ ?_
 rotate_left
 ·
  intro hCont
  refine two_ (i := 3) (j := 8) (Ni := some 18) (Nj := some 4) #[true, true, true, true, false, false, false, false, false, false, false] #[true, true, true, false, false, false, false, false, true, false, false] rfl rfl rfl rfl (two_of HT_.out (by kernel_rfl)) (by decide) (by decide) (fun K hK => ?_) (fun K hK => ?_)
  ·
   skip
   refine gs_ Try.func31 #[.agg #[.int .i64 6, .int .i64 4, .int .i64 0, .int .i64 0, .int .i64 0, .slice none 0 0], .agg #[.int .i64 1, .int .i64 0, .int .i64 2, .int .i64 0, .int .i64 0, .slice none 0 0]] ?_
   refine (plaitingref5_Text.calls k 6 4 0 0 0 _ _ ([] : List Int) 1 0 2 0 0 _ _ ([] : List (S26)) tAk _ ?side1 ?side2 ?side3 ?side4 A2.out).mono ?_
   (case side1 => exact Kd.C_nil _ _)
   (case side2 => exact Nat.le_refl _)
   (case side3 => exact Kd.C_nil _ _)
   (case side4 => exact Nat.le_refl _)
   rintro e w82 ⟨rfl, hb⟩
   refine ⟨_, rfl, ?_⟩
   replace HOAd := Aside0.mk (Kd.R_below (pR_ HOAd.out) hb)
   replace BKAa := bb_ BKAa hb
   replace BKAc := bb_ BKAc hb
   replace HB := bs_ HB hb
   (try clear hb)
   (try clear hb2)
   (try clear hk)
   (try clear hi)
   refine hK.out _ _ ⟨bc_ BKAa 0, bc_ BKAa 1, bc_ BKAa 2, bc_ BKAa 3, bc_ BKAa 4, bc_ BKAa 5⟩ (fun hHeld => ?_)
   clear hK K
   refine nq_ 18 ?_
   refine two_ (i := 4) (j := 8) (Ni := some 19) (Nj := some 4) #[true, true, true, true, true, false, false, false, false, false, false] #[true, true, true, true, false, false, false, false, true, false, false] rfl rfl rfl rfl (two_of HT_.out (by kernel_rfl)) (by decide) (by decide) (fun K hK => ?_) (fun K hK => ?_)
   ·
    skip
    refine gs_ Try.func40 #[.agg #[.int .i64 6, .int .i64 4, .int .i64 0, .int .i64 0, .int .i64 0, .slice none 0 0], .int .i64 0, .int .i64 2, .string tAk] ?_
    refine (arb_Right.calls 6 4 0 0 0 _ _ ([] : List Int) 0 2 tAk tAm tAr tAq tAs tAt tAu false _ ?side1 ?side2 A3.out).mono ?_
    (case side1 => exact Kd.C_nil _ _)
    (case side2 => exact Nat.le_refl _)
    rintro e w83 ⟨vAp, rfl, ho0, hb⟩
    refine ⟨_, rfl, ?_⟩
    have HOAn := Aside0.mk (Kd.R_lower (Kd.R_new' ho0 (Kd.R_lt (pR_ HOAd.out))) (below_size (pH_ HB.out)))
    replace HOAd := Aside0.mk (Kd.R_elder' (pR_ HOAd.out) (Kd.R_base ho0) hb)
    replace BKAa := bb_ BKAa hb
    replace BKAc := bb_ BKAc hb
    replace HB := bs_ HB hb
    (try clear hb)
    (try clear hb2)
    (try clear hk)
    (try clear hi)
    (try clear ho0)
    refine hK.out _ _ ⟨bc_ BKAa 0, bc_ BKAa 1, bc_ BKAa 2, bc_ BKAa 3, bc_ BKAa 4, bc_ BKAa 5⟩ (fun hHeld => ?_)
    clear hK K
    refine nq_ 19 ?_
    refine pq_ 5 14 HT_ ?_
    refine pq_ 6 20 HT_ ?_
    refine pq_ 7 21 HT_ ?_
    refine oq_ 8 4 HT_ (fun K hK => ?_)
    refine box_step ?hg (N := 4) ?hd (cs := #[.int .i64 0, .int .i64 0, .int .i64 0, .int .i64 0, .int .i64 0, .slice none 0 0]) (t := 29) ?hr ?_; (case hd => rfl); (case hg => rfl); (case hr => first | (go_simp; done) | (go_simp; rfl))
    intro gbAb hg w84 hbox hb
    have BKAb := Aside0.mk (hbox)
    have GWAb := Aside0.mk ((by rw [hg]; exact (below_size (pH_ HB.out)) : w.heap.size ≤ gbAb))
    have GEAb := Aside0.mk ((by rw [hg]; exact (below_size (pH_ HB.out)) : w.heap.size ≤ gbAb))
    have NBAa_Ab := Aside0.mk (ltB_ hg BKAa.out)
    have NBAb_Aa := Aside0.mk (ltB_ hg BKAa.out).symm
    have NBAc_Ab := Aside0.mk (ltB_ hg BKAc.out)
    have NBAb_Ac := Aside0.mk (ltB_ hg BKAc.out).symm
    replace HOAd := Aside0.mk (Kd.R_below (pR_ HOAd.out) hb)
    replace HOAn := Aside0.mk (Kd.R_below (pR_ HOAn.out) hb)
    replace BKAa := bb_ BKAa hb
    replace BKAc := bb_ BKAc hb
    replace HB := bs_ HB hb
    clear hb hbox hg
    refine hK.out _ _ ⟨bc_ BKAa 0, bc_ BKAa 1, bc_ BKAa 2, bc_ BKAa 3, bc_ BKAa 4, bc_ BKAa 5⟩ (fun hHeld => ?_)
    clear hK K
    refine nq_ 4 ?_
    exact norm_ (by simp only [putAll, Act.put, List.setIfInBounds_toArray, List.set_cons_zero, List.set_cons_succ]) (hCont (vAp, gbAb) _ ⟨hHeld, (by (with_reducible repeat (first | apply Kd.R_alloc | apply Kd.R_drewN | apply Kd.R_drew)); exact Kd.R_mono HOAd.out (fun _ hk => hk.2)), (by (with_reducible repeat (first | apply Kd.R_alloc | apply Kd.R_drewN | apply Kd.R_drew)); exact Kd.R_mono HOAn.out (fun _ hk => hk.2)), (pB_ BKAa.out), (pB_ BKAc.out), (pB_ BKAb.out), GWAb.out, GEAb.out, NBAa_Ab.out, NBAb_Aa.out, NBAc_Ab.out, NBAb_Ac.out, (pH_ HB.out)⟩)
   skip
   refine box_step ?hg (N := 4) ?hd (cs := #[.int .i64 0, .int .i64 0, .int .i64 0, .int .i64 0, .int .i64 0, .slice none 0 0]) (t := 29) ?hr ?_; (case hd => rfl); (case hg => rfl); (case hr => first | (go_simp; done) | (go_simp; rfl))
   intro gbAb hg w83 hbox hb
   have BKAb := Aside0.mk (hbox)
   have GWAb := Aside0.mk ((by rw [hg]; exact (below_size (pH_ HB.out)) : w.heap.size ≤ gbAb))
   have GEAb := Aside0.mk ((by rw [hg]; exact (below_size (pH_ HB.out)) : w.heap.size ≤ gbAb))
   have NBAa_Ab := Aside0.mk (ltB_ hg BKAa.out)
   have NBAb_Aa := Aside0.mk (ltB_ hg BKAa.out).symm
   have NBAc_Ab := Aside0.mk (ltB_ hg BKAc.out)
   have NBAb_Ac := Aside0.mk (ltB_ hg BKAc.out).symm
   replace HOAd := Aside0.mk (Kd.R_below (pR_ HOAd.out) hb)
   replace BKAa := bb_ BKAa hb
   replace BKAc := bb_ BKAc hb
   replace HB := bs_ HB hb
   clear hb hbox hg
   refine hK.out _ _ ⟨bc_ BKAa 0, bc_ BKAa 1, bc_ BKAa 2, bc_ BKAa 3, bc_ BKAa 4, bc_ BKAa 5⟩ (fun hHeld => ?_)
   clear hK K
   refine nq_ 4 ?_
   refine oq_ 4 19 HT_ (fun K hK => ?_)
   refine gs_ Try.func40 #[.agg #[.int .i64 6, .int .i64 4, .int .i64 0, .int .i64 0, .int .i64 0, .slice none 0 0], .int .i64 0, .int .i64 2, .string tAk] ?_
   refine (arb_Right.calls 6 4 0 0 0 _ _ ([] : List Int) 0 2 tAk tAm tAr tAq tAs tAt tAu false _ ?side1 ?side2 A3.out).mono ?_
   (case side1 => exact Kd.C_nil _ _)
   (case side2 => exact Nat.le_refl _)
   rintro e w84 ⟨vAp, rfl, ho0, hb⟩
   refine ⟨_, rfl, ?_⟩
   have HOAn := Aside0.mk (Kd.R_lower (Kd.R_new' ho0 (Kd.R_lt (pR_ HOAd.out))) (below_size (pH_ HB.out)))
   replace HOAd := Aside0.mk (Kd.R_elder' (pR_ HOAd.out) (Kd.R_base ho0) hb)
   replace BKAa := bb_ BKAa hb
   replace BKAc := bb_ BKAc hb
   replace BKAb := bb_ BKAb hb
   replace HB := bs_ HB hb
   (try clear hb)
   (try clear hb2)
   (try clear hk)
   (try clear hi)
   (try clear ho0)
   refine hK.out _ _ ⟨bc_ BKAa 0, bc_ BKAa 1, bc_ BKAa 2, bc_ BKAa 3, bc_ BKAa 4, bc_ BKAa 5⟩ (fun hHeld => ?_)
   clear hK K
   refine nq_ 19 ?_
   refine pq_ 5 14 HT_ ?_
   refine pq_ 6 20 HT_ ?_
   refine pq_ 7 21 HT_ ?_
   exact norm_ (by simp only [putAll, Act.put, List.setIfInBounds_toArray, List.set_cons_zero, List.set_cons_succ]) (hCont (vAp, gbAb) _ ⟨hHeld, (by (with_reducible repeat (first | apply Kd.R_alloc | apply Kd.R_drewN | apply Kd.R_drew)); exact Kd.R_mono HOAd.out (fun _ hk => hk.2)), (by (with_reducible repeat (first | apply Kd.R_alloc | apply Kd.R_drewN | apply Kd.R_drew)); exact Kd.R_mono HOAn.out (fun _ hk => hk.2)), (pB_ BKAa.out), (pB_ BKAc.out), (pB_ BKAb.out), GWAb.out, GEAb.out, NBAa_Ab.out, NBAb_Aa.out, NBAc_Ab.out, NBAb_Ac.out, (pH_ HB.out)⟩)
  skip
  refine box_step ?hg (N := 4) ?hd (cs := #[.int .i64 0, .int .i64 0, .int .i64 0, .int .i64 0, .int .i64 0, .slice none 0 0]) (t := 29) ?hr ?_; (case hd => rfl); (case hg => rfl); (case hr => first | (go_simp; done) | (go_simp; rfl))
  intro gbAb hg w82 hbox hb
  have BKAb := Aside0.mk (hbox)
  have GWAb := Aside0.mk ((by rw [hg]; exact (below_size (pH_ HB.out)) : w.heap.size ≤ gbAb))
  have GEAb := Aside0.mk ((by rw [hg]; exact (below_size (pH_ HB.out)) : w.heap.size ≤ gbAb))
  have NBAa_Ab := Aside0.mk (ltB_ hg BKAa.out)
  have NBAb_Aa := Aside0.mk (ltB_ hg BKAa.out).symm
  have NBAc_Ab := Aside0.mk (ltB_ hg BKAc.out)
  have NBAb_Ac := Aside0.mk (ltB_ hg BKAc.out).symm
  replace HOAd := Aside0.mk (Kd.R_below (pR_ HOAd.out) hb)
  replace BKAa := bb_ BKAa hb
  replace BKAc := bb_ BKAc hb
  replace HB := bs_ HB hb
  clear hb hbox hg
  refine hK.out _ _ ⟨bc_ BKAa 0, bc_ BKAa 1, bc_ BKAa 2, bc_ BKAa 3, bc_ BKAa 4, bc_ BKAa 5⟩ (fun hHeld => ?_)
  clear hK K
  refine nq_ 4 ?_
  refine oq_ 3 18 HT_ (fun K hK => ?_)
  refine gs_ Try.func31 #[.agg #[.int .i64 6, .int .i64 4, .int .i64 0, .int .i64 0, .int .i64 0, .slice none 0 0], .agg #[.int .i64 1, .int .i64 0, .int .i64 2, .int .i64 0, .int .i64 0, .slice none 0 0]] ?_
  refine (plaitingref5_Text.calls k 6 4 0 0 0 _ _ ([] : List Int) 1 0 2 0 0 _ _ ([] : List (S26)) tAk _ ?side1 ?side2 ?side3 ?side4 A2.out).mono ?_
  (case side1 => exact Kd.C_nil _ _)
  (case side2 => exact Nat.le_refl _)
  (case side3 => exact Kd.C_nil _ _)
  (case side4 => exact Nat.le_refl _)
  rintro e w83 ⟨rfl, hb⟩
  refine ⟨_, rfl, ?_⟩
  replace HOAd := Aside0.mk (Kd.R_below (pR_ HOAd.out) hb)
  replace BKAa := bb_ BKAa hb
  replace BKAc := bb_ BKAc hb
  replace BKAb := bb_ BKAb hb
  replace HB := bs_ HB hb
  (try clear hb)
  (try clear hb2)
  (try clear hk)
  (try clear hi)
  refine hK.out _ _ ⟨bc_ BKAa 0, bc_ BKAa 1, bc_ BKAa 2, bc_ BKAa 3, bc_ BKAa 4, bc_ BKAa 5⟩ (fun hHeld => ?_)
  clear hK K
  refine nq_ 18 ?_
  refine oq_ 4 19 HT_ (fun K hK => ?_)
  refine gs_ Try.func40 #[.agg #[.int .i64 6, .int .i64 4, .int .i64 0, .int .i64 0, .int .i64 0, .slice none 0 0], .int .i64 0, .int .i64 2, .string tAk] ?_
  refine (arb_Right.calls 6 4 0 0 0 _ _ ([] : List Int) 0 2 tAk tAm tAr tAq tAs tAt tAu false _ ?side1 ?side2 A3.out).mono ?_
  (case side1 => exact Kd.C_nil _ _)
  (case side2 => exact Nat.le_refl _)
  rintro e w84 ⟨vAp, rfl, ho0, hb⟩
  refine ⟨_, rfl, ?_⟩
  have HOAn := Aside0.mk (Kd.R_lower (Kd.R_new' ho0 (Kd.R_lt (pR_ HOAd.out))) (below_size (pH_ HB.out)))
  replace HOAd := Aside0.mk (Kd.R_elder' (pR_ HOAd.out) (Kd.R_base ho0) hb)
  replace BKAa := bb_ BKAa hb
  replace BKAc := bb_ BKAc hb
  replace BKAb := bb_ BKAb hb
  replace HB := bs_ HB hb
  (try clear hb)
  (try clear hb2)
  (try clear hk)
  (try clear hi)
  (try clear ho0)
  refine hK.out _ _ ⟨bc_ BKAa 0, bc_ BKAa 1, bc_ BKAa 2, bc_ BKAa 3, bc_ BKAa 4, bc_ BKAa 5⟩ (fun hHeld => ?_)
  clear hK K
  refine nq_ 19 ?_
  refine pq_ 5 14 HT_ ?_
  refine pq_ 6 20 HT_ ?_
  refine pq_ 7 21 HT_ ?_
  exact norm_ (by simp only [putAll, Act.put, List.setIfInBounds_toArray, List.set_cons_zero, List.set_cons_succ]) (hCont (vAp, gbAb) _ ⟨hHeld, (by (with_reducible repeat (first | apply Kd.R_alloc | apply Kd.R_drewN | apply Kd.R_drew)); exact Kd.R_mono HOAd.out (fun _ hk => hk.2)), (by (with_reducible repeat (first | apply Kd.R_alloc | apply Kd.R_drewN | apply Kd.R_drew)); exact Kd.R_mono HOAn.out (fun _ hk => hk.2)), (pB_ BKAa.out), (pB_ BKAc.out), (pB_ BKAb.out), GWAb.out, GEAb.out, NBAa_Ab.out, NBAb_Aa.out, NBAc_Ab.out, NBAb_Ac.out, (pH_ HB.out)⟩)
 rintro ⟨vAp, gbAb⟩ w85 ⟨hS_, h0_, h1_, h2_, h3_, h4_, h5_, h6_, h7_, h8_, h9_, h10_, h11_⟩
 have n0_ : Aside0 (Kd.R k26 26 w85 w.heap.size (fun k_ => some k_ ≠ (vAp : Value).ownBlock) (.slice Ao79 tAe.length co79) tAe) := ⟨h0_⟩
 have n1_ : Aside0 (Kd.R k26 26 w85 w.heap.size (fun k_ => some k_ ≠ (.slice Ao79 tAe.length co79 : Value).ownBlock) vAp tAu) := ⟨h1_⟩
 have n2_ : Aside0 (w85.heap[gbAa]? = some (.cells #[.int .i64 6, .int .i64 4, .int .i64 0, .int .i64 0, .int .i64 0, .slice none 0 0] 24 (0, 0))) := ⟨h2_⟩
 have n3_ : Aside0 (w85.heap[gbAc]? = some (.cells #[.int .i64 tAf, .int .i64 tAg, .int .i64 tAh, .int .i64 tAi, .int .i64 tAj, .slice Ao79 tAe.length co79] 29 (0, 0))) := ⟨h3_⟩
 have n4_ : Aside0 (w85.heap[gbAb]? = some (.cells #[.int .i64 0, .int .i64 0, .int .i64 0, .int .i64 0, .int .i64 0, .slice none 0 0] 29 (0, 0))) := ⟨h4_⟩
 have n5_ : Aside0 (w.heap.size ≤ gbAb) := ⟨h5_⟩
 have n6_ : Aside0 (w.heap.size ≤ gbAb) := ⟨h6_⟩
 have n7_ : Aside0 (gbAa ≠ gbAb) := ⟨h7_⟩
 have n8_ : Aside0 (gbAb ≠ gbAa) := ⟨h8_⟩
 have n9_ : Aside0 (gbAc ≠ gbAb) := ⟨h9_⟩
 have n10_ : Aside0 (gbAb ≠ gbAc) := ⟨h10_⟩
 have n11_ : Aside0 (Below w.heap.size w w85) := ⟨h11_⟩
 clear HOAd
 clear BKAa
 clear BKAc
 clear HB
 clear h0_ h1_ h2_ h3_ h4_ h5_ h6_ h7_ h8_ h9_ h10_ h11_
 have HOAd := n0_
 have HOAn := n1_
 have BKAa := n2_
 have BKAc := n3_
 have BKAb := n4_
 have GWAb := n5_
 have GEAb := n6_
 have NBAa_Ab := n7_
 have NBAb_Aa := n8_
 have NBAc_Ab := n9_
 have NBAb_Ac := n10_
 have HB := n11_
 clear n0_ n1_ n2_ n3_ n4_ n5_ n6_ n7_ n8_ n9_ n10_ n11_
 have hHeld : w85.cell? ⟨gbAa, 0, none⟩ = some (.int .i64 6) ∧ w85.cell? ⟨gbAa, 1, none⟩ = some (.int .i64 4) ∧ w85.cell? ⟨gbAa, 2, none⟩ = some (.int .i64 0) ∧ w85.cell? ⟨gbAa, 3, none⟩ = some (.int .i64 0) ∧ w85.cell? ⟨gbAa, 4, none⟩ = some (.int .i64 0) ∧ w85.cell? ⟨gbAa, 5, none⟩ = some (.slice none 0 0) := hS_
 obtain ⟨Ao91, co91, eo91⟩ := Kd.R_slice HOAn.out
 (first | subst eo91 | (injection eo91 with f1_ f2_ f3_; have f4_ := f1_.symm; have f5_ := f3_.symm; clear f1_ f2_ f3_; subst f4_; subst f5_))
 refine norm_ (a' := ?_) ?_ ?_
 rotate_left
 ·
  simp only [putAll, Act.put, List.setIfInBounds_toArray, List.set_cons_zero, List.set_cons_succ]
  rfl
 refine one_ (i := 9) (N := none) #[true, true, true, true, true, true, true, true, true, true, false] rfl rfl (one_of HT_.out (by kernel_rfl)) (by decide) (fun K hK => ?_)
 have hs86 : w85.cell? ⟨gbAb, 0, none⟩ = some (.int .i64 0) := bc_ BKAb 0
 have hfs86 := blk_frozen BKAb.out 0
 have hns86_0 := NBAa_Ab.out
 have hns86_1 := NBAc_Ab.out
 have hms86_0 := NBAb_Aa.out
 have hms86_1 := NBAb_Ac.out
 have hs87 : w85.cell? ⟨gbAb, 1, none⟩ = some (.int .i64 0) := bc_ BKAb 1
 have hfs87 := blk_frozen BKAb.out 1
 have hns87_0 := NBAa_Ab.out
 have hns87_1 := NBAc_Ab.out
 have hms87_0 := NBAb_Aa.out
 have hms87_1 := NBAb_Ac.out
 have hs88 : w85.cell? ⟨gbAb, 2, none⟩ = some (.int .i64 0) := bc_ BKAb 2
 have hfs88 := blk_frozen BKAb.out 2
 have hns88_0 := NBAa_Ab.out
 have hns88_1 := NBAc_Ab.out
 have hms88_0 := NBAb_Aa.out
 have hms88_1 := NBAb_Ac.out
 have hs89 : w85.cell? ⟨gbAb, 3, none⟩ = some (.int .i64 0) := bc_ BKAb 3
 have hfs89 := blk_frozen BKAb.out 3
 have hns89_0 := NBAa_Ab.out
 have hns89_1 := NBAc_Ab.out
 have hms89_0 := NBAb_Aa.out
 have hms89_1 := NBAb_Ac.out
 have hs90 : w85.cell? ⟨gbAb, 4, none⟩ = some (.int .i64 0) := bc_ BKAb 4
 have hfs90 := blk_frozen BKAb.out 4
 have hns90_0 := NBAa_Ab.out
 have hns90_1 := NBAc_Ab.out
 have hms90_0 := NBAb_Aa.out
 have hms90_1 := NBAb_Ac.out
 have hs92 : w85.cell? ⟨gbAb, 5, none⟩ = some (.slice none 0 0) := bc_ BKAb 5
 have hfs92 := blk_frozen BKAb.out 5
 have hns92_0 := NBAa_Ab.out
 have hns92_1 := NBAc_Ab.out
 have hms92_0 := NBAb_Aa.out
 have hms92_1 := NBAb_Ac.out
 refine skip_ (w1 := ?_) (by rfl) rfl ?_ ?_
 rotate_left
 ·
  go_simp
  rfl
 refine hK.out _ _ ⟨((cell_far (p := ⟨gbAb, _, none⟩) NBAa_Ab.out _).trans (((cell_far (p := ⟨gbAb, _, none⟩) NBAa_Ab.out _).trans (((cell_far (p := ⟨gbAb, _, none⟩) NBAa_Ab.out _).trans (((cell_far (p := ⟨gbAb, _, none⟩) NBAa_Ab.out _).trans (((cell_far (p := ⟨gbAb, _, none⟩) NBAa_Ab.out _).trans (((cell_far (p := ⟨gbAb, _, none⟩) NBAa_Ab.out _).trans (hHeld.1)))))))))))), ((cell_far (p := ⟨gbAb, _, none⟩) NBAa_Ab.out _).trans (((cell_far (p := ⟨gbAb, _, none⟩) NBAa_Ab.out _).trans (((cell_far (p := ⟨gbAb, _, none⟩) NBAa_Ab.out _).trans (((cell_far (p := ⟨gbAb, _, none⟩) NBAa_Ab.out _).trans (((cell_far (p := ⟨gbAb, _, none⟩) NBAa_Ab.out _).trans (((cell_far (p := ⟨gbAb, _, none⟩) NBAa_Ab.out _).trans (hHeld.2.1)))))))))))), ((cell_far (p := ⟨gbAb, _, none⟩) NBAa_Ab.out _).trans (((cell_far (p := ⟨gbAb, _, none⟩) NBAa_Ab.out _).trans (((cell_far (p := ⟨gbAb, _, none⟩) NBAa_Ab.out _).trans (((cell_far (p := ⟨gbAb, _, none⟩) NBAa_Ab.out _).trans (((cell_far (p := ⟨gbAb, _, none⟩) NBAa_Ab.out _).trans (((cell_far (p := ⟨gbAb, _, none⟩) NBAa_Ab.out _).trans (hHeld.2.2.1)))))))))))), ((cell_far (p := ⟨gbAb, _, none⟩) NBAa_Ab.out _).trans (((cell_far (p := ⟨gbAb, _, none⟩) NBAa_Ab.out _).trans (((cell_far (p := ⟨gbAb, _, none⟩) NBAa_Ab.out _).trans (((cell_far (p := ⟨gbAb, _, none⟩) NBAa_Ab.out _).trans (((cell_far (p := ⟨gbAb, _, none⟩) NBAa_Ab.out _).trans (((cell_far (p := ⟨gbAb, _, none⟩) NBAa_Ab.out _).trans (hHeld.2.2.2.1)))))))))))), ((cell_far (p := ⟨gbAb, _, none⟩) NBAa_Ab.out _).trans (((cell_far (p := ⟨gbAb, _, none⟩) NBAa_Ab.out _).trans (((cell_far (p := ⟨gbAb, _, none⟩) NBAa_Ab.out _).trans (((cell_far (p := ⟨gbAb, _, none⟩) NBAa_Ab.out _).trans (((cell_far (p := ⟨gbAb, _, none⟩) NBAa_Ab.out _).trans (((cell_far (p := ⟨gbAb, _, none⟩) NBAa_Ab.out _).trans (hHeld.2.2.2.2.1)))))))))))), ((cell_far (p := ⟨gbAb, _, none⟩) NBAa_Ab.out _).trans (((cell_far (p := ⟨gbAb, _, none⟩) NBAa_Ab.out _).trans (((cell_far (p := ⟨gbAb, _, none⟩) NBAa_Ab.out _).trans (((cell_far (p := ⟨gbAb, _, none⟩) NBAa_Ab.out _).trans (((cell_far (p := ⟨gbAb, _, none⟩) NBAa_Ab.out _).trans (((cell_far (p := ⟨gbAb, _, none⟩) NBAa_Ab.out _).trans (hHeld.2.2.2.2.2))))))))))))⟩ (fun hHeld => ?_)
 clear hK K
 refine pq_ 10 5 HT_ ?_
 refine done_ (done_of HT_.out (by kernel_rfl)) ?_
 try go_wp2
 go_ret
 exact ⟨by first | rfl | (simp [errW_none, errW_some] <;> rfl) | (simp [*, errW_none, errW_some] <;> rfl), pH_ HB.out⟩
def plaitinglaw10_within.f (a0 : Int) (a1 : Int) : Option (Int) := if a1 = 0 then (none) else (if (Int.tmod a0 a1) < 0 then (some (wrap64 ((Int.tmod a0 a1) + a1))) else (some (Int.tmod a0 a1)))
set_option maxHeartbeats 8000000 in
set_option maxRecDepth 100000 in
theorem plaitinglaw10_within.calls (a0 : Int) (a1 : Int) (r : Int) (w : World) (h : plaitinglaw10_within.f a0 a1 = some r) :
  Calls Try.prog 38 #[.int .i64 a0, .int .i64 a1] w fun e w' => e = .returned (.int .i64 r) ∧ Drawn0 w w' := by
 have H : (if a1 = 0 then (none) else (if (Int.tmod a0 a1) < 0 then (some (wrap64 ((Int.tmod a0 a1) + a1))) else (some (Int.tmod a0 a1)))) = some r := h
 clear h
 by_cases c3 : a1 = 0
 ·
  rw [if_pos c3] at H
  exact absurd H (by simp)
 ·
  rw [if_neg c3] at H
  have c3b0 : (a1 == 0) = false := beq_eq_false_iff_ne.mpr c3
  have c3b1 : (a1 != 0) = true := bne_iff_ne.mpr c3
  by_cases c4 : (Int.tmod a0 a1) < 0
  ·
   rw [if_pos c4] at H
   have c4b0 : decide ((Int.tmod a0 a1) < 0) = true := decide_eq_true c4
   clear c4
   obtain rfl := Option.some.inj H
   go_enter Try.func38, Try.ntmps38
   go_wp2
   go_ret
   exact ⟨by first | rfl | (simp; done) | (simp [*]; done), by repeat (first | exact Drawn0.refl _ | apply Drawn0.step)⟩
  ·
   rw [if_neg c4] at H
   have c4b0 : decide ((Int.tmod a0 a1) < 0) = false := decide_eq_false c4
   clear c4
   obtain rfl := Option.some.inj H
   go_enter Try.func38, Try.ntmps38
   go_wp2
   go_ret
   exact ⟨by first | rfl | (simp; done) | (simp [*]; done), by repeat (first | exact Drawn0.refl _ | apply Drawn0.step)⟩
end Go.Proofs.Ytcpohmfkmgcjkaa.P
