/- Printed by a program of this session (myprint) out of the translation: the functions as plain Lean functions, and that the calls compute them. What counts is Lean's check. -/
import Derived.Test.YtcpohmfkmgcjkaaQFrameLongOks
import Derived.Test.YtcpohmfkmgcjkaaQFrameLongPx0
import Derived.Test.YtcpohmfkmgcjkaaQFrameLongPx1
import Derived.Test.YtcpohmfkmgcjkaaQFrameLongPx8
import Derived.Test.YtcpohmfkmgcjkaaQFrameLongPx10
import Derived.Test.YtcpohmfkmgcjkaaQFrameLongPx12
import Derived.Test.YtcpohmfkmgcjkaaQFrameLongPx15
namespace Go.Proofs.Ytcpohmfkmgcjkaa.P
open Go.RowKit Go.Proofs.YtcpohmfkmgcjkaaW.PrintWords Go.Proofs.YtcpohmfkmgcjkaaW.PrintLast Go.Proofs.YtcpohmfkmgcjkaaW.PrintMore
attribute [local go_sem] max2_int min2_int max_two min_two max_three min_three max_four min_four
set_option linter.unusedVariables false
set_option linter.unusedSimpArgs false
attribute [-simp] ByteArray.size_extract ByteArray.size_append ByteArray.extract_append_extract
attribute [-go_sem] ByteArray.size_append'
def plaitinglaw5_FrameLong.j0 : Nat → Int → Bool → Int → Int → Int → Int → Int → List Int → Int → Int → Int → Int → Int → List (S26) → Option (Bool)
  | 0, _, _, _, _, _, _, _, _, _, _, _, _, _, _ => none
  | k + 1, x9, x28, x8113000, x8113001, x8113002, x8113003, x8113004, x8113005, x8122000, x8122001, x8122002, x8122003, x8122004, x8122005 => if x28 = true then ((frame_Text.f x8113000 x8113001 x8113002 x8113003 x8113004 x8113005 x8122000 x8122001 x8122002 x8122003 x8122004 x8122005).bind fun t8122 => (if (t8122.size : Int) = (wrap64 (x9 + (wrap64 (10 * (wrap64 (x8113000 + (x8113005.length : Int))))))) then ((plaitingref1_Whole.f k t8122).bind fun t8123 => (some t8123)) else (some false))) else ((frame_Text.f x8113000 x8113001 x8113002 x8113003 x8113004 x8113005 x8122000 x8122001 x8122002 x8122003 x8122004 x8122005).bind fun t8124 => (if (t8124.size : Int) = x9 then ((plaitingref1_Whole.f k t8124).bind fun t8125 => (some t8125)) else (some false)))
def plaitinglaw5_FrameLong.f (k : Nat) (a0_0 : Int) (a0_1 : Int) (a0_2 : Int) (a0_3 : Int) (a0_4 : Int) (l0_5 : List Int) (a1_0 : Int) (a1_1 : Int) (a1_2 : Int) (a1_3 : Int) (a1_4 : Int) (l1_5 : List (S26)) (l2 : List Int) : Option (Bool) := (plaitinglaw5_known.f).bind fun t8103 => (if t8103 = true then ((plaitinglaw3_Make.f k a0_0 a0_1 a0_2 a0_3 a0_4 l0_5).bind fun bt8104 => ((plaitinglaw5_Make.f k bt8104.1 bt8104.2.1 bt8104.2.2.1 bt8104.2.2.2.1 bt8104.2.2.2.2.1 bt8104.2.2.2.2.2 a1_0 a1_1 a1_2 a1_3 a1_4 l1_5 l2).bind fun bt8113 => (if bt8113.1 = 3 then (plaitinglaw5_FrameLong.j0 k 51 (decide (bt8113.2.2.1 < bt8104.1)) bt8104.1 bt8104.2.1 bt8104.2.2.1 bt8104.2.2.2.1 bt8104.2.2.2.2.1 bt8104.2.2.2.2.2 bt8113.1 bt8113.2.1 bt8113.2.2.1 bt8113.2.2.2.1 bt8113.2.2.2.2.1 bt8113.2.2.2.2.2) else (plaitinglaw5_FrameLong.j0 k 51 false bt8104.1 bt8104.2.1 bt8104.2.2.1 bt8104.2.2.2.1 bt8104.2.2.2.2.1 bt8104.2.2.2.2.2 bt8113.1 bt8113.2.1 bt8113.2.2.1 bt8113.2.2.2.1 bt8113.2.2.2.2.1 bt8113.2.2.2.2.2)))) else (some false))
set_option maxHeartbeats 8000000 in
set_option maxRecDepth 100000 in
theorem plaitinglaw5_FrameLong.calls (k : Nat) (a0_0 : Int) (a0_1 : Int) (a0_2 : Int) (a0_3 : Int) (a0_4 : Int) (A0_5 : Option Addr) (c0_5 : Nat) (l0_5 : List Int) (a1_0 : Int) (a1_1 : Int) (a1_2 : Int) (a1_3 : Int) (a1_4 : Int) (A1_5 : Option Addr) (c1_5 : Nat) (l1_5 : List (S26)) (A2 : Option Addr) (c2 : Nat) (l2 : List Int) (r : Bool) (w : World) (hr0_5 : Kd.C (Kd.int .i64) w A0_5 l0_5.length l0_5) (hc0_5 : l0_5.length ≤ c0_5) (hr1_5 : Kd.C k26 w A1_5 l1_5.length l1_5) (hc1_5 : l1_5.length ≤ c1_5) (hr2 : Kd.C (Kd.int .i64) w A2 l2.length l2) (hc2 : l2.length ≤ c2) (hrt : r = true) (h : plaitinglaw5_FrameLong.f k a0_0 a0_1 a0_2 a0_3 a0_4 l0_5 a1_0 a1_1 a1_2 a1_3 a1_4 l1_5 l2 = some r) :
    Calls Try.prog 4 #[.agg #[.int .i64 a0_0, .int .i64 a0_1, .int .i64 a0_2, .int .i64 a0_3, .int .i64 a0_4, .slice A0_5 l0_5.length c0_5], .agg #[.int .i64 a1_0, .int .i64 a1_1, .int .i64 a1_2, .int .i64 a1_3, .int .i64 a1_4, .slice A1_5 l1_5.length c1_5], .slice A2 l2.length c2] w fun e w' => e = .returned (.bool r) ∧ Below w.heap.size w w' := by
  have HRT := Aside0.mk hrt
  clear hrt
  have hu24 := Try.underlying24
  have hu29 := Try.underlying29
  have HR0_5 := Aside0.mk hr0_5
  have HC0_5 := Aside0.mk hc0_5
  clear hr0_5 hc0_5
  have HR1_5 := Aside0.mk hr1_5
  have HC1_5 := Aside0.mk hc1_5
  clear hr1_5 hc1_5
  have HR2 := Aside0.mk hr2
  have HC2 := Aside0.mk hc2
  clear hr2 hc2
  have HB := Aside0.mk (Below.refl w.heap.size w)
  have H : ((plaitinglaw5_known.f).bind fun t8103 => (if t8103 = true then ((plaitinglaw3_Make.f k a0_0 a0_1 a0_2 a0_3 a0_4 l0_5).bind fun bt8104 => ((plaitinglaw5_Make.f k bt8104.1 bt8104.2.1 bt8104.2.2.1 bt8104.2.2.2.1 bt8104.2.2.2.2.1 bt8104.2.2.2.2.2 a1_0 a1_1 a1_2 a1_3 a1_4 l1_5 l2).bind fun bt8113 => (if bt8113.1 = 3 then (plaitinglaw5_FrameLong.j0 k 51 (decide (bt8113.2.2.1 < bt8104.1)) bt8104.1 bt8104.2.1 bt8104.2.2.1 bt8104.2.2.2.1 bt8104.2.2.2.2.1 bt8104.2.2.2.2.2 bt8113.1 bt8113.2.1 bt8113.2.2.1 bt8113.2.2.2.1 bt8113.2.2.2.2.1 bt8113.2.2.2.2.2) else (plaitinglaw5_FrameLong.j0 k 51 false bt8104.1 bt8104.2.1 bt8104.2.2.1 bt8104.2.2.2.1 bt8104.2.2.2.2.1 bt8104.2.2.2.2.2 bt8113.1 bt8113.2.1 bt8113.2.2.1 bt8113.2.2.2.1 bt8113.2.2.2.2.1 bt8113.2.2.2.2.2)))) else (some false))) = some r := h
  clear h
  replace H := Option.bind_eq_some_iff.mp H
  obtain ⟨t8103, A40, H⟩ := H
  replace H : (if t8103 = true then ((plaitinglaw3_Make.f k a0_0 a0_1 a0_2 a0_3 a0_4 l0_5).bind fun bt8104 => ((plaitinglaw5_Make.f k bt8104.1 bt8104.2.1 bt8104.2.2.1 bt8104.2.2.2.1 bt8104.2.2.2.2.1 bt8104.2.2.2.2.2 a1_0 a1_1 a1_2 a1_3 a1_4 l1_5 l2).bind fun bt8113 => (if bt8113.1 = 3 then (plaitinglaw5_FrameLong.j0 k 51 (decide (bt8113.2.2.1 < bt8104.1)) bt8104.1 bt8104.2.1 bt8104.2.2.1 bt8104.2.2.2.1 bt8104.2.2.2.2.1 bt8104.2.2.2.2.2 bt8113.1 bt8113.2.1 bt8113.2.2.1 bt8113.2.2.2.1 bt8113.2.2.2.2.1 bt8113.2.2.2.2.2) else (plaitinglaw5_FrameLong.j0 k 51 false bt8104.1 bt8104.2.1 bt8104.2.2.1 bt8104.2.2.2.1 bt8104.2.2.2.2.1 bt8104.2.2.2.2.2 bt8113.1 bt8113.2.1 bt8113.2.2.1 bt8113.2.2.2.1 bt8113.2.2.2.2.1 bt8113.2.2.2.2.2)))) else (some false)) = some r := H
  have A4 := Aside0.mk A40
  clear A40
  by_cases c5 : t8103 = true
  rotate_left
  · replace c5 := Bool.eq_false_iff.mpr c5
    subst c5
    have H1 : (some false) = some r := by rw [if_neg (show ¬ (false = true) by decide)] at H; exact H
    clear H
    have H := H1
    clear H1
    exact absurd ((Option.some.inj H).trans HRT.out) (by decide)
  subst c5
  have H1 : ((plaitinglaw3_Make.f k a0_0 a0_1 a0_2 a0_3 a0_4 l0_5).bind fun bt8104 => ((plaitinglaw5_Make.f k bt8104.1 bt8104.2.1 bt8104.2.2.1 bt8104.2.2.2.1 bt8104.2.2.2.2.1 bt8104.2.2.2.2.2 a1_0 a1_1 a1_2 a1_3 a1_4 l1_5 l2).bind fun bt8113 => (if bt8113.1 = 3 then (plaitinglaw5_FrameLong.j0 k 51 (decide (bt8113.2.2.1 < bt8104.1)) bt8104.1 bt8104.2.1 bt8104.2.2.1 bt8104.2.2.2.1 bt8104.2.2.2.2.1 bt8104.2.2.2.2.2 bt8113.1 bt8113.2.1 bt8113.2.2.1 bt8113.2.2.2.1 bt8113.2.2.2.2.1 bt8113.2.2.2.2.2) else (plaitinglaw5_FrameLong.j0 k 51 false bt8104.1 bt8104.2.1 bt8104.2.2.1 bt8104.2.2.2.1 bt8104.2.2.2.2.1 bt8104.2.2.2.2.2 bt8113.1 bt8113.2.1 bt8113.2.2.1 bt8113.2.2.2.1 bt8113.2.2.2.2.1 bt8113.2.2.2.2.2)))) = some r := by rw [if_pos rfl] at H; exact H
  clear H
  have H := H1
  clear H1
  replace H := Option.bind_eq_some_iff.mp H
  obtain ⟨⟨t8104, t8105, t8106, t8107, t8108, t8109⟩, A60, H⟩ := H
  replace H : ((plaitinglaw5_Make.f k t8104 t8105 t8106 t8107 t8108 t8109 a1_0 a1_1 a1_2 a1_3 a1_4 l1_5 l2).bind fun bt8113 => (if bt8113.1 = 3 then (plaitinglaw5_FrameLong.j0 k 51 (decide (bt8113.2.2.1 < t8104)) t8104 t8105 t8106 t8107 t8108 t8109 bt8113.1 bt8113.2.1 bt8113.2.2.1 bt8113.2.2.2.1 bt8113.2.2.2.2.1 bt8113.2.2.2.2.2) else (plaitinglaw5_FrameLong.j0 k 51 false t8104 t8105 t8106 t8107 t8108 t8109 bt8113.1 bt8113.2.1 bt8113.2.2.1 bt8113.2.2.2.1 bt8113.2.2.2.2.1 bt8113.2.2.2.2.2))) = some r := H
  have A6 := Aside0.mk A60
  clear A60
  replace H := Option.bind_eq_some_iff.mp H
  obtain ⟨⟨t8113, t8114, t8115, t8116, t8117, t8118⟩, A70, H⟩ := H
  replace H : (if t8113 = 3 then (plaitinglaw5_FrameLong.j0 k 51 (decide (t8115 < t8104)) t8104 t8105 t8106 t8107 t8108 t8109 t8113 t8114 t8115 t8116 t8117 t8118) else (plaitinglaw5_FrameLong.j0 k 51 false t8104 t8105 t8106 t8107 t8108 t8109 t8113 t8114 t8115 t8116 t8117 t8118)) = some r := H
  have A7 := Aside0.mk A70
  clear A70
  have HC8 := Aside0.mk H
  clear H
  go_enter Try.func4, Try.ntmps4
  go_upto_region 6 with (first | ((with_reducible refine gate_dst (N := 3) rfl ?_); refine box_event ?hg (N := 3) ?hd (cs := #[.int .i64 a0_0, .int .i64 a0_1, .int .i64 a0_2, .int .i64 a0_3, .int .i64 a0_4, .slice A0_5 l0_5.length c0_5]) (t := 24) ?hr ?_; (case hd => rfl); (case hg => rfl); (case hr => first | (go_simp; done) | (go_simp; rfl)); intro gb8101 hg w9 hbox hb; have BK8101 := Aside0.mk (hbox); have GW8101 := Aside0.mk ((by rw [hg]; exact (below_size (pH_ HB.out)) : w.heap.size ≤ gb8101)); have GE8101 := Aside0.mk ((by rw [hg]; exact (below_size (pH_ HB.out)) : w.heap.size ≤ gb8101)); replace HB := Aside0.mk (below_step (pH_ HB.out) hb); clear hb hbox hg) | ((with_reducible refine gate_dst (N := 4) rfl ?_); refine box_event ?hg (N := 4) ?hd (cs := #[.int .i64 a1_0, .int .i64 a1_1, .int .i64 a1_2, .int .i64 a1_3, .int .i64 a1_4, .slice A1_5 l1_5.length c1_5]) (t := 29) ?hr ?_; (case hd => rfl); (case hg => rfl); (case hr => first | (go_simp; done) | (go_simp; rfl)); intro gb8102 hg w10 hbox hb; have BK8102 := Aside0.mk (hbox); have GW8102 := Aside0.mk ((by rw [hg]; exact (below_size (pH_ HB.out)) : w.heap.size ≤ gb8102)); have GE8102 := Aside0.mk ((by rw [hg]; exact (below_size (pH_ HB.out)) : w.heap.size ≤ gb8102)); have NB8101_8102 := Aside0.mk (ltB_ hg BK8101.out); have NB8102_8101 := Aside0.mk (ltB_ hg BK8101.out).symm; replace BK8101 := Aside0.mk (blk_below (pB_ BK8101.out) hb); replace HB := Aside0.mk (below_step (pH_ HB.out) hb); clear hb hbox hg) | ((with_reducible refine gate_callee (f := 18) rfl ?_); refine goesL_ (some 11) rfl rfl Try.func18 (by kernel_rfl) rfl #[] rfl (by (try simp only [List.map_toArray, List.map_cons, List.map_nil]); first | done | rfl | (simp only [List.length_drop, List.length_take]; rfl)) ?_; (with_reducible refine (plaitinglaw5_known.calls  true _ A4.out).mono ?_); rintro e w11 ⟨rfl, hb⟩; refine ⟨_, rfl, ?_⟩; replace BK8101 := Aside0.mk (blk_below (pB_ BK8101.out) hb); replace BK8102 := Aside0.mk (blk_below (pB_ BK8102.out) hb); replace HB := Aside0.mk (below_step (pH_ HB.out) hb); (try clear hb); (try clear hb2); (try clear hk); (try clear hi); have hnb12 := NB8101_8102.out; have hnc12 := NB8102_8101.out; have hcz13_0 : w11.cell? ⟨gb8101, 0, none⟩ = some (.int .i64 a0_0) := (blk_cell BK8101.out 0).trans rfl; have hcz13_1 : w11.cell? ⟨gb8101, 1, none⟩ = some (.int .i64 a0_1) := (blk_cell BK8101.out 1).trans rfl; have hcz13_2 : w11.cell? ⟨gb8101, 2, none⟩ = some (.int .i64 a0_2) := (blk_cell BK8101.out 2).trans rfl; have hcz13_3 : w11.cell? ⟨gb8101, 3, none⟩ = some (.int .i64 a0_3) := (blk_cell BK8101.out 3).trans rfl; have hcz13_4 : w11.cell? ⟨gb8101, 4, none⟩ = some (.int .i64 a0_4) := (blk_cell BK8101.out 4).trans rfl; have hcz13_5 : w11.cell? ⟨gb8101, 5, none⟩ = some (.slice A0_5 l0_5.length c0_5) := (blk_cell BK8101.out 5).trans rfl; have hfz13_0 := blk_frozen BK8101.out 0; have hfz13_1 := blk_frozen BK8101.out 1; have hfz13_2 := blk_frozen BK8101.out 2; have hfz13_3 := blk_frozen BK8101.out 3; have hfz13_4 := blk_frozen BK8101.out 4; have hfz13_5 := blk_frozen BK8101.out 5) | ((with_reducible refine gate_callee (f := 20) rfl ?_); refine goesL_ (some 14) rfl rfl Try.func20 (by kernel_rfl) rfl #[.agg #[.int .i64 a0_0, .int .i64 a0_1, .int .i64 a0_2, .int .i64 a0_3, .int .i64 a0_4, .slice A0_5 l0_5.length c0_5]] rfl (by (try simp only [List.map_toArray, List.map_cons, List.map_nil]); first | done | rfl | (simp only [List.length_drop, List.length_take]; rfl)) ?_; (with_reducible refine (plaitinglaw3_Make.calls k a0_0 a0_1 a0_2 a0_3 a0_4 _ _ l0_5 t8104 t8105 t8106 t8107 t8108 t8109 _ ?side1 ?side2 A6.out).mono ?_); (case side1 => repeat (first | exact (Kd.C_below HR0_5.out HB.out) | (with_reducible refine Kd.C_alloc ?_ _) | (with_reducible refine Kd.C_drewN ?_ _) | (with_reducible refine Kd.C_drew ?_))); (case side2 => exact HC0_5.out); rintro e w14 ⟨v8110, rfl, ho0, hb⟩; refine ⟨_, rfl, ?_⟩; have HO8111 := Aside0.mk (Kd.R_lower ho0 (below_size (pH_ HB.out))); replace BK8101 := Aside0.mk (blk_below (pB_ BK8101.out) hb); replace BK8102 := Aside0.mk (blk_below (pB_ BK8102.out) hb); replace HB := Aside0.mk (below_step (pH_ HB.out) hb); (try clear hb); (try clear hb2); (try clear hk); (try clear hi); (try clear ho0)) | ((with_reducible refine gate_dst (N := 7) rfl ?_); refine box_event ?hg (N := 7) ?hd (cs := #[.int .i64 0, .int .i64 0, .int .i64 0, .int .i64 0, .int .i64 0, .slice none 0 0]) (t := 24) ?hr ?_; (case hd => rfl); (case hg => rfl); (case hr => first | (go_simp; done) | (go_simp; rfl)); intro gb8112 hg w15 hbox hb; have BK8112 := Aside0.mk (hbox); have GW8112 := Aside0.mk ((by rw [hg]; exact (below_size (pH_ HB.out)) : w.heap.size ≤ gb8112)); have GE8112 := Aside0.mk ((by rw [hg]; exact (below_size (pH_ HB.out)) : w.heap.size ≤ gb8112)); have NB8101_8112 := Aside0.mk (ltB_ hg BK8101.out); have NB8112_8101 := Aside0.mk (ltB_ hg BK8101.out).symm; have NB8102_8112 := Aside0.mk (ltB_ hg BK8102.out); have NB8112_8102 := Aside0.mk (ltB_ hg BK8102.out).symm; replace HO8111 := Aside0.mk (Kd.R_below (pR_ HO8111.out) hb); replace BK8101 := Aside0.mk (blk_below (pB_ BK8101.out) hb); replace BK8102 := Aside0.mk (blk_below (pB_ BK8102.out) hb); replace HB := Aside0.mk (below_step (pH_ HB.out) hb); clear hb hbox hg; have hnb16 := NB8112_8101.out; have hnc16 := NB8101_8112.out; have hnb17 := NB8112_8102.out; have hnc17 := NB8102_8112.out; have hcz18_0 : w15.cell? ⟨gb8112, 0, none⟩ = some (.int .i64 0) := (blk_cell BK8112.out 0).trans rfl; have hcz18_1 : w15.cell? ⟨gb8112, 1, none⟩ = some (.int .i64 0) := (blk_cell BK8112.out 1).trans rfl; have hcz18_2 : w15.cell? ⟨gb8112, 2, none⟩ = some (.int .i64 0) := (blk_cell BK8112.out 2).trans rfl; have hcz18_3 : w15.cell? ⟨gb8112, 3, none⟩ = some (.int .i64 0) := (blk_cell BK8112.out 3).trans rfl; have hcz18_4 : w15.cell? ⟨gb8112, 4, none⟩ = some (.int .i64 0) := (blk_cell BK8112.out 4).trans rfl; have hcz18_5 : w15.cell? ⟨gb8112, 5, none⟩ = some (.slice none 0 0) := (blk_cell BK8112.out 5).trans rfl; have hfz18_0 := blk_frozen BK8112.out 0; have hfz18_1 := blk_frozen BK8112.out 1; have hfz18_2 := blk_frozen BK8112.out 2; have hfz18_3 := blk_frozen BK8112.out 3; have hfz18_4 := blk_frozen BK8112.out 4; have hfz18_5 := blk_frozen BK8112.out 5; obtain ⟨Ao19, co19, eo19⟩ := Kd.R_slice HO8111.out; subst eo19; have hcz20_0 : w15.cell? ⟨gb8102, 0, none⟩ = some (.int .i64 a1_0) := (blk_cell BK8102.out 0).trans rfl; have hcz20_1 : w15.cell? ⟨gb8102, 1, none⟩ = some (.int .i64 a1_1) := (blk_cell BK8102.out 1).trans rfl; have hcz20_2 : w15.cell? ⟨gb8102, 2, none⟩ = some (.int .i64 a1_2) := (blk_cell BK8102.out 2).trans rfl; have hcz20_3 : w15.cell? ⟨gb8102, 3, none⟩ = some (.int .i64 a1_3) := (blk_cell BK8102.out 3).trans rfl; have hcz20_4 : w15.cell? ⟨gb8102, 4, none⟩ = some (.int .i64 a1_4) := (blk_cell BK8102.out 4).trans rfl; have hcz20_5 : w15.cell? ⟨gb8102, 5, none⟩ = some (.slice A1_5 l1_5.length c1_5) := (blk_cell BK8102.out 5).trans rfl; have hfz20_0 := blk_frozen BK8102.out 0; have hfz20_1 := blk_frozen BK8102.out 1; have hfz20_2 := blk_frozen BK8102.out 2; have hfz20_3 := blk_frozen BK8102.out 3; have hfz20_4 := blk_frozen BK8102.out 4; have hfz20_5 := blk_frozen BK8102.out 5) | ((with_reducible refine gate_callee (f := 21) rfl ?_); refine goesL_ (some 18) rfl rfl Try.func21 (by kernel_rfl) rfl #[.agg #[.int .i64 t8104, .int .i64 t8105, .int .i64 t8106, .int .i64 t8107, .int .i64 t8108, .slice Ao19 t8109.length co19], .agg #[.int .i64 a1_0, .int .i64 a1_1, .int .i64 a1_2, .int .i64 a1_3, .int .i64 a1_4, .slice A1_5 l1_5.length c1_5], .slice A2 l2.length c2] rfl (by (try simp only [List.map_toArray, List.map_cons, List.map_nil]); first | done | rfl | (simp only [List.length_drop, List.length_take]; rfl)) ?_; (with_reducible refine (plaitinglaw5_Make.calls k t8104 t8105 t8106 t8107 t8108 _ _ t8109 a1_0 a1_1 a1_2 a1_3 a1_4 _ _ l1_5 _ _ l2 t8113 t8114 t8115 t8116 t8117 t8118 _ ?side1 ?side2 ?side3 ?side4 ?side5 ?side6 A7.out).mono ?_); (case side1 => refine (Kd.R_reads' (e := 3) (base := w.heap.size) (ok := fun k_ => True) (n := t8109.length) (c := co19) ?_).2.2; exact (by (with_reducible repeat (first | apply Kd.R_alloc | apply Kd.R_drewN | apply Kd.R_drew)); exact (Kd.R_mono (Kd.R_far (p := ⟨gb8112, 5, none⟩) (Kd.R_far (p := ⟨gb8112, 4, none⟩) (Kd.R_far (p := ⟨gb8112, 3, none⟩) (Kd.R_far (p := ⟨gb8112, 2, none⟩) (Kd.R_far (p := ⟨gb8112, 1, none⟩) (Kd.R_far (p := ⟨gb8112, 0, none⟩) (Kd.R_types HO8111.out BK8112.out (by decide)) (fun _ hk => hk.2) (.int .i64 t8104)) (fun _ hk => hk.2) (.int .i64 t8105)) (fun _ hk => hk.2) (.int .i64 t8106)) (fun _ hk => hk.2) (.int .i64 t8107)) (fun _ hk => hk.2) (.int .i64 t8108)) (fun _ hk => hk.2) (.slice Ao19 t8109.length co19)) (fun _ h_ => h_.1)))); (case side2 => exact (Kd.R_reads' HO8111.out).2.1); (case side3 => exact Kd.C_below HR1_5.out (pH_ HB.out)); (case side4 => exact HC1_5.out); (case side5 => exact Kd.C_below HR2.out (pH_ HB.out)); (case side6 => exact HC2.out); rintro e w21 ⟨v8119, rfl, ho0, hb⟩; refine ⟨_, rfl, ?_⟩; have HO8120 := Aside0.mk (Kd.R_lower ho0 (below_size (pH_ HB.out))); replace HO8111 := Aside0.mk (Kd.R_below (by (with_reducible repeat (first | apply Kd.R_alloc | apply Kd.R_drewN | apply Kd.R_drew)); exact (Kd.R_mono (Kd.R_far (p := ⟨gb8112, 5, none⟩) (Kd.R_far (p := ⟨gb8112, 4, none⟩) (Kd.R_far (p := ⟨gb8112, 3, none⟩) (Kd.R_far (p := ⟨gb8112, 2, none⟩) (Kd.R_far (p := ⟨gb8112, 1, none⟩) (Kd.R_far (p := ⟨gb8112, 0, none⟩) (Kd.R_types HO8111.out BK8112.out (by decide)) (fun _ hk => hk.2) (.int .i64 t8104)) (fun _ hk => hk.2) (.int .i64 t8105)) (fun _ hk => hk.2) (.int .i64 t8106)) (fun _ hk => hk.2) (.int .i64 t8107)) (fun _ hk => hk.2) (.int .i64 t8108)) (fun _ hk => hk.2) (.slice Ao19 t8109.length co19)) (fun _ h_ => h_.1))) hb); replace BK8101 := Aside0.mk (blk_below (g := gb8101) (o := .cells #[.int .i64 a0_0, .int .i64 a0_1, .int .i64 a0_2, .int .i64 a0_3, .int .i64 a0_4, .slice A0_5 l0_5.length c0_5] 24 (0, 0)) (by (with_reducible repeat (first | refine blk_drewN ?_ _ | refine blk_drew ?_ | refine blk_alloc ?_ _)); refine blk_far ?_ NB8101_8112.out _; (with_reducible repeat (first | refine blk_drewN ?_ _ | refine blk_drew ?_ | refine blk_alloc ?_ _)); refine blk_far ?_ NB8101_8112.out _; (with_reducible repeat (first | refine blk_drewN ?_ _ | refine blk_drew ?_ | refine blk_alloc ?_ _)); refine blk_far ?_ NB8101_8112.out _; (with_reducible repeat (first | refine blk_drewN ?_ _ | refine blk_drew ?_ | refine blk_alloc ?_ _)); refine blk_far ?_ NB8101_8112.out _; (with_reducible repeat (first | refine blk_drewN ?_ _ | refine blk_drew ?_ | refine blk_alloc ?_ _)); refine blk_far ?_ NB8101_8112.out _; (with_reducible repeat (first | refine blk_drewN ?_ _ | refine blk_drew ?_ | refine blk_alloc ?_ _)); refine blk_far ?_ NB8101_8112.out _; (with_reducible repeat (first | refine blk_drewN ?_ _ | refine blk_drew ?_ | refine blk_alloc ?_ _)); exact BK8101.out) hb); replace BK8102 := Aside0.mk (blk_below (g := gb8102) (o := .cells #[.int .i64 a1_0, .int .i64 a1_1, .int .i64 a1_2, .int .i64 a1_3, .int .i64 a1_4, .slice A1_5 l1_5.length c1_5] 29 (0, 0)) (by (with_reducible repeat (first | refine blk_drewN ?_ _ | refine blk_drew ?_ | refine blk_alloc ?_ _)); refine blk_far ?_ NB8102_8112.out _; (with_reducible repeat (first | refine blk_drewN ?_ _ | refine blk_drew ?_ | refine blk_alloc ?_ _)); refine blk_far ?_ NB8102_8112.out _; (with_reducible repeat (first | refine blk_drewN ?_ _ | refine blk_drew ?_ | refine blk_alloc ?_ _)); refine blk_far ?_ NB8102_8112.out _; (with_reducible repeat (first | refine blk_drewN ?_ _ | refine blk_drew ?_ | refine blk_alloc ?_ _)); refine blk_far ?_ NB8102_8112.out _; (with_reducible repeat (first | refine blk_drewN ?_ _ | refine blk_drew ?_ | refine blk_alloc ?_ _)); refine blk_far ?_ NB8102_8112.out _; (with_reducible repeat (first | refine blk_drewN ?_ _ | refine blk_drew ?_ | refine blk_alloc ?_ _)); refine blk_far ?_ NB8102_8112.out _; (with_reducible repeat (first | refine blk_drewN ?_ _ | refine blk_drew ?_ | refine blk_alloc ?_ _)); exact BK8102.out) hb); replace BK8112 := Aside0.mk (blk_below (g := gb8112) (o := .cells #[.int .i64 t8104, .int .i64 t8105, .int .i64 t8106, .int .i64 t8107, .int .i64 t8108, .slice Ao19 t8109.length co19] 24 (0, 0)) (by (with_reducible repeat (first | refine blk_drewN ?_ _ | refine blk_drew ?_ | refine blk_alloc ?_ _)); refine blk_put (cs := #[.int .i64 t8104, .int .i64 t8105, .int .i64 t8106, .int .i64 t8107, .int .i64 t8108, .slice none 0 0]) ?_ 5 _ rfl; (with_reducible repeat (first | refine blk_drewN ?_ _ | refine blk_drew ?_ | refine blk_alloc ?_ _)); refine blk_put (cs := #[.int .i64 t8104, .int .i64 t8105, .int .i64 t8106, .int .i64 t8107, .int .i64 0, .slice none 0 0]) ?_ 4 _ rfl; (with_reducible repeat (first | refine blk_drewN ?_ _ | refine blk_drew ?_ | refine blk_alloc ?_ _)); refine blk_put (cs := #[.int .i64 t8104, .int .i64 t8105, .int .i64 t8106, .int .i64 0, .int .i64 0, .slice none 0 0]) ?_ 3 _ rfl; (with_reducible repeat (first | refine blk_drewN ?_ _ | refine blk_drew ?_ | refine blk_alloc ?_ _)); refine blk_put (cs := #[.int .i64 t8104, .int .i64 t8105, .int .i64 0, .int .i64 0, .int .i64 0, .slice none 0 0]) ?_ 2 _ rfl; (with_reducible repeat (first | refine blk_drewN ?_ _ | refine blk_drew ?_ | refine blk_alloc ?_ _)); refine blk_put (cs := #[.int .i64 t8104, .int .i64 0, .int .i64 0, .int .i64 0, .int .i64 0, .slice none 0 0]) ?_ 1 _ rfl; (with_reducible repeat (first | refine blk_drewN ?_ _ | refine blk_drew ?_ | refine blk_alloc ?_ _)); refine blk_put (cs := #[.int .i64 0, .int .i64 0, .int .i64 0, .int .i64 0, .int .i64 0, .slice none 0 0]) ?_ 0 _ rfl; (with_reducible repeat (first | refine blk_drewN ?_ _ | refine blk_drew ?_ | refine blk_alloc ?_ _)); exact BK8112.out) hb); replace HB := Aside0.mk (below_step (pH_ HB.out) hb); (try clear hb); (try clear hb2); (try clear hk); (try clear hi); (try clear ho0)) | ((with_reducible refine gate_dst (N := 8) rfl ?_); refine box_event ?hg (N := 8) ?hd (cs := #[.int .i64 0, .int .i64 0, .int .i64 0, .int .i64 0, .int .i64 0, .slice none 0 0]) (t := 29) ?hr ?_; (case hd => rfl); (case hg => rfl); (case hr => first | (go_simp; done) | (go_simp; rfl)); intro gb8121 hg w22 hbox hb; have BK8121 := Aside0.mk (hbox); have GW8121 := Aside0.mk ((by rw [hg]; exact (below_size (pH_ HB.out)) : w.heap.size ≤ gb8121)); have GE8121 := Aside0.mk ((by rw [hg]; exact (below_size (pH_ HB.out)) : w.heap.size ≤ gb8121)); have NB8101_8121 := Aside0.mk (ltB_ hg BK8101.out); have NB8121_8101 := Aside0.mk (ltB_ hg BK8101.out).symm; have NB8102_8121 := Aside0.mk (ltB_ hg BK8102.out); have NB8121_8102 := Aside0.mk (ltB_ hg BK8102.out).symm; have NB8112_8121 := Aside0.mk (ltB_ hg BK8112.out); have NB8121_8112 := Aside0.mk (ltB_ hg BK8112.out).symm; replace HO8111 := Aside0.mk (Kd.R_below (pR_ HO8111.out) hb); replace HO8120 := Aside0.mk (Kd.R_below (pR_ HO8120.out) hb); replace BK8101 := Aside0.mk (blk_below (pB_ BK8101.out) hb); replace BK8102 := Aside0.mk (blk_below (pB_ BK8102.out) hb); replace BK8112 := Aside0.mk (blk_below (pB_ BK8112.out) hb); replace HB := Aside0.mk (below_step (pH_ HB.out) hb); clear hb hbox hg; have hnb23 := NB8121_8101.out; have hnc23 := NB8101_8121.out; have hnb24 := NB8121_8102.out; have hnc24 := NB8102_8121.out; have hnb25 := NB8121_8112.out; have hnc25 := NB8112_8121.out; have hcz26_0 : w22.cell? ⟨gb8121, 0, none⟩ = some (.int .i64 0) := (blk_cell BK8121.out 0).trans rfl; have hcz26_1 : w22.cell? ⟨gb8121, 1, none⟩ = some (.int .i64 0) := (blk_cell BK8121.out 1).trans rfl; have hcz26_2 : w22.cell? ⟨gb8121, 2, none⟩ = some (.int .i64 0) := (blk_cell BK8121.out 2).trans rfl; have hcz26_3 : w22.cell? ⟨gb8121, 3, none⟩ = some (.int .i64 0) := (blk_cell BK8121.out 3).trans rfl; have hcz26_4 : w22.cell? ⟨gb8121, 4, none⟩ = some (.int .i64 0) := (blk_cell BK8121.out 4).trans rfl; have hcz26_5 : w22.cell? ⟨gb8121, 5, none⟩ = some (.slice none 0 0) := (blk_cell BK8121.out 5).trans rfl; have hfz26_0 := blk_frozen BK8121.out 0; have hfz26_1 := blk_frozen BK8121.out 1; have hfz26_2 := blk_frozen BK8121.out 2; have hfz26_3 := blk_frozen BK8121.out 3; have hfz26_4 := blk_frozen BK8121.out 4; have hfz26_5 := blk_frozen BK8121.out 5; obtain ⟨Ao27, co27, eo27⟩ := Kd.R_slice HO8120.out; subst eo27))
  (try simp only [Act.put, List.setIfInBounds_toArray, List.set_cons_zero, List.set_cons_succ])
  go_cut [28] (fun v28 wc => ∃ (kq : Nat) (x28_7 : Bool), v28 = .bool x28_7 ∧ Aside0 (plaitinglaw5_FrameLong.j0 kq 51 x28_7 t8104 t8105 t8106 t8107 t8108 t8109 t8113 t8114 t8115 t8116 t8117 t8118 = some r) ∧ Aside0 (kq ≤ k) ∧ Aside0 (Kd.R (Kd.int .i64) 3 wc w.heap.size (fun _ => True) (.slice Ao19 t8109.length co19) t8109) ∧ Aside0 (Kd.R k26 26 wc w.heap.size (fun _ => True) (.slice Ao27 t8118.length co27) t8118) ∧ Aside0 (wc.heap[gb8101]? = some (.cells #[.int .i64 a0_0, .int .i64 a0_1, .int .i64 a0_2, .int .i64 a0_3, .int .i64 a0_4, (.slice A0_5 l0_5.length c0_5)] 24 (0, 0))) ∧ Aside0 (wc.heap[gb8102]? = some (.cells #[.int .i64 a1_0, .int .i64 a1_1, .int .i64 a1_2, .int .i64 a1_3, .int .i64 a1_4, (.slice A1_5 l1_5.length c1_5)] 29 (0, 0))) ∧ Aside0 (wc.heap[gb8112]? = some (.cells #[.int .i64 t8104, .int .i64 t8105, .int .i64 t8106, .int .i64 t8107, .int .i64 t8108, (.slice Ao19 t8109.length co19)] 24 (0, 0))) ∧ Aside0 (wc.heap[gb8121]? = some (.cells #[.int .i64 t8113, .int .i64 t8114, .int .i64 t8115, .int .i64 t8116, .int .i64 t8117, (.slice Ao27 t8118.length co27)] 29 (0, 0))) ∧ Aside0 (Below w.heap.size w wc))
  case first =>
    have H := HC8.out
    clear HC8
    by_cases c28 : t8113 = 3
    · rw [if_pos c28] at H
      have c28b0 : (t8113 == 3) = true := beq_iff_eq.mpr c28
      have c28b1 : (t8113 != 3) = false := bne_eq_false_iff_eq.mpr c28
      clear c28
      (first | rw [c28b0] | (simp only [i64_w, i32_w]; rw [c28b0]) | skip)
      have H' := Aside0.mk H
      clear H
      have hnb29 := NB8121_8101.out
      have hnc29 := NB8101_8121.out
      have hnb30 := NB8121_8102.out
      have hnc30 := NB8102_8121.out
      have hnb31 := NB8121_8112.out
      have hnc31 := NB8112_8121.out
      have hcz32_0 : w22.cell? ⟨gb8121, 0, none⟩ = some (.int .i64 0) := (blk_cell BK8121.out 0).trans rfl
      have hcz32_1 : w22.cell? ⟨gb8121, 1, none⟩ = some (.int .i64 0) := (blk_cell BK8121.out 1).trans rfl
      have hcz32_2 : w22.cell? ⟨gb8121, 2, none⟩ = some (.int .i64 0) := (blk_cell BK8121.out 2).trans rfl
      have hcz32_3 : w22.cell? ⟨gb8121, 3, none⟩ = some (.int .i64 0) := (blk_cell BK8121.out 3).trans rfl
      have hcz32_4 : w22.cell? ⟨gb8121, 4, none⟩ = some (.int .i64 0) := (blk_cell BK8121.out 4).trans rfl
      have hcz32_5 : w22.cell? ⟨gb8121, 5, none⟩ = some (.slice none 0 0) := (blk_cell BK8121.out 5).trans rfl
      have hfz32_0 := blk_frozen BK8121.out 0
      have hfz32_1 := blk_frozen BK8121.out 1
      have hfz32_2 := blk_frozen BK8121.out 2
      have hfz32_3 := blk_frozen BK8121.out 3
      have hfz32_4 := blk_frozen BK8121.out 4
      have hfz32_5 := blk_frozen BK8121.out 5
      have hnb33 := NB8112_8101.out
      have hnc33 := NB8101_8112.out
      have hnb34 := NB8112_8102.out
      have hnc34 := NB8102_8112.out
      have hcz35_0 : w22.cell? ⟨gb8112, 0, none⟩ = some (.int .i64 t8104) := (blk_cell BK8112.out 0).trans rfl
      have hcz35_1 : w22.cell? ⟨gb8112, 1, none⟩ = some (.int .i64 t8105) := (blk_cell BK8112.out 1).trans rfl
      have hcz35_2 : w22.cell? ⟨gb8112, 2, none⟩ = some (.int .i64 t8106) := (blk_cell BK8112.out 2).trans rfl
      have hcz35_3 : w22.cell? ⟨gb8112, 3, none⟩ = some (.int .i64 t8107) := (blk_cell BK8112.out 3).trans rfl
      have hcz35_4 : w22.cell? ⟨gb8112, 4, none⟩ = some (.int .i64 t8108) := (blk_cell BK8112.out 4).trans rfl
      have hcz35_5 : w22.cell? ⟨gb8112, 5, none⟩ = some (.slice Ao19 t8109.length co19) := (blk_cell BK8112.out 5).trans rfl
      have hfz35_0 := blk_frozen BK8112.out 0
      have hfz35_1 := blk_frozen BK8112.out 1
      have hfz35_2 := blk_frozen BK8112.out 2
      have hfz35_3 := blk_frozen BK8112.out 3
      have hfz35_4 := blk_frozen BK8112.out 4
      have hfz35_5 := blk_frozen BK8112.out 5
      go_wp2
      go_meet
      case rel => exact ⟨_, (decide (t8115 < t8104)), (by first | rfl | (simp; done) | (simp [*]; done)), H', ⟨by first | omega | exact Nat.le_refl _⟩, ⟨by (with_reducible repeat (first | apply Kd.R_alloc | apply Kd.R_drewN | apply Kd.R_drew)); exact Kd.R_mono (Kd.R_far (p := ⟨gb8121, 5, none⟩) (Kd.R_far (p := ⟨gb8121, 4, none⟩) (Kd.R_far (p := ⟨gb8121, 3, none⟩) (Kd.R_far (p := ⟨gb8121, 2, none⟩) (Kd.R_far (p := ⟨gb8121, 1, none⟩) (Kd.R_far (p := ⟨gb8121, 0, none⟩) (Kd.R_types HO8111.out BK8121.out (by decide)) (fun _ hk => hk.2) (.int .i64 t8113)) (fun _ hk => hk.2) (.int .i64 t8114)) (fun _ hk => hk.2) (.int .i64 t8115)) (fun _ hk => hk.2) (.int .i64 t8116)) (fun _ hk => hk.2) (.int .i64 t8117)) (fun _ hk => hk.2) (.slice Ao27 t8118.length co27)) (fun _ hk => trivial)⟩, ⟨by (with_reducible repeat (first | apply Kd.R_alloc | apply Kd.R_drewN | apply Kd.R_drew)); exact Kd.R_mono (Kd.R_far (p := ⟨gb8121, 5, none⟩) (Kd.R_far (p := ⟨gb8121, 4, none⟩) (Kd.R_far (p := ⟨gb8121, 3, none⟩) (Kd.R_far (p := ⟨gb8121, 2, none⟩) (Kd.R_far (p := ⟨gb8121, 1, none⟩) (Kd.R_far (p := ⟨gb8121, 0, none⟩) (Kd.R_types HO8120.out BK8121.out (by decide)) (fun _ hk => hk.2) (.int .i64 t8113)) (fun _ hk => hk.2) (.int .i64 t8114)) (fun _ hk => hk.2) (.int .i64 t8115)) (fun _ hk => hk.2) (.int .i64 t8116)) (fun _ hk => hk.2) (.int .i64 t8117)) (fun _ hk => hk.2) (.slice Ao27 t8118.length co27)) (fun _ hk => trivial)⟩, ⟨by (with_reducible repeat (first | refine blk_drewN ?_ _ | refine blk_drew ?_ | refine blk_alloc ?_ _)); refine blk_far ?_ NB8101_8121.out _; (with_reducible repeat (first | refine blk_drewN ?_ _ | refine blk_drew ?_ | refine blk_alloc ?_ _)); refine blk_far ?_ NB8101_8121.out _; (with_reducible repeat (first | refine blk_drewN ?_ _ | refine blk_drew ?_ | refine blk_alloc ?_ _)); refine blk_far ?_ NB8101_8121.out _; (with_reducible repeat (first | refine blk_drewN ?_ _ | refine blk_drew ?_ | refine blk_alloc ?_ _)); refine blk_far ?_ NB8101_8121.out _; (with_reducible repeat (first | refine blk_drewN ?_ _ | refine blk_drew ?_ | refine blk_alloc ?_ _)); refine blk_far ?_ NB8101_8121.out _; (with_reducible repeat (first | refine blk_drewN ?_ _ | refine blk_drew ?_ | refine blk_alloc ?_ _)); refine blk_far ?_ NB8101_8121.out _; (with_reducible repeat (first | refine blk_drewN ?_ _ | refine blk_drew ?_ | refine blk_alloc ?_ _)); exact BK8101.out⟩, ⟨by (with_reducible repeat (first | refine blk_drewN ?_ _ | refine blk_drew ?_ | refine blk_alloc ?_ _)); refine blk_far ?_ NB8102_8121.out _; (with_reducible repeat (first | refine blk_drewN ?_ _ | refine blk_drew ?_ | refine blk_alloc ?_ _)); refine blk_far ?_ NB8102_8121.out _; (with_reducible repeat (first | refine blk_drewN ?_ _ | refine blk_drew ?_ | refine blk_alloc ?_ _)); refine blk_far ?_ NB8102_8121.out _; (with_reducible repeat (first | refine blk_drewN ?_ _ | refine blk_drew ?_ | refine blk_alloc ?_ _)); refine blk_far ?_ NB8102_8121.out _; (with_reducible repeat (first | refine blk_drewN ?_ _ | refine blk_drew ?_ | refine blk_alloc ?_ _)); refine blk_far ?_ NB8102_8121.out _; (with_reducible repeat (first | refine blk_drewN ?_ _ | refine blk_drew ?_ | refine blk_alloc ?_ _)); refine blk_far ?_ NB8102_8121.out _; (with_reducible repeat (first | refine blk_drewN ?_ _ | refine blk_drew ?_ | refine blk_alloc ?_ _)); exact BK8102.out⟩, ⟨by (with_reducible repeat (first | refine blk_drewN ?_ _ | refine blk_drew ?_ | refine blk_alloc ?_ _)); refine blk_far ?_ NB8112_8121.out _; (with_reducible repeat (first | refine blk_drewN ?_ _ | refine blk_drew ?_ | refine blk_alloc ?_ _)); refine blk_far ?_ NB8112_8121.out _; (with_reducible repeat (first | refine blk_drewN ?_ _ | refine blk_drew ?_ | refine blk_alloc ?_ _)); refine blk_far ?_ NB8112_8121.out _; (with_reducible repeat (first | refine blk_drewN ?_ _ | refine blk_drew ?_ | refine blk_alloc ?_ _)); refine blk_far ?_ NB8112_8121.out _; (with_reducible repeat (first | refine blk_drewN ?_ _ | refine blk_drew ?_ | refine blk_alloc ?_ _)); refine blk_far ?_ NB8112_8121.out _; (with_reducible repeat (first | refine blk_drewN ?_ _ | refine blk_drew ?_ | refine blk_alloc ?_ _)); refine blk_far ?_ NB8112_8121.out _; (with_reducible repeat (first | refine blk_drewN ?_ _ | refine blk_drew ?_ | refine blk_alloc ?_ _)); exact BK8112.out⟩, ⟨by (with_reducible repeat (first | refine blk_drewN ?_ _ | refine blk_drew ?_ | refine blk_alloc ?_ _)); refine blk_put (cs := #[.int .i64 t8113, .int .i64 t8114, .int .i64 t8115, .int .i64 t8116, .int .i64 t8117, .slice none 0 0]) ?_ 5 _ rfl; (with_reducible repeat (first | refine blk_drewN ?_ _ | refine blk_drew ?_ | refine blk_alloc ?_ _)); refine blk_put (cs := #[.int .i64 t8113, .int .i64 t8114, .int .i64 t8115, .int .i64 t8116, .int .i64 0, .slice none 0 0]) ?_ 4 _ rfl; (with_reducible repeat (first | refine blk_drewN ?_ _ | refine blk_drew ?_ | refine blk_alloc ?_ _)); refine blk_put (cs := #[.int .i64 t8113, .int .i64 t8114, .int .i64 t8115, .int .i64 0, .int .i64 0, .slice none 0 0]) ?_ 3 _ rfl; (with_reducible repeat (first | refine blk_drewN ?_ _ | refine blk_drew ?_ | refine blk_alloc ?_ _)); refine blk_put (cs := #[.int .i64 t8113, .int .i64 t8114, .int .i64 0, .int .i64 0, .int .i64 0, .slice none 0 0]) ?_ 2 _ rfl; (with_reducible repeat (first | refine blk_drewN ?_ _ | refine blk_drew ?_ | refine blk_alloc ?_ _)); refine blk_put (cs := #[.int .i64 t8113, .int .i64 0, .int .i64 0, .int .i64 0, .int .i64 0, .slice none 0 0]) ?_ 1 _ rfl; (with_reducible repeat (first | refine blk_drewN ?_ _ | refine blk_drew ?_ | refine blk_alloc ?_ _)); refine blk_put (cs := #[.int .i64 0, .int .i64 0, .int .i64 0, .int .i64 0, .int .i64 0, .slice none 0 0]) ?_ 0 _ rfl; (with_reducible repeat (first | refine blk_drewN ?_ _ | refine blk_drew ?_ | refine blk_alloc ?_ _)); exact BK8121.out⟩, ⟨by repeat (first | (with_reducible first | exact HB.out | apply below_alloc | apply pw_below_drewN | apply below_drew1 | refine below_set ?_ GE8101.out | refine below_set ?_ GE8102.out | refine below_set ?_ GE8112.out | refine below_set ?_ GE8121.out) | exact HB.out)⟩⟩
    rw [if_neg c28] at H
    have c28b0 : (t8113 == 3) = false := beq_eq_false_iff_ne.mpr c28
    have c28b1 : (t8113 != 3) = true := bne_iff_ne.mpr c28
    (first | rw [c28b0] | (simp only [i64_w, i32_w]; rw [c28b0]) | skip)
    have H' := Aside0.mk H
    clear H
    have hnb36 := NB8121_8101.out
    have hnc36 := NB8101_8121.out
    have hnb37 := NB8121_8102.out
    have hnc37 := NB8102_8121.out
    have hnb38 := NB8121_8112.out
    have hnc38 := NB8112_8121.out
    have hcz39_0 : w22.cell? ⟨gb8121, 0, none⟩ = some (.int .i64 0) := (blk_cell BK8121.out 0).trans rfl
    have hcz39_1 : w22.cell? ⟨gb8121, 1, none⟩ = some (.int .i64 0) := (blk_cell BK8121.out 1).trans rfl
    have hcz39_2 : w22.cell? ⟨gb8121, 2, none⟩ = some (.int .i64 0) := (blk_cell BK8121.out 2).trans rfl
    have hcz39_3 : w22.cell? ⟨gb8121, 3, none⟩ = some (.int .i64 0) := (blk_cell BK8121.out 3).trans rfl
    have hcz39_4 : w22.cell? ⟨gb8121, 4, none⟩ = some (.int .i64 0) := (blk_cell BK8121.out 4).trans rfl
    have hcz39_5 : w22.cell? ⟨gb8121, 5, none⟩ = some (.slice none 0 0) := (blk_cell BK8121.out 5).trans rfl
    have hfz39_0 := blk_frozen BK8121.out 0
    have hfz39_1 := blk_frozen BK8121.out 1
    have hfz39_2 := blk_frozen BK8121.out 2
    have hfz39_3 := blk_frozen BK8121.out 3
    have hfz39_4 := blk_frozen BK8121.out 4
    have hfz39_5 := blk_frozen BK8121.out 5
    go_wp2
    go_meet
    case rel => exact ⟨_, (false), (by first | rfl | (simp; done) | (simp [*]; done)), H', ⟨by first | omega | exact Nat.le_refl _⟩, ⟨by (with_reducible repeat (first | apply Kd.R_alloc | apply Kd.R_drewN | apply Kd.R_drew)); exact Kd.R_mono (Kd.R_far (p := ⟨gb8121, 5, none⟩) (Kd.R_far (p := ⟨gb8121, 4, none⟩) (Kd.R_far (p := ⟨gb8121, 3, none⟩) (Kd.R_far (p := ⟨gb8121, 2, none⟩) (Kd.R_far (p := ⟨gb8121, 1, none⟩) (Kd.R_far (p := ⟨gb8121, 0, none⟩) (Kd.R_types HO8111.out BK8121.out (by decide)) (fun _ hk => hk.2) (.int .i64 t8113)) (fun _ hk => hk.2) (.int .i64 t8114)) (fun _ hk => hk.2) (.int .i64 t8115)) (fun _ hk => hk.2) (.int .i64 t8116)) (fun _ hk => hk.2) (.int .i64 t8117)) (fun _ hk => hk.2) (.slice Ao27 t8118.length co27)) (fun _ hk => trivial)⟩, ⟨by (with_reducible repeat (first | apply Kd.R_alloc | apply Kd.R_drewN | apply Kd.R_drew)); exact Kd.R_mono (Kd.R_far (p := ⟨gb8121, 5, none⟩) (Kd.R_far (p := ⟨gb8121, 4, none⟩) (Kd.R_far (p := ⟨gb8121, 3, none⟩) (Kd.R_far (p := ⟨gb8121, 2, none⟩) (Kd.R_far (p := ⟨gb8121, 1, none⟩) (Kd.R_far (p := ⟨gb8121, 0, none⟩) (Kd.R_types HO8120.out BK8121.out (by decide)) (fun _ hk => hk.2) (.int .i64 t8113)) (fun _ hk => hk.2) (.int .i64 t8114)) (fun _ hk => hk.2) (.int .i64 t8115)) (fun _ hk => hk.2) (.int .i64 t8116)) (fun _ hk => hk.2) (.int .i64 t8117)) (fun _ hk => hk.2) (.slice Ao27 t8118.length co27)) (fun _ hk => trivial)⟩, ⟨by (with_reducible repeat (first | refine blk_drewN ?_ _ | refine blk_drew ?_ | refine blk_alloc ?_ _)); refine blk_far ?_ NB8101_8121.out _; (with_reducible repeat (first | refine blk_drewN ?_ _ | refine blk_drew ?_ | refine blk_alloc ?_ _)); refine blk_far ?_ NB8101_8121.out _; (with_reducible repeat (first | refine blk_drewN ?_ _ | refine blk_drew ?_ | refine blk_alloc ?_ _)); refine blk_far ?_ NB8101_8121.out _; (with_reducible repeat (first | refine blk_drewN ?_ _ | refine blk_drew ?_ | refine blk_alloc ?_ _)); refine blk_far ?_ NB8101_8121.out _; (with_reducible repeat (first | refine blk_drewN ?_ _ | refine blk_drew ?_ | refine blk_alloc ?_ _)); refine blk_far ?_ NB8101_8121.out _; (with_reducible repeat (first | refine blk_drewN ?_ _ | refine blk_drew ?_ | refine blk_alloc ?_ _)); refine blk_far ?_ NB8101_8121.out _; (with_reducible repeat (first | refine blk_drewN ?_ _ | refine blk_drew ?_ | refine blk_alloc ?_ _)); exact BK8101.out⟩, ⟨by (with_reducible repeat (first | refine blk_drewN ?_ _ | refine blk_drew ?_ | refine blk_alloc ?_ _)); refine blk_far ?_ NB8102_8121.out _; (with_reducible repeat (first | refine blk_drewN ?_ _ | refine blk_drew ?_ | refine blk_alloc ?_ _)); refine blk_far ?_ NB8102_8121.out _; (with_reducible repeat (first | refine blk_drewN ?_ _ | refine blk_drew ?_ | refine blk_alloc ?_ _)); refine blk_far ?_ NB8102_8121.out _; (with_reducible repeat (first | refine blk_drewN ?_ _ | refine blk_drew ?_ | refine blk_alloc ?_ _)); refine blk_far ?_ NB8102_8121.out _; (with_reducible repeat (first | refine blk_drewN ?_ _ | refine blk_drew ?_ | refine blk_alloc ?_ _)); refine blk_far ?_ NB8102_8121.out _; (with_reducible repeat (first | refine blk_drewN ?_ _ | refine blk_drew ?_ | refine blk_alloc ?_ _)); refine blk_far ?_ NB8102_8121.out _; (with_reducible repeat (first | refine blk_drewN ?_ _ | refine blk_drew ?_ | refine blk_alloc ?_ _)); exact BK8102.out⟩, ⟨by (with_reducible repeat (first | refine blk_drewN ?_ _ | refine blk_drew ?_ | refine blk_alloc ?_ _)); refine blk_far ?_ NB8112_8121.out _; (with_reducible repeat (first | refine blk_drewN ?_ _ | refine blk_drew ?_ | refine blk_alloc ?_ _)); refine blk_far ?_ NB8112_8121.out _; (with_reducible repeat (first | refine blk_drewN ?_ _ | refine blk_drew ?_ | refine blk_alloc ?_ _)); refine blk_far ?_ NB8112_8121.out _; (with_reducible repeat (first | refine blk_drewN ?_ _ | refine blk_drew ?_ | refine blk_alloc ?_ _)); refine blk_far ?_ NB8112_8121.out _; (with_reducible repeat (first | refine blk_drewN ?_ _ | refine blk_drew ?_ | refine blk_alloc ?_ _)); refine blk_far ?_ NB8112_8121.out _; (with_reducible repeat (first | refine blk_drewN ?_ _ | refine blk_drew ?_ | refine blk_alloc ?_ _)); refine blk_far ?_ NB8112_8121.out _; (with_reducible repeat (first | refine blk_drewN ?_ _ | refine blk_drew ?_ | refine blk_alloc ?_ _)); exact BK8112.out⟩, ⟨by (with_reducible repeat (first | refine blk_drewN ?_ _ | refine blk_drew ?_ | refine blk_alloc ?_ _)); refine blk_put (cs := #[.int .i64 t8113, .int .i64 t8114, .int .i64 t8115, .int .i64 t8116, .int .i64 t8117, .slice none 0 0]) ?_ 5 _ rfl; (with_reducible repeat (first | refine blk_drewN ?_ _ | refine blk_drew ?_ | refine blk_alloc ?_ _)); refine blk_put (cs := #[.int .i64 t8113, .int .i64 t8114, .int .i64 t8115, .int .i64 t8116, .int .i64 0, .slice none 0 0]) ?_ 4 _ rfl; (with_reducible repeat (first | refine blk_drewN ?_ _ | refine blk_drew ?_ | refine blk_alloc ?_ _)); refine blk_put (cs := #[.int .i64 t8113, .int .i64 t8114, .int .i64 t8115, .int .i64 0, .int .i64 0, .slice none 0 0]) ?_ 3 _ rfl; (with_reducible repeat (first | refine blk_drewN ?_ _ | refine blk_drew ?_ | refine blk_alloc ?_ _)); refine blk_put (cs := #[.int .i64 t8113, .int .i64 t8114, .int .i64 0, .int .i64 0, .int .i64 0, .slice none 0 0]) ?_ 2 _ rfl; (with_reducible repeat (first | refine blk_drewN ?_ _ | refine blk_drew ?_ | refine blk_alloc ?_ _)); refine blk_put (cs := #[.int .i64 t8113, .int .i64 0, .int .i64 0, .int .i64 0, .int .i64 0, .slice none 0 0]) ?_ 1 _ rfl; (with_reducible repeat (first | refine blk_drewN ?_ _ | refine blk_drew ?_ | refine blk_alloc ?_ _)); refine blk_put (cs := #[.int .i64 0, .int .i64 0, .int .i64 0, .int .i64 0, .int .i64 0, .slice none 0 0]) ?_ 0 _ rfl; (with_reducible repeat (first | refine blk_drewN ?_ _ | refine blk_drew ?_ | refine blk_alloc ?_ _)); exact BK8121.out⟩, ⟨by repeat (first | (with_reducible first | exact HB.out | apply below_alloc | apply pw_below_drewN | apply below_drew1 | refine below_set ?_ GE8101.out | refine below_set ?_ GE8102.out | refine below_set ?_ GE8112.out | refine below_set ?_ GE8121.out) | exact HB.out)⟩⟩
  case rest =>
    clear HC8
    try clear c1
    try clear c2
    try clear p2
    try clear c3
    try clear c4
    try clear c5
    try clear c12
    try clear c16
    try clear c17
    try clear c18
    try clear c20
    try clear c21
    try clear c23
    try clear c24
    try clear c25
    try clear c28
    try clear c28b0
    try clear c28b1
    try clear c29
    try clear c30
    try clear c31
    try clear c33
    try clear c34
    try clear c36
    try clear c37
    try clear c38
    try clear hcz13_0
    try clear hcz13_1
    try clear hcz13_2
    try clear hcz13_3
    try clear hcz13_4
    try clear hcz13_5
    try clear hcz18_0
    try clear hcz18_1
    try clear hcz18_2
    try clear hcz18_3
    try clear hcz18_4
    try clear hcz18_5
    try clear hcz20_0
    try clear hcz20_1
    try clear hcz20_2
    try clear hcz20_3
    try clear hcz20_4
    try clear hcz20_5
    try clear hcz26_0
    try clear hcz26_1
    try clear hcz26_2
    try clear hcz26_3
    try clear hcz26_4
    try clear hcz26_5
    try clear hcz32_0
    try clear hcz32_1
    try clear hcz32_2
    try clear hcz32_3
    try clear hcz32_4
    try clear hcz32_5
    try clear hcz35_0
    try clear hcz35_1
    try clear hcz35_2
    try clear hcz35_3
    try clear hcz35_4
    try clear hcz35_5
    try clear hcz39_0
    try clear hcz39_1
    try clear hcz39_2
    try clear hcz39_3
    try clear hcz39_4
    try clear hcz39_5
    try clear hfz13_0
    try clear hfz13_1
    try clear hfz13_2
    try clear hfz13_3
    try clear hfz13_4
    try clear hfz13_5
    try clear hfz18_0
    try clear hfz18_1
    try clear hfz18_2
    try clear hfz18_3
    try clear hfz18_4
    try clear hfz18_5
    try clear hfz20_0
    try clear hfz20_1
    try clear hfz20_2
    try clear hfz20_3
    try clear hfz20_4
    try clear hfz20_5
    try clear hfz26_0
    try clear hfz26_1
    try clear hfz26_2
    try clear hfz26_3
    try clear hfz26_4
    try clear hfz26_5
    try clear hfz32_0
    try clear hfz32_1
    try clear hfz32_2
    try clear hfz32_3
    try clear hfz32_4
    try clear hfz32_5
    try clear hfz35_0
    try clear hfz35_1
    try clear hfz35_2
    try clear hfz35_3
    try clear hfz35_4
    try clear hfz35_5
    try clear hfz39_0
    try clear hfz39_1
    try clear hfz39_2
    try clear hfz39_3
    try clear hfz39_4
    try clear hfz39_5
    obtain ⟨kq, x28_7, rfl, HA, HJ7, HO_8113005, HO_8122005, BK8101, BK8102, BK8112, BK8121, HB⟩ := hcut
    cases kq with
    | zero => exact absurd HA.out (by simp [plaitinglaw5_FrameLong.j0])
    | succ kj7 =>
      have H := HA.out
      clear HA
      simp only [plaitinglaw5_FrameLong.j0] at H
      by_cases c40 : x28_7 = true
      · subst c40
        have H1 : ((frame_Text.f t8104 t8105 t8106 t8107 t8108 t8109 t8113 t8114 t8115 t8116 t8117 t8118).bind fun t8122 => (if (t8122.size : Int) = (wrap64 (51 + (wrap64 (10 * (wrap64 (t8104 + (t8109.length : Int))))))) then ((plaitingref1_Whole.f kj7 t8122).bind fun t8123 => (some t8123)) else (some false))) = some r := by rw [if_pos rfl] at H; exact H
        clear H
        have H := H1
        clear H1
        replace H := Option.bind_eq_some_iff.mp H
        obtain ⟨t8122, A410, H⟩ := H
        replace H : (if (t8122.size : Int) = (wrap64 (51 + (wrap64 (10 * (wrap64 (t8104 + (t8109.length : Int))))))) then ((plaitingref1_Whole.f kj7 t8122).bind fun t8123 => (some t8123)) else (some false)) = some r := H
        have A41 := Aside0.mk A410
        clear A410
        by_cases c42 : (t8122.size : Int) = (wrap64 (51 + (wrap64 (10 * (wrap64 (t8104 + (t8109.length : Int)))))))
        rotate_left
        · rw [if_neg c42] at H
          have c42b0 : ((t8122.size : Int) == (wrap64 (51 + (wrap64 (10 * (wrap64 (t8104 + (t8109.length : Int)))))))) = false := beq_eq_false_iff_ne.mpr c42
          have c42b1 : ((t8122.size : Int) != (wrap64 (51 + (wrap64 (10 * (wrap64 (t8104 + (t8109.length : Int)))))))) = true := bne_iff_ne.mpr c42
          exact absurd ((Option.some.inj H).trans HRT.out) (by decide)
        rw [if_pos c42] at H
        have c42b0 : ((t8122.size : Int) == (wrap64 (51 + (wrap64 (10 * (wrap64 (t8104 + (t8109.length : Int)))))))) = true := beq_iff_eq.mpr c42
        have c42b1 : ((t8122.size : Int) != (wrap64 (51 + (wrap64 (10 * (wrap64 (t8104 + (t8109.length : Int)))))))) = false := bne_eq_false_iff_eq.mpr c42
        clear c42
        replace H := Option.bind_eq_some_iff.mp H
        obtain ⟨t8123, A430, H⟩ := H
        replace H : (some t8123) = some r := H
        have A43 := Aside0.mk A430
        clear A430
        obtain rfl := Option.some.inj H
        have hnb44 := NB8112_8101.out
        have hnc44 := NB8101_8112.out
        have hnb45 := NB8112_8102.out
        have hnc45 := NB8102_8112.out
        have hnb46 := NB8112_8121.out
        have hnc46 := NB8121_8112.out
        have hcz47_0 : wc.cell? ⟨gb8112, 0, none⟩ = some (.int .i64 t8104) := (blk_cell BK8112.out 0).trans rfl
        have hcz47_1 : wc.cell? ⟨gb8112, 1, none⟩ = some (.int .i64 t8105) := (blk_cell BK8112.out 1).trans rfl
        have hcz47_2 : wc.cell? ⟨gb8112, 2, none⟩ = some (.int .i64 t8106) := (blk_cell BK8112.out 2).trans rfl
        have hcz47_3 : wc.cell? ⟨gb8112, 3, none⟩ = some (.int .i64 t8107) := (blk_cell BK8112.out 3).trans rfl
        have hcz47_4 : wc.cell? ⟨gb8112, 4, none⟩ = some (.int .i64 t8108) := (blk_cell BK8112.out 4).trans rfl
        have hcz47_5 : wc.cell? ⟨gb8112, 5, none⟩ = some (.slice Ao19 t8109.length co19) := (blk_cell BK8112.out 5).trans rfl
        have hfz47_0 := blk_frozen BK8112.out 0
        have hfz47_1 := blk_frozen BK8112.out 1
        have hfz47_2 := blk_frozen BK8112.out 2
        have hfz47_3 := blk_frozen BK8112.out 3
        have hfz47_4 := blk_frozen BK8112.out 4
        have hfz47_5 := blk_frozen BK8112.out 5
        have hnb48 := NB8121_8101.out
        have hnc48 := NB8101_8121.out
        have hnb49 := NB8121_8102.out
        have hnc49 := NB8102_8121.out
        have hcz50_0 : wc.cell? ⟨gb8121, 0, none⟩ = some (.int .i64 t8113) := (blk_cell BK8121.out 0).trans rfl
        have hcz50_1 : wc.cell? ⟨gb8121, 1, none⟩ = some (.int .i64 t8114) := (blk_cell BK8121.out 1).trans rfl
        have hcz50_2 : wc.cell? ⟨gb8121, 2, none⟩ = some (.int .i64 t8115) := (blk_cell BK8121.out 2).trans rfl
        have hcz50_3 : wc.cell? ⟨gb8121, 3, none⟩ = some (.int .i64 t8116) := (blk_cell BK8121.out 3).trans rfl
        have hcz50_4 : wc.cell? ⟨gb8121, 4, none⟩ = some (.int .i64 t8117) := (blk_cell BK8121.out 4).trans rfl
        have hcz50_5 : wc.cell? ⟨gb8121, 5, none⟩ = some (.slice Ao27 t8118.length co27) := (blk_cell BK8121.out 5).trans rfl
        have hfz50_0 := blk_frozen BK8121.out 0
        have hfz50_1 := blk_frozen BK8121.out 1
        have hfz50_2 := blk_frozen BK8121.out 2
        have hfz50_3 := blk_frozen BK8121.out 3
        have hfz50_4 := blk_frozen BK8121.out 4
        have hfz50_5 := blk_frozen BK8121.out 5
        go_wp2_with (first | ((with_reducible refine gate_callee (f := 26) rfl ?_); refine goesL_ (some 40) rfl rfl Try.func26 (by kernel_rfl) rfl #[.agg #[.int .i64 t8104, .int .i64 t8105, .int .i64 t8106, .int .i64 t8107, .int .i64 t8108, .slice Ao19 t8109.length co19], .agg #[.int .i64 t8113, .int .i64 t8114, .int .i64 t8115, .int .i64 t8116, .int .i64 t8117, .slice Ao27 t8118.length co27]] rfl (by (try simp only [List.map_toArray, List.map_cons, List.map_nil]); first | done | rfl | (simp only [List.length_drop, List.length_take]; rfl)) ?_; (with_reducible refine (frame_Text.calls t8104 t8105 t8106 t8107 t8108 _ _ t8109 t8113 t8114 t8115 t8116 t8117 _ _ t8118 t8122 _ ?side1 ?side2 ?side3 ?side4 A41.out).mono ?_); (case side1 => repeat (first | exact (Kd.R_reads' HO_8113005.out).2.2 | (with_reducible refine Kd.C_alloc ?_ _) | (with_reducible refine Kd.C_drewN ?_ _) | (with_reducible refine Kd.C_drew ?_))); (case side2 => exact (Kd.R_reads' HO_8113005.out).2.1); (case side3 => repeat (first | exact (Kd.R_reads' HO_8122005.out).2.2 | (with_reducible refine Kd.C_alloc ?_ _) | (with_reducible refine Kd.C_drewN ?_ _) | (with_reducible refine Kd.C_drew ?_))); (case side4 => exact (Kd.R_reads' HO_8122005.out).2.1); rintro e w51 ⟨rfl, hb⟩; refine ⟨_, rfl, ?_⟩; replace HO_8113005 := Aside0.mk (Kd.R_below (pR_ HO_8113005.out) hb); replace HO_8122005 := Aside0.mk (Kd.R_below (pR_ HO_8122005.out) hb); replace BK8101 := Aside0.mk (blk_below (pB_ BK8101.out) hb); replace BK8102 := Aside0.mk (blk_below (pB_ BK8102.out) hb); replace BK8112 := Aside0.mk (blk_below (pB_ BK8112.out) hb); replace BK8121 := Aside0.mk (blk_below (pB_ BK8121.out) hb); replace HB := Aside0.mk (below_step (pH_ HB.out) hb); (try clear hb); (try clear hb2); (try clear hk); (try clear hi)) | (go_at_call 27; (with_reducible refine (plaitingref1_Whole.calls kj7 t8122 t8123 _ A43.out).mono ?_); rintro e w' ⟨rfl, ⟨nd, rfl⟩⟩))
        go_ret
        exact ⟨by first | rfl | (simp [errW_none, errW_some] <;> rfl) | (simp [*, errW_none, errW_some] <;> rfl), by repeat (first | (with_reducible first | exact HB.out | apply below_alloc | apply pw_below_drewN | apply below_drew1 | refine below_set ?_ GE8101.out | refine below_set ?_ GE8102.out | refine below_set ?_ GE8112.out | refine below_set ?_ GE8121.out) | exact HB.out)⟩
      replace c40 := Bool.eq_false_iff.mpr c40
      subst c40
      have H1 : ((frame_Text.f t8104 t8105 t8106 t8107 t8108 t8109 t8113 t8114 t8115 t8116 t8117 t8118).bind fun t8124 => (if (t8124.size : Int) = 51 then ((plaitingref1_Whole.f kj7 t8124).bind fun t8125 => (some t8125)) else (some false))) = some r := by rw [if_neg (show ¬ (false = true) by decide)] at H; exact H
      clear H
      have H := H1
      clear H1
      replace H := Option.bind_eq_some_iff.mp H
      obtain ⟨t8124, A520, H⟩ := H
      replace H : (if (t8124.size : Int) = 51 then ((plaitingref1_Whole.f kj7 t8124).bind fun t8125 => (some t8125)) else (some false)) = some r := H
      have A52 := Aside0.mk A520
      clear A520
      by_cases c53 : (t8124.size : Int) = 51
      rotate_left
      · rw [if_neg c53] at H
        have c53b0 : ((t8124.size : Int) == 51) = false := beq_eq_false_iff_ne.mpr c53
        have c53b1 : ((t8124.size : Int) != 51) = true := bne_iff_ne.mpr c53
        exact absurd ((Option.some.inj H).trans HRT.out) (by decide)
      rw [if_pos c53] at H
      have c53b0 : ((t8124.size : Int) == 51) = true := beq_iff_eq.mpr c53
      have c53b1 : ((t8124.size : Int) != 51) = false := bne_eq_false_iff_eq.mpr c53
      clear c53
      replace H := Option.bind_eq_some_iff.mp H
      obtain ⟨t8125, A540, H⟩ := H
      replace H : (some t8125) = some r := H
      have A54 := Aside0.mk A540
      clear A540
      obtain rfl := Option.some.inj H
      have hnb55 := NB8112_8101.out
      have hnc55 := NB8101_8112.out
      have hnb56 := NB8112_8102.out
      have hnc56 := NB8102_8112.out
      have hnb57 := NB8112_8121.out
      have hnc57 := NB8121_8112.out
      have hcz58_0 : wc.cell? ⟨gb8112, 0, none⟩ = some (.int .i64 t8104) := (blk_cell BK8112.out 0).trans rfl
      have hcz58_1 : wc.cell? ⟨gb8112, 1, none⟩ = some (.int .i64 t8105) := (blk_cell BK8112.out 1).trans rfl
      have hcz58_2 : wc.cell? ⟨gb8112, 2, none⟩ = some (.int .i64 t8106) := (blk_cell BK8112.out 2).trans rfl
      have hcz58_3 : wc.cell? ⟨gb8112, 3, none⟩ = some (.int .i64 t8107) := (blk_cell BK8112.out 3).trans rfl
      have hcz58_4 : wc.cell? ⟨gb8112, 4, none⟩ = some (.int .i64 t8108) := (blk_cell BK8112.out 4).trans rfl
      have hcz58_5 : wc.cell? ⟨gb8112, 5, none⟩ = some (.slice Ao19 t8109.length co19) := (blk_cell BK8112.out 5).trans rfl
      have hfz58_0 := blk_frozen BK8112.out 0
      have hfz58_1 := blk_frozen BK8112.out 1
      have hfz58_2 := blk_frozen BK8112.out 2
      have hfz58_3 := blk_frozen BK8112.out 3
      have hfz58_4 := blk_frozen BK8112.out 4
      have hfz58_5 := blk_frozen BK8112.out 5
      have hnb59 := NB8121_8101.out
      have hnc59 := NB8101_8121.out
      have hnb60 := NB8121_8102.out
      have hnc60 := NB8102_8121.out
      have hcz61_0 : wc.cell? ⟨gb8121, 0, none⟩ = some (.int .i64 t8113) := (blk_cell BK8121.out 0).trans rfl
      have hcz61_1 : wc.cell? ⟨gb8121, 1, none⟩ = some (.int .i64 t8114) := (blk_cell BK8121.out 1).trans rfl
      have hcz61_2 : wc.cell? ⟨gb8121, 2, none⟩ = some (.int .i64 t8115) := (blk_cell BK8121.out 2).trans rfl
      have hcz61_3 : wc.cell? ⟨gb8121, 3, none⟩ = some (.int .i64 t8116) := (blk_cell BK8121.out 3).trans rfl
      have hcz61_4 : wc.cell? ⟨gb8121, 4, none⟩ = some (.int .i64 t8117) := (blk_cell BK8121.out 4).trans rfl
      have hcz61_5 : wc.cell? ⟨gb8121, 5, none⟩ = some (.slice Ao27 t8118.length co27) := (blk_cell BK8121.out 5).trans rfl
      have hfz61_0 := blk_frozen BK8121.out 0
      have hfz61_1 := blk_frozen BK8121.out 1
      have hfz61_2 := blk_frozen BK8121.out 2
      have hfz61_3 := blk_frozen BK8121.out 3
      have hfz61_4 := blk_frozen BK8121.out 4
      have hfz61_5 := blk_frozen BK8121.out 5
      go_wp2_with (first | ((with_reducible refine gate_callee (f := 26) rfl ?_); refine goesL_ (some 40) rfl rfl Try.func26 (by kernel_rfl) rfl #[.agg #[.int .i64 t8104, .int .i64 t8105, .int .i64 t8106, .int .i64 t8107, .int .i64 t8108, .slice Ao19 t8109.length co19], .agg #[.int .i64 t8113, .int .i64 t8114, .int .i64 t8115, .int .i64 t8116, .int .i64 t8117, .slice Ao27 t8118.length co27]] rfl (by (try simp only [List.map_toArray, List.map_cons, List.map_nil]); first | done | rfl | (simp only [List.length_drop, List.length_take]; rfl)) ?_; (with_reducible refine (frame_Text.calls t8104 t8105 t8106 t8107 t8108 _ _ t8109 t8113 t8114 t8115 t8116 t8117 _ _ t8118 t8124 _ ?side1 ?side2 ?side3 ?side4 A52.out).mono ?_); (case side1 => repeat (first | exact (Kd.R_reads' HO_8113005.out).2.2 | (with_reducible refine Kd.C_alloc ?_ _) | (with_reducible refine Kd.C_drewN ?_ _) | (with_reducible refine Kd.C_drew ?_))); (case side2 => exact (Kd.R_reads' HO_8113005.out).2.1); (case side3 => repeat (first | exact (Kd.R_reads' HO_8122005.out).2.2 | (with_reducible refine Kd.C_alloc ?_ _) | (with_reducible refine Kd.C_drewN ?_ _) | (with_reducible refine Kd.C_drew ?_))); (case side4 => exact (Kd.R_reads' HO_8122005.out).2.1); rintro e w62 ⟨rfl, hb⟩; refine ⟨_, rfl, ?_⟩; replace HO_8113005 := Aside0.mk (Kd.R_below (pR_ HO_8113005.out) hb); replace HO_8122005 := Aside0.mk (Kd.R_below (pR_ HO_8122005.out) hb); replace BK8101 := Aside0.mk (blk_below (pB_ BK8101.out) hb); replace BK8102 := Aside0.mk (blk_below (pB_ BK8102.out) hb); replace BK8112 := Aside0.mk (blk_below (pB_ BK8112.out) hb); replace BK8121 := Aside0.mk (blk_below (pB_ BK8121.out) hb); replace HB := Aside0.mk (below_step (pH_ HB.out) hb); (try clear hb); (try clear hb2); (try clear hk); (try clear hi)) | (go_at_call 27; (with_reducible refine (plaitingref1_Whole.calls kj7 t8124 t8125 _ A54.out).mono ?_); rintro e w' ⟨rfl, ⟨nd, rfl⟩⟩))
      go_ret
      exact ⟨by first | rfl | (simp [errW_none, errW_some] <;> rfl) | (simp [*, errW_none, errW_some] <;> rfl), by repeat (first | (with_reducible first | exact HB.out | apply below_alloc | apply pw_below_drewN | apply below_drew1 | refine below_set ?_ GE8101.out | refine below_set ?_ GE8102.out | refine below_set ?_ GE8112.out | refine below_set ?_ GE8121.out) | exact HB.out)⟩
def plaitinglaw5_FrameLong.Pure : Prop := ∀ (a0_0 : Int) (a0_1 : Int) (a0_2 : Int) (a0_3 : Int) (a0_4 : Int) (l0_5 : List Int) (a1_0 : Int) (a1_1 : Int) (a1_2 : Int) (a1_3 : Int) (a1_4 : Int) (l1_5 : List (S26)) (l2 : List Int), ((Lit.int .i64 a0_0).wf = true) → ((Lit.int .i64 a0_1).wf = true) → ((Lit.int .i64 a0_2).wf = true) → ((Lit.int .i64 a0_3).wf = true) → ((Lit.int .i64 a0_4).wf = true) → (l0_5.length ≤ maxLen ∧ ∀ y_ ∈ l0_5, (Lit.int .i64 y_).wf = true) → ((Lit.int .i64 a1_0).wf = true) → ((Lit.int .i64 a1_1).wf = true) → ((Lit.int .i64 a1_2).wf = true) → ((Lit.int .i64 a1_3).wf = true) → ((Lit.int .i64 a1_4).wf = true) → (l1_5.length ≤ maxLen ∧ ∀ y_ ∈ l1_5, ok26 y_) → (l2.length ≤ maxLen) → (l2.length * 8 ≤ 140737488351232) → (∀ y_ ∈ l2, (Lit.int .i64 y_).wf = true) → ∃ k, plaitinglaw5_FrameLong.f k a0_0 a0_1 a0_2 a0_3 a0_4 l0_5 a1_0 a1_1 a1_2 a1_3 a1_4 l1_5 l2 = some true
theorem plaitinglaw5_FrameLong.walk (P : plaitinglaw5_FrameLong.Pure) (a0_0 : Int) (a0_1 : Int) (a0_2 : Int) (a0_3 : Int) (a0_4 : Int) (A0_5 : Option Addr) (c0_5 : Nat) (l0_5 : List Int) (a1_0 : Int) (a1_1 : Int) (a1_2 : Int) (a1_3 : Int) (a1_4 : Int) (A1_5 : Option Addr) (c1_5 : Nat) (l1_5 : List (S26)) (A2 : Option Addr) (c2 : Nat) (l2 : List Int) (w : World) (q0 : (Lit.int .i64 a0_0).wf = true) (q1 : (Lit.int .i64 a0_1).wf = true) (q2 : (Lit.int .i64 a0_2).wf = true) (q3 : (Lit.int .i64 a0_3).wf = true) (q4 : (Lit.int .i64 a0_4).wf = true) (q5 : l0_5.length ≤ maxLen ∧ ∀ y_ ∈ l0_5, (Lit.int .i64 y_).wf = true) (q6 : (Lit.int .i64 a1_0).wf = true) (q7 : (Lit.int .i64 a1_1).wf = true) (q8 : (Lit.int .i64 a1_2).wf = true) (q9 : (Lit.int .i64 a1_3).wf = true) (q10 : (Lit.int .i64 a1_4).wf = true) (q11 : l1_5.length ≤ maxLen ∧ ∀ y_ ∈ l1_5, ok26 y_) (q12 : l2.length ≤ maxLen) (q13 : l2.length * 8 ≤ 140737488351232) (q14 : ∀ y_ ∈ l2, (Lit.int .i64 y_).wf = true) (hr0_5 : Kd.C (Kd.int .i64) w A0_5 l0_5.length l0_5) (hc0_5 : l0_5.length ≤ c0_5) (hr1_5 : Kd.C k26 w A1_5 l1_5.length l1_5) (hc1_5 : l1_5.length ≤ c1_5) (hr2 : Kd.C (Kd.int .i64) w A2 l2.length l2) (hc2 : l2.length ≤ c2) :
    Calls Try.prog 4 #[.agg #[.int .i64 a0_0, .int .i64 a0_1, .int .i64 a0_2, .int .i64 a0_3, .int .i64 a0_4, .slice A0_5 l0_5.length c0_5], .agg #[.int .i64 a1_0, .int .i64 a1_1, .int .i64 a1_2, .int .i64 a1_3, .int .i64 a1_4, .slice A1_5 l1_5.length c1_5], .slice A2 l2.length c2] w fun e w' => e = .returned (.bool true) ∧ Below w.heap.size w w' := by
  obtain ⟨k, h⟩ := P a0_0 a0_1 a0_2 a0_3 a0_4 l0_5 a1_0 a1_1 a1_2 a1_3 a1_4 l1_5 l2 q0 q1 q2 q3 q4 q5 q6 q7 q8 q9 q10 q11 q12 q13 q14
  refine (plaitinglaw5_FrameLong.calls k a0_0 a0_1 a0_2 a0_3 a0_4 A0_5 c0_5 l0_5 a1_0 a1_1 a1_2 a1_3 a1_4 A1_5 c1_5 l1_5 A2 c2 l2 true w hr0_5 hc0_5 hr1_5 hc1_5 hr2 hc2 rfl h).mono ?_
  rintro e w' ⟨rfl, hd⟩
  exact ⟨rfl, hd⟩
end Go.Proofs.Ytcpohmfkmgcjkaa.P
