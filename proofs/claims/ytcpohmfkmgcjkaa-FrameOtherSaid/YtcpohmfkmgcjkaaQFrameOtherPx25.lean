/- Printed by a program of this session (myprint) out of the translation: the functions as plain Lean functions, and that the calls compute them. What counts is Lean's check. -/
import Derived.Test.YtcpohmfkmgcjkaaQFrameOtherOks
import Derived.Test.YtcpohmfkmgcjkaaQFrameOtherPx10
import Derived.Test.YtcpohmfkmgcjkaaQFrameOtherPx12
import Derived.Test.YtcpohmfkmgcjkaaQFrameOtherPx13
namespace Go.Proofs.Ytcpohmfkmgcjkaa.P
open Go.RowKit Go.Proofs.YtcpohmfkmgcjkaaW.PrintWords Go.Proofs.YtcpohmfkmgcjkaaW.PrintLast Go.Proofs.YtcpohmfkmgcjkaaW.PrintMore
attribute [local go_sem] max2_int min2_int max_two min_two max_three min_three max_four min_four
set_option linter.unusedVariables false
set_option linter.unusedSimpArgs false
attribute [-simp] ByteArray.size_extract ByteArray.size_append ByteArray.extract_append_extract
attribute [-go_sem] ByteArray.size_append'
theorem fo6_ {w : World} {g : Nat} {t : TypeId} {a0 a1 a2 a3 a4 a5 : Value} (h : Aside0 (w.heap[g]? = some (.cells #[a0, a1, a2, a3, a4, a5] t (0, 0)))) : w.cell? ⟨g, 0, none⟩ = some a0 ∧ w.cell? ⟨g, 1, none⟩ = some a1 ∧ w.cell? ⟨g, 2, none⟩ = some a2 ∧ w.cell? ⟨g, 3, none⟩ = some a3 ∧ w.cell? ⟨g, 4, none⟩ = some a4 ∧ w.cell? ⟨g, 5, none⟩ = some a5 :=
 ⟨bc_ h 0, bc_ h 1, bc_ h 2, bc_ h 3, bc_ h 4, bc_ h 5⟩
def plaitinglaw5_FrameOther.tail (k : Nat) (a0_0 : Int) (a0_1 : Int) (a0_2 : Int) (a0_3 : Int) (a0_4 : Int) (l0_5 : List Int) (a1_0 : Int) (a1_1 : Int) (a1_2 : Int) (a1_3 : Int) (a1_4 : Int) (l1_5 : List (S26)) (a2_0 : Int) (a2_1 : Int) (a2_2 : Int) (a2_3 : Int) (a2_4 : Int) (l2_5 : List Int) : Option (Bool) := (frame_Text.f a0_0 a0_1 a0_2 a0_3 a0_4 l0_5 a1_0 a1_1 a1_2 a1_3 a1_4 l1_5).bind fun tAe => ((frame_Read.f a2_0 a2_1 a2_2 a2_3 a2_4 l2_5 tAe).bind fun btAg => (if a1_0 = 3 then (if a1_2 < 6 then (if btAg.2.2.2.2.2.2 = 2 then ((frame_Check.f a2_0 a2_1 a2_2 a2_3 a2_4 l2_5 a1_0 a1_1 a1_2 a1_3 a1_4 l1_5).bind fun tAr => (if tAr = 2 then ((plaitingref3_Slots.f a0_0 a0_1 a0_2 a0_3 a0_4 l0_5).bind fun tAq => ((plaitingref3_Slots.f a2_0 a2_1 a2_2 a2_3 a2_4 l2_5).bind fun tAs => (if tAq = tAs then (some false) else ((plaitingref5_Same.f k a1_0 a1_1 a1_2 a1_3 a1_4 l1_5 a1_0 a1_1 a1_2 a1_3 a1_4 l1_5).bind fun tAu => (some tAu))))) else (some false))) else (some false)) else (some false)) else (some false)))
def plaitinglaw5_FrameOther.mid (k : Nat) (n pi e g f : Int) (ps : List Int) (K R S P V : Int) (E : List S26) (a3 : Int) : Option Bool := if 0 < ps.length then plaitinglaw5_FrameOther.tail k n pi e g f ps K R S P V E n pi e g f (ps.take (ps.length - 1)) else (plaitinglaw5_within.f a3 6).bind fun t => plaitinglaw5_FrameOther.tail k n pi e g f ps K R S P V E n pi e g f [t]
def plaitinglaw5_FrameOther.T11 : Bool × List (List Nat × List Nat) := (true, [([], []), ([], []), ([], []), ([1, 2], [1, 2]), ([0, 3, 3], [0, 3]), ([4], [4]), ([5], [5]), ([5], [5]), ([], []), ([8, 6, 4, 0, 1, 2, 3, 4, 5, 6, 8], [6, 8]), ([7, 9, 0, 1, 2, 3, 4, 5, 6, 7, 8, 9], [7])])
def plaitinglaw5_FrameOther.B11 : List Nat := [0, 0, 0, 6, 15, 31, 63, 63, 0, 383, 1023]
theorem plaitinglaw5_FrameOther.tab11 : rtab .any (opsOf Try.f9 11) = plaitinglaw5_FrameOther.T11 := by kernel_rfl
theorem plaitinglaw5_FrameOther.bits11 : waitsOk plaitinglaw5_FrameOther.T11.2 plaitinglaw5_FrameOther.B11 = true := by kernel_rfl
def plaitinglaw5_FrameOther.T12 : Bool × List (List Nat × List Nat) := (true, [([], []), ([0], [0]), ([1], [1]), ([2], [2]), ([3], [3]), ([4, 3], [3, 4]), ([5, 3], [3, 5]), ([3, 6], [3, 6]), ([7, 3], [7]), ([8], [8]), ([9, 8], [8, 9]), ([8, 10], [8, 10]), ([11, 8], [11]), ([12], [12]), ([12], [12]), ([13, 14, 12, 12], [12, 13, 14]), ([15, 12], [12, 15]), ([12, 16], [12, 16]), ([17, 15], [17]), ([18], [18]), ([19, 18, 18], [18, 19]), ([18], [18]), ([21, 20, 18], [18, 21]), ([20, 22, 18], [18, 20, 22]), ([18, 23], [18, 23]), ([24, 22], [24]), ([25], [25]), ([25], [25]), ([26, 27, 25, 25], [25, 26, 27]), ([25, 28], [25, 28]), ([29, 28, 0, 1, 2, 3, 4, 5, 6, 7, 8, 9, 10, 11, 12, 13, 14, 15, 16, 17, 18, 19, 20, 21, 22, 23, 24, 25, 26, 27, 28, 29], [29])])
def plaitinglaw5_FrameOther.B12 : List Nat := [0, 1, 3, 7, 15, 31, 63, 127, 255, 511, 1023, 2047, 4095, 8191, 8191, 32767, 65535, 131071, 262143, 524287, 1048575, 524287, 4194303, 8388607, 16777215, 33554431, 67108863, 67108863, 268435455, 536870911, 1073741823]
theorem plaitinglaw5_FrameOther.tab12 : rtab .any (opsOf Try.f9 12) = plaitinglaw5_FrameOther.T12 := by kernel_rfl
theorem plaitinglaw5_FrameOther.bits12 : waitsOk plaitinglaw5_FrameOther.T12.2 plaitinglaw5_FrameOther.B12 = true := by kernel_rfl
def plaitinglaw5_FrameOther.f (k : Nat) (a0_0 : Int) (a0_1 : Int) (a0_2 : Int) (a0_3 : Int) (a0_4 : Int) (l0_5 : List Int) (a1_0 : Int) (a1_1 : Int) (a1_2 : Int) (a1_3 : Int) (a1_4 : Int) (l1_5 : List (S26)) (l2 : List Int) (a3 : Int) : Option (Bool) := (plaitinglaw5_known.f).bind fun tBk => (if tBk = true then ((plaitinglaw3_Make.f k a0_0 a0_1 a0_2 a0_3 a0_4 l0_5).bind fun btAe => ((plaitinglaw5_within.f a1_2 6).bind fun tBf => ((plaitinglaw5_Make.f k btAe.1 btAe.2.1 btAe.2.2.1 btAe.2.2.2.1 btAe.2.2.2.2.1 btAe.2.2.2.2.2 2 a1_1 tBf a1_3 a1_4 l1_5 l2).bind fun btAm => (plaitinglaw5_FrameOther.mid k btAe.1 btAe.2.1 btAe.2.2.1 btAe.2.2.2.1 btAe.2.2.2.2.1 btAe.2.2.2.2.2 btAm.1 btAm.2.1 btAm.2.2.1 btAm.2.2.2.1 btAm.2.2.2.2.1 btAm.2.2.2.2.2 a3)))) else (some false))
set_option maxHeartbeats 64000000 in
set_option maxRecDepth 100000 in
theorem plaitinglaw5_FrameOther.calls (k : Nat) (a0_0 : Int) (a0_1 : Int) (a0_2 : Int) (a0_3 : Int) (a0_4 : Int) (A0_5 : Option Addr) (c0_5 : Nat) (l0_5 : List Int) (a1_0 : Int) (a1_1 : Int) (a1_2 : Int) (a1_3 : Int) (a1_4 : Int) (A1_5 : Option Addr) (c1_5 : Nat) (l1_5 : List (S26)) (A2 : Option Addr) (c2 : Nat) (l2 : List Int) (a3 : Int) (r : Bool) (w : World) (hr0_5 : Kd.C (Kd.int .i64) w A0_5 l0_5.length l0_5) (hc0_5 : l0_5.length ≤ c0_5) (hr1_5 : Kd.C k26 w A1_5 l1_5.length l1_5) (hc1_5 : l1_5.length ≤ c1_5) (hr2 : Kd.C (Kd.int .i64) w A2 l2.length l2) (hc2 : l2.length ≤ c2) (hrt : r = true) (h : plaitinglaw5_FrameOther.f k a0_0 a0_1 a0_2 a0_3 a0_4 l0_5 a1_0 a1_1 a1_2 a1_3 a1_4 l1_5 l2 a3 = some r) :
  Calls Try.prog 9 #[.agg #[.int .i64 a0_0, .int .i64 a0_1, .int .i64 a0_2, .int .i64 a0_3, .int .i64 a0_4, .slice A0_5 l0_5.length c0_5], .agg #[.int .i64 a1_0, .int .i64 a1_1, .int .i64 a1_2, .int .i64 a1_3, .int .i64 a1_4, .slice A1_5 l1_5.length c1_5], .slice A2 l2.length c2, .int .i64 a3] w fun e w' => e = .returned (.bool r) ∧ Below w.heap.size w w' := by
 have HRT := Aside0.mk hrt
 clear hrt
 have hu24 := Try.underlying24
 have hu29 := Try.underlying29
 have HR0_5 := Aside0.mk hr0_5
 have HC0_5 := Aside0.mk hc0_5
 clear hr0_5 hc0_5
 have HR1_5 := Aside0.mk hr1_5
 have HC1_5 := Aside0.mk hc1_5
 clear hr1_5 hc1_5
 have HR2 := Aside0.mk hr2
 have HC2 := Aside0.mk hc2
 clear hr2 hc2
 have HB := Aside0.mk (Below.refl w.heap.size w)
 have H : ((plaitinglaw5_known.f).bind fun tBk => (if tBk = true then ((plaitinglaw3_Make.f k a0_0 a0_1 a0_2 a0_3 a0_4 l0_5).bind fun btAe => ((plaitinglaw5_within.f a1_2 6).bind fun tBf => ((plaitinglaw5_Make.f k btAe.1 btAe.2.1 btAe.2.2.1 btAe.2.2.2.1 btAe.2.2.2.2.1 btAe.2.2.2.2.2 2 a1_1 tBf a1_3 a1_4 l1_5 l2).bind fun btAm => (plaitinglaw5_FrameOther.mid k btAe.1 btAe.2.1 btAe.2.2.1 btAe.2.2.2.1 btAe.2.2.2.2.1 btAe.2.2.2.2.2 btAm.1 btAm.2.1 btAm.2.2.1 btAm.2.2.2.1 btAm.2.2.2.2.1 btAm.2.2.2.2.2 a3)))) else (some false))) = some r := h
 clear h
 replace H := Option.bind_eq_some_iff.mp H
 obtain ⟨tBk, A50, H⟩ := H
 try dsimp only at H
 have A5 := Aside0.mk A50
 clear A50
 by_cases c6 : tBk = true
 rotate_left
 ·
  replace c6 := Bool.eq_false_iff.mpr c6
  subst c6
  have H1 : (some false) = some r := by rw [if_neg (show ¬ (false = true) by decide)] at H; exact H
  clear H
  have H := H1
  clear H1
  exact absurd ((Option.some.inj H).trans HRT.out) (by decide)
 subst c6
 have H1 : ((plaitinglaw3_Make.f k a0_0 a0_1 a0_2 a0_3 a0_4 l0_5).bind fun btAe => ((plaitinglaw5_within.f a1_2 6).bind fun tBf => ((plaitinglaw5_Make.f k btAe.1 btAe.2.1 btAe.2.2.1 btAe.2.2.2.1 btAe.2.2.2.2.1 btAe.2.2.2.2.2 2 a1_1 tBf a1_3 a1_4 l1_5 l2).bind fun btAm => (plaitinglaw5_FrameOther.mid k btAe.1 btAe.2.1 btAe.2.2.1 btAe.2.2.2.1 btAe.2.2.2.2.1 btAe.2.2.2.2.2 btAm.1 btAm.2.1 btAm.2.2.1 btAm.2.2.2.1 btAm.2.2.2.2.1 btAm.2.2.2.2.2 a3)))) = some r := by rw [if_pos rfl] at H; exact H
 clear H
 have H := H1
 clear H1
 replace H := Option.bind_eq_some_iff.mp H
 obtain ⟨⟨tAe, tAg, tAh, tAi, tAj, tAn⟩, A70, H⟩ := H
 try dsimp only at H
 have A7 := Aside0.mk A70
 clear A70
 replace H := Option.bind_eq_some_iff.mp H
 obtain ⟨tBf, A80, H⟩ := H
 try dsimp only at H
 have A8 := Aside0.mk A80
 clear A80
 replace H := Option.bind_eq_some_iff.mp H
 obtain ⟨⟨tAm, tAr, tAq, tAs, tAu, tAt⟩, A90, H⟩ := H
 try dsimp only at H
 have A9 := Aside0.mk A90
 clear A90
 have HT := Aside0.mk H
 clear H
 go_enter Try.func9, Try.ntmps9
 have TOK1 := Aside0.mk True.intro; have TOK2 := Aside0.mk True.intro; have TOK3 := Aside0.mk True.intro
 go_wp2_with (first | ((with_reducible refine gate_dst (N := 4) rfl ?_); refine be_ 4 #[.int .i64 a0_0, .int .i64 a0_1, .int .i64 a0_2, .int .i64 a0_3, .int .i64 a0_4, .slice A0_5 l0_5.length c0_5] 24 ?_; intro gbAk hg w10 hbox hb; have BKAk := Aside0.mk (hbox); have GWAk := Aside0.mk ((by rw [hg]; exact (below_size (pH_ HB.out)) : w.heap.size ≤ gbAk)); have GEAk := Aside0.mk ((by rw [hg]; exact (below_size (pH_ HB.out)) : w.heap.size ≤ gbAk)); replace HB := bs_ HB hb; clear hb hbox hg) | ((with_reducible refine gate_dst (N := 5) rfl ?_); refine be_ 5 #[.int .i64 a1_0, .int .i64 a1_1, .int .i64 a1_2, .int .i64 a1_3, .int .i64 a1_4, .slice A1_5 l1_5.length c1_5] 29 ?_; intro gbAf hg w11 hbox hb; have BKAf := Aside0.mk (hbox); have GWAf := Aside0.mk ((by rw [hg]; exact (below_size (pH_ HB.out)) : w.heap.size ≤ gbAf)); have GEAf := Aside0.mk ((by rw [hg]; exact (below_size (pH_ HB.out)) : w.heap.size ≤ gbAf)); have NBAk_Af := Aside0.mk (ltB_ hg BKAk.out); have NBAf_Ak := Aside0.mk (ltB_ hg BKAk.out).symm; replace BKAk := bb_ BKAk hb; replace HB := bs_ HB hb; clear hb hbox hg) | ((with_reducible refine gate_callee (f := 18) rfl ?_); refine gL_ 14 Try.func18 #[] ?_; (with_reducible refine (plaitinglaw5_known.calls  true _ A5.out).mono ?_); rintro e w12 ⟨rfl, hb⟩; refine ⟨_, rfl, ?_⟩; replace BKAk := bb_ BKAk hb; replace BKAf := bb_ BKAf hb; replace HB := bs_ HB hb; (try clear hb); (try clear hb2); (try clear hk); (try clear hi); have hnb13 := NBAk_Af.out; have hnc13 := NBAf_Ak.out; obtain ⟨hcz14_0, hcz14_1, hcz14_2, hcz14_3, hcz14_4, hcz14_5⟩ := c6_ BKAk; obtain ⟨hfz14_0, hfz14_1, hfz14_2, hfz14_3, hfz14_4, hfz14_5⟩ := f6_ BKAk) | ((with_reducible refine gate_callee (f := 20) rfl ?_); refine gL_ 17 Try.func20 #[.agg #[.int .i64 a0_0, .int .i64 a0_1, .int .i64 a0_2, .int .i64 a0_3, .int .i64 a0_4, .slice A0_5 l0_5.length c0_5]] ?_; (with_reducible refine (plaitinglaw3_Make.calls k a0_0 a0_1 a0_2 a0_3 a0_4 _ _ l0_5 tAe tAg tAh tAi tAj tAn _ ?side1 ?side2 A7.out).mono ?_); (case side1 => exact cC_ (Kd.C_below HR0_5.out HB.out)); (case side2 => exact HC0_5.out); rintro e w15 ⟨vBn, rfl, ho0, hb⟩; refine ⟨_, rfl, ?_⟩; have HOAz := Aside0.mk (Kd.R_lower ho0 (below_size (pH_ HB.out))); replace BKAk := bb_ BKAk hb; replace BKAf := bb_ BKAf hb; replace HB := bs_ HB hb; (try clear hb); (try clear hb2); (try clear hk); (try clear hi); (try clear ho0)) | ((with_reducible refine gate_dst (N := 9) rfl ?_); refine be_ 9 #[.int .i64 0, .int .i64 0, .int .i64 0, .int .i64 0, .int .i64 0, .slice none 0 0] 24 ?_; intro gbAb hg w16 hbox hb; have BKAb := Aside0.mk (hbox); have GWAb := Aside0.mk ((by rw [hg]; exact (below_size (pH_ HB.out)) : w.heap.size ≤ gbAb)); have GEAb := Aside0.mk ((by rw [hg]; exact (below_size (pH_ HB.out)) : w.heap.size ≤ gbAb)); have NBAk_Ab := Aside0.mk (ltB_ hg BKAk.out); have NBAb_Ak := Aside0.mk (ltB_ hg BKAk.out).symm; have NBAf_Ab := Aside0.mk (ltB_ hg BKAf.out); have NBAb_Af := Aside0.mk (ltB_ hg BKAf.out).symm; replace HOAz := Aside0.mk (Kd.R_below (pR_ HOAz.out) hb); replace BKAk := bb_ BKAk hb; replace BKAf := bb_ BKAf hb; replace HB := bs_ HB hb; clear hb hbox hg; have hnb17 := NBAb_Ak.out; have hnc17 := NBAk_Ab.out; have hnb18 := NBAb_Af.out; have hnc18 := NBAf_Ab.out; obtain ⟨hcz19_0, hcz19_1, hcz19_2, hcz19_3, hcz19_4, hcz19_5⟩ := c6_ BKAb; obtain ⟨hfz19_0, hfz19_1, hfz19_2, hfz19_3, hfz19_4, hfz19_5⟩ := f6_ BKAb; obtain ⟨Ao20, co20, eo20⟩ := Kd.R_slice HOAz.out; subst eo20) | ((with_reducible refine gate_store (t := 24) (p := 9) rfl ?_); refine store_event (t := 24) (p := 9) (v := ?vo_w21) (w1 := ((((((w16.setCell ⟨gbAb, 0, none⟩ (.int .i64 tAe)).setCell ⟨gbAb, 1, none⟩ (.int .i64 tAg)).setCell ⟨gbAb, 2, none⟩ (.int .i64 tAh)).setCell ⟨gbAb, 3, none⟩ (.int .i64 tAi)).setCell ⟨gbAb, 4, none⟩ (.int .i64 tAj)).setCell ⟨gbAb, 5, none⟩ (.slice Ao20 tAn.length co20))) ?hg ?ho ?hn ?hr ?_; (case ho => rfl); (case hg => rfl); (case hn => rfl); (case hr => first | (go_simp; done) | (go_simp; rfl)); intro w21 hw; have n0_ : Aside0 (Kd.R (Kd.int .i64) 3 w21 w.heap.size (fun _ => True) (.slice Ao20 tAn.length co20) tAn) := ⟨(by rw [hw]; exact (by (with_reducible repeat (first | apply Kd.R_alloc | apply Kd.R_drewN | apply Kd.R_drew)); exact Kd.R_mono (Kd.R_far (p := ⟨gbAb, 5, none⟩) (Kd.R_far (p := ⟨gbAb, 4, none⟩) (Kd.R_far (p := ⟨gbAb, 3, none⟩) (Kd.R_far (p := ⟨gbAb, 2, none⟩) (Kd.R_far (p := ⟨gbAb, 1, none⟩) (Kd.R_far (p := ⟨gbAb, 0, none⟩) (Kd.R_types HOAz.out BKAb.out (by decide)) (fun _ hk => hk.2) (.int .i64 tAe)) (fun _ hk => hk.2) (.int .i64 tAg)) (fun _ hk => hk.2) (.int .i64 tAh)) (fun _ hk => hk.2) (.int .i64 tAi)) (fun _ hk => hk.2) (.int .i64 tAj)) (fun _ hk => hk.2) (.slice Ao20 tAn.length co20)) (fun _ hk => trivial)))⟩; have n1_ : Aside0 (w21.heap[gbAk]? = some (.cells #[.int .i64 a0_0, .int .i64 a0_1, .int .i64 a0_2, .int .i64 a0_3, .int .i64 a0_4, .slice A0_5 l0_5.length c0_5] 24 (0, 0))) := ⟨(by rw [hw]; exact (bF_ BKAk.out NBAk_Ab.out))⟩; have n2_ : Aside0 (w21.heap[gbAf]? = some (.cells #[.int .i64 a1_0, .int .i64 a1_1, .int .i64 a1_2, .int .i64 a1_3, .int .i64 a1_4, .slice A1_5 l1_5.length c1_5] 29 (0, 0))) := ⟨(by rw [hw]; exact (bF_ BKAf.out NBAf_Ab.out))⟩; have n3_ : Aside0 (w21.heap[gbAb]? = some (.cells #[.int .i64 tAe, .int .i64 tAg, .int .i64 tAh, .int .i64 tAi, .int .i64 tAj, .slice Ao20 tAn.length co20] 24 (0, 0))) := ⟨(by rw [hw]; exact (by (with_reducible repeat (first | refine blk_drewN ?_ _ | refine blk_drew ?_ | refine blk_alloc ?_ _)); refine blk_put (cs := #[.int .i64 tAe, .int .i64 tAg, .int .i64 tAh, .int .i64 tAi, .int .i64 tAj, .slice none 0 0]) ?_ 5 _ rfl; (with_reducible repeat (first | refine blk_drewN ?_ _ | refine blk_drew ?_ | refine blk_alloc ?_ _)); refine blk_put (cs := #[.int .i64 tAe, .int .i64 tAg, .int .i64 tAh, .int .i64 tAi, .int .i64 0, .slice none 0 0]) ?_ 4 _ rfl; (with_reducible repeat (first | refine blk_drewN ?_ _ | refine blk_drew ?_ | refine blk_alloc ?_ _)); refine blk_put (cs := #[.int .i64 tAe, .int .i64 tAg, .int .i64 tAh, .int .i64 0, .int .i64 0, .slice none 0 0]) ?_ 3 _ rfl; (with_reducible repeat (first | refine blk_drewN ?_ _ | refine blk_drew ?_ | refine blk_alloc ?_ _)); refine blk_put (cs := #[.int .i64 tAe, .int .i64 tAg, .int .i64 0, .int .i64 0, .int .i64 0, .slice none 0 0]) ?_ 2 _ rfl; (with_reducible repeat (first | refine blk_drewN ?_ _ | refine blk_drew ?_ | refine blk_alloc ?_ _)); refine blk_put (cs := #[.int .i64 tAe, .int .i64 0, .int .i64 0, .int .i64 0, .int .i64 0, .slice none 0 0]) ?_ 1 _ rfl; (with_reducible repeat (first | refine blk_drewN ?_ _ | refine blk_drew ?_ | refine blk_alloc ?_ _)); refine blk_put (cs := #[.int .i64 0, .int .i64 0, .int .i64 0, .int .i64 0, .int .i64 0, .slice none 0 0]) ?_ 0 _ rfl; (with_reducible repeat (first | refine blk_drewN ?_ _ | refine blk_drew ?_ | refine blk_alloc ?_ _)); exact BKAb.out))⟩; have n4_ : Aside0 (Below w.heap.size w w21) := ⟨(by rw [hw]; exact (pH_ HB.out))⟩; clear hw; clear HOAz; clear BKAk; clear BKAf; clear BKAb; clear HB; have HOAz := n0_; have BKAk := n1_; have BKAf := n2_; have BKAb := n3_; have HB := n4_; clear n0_ n1_ n2_ n3_ n4_; obtain ⟨hcz22_0, hcz22_1, hcz22_2, hcz22_3, hcz22_4, hcz22_5⟩ := c6_ BKAf; obtain ⟨hfz22_0, hfz22_1, hfz22_2, hfz22_3, hfz22_4, hfz22_5⟩ := f6_ BKAf) | ((with_reducible refine gate_store (t := 3) (p := 18) rfl ?_); refine store_event (t := 3) (p := 18) (v := ?vo_w23) (w1 := (w21.setCell ⟨gbAf, 0, none⟩ (.int .i64 2))) ?hg ?ho ?hn ?hr ?_; (case ho => rfl); (case hg => rfl); (case hn => rfl); (case hr => first | (go_simp; done) | (go_simp; rfl)); intro w23 hw; have n0_ : Aside0 (Kd.R (Kd.int .i64) 3 w23 w.heap.size (fun _ => True) (.slice Ao20 tAn.length co20) tAn) := ⟨(by rw [hw]; exact (by (with_reducible repeat (first | apply Kd.R_alloc | apply Kd.R_drewN | apply Kd.R_drew)); exact Kd.R_mono (Kd.R_far (p := ⟨gbAf, 0, none⟩) (Kd.R_types HOAz.out BKAf.out (by decide)) (fun _ hk => hk.2) (.int .i64 2)) (fun _ hk => trivial)))⟩; have n1_ : Aside0 (w23.heap[gbAk]? = some (.cells #[.int .i64 a0_0, .int .i64 a0_1, .int .i64 a0_2, .int .i64 a0_3, .int .i64 a0_4, .slice A0_5 l0_5.length c0_5] 24 (0, 0))) := ⟨(by rw [hw]; exact (bF_ BKAk.out NBAk_Af.out))⟩; have n2_ : Aside0 (w23.heap[gbAf]? = some (.cells #[.int .i64 2, .int .i64 a1_1, .int .i64 a1_2, .int .i64 a1_3, .int .i64 a1_4, .slice A1_5 l1_5.length c1_5] 29 (0, 0))) := ⟨(by rw [hw]; exact (by (with_reducible repeat (first | refine blk_drewN ?_ _ | refine blk_drew ?_ | refine blk_alloc ?_ _)); refine blk_put (cs := #[.int .i64 a1_0, .int .i64 a1_1, .int .i64 a1_2, .int .i64 a1_3, .int .i64 a1_4, .slice A1_5 l1_5.length c1_5]) ?_ 0 _ rfl; (with_reducible repeat (first | refine blk_drewN ?_ _ | refine blk_drew ?_ | refine blk_alloc ?_ _)); exact BKAf.out))⟩; have n3_ : Aside0 (w23.heap[gbAb]? = some (.cells #[.int .i64 tAe, .int .i64 tAg, .int .i64 tAh, .int .i64 tAi, .int .i64 tAj, .slice Ao20 tAn.length co20] 24 (0, 0))) := ⟨(by rw [hw]; exact (bF_ BKAb.out NBAb_Af.out))⟩; have n4_ : Aside0 (Below w.heap.size w w23) := ⟨(by rw [hw]; exact (pH_ HB.out))⟩; clear hw; clear HOAz; clear BKAk; clear BKAf; clear BKAb; clear HB; have HOAz := n0_; have BKAk := n1_; have BKAf := n2_; have BKAb := n3_; have HB := n4_; clear n0_ n1_ n2_ n3_ n4_; obtain ⟨hcz24_0, hcz24_1, hcz24_2, hcz24_3, hcz24_4, hcz24_5⟩ := c6_ BKAf; obtain ⟨hfz24_0, hfz24_1, hfz24_2, hfz24_3, hfz24_4, hfz24_5⟩ := f6_ BKAf) | ((with_reducible refine gate_callee (f := 24) rfl ?_); refine gL_ 21 Try.func24 #[.int .i64 a1_2, .int .i64 6] ?_; (with_reducible refine (plaitinglaw5_within.calls a1_2 6 tBf _ A8.out).mono ?_); rintro e w' ⟨rfl, ⟨nd, rfl⟩⟩; refine ⟨_, rfl, ?_⟩; (try (rw [drewN_self w23]; generalize hq_ : World.drewN w23 _ = w23; have n0_ : Aside0 (Kd.R (Kd.int .i64) 3 w23 w.heap.size (fun _ => True) (.slice Ao20 tAn.length co20) tAn) := ⟨by rw [← hq_]; exact (pR_ HOAz.out)⟩; have n1_ : Aside0 (w23.heap[gbAk]? = some (.cells #[.int .i64 a0_0, .int .i64 a0_1, .int .i64 a0_2, .int .i64 a0_3, .int .i64 a0_4, .slice A0_5 l0_5.length c0_5] 24 (0, 0))) := ⟨by rw [← hq_]; exact (pB_ BKAk.out)⟩; have n2_ : Aside0 (w23.heap[gbAf]? = some (.cells #[.int .i64 2, .int .i64 a1_1, .int .i64 a1_2, .int .i64 a1_3, .int .i64 a1_4, .slice A1_5 l1_5.length c1_5] 29 (0, 0))) := ⟨by rw [← hq_]; exact (pB_ BKAf.out)⟩; have n3_ : Aside0 (w23.heap[gbAb]? = some (.cells #[.int .i64 tAe, .int .i64 tAg, .int .i64 tAh, .int .i64 tAi, .int .i64 tAj, .slice Ao20 tAn.length co20] 24 (0, 0))) := ⟨by rw [← hq_]; exact (pB_ BKAb.out)⟩; have n4_ : Aside0 (Below w.heap.size w w23) := ⟨by rw [← hq_]; exact (pH_ HB.out)⟩; clear HOAz BKAk BKAf BKAb HB hq_; have HOAz := n0_; have BKAk := n1_; have BKAf := n2_; have BKAb := n3_; have HB := n4_; clear n0_ n1_ n2_ n3_ n4_)); obtain ⟨hv0, hv1, hv2, hv3, hv4, hv5⟩ := fo6_ BKAf; have hvf := blk_frozen BKAf.out 2) | ((with_reducible refine gate_store (t := 3) (p := 22) rfl ?_); refine store_event (t := 3) (p := 22) (v := ?vo_w25) (w1 := (w23.setCell ⟨gbAf, 2, none⟩ (.int .i64 tBf))) ?hg ?ho ?hn ?hr ?_; (case ho => rfl); (case hg => rfl); (case hn => rfl); (case hr => first | (go_simp; done) | (go_simp; rfl)); intro w25 hw; have n0_ : Aside0 (Kd.R (Kd.int .i64) 3 w25 w.heap.size (fun _ => True) (.slice Ao20 tAn.length co20) tAn) := ⟨(by rw [hw]; exact (by (with_reducible repeat (first | apply Kd.R_alloc | apply Kd.R_drewN | apply Kd.R_drew)); exact Kd.R_mono (Kd.R_far (p := ⟨gbAf, 2, none⟩) (Kd.R_types HOAz.out BKAf.out (by decide)) (fun _ hk => hk.2) (.int .i64 tBf)) (fun _ hk => trivial)))⟩; have n1_ : Aside0 (w25.heap[gbAk]? = some (.cells #[.int .i64 a0_0, .int .i64 a0_1, .int .i64 a0_2, .int .i64 a0_3, .int .i64 a0_4, .slice A0_5 l0_5.length c0_5] 24 (0, 0))) := ⟨(by rw [hw]; exact (bF_ BKAk.out NBAk_Af.out))⟩; have n2_ : Aside0 (w25.heap[gbAf]? = some (.cells #[.int .i64 2, .int .i64 a1_1, .int .i64 tBf, .int .i64 a1_3, .int .i64 a1_4, .slice A1_5 l1_5.length c1_5] 29 (0, 0))) := ⟨(by rw [hw]; exact (by (with_reducible repeat (first | refine blk_drewN ?_ _ | refine blk_drew ?_ | refine blk_alloc ?_ _)); refine blk_put (cs := #[.int .i64 2, .int .i64 a1_1, .int .i64 a1_2, .int .i64 a1_3, .int .i64 a1_4, .slice A1_5 l1_5.length c1_5]) ?_ 2 _ rfl; (with_reducible repeat (first | refine blk_drewN ?_ _ | refine blk_drew ?_ | refine blk_alloc ?_ _)); exact BKAf.out))⟩; have n3_ : Aside0 (w25.heap[gbAb]? = some (.cells #[.int .i64 tAe, .int .i64 tAg, .int .i64 tAh, .int .i64 tAi, .int .i64 tAj, .slice Ao20 tAn.length co20] 24 (0, 0))) := ⟨(by rw [hw]; exact (bF_ BKAb.out NBAb_Af.out))⟩; have n4_ : Aside0 (Below w.heap.size w w25) := ⟨(by rw [hw]; exact (pH_ HB.out))⟩; clear hw; clear HOAz; clear BKAk; clear BKAf; clear BKAb; clear HB; have HOAz := n0_; have BKAk := n1_; have BKAf := n2_; have BKAb := n3_; have HB := n4_; clear n0_ n1_ n2_ n3_ n4_; obtain ⟨hcz26_0, hcz26_1, hcz26_2, hcz26_3, hcz26_4, hcz26_5⟩ := c6_ BKAb; obtain ⟨hfz26_0, hfz26_1, hfz26_2, hfz26_3, hfz26_4, hfz26_5⟩ := f6_ BKAb; obtain ⟨hcz27_0, hcz27_1, hcz27_2, hcz27_3, hcz27_4, hcz27_5⟩ := c6_ BKAf; obtain ⟨hfz27_0, hfz27_1, hfz27_2, hfz27_3, hfz27_4, hfz27_5⟩ := f6_ BKAf) | ((with_reducible refine gate_callee (f := 21) rfl ?_); refine gL_ 26 Try.func21 #[.agg #[.int .i64 tAe, .int .i64 tAg, .int .i64 tAh, .int .i64 tAi, .int .i64 tAj, .slice Ao20 tAn.length co20], .agg #[.int .i64 2, .int .i64 a1_1, .int .i64 tBf, .int .i64 a1_3, .int .i64 a1_4, .slice A1_5 l1_5.length c1_5], .slice A2 l2.length c2] ?_; (with_reducible refine (plaitinglaw5_Make.calls k tAe tAg tAh tAi tAj _ _ tAn 2 a1_1 tBf a1_3 a1_4 _ _ l1_5 _ _ l2 tAm tAr tAq tAs tAu tAt _ ?side1 ?side2 ?side3 ?side4 ?side5 ?side6 A9.out).mono ?_); (case side1 => exact cC_ (Kd.R_reads' HOAz.out).2.2); (case side2 => exact (Kd.R_reads' HOAz.out).2.1); (case side3 => exact cC_ (Kd.C_below HR1_5.out HB.out)); (case side4 => exact HC1_5.out); (case side5 => exact cC_ (Kd.C_below HR2.out HB.out)); (case side6 => exact HC2.out); rintro e w28 ⟨vBp, rfl, ho0, hb⟩; refine ⟨_, rfl, ?_⟩; have HOBg := Aside0.mk (Kd.R_lower ho0 (below_size (pH_ HB.out))); replace HOAz := Aside0.mk (Kd.R_below (pR_ HOAz.out) hb); replace BKAk := bb_ BKAk hb; replace BKAf := bb_ BKAf hb; replace BKAb := bb_ BKAb hb; replace HB := bs_ HB hb; (try clear hb); (try clear hb2); (try clear hk); (try clear hi); (try clear ho0)) | ((with_reducible refine gate_dst (N := 10) rfl ?_); refine be_ 10 #[.int .i64 0, .int .i64 0, .int .i64 0, .int .i64 0, .int .i64 0, .slice none 0 0] 29 ?_; intro gbAd hg w29 hbox hb; have BKAd := Aside0.mk (hbox); have GWAd := Aside0.mk ((by rw [hg]; exact (below_size (pH_ HB.out)) : w.heap.size ≤ gbAd)); have GEAd := Aside0.mk ((by rw [hg]; exact (below_size (pH_ HB.out)) : w.heap.size ≤ gbAd)); have NBAk_Ad := Aside0.mk (ltB_ hg BKAk.out); have NBAd_Ak := Aside0.mk (ltB_ hg BKAk.out).symm; have NBAf_Ad := Aside0.mk (ltB_ hg BKAf.out); have NBAd_Af := Aside0.mk (ltB_ hg BKAf.out).symm; have NBAb_Ad := Aside0.mk (ltB_ hg BKAb.out); have NBAd_Ab := Aside0.mk (ltB_ hg BKAb.out).symm; replace HOAz := Aside0.mk (Kd.R_below (pR_ HOAz.out) hb); replace HOBg := Aside0.mk (Kd.R_below (pR_ HOBg.out) hb); replace BKAk := bb_ BKAk hb; replace BKAf := bb_ BKAf hb; replace BKAb := bb_ BKAb hb; replace HB := bs_ HB hb; clear hb hbox hg; have hnb30 := NBAd_Ak.out; have hnc30 := NBAk_Ad.out; have hnb31 := NBAd_Af.out; have hnc31 := NBAf_Ad.out; have hnb32 := NBAd_Ab.out; have hnc32 := NBAb_Ad.out; obtain ⟨hcz33_0, hcz33_1, hcz33_2, hcz33_3, hcz33_4, hcz33_5⟩ := c6_ BKAd; obtain ⟨hfz33_0, hfz33_1, hfz33_2, hfz33_3, hfz33_4, hfz33_5⟩ := f6_ BKAd; obtain ⟨Ao34, co34, eo34⟩ := Kd.R_slice HOBg.out; subst eo34) | ((with_reducible refine gate_store (t := 29) (p := 10) rfl ?_); refine store_event (t := 29) (p := 10) (v := ?vo_w35) (w1 := ((((((w29.setCell ⟨gbAd, 0, none⟩ (.int .i64 tAm)).setCell ⟨gbAd, 1, none⟩ (.int .i64 tAr)).setCell ⟨gbAd, 2, none⟩ (.int .i64 tAq)).setCell ⟨gbAd, 3, none⟩ (.int .i64 tAs)).setCell ⟨gbAd, 4, none⟩ (.int .i64 tAu)).setCell ⟨gbAd, 5, none⟩ (.slice Ao34 tAt.length co34))) ?hg ?ho ?hn ?hr ?_; (case ho => rfl); (case hg => rfl); (case hn => rfl); (case hr => first | (go_simp; done) | (go_simp; rfl)); intro w35 hw; have n0_ : Aside0 (Kd.R (Kd.int .i64) 3 w35 w.heap.size (fun _ => True) (.slice Ao20 tAn.length co20) tAn) := ⟨(by rw [hw]; exact (by (with_reducible repeat (first | apply Kd.R_alloc | apply Kd.R_drewN | apply Kd.R_drew)); exact Kd.R_mono (Kd.R_far (p := ⟨gbAd, 5, none⟩) (Kd.R_far (p := ⟨gbAd, 4, none⟩) (Kd.R_far (p := ⟨gbAd, 3, none⟩) (Kd.R_far (p := ⟨gbAd, 2, none⟩) (Kd.R_far (p := ⟨gbAd, 1, none⟩) (Kd.R_far (p := ⟨gbAd, 0, none⟩) (Kd.R_types HOAz.out BKAd.out (by decide)) (fun _ hk => hk.2) (.int .i64 tAm)) (fun _ hk => hk.2) (.int .i64 tAr)) (fun _ hk => hk.2) (.int .i64 tAq)) (fun _ hk => hk.2) (.int .i64 tAs)) (fun _ hk => hk.2) (.int .i64 tAu)) (fun _ hk => hk.2) (.slice Ao34 tAt.length co34)) (fun _ hk => trivial)))⟩; have n1_ : Aside0 (Kd.R k26 26 w35 w.heap.size (fun _ => True) (.slice Ao34 tAt.length co34) tAt) := ⟨(by rw [hw]; exact (by (with_reducible repeat (first | apply Kd.R_alloc | apply Kd.R_drewN | apply Kd.R_drew)); exact Kd.R_mono (Kd.R_far (p := ⟨gbAd, 5, none⟩) (Kd.R_far (p := ⟨gbAd, 4, none⟩) (Kd.R_far (p := ⟨gbAd, 3, none⟩) (Kd.R_far (p := ⟨gbAd, 2, none⟩) (Kd.R_far (p := ⟨gbAd, 1, none⟩) (Kd.R_far (p := ⟨gbAd, 0, none⟩) (Kd.R_types HOBg.out BKAd.out (by decide)) (fun _ hk => hk.2) (.int .i64 tAm)) (fun _ hk => hk.2) (.int .i64 tAr)) (fun _ hk => hk.2) (.int .i64 tAq)) (fun _ hk => hk.2) (.int .i64 tAs)) (fun _ hk => hk.2) (.int .i64 tAu)) (fun _ hk => hk.2) (.slice Ao34 tAt.length co34)) (fun _ hk => trivial)))⟩; have n2_ : Aside0 (w35.heap[gbAk]? = some (.cells #[.int .i64 a0_0, .int .i64 a0_1, .int .i64 a0_2, .int .i64 a0_3, .int .i64 a0_4, .slice A0_5 l0_5.length c0_5] 24 (0, 0))) := ⟨(by rw [hw]; exact (bF_ BKAk.out NBAk_Ad.out))⟩; have n3_ : Aside0 (w35.heap[gbAf]? = some (.cells #[.int .i64 2, .int .i64 a1_1, .int .i64 tBf, .int .i64 a1_3, .int .i64 a1_4, .slice A1_5 l1_5.length c1_5] 29 (0, 0))) := ⟨(by rw [hw]; exact (bF_ BKAf.out NBAf_Ad.out))⟩; have n4_ : Aside0 (w35.heap[gbAb]? = some (.cells #[.int .i64 tAe, .int .i64 tAg, .int .i64 tAh, .int .i64 tAi, .int .i64 tAj, .slice Ao20 tAn.length co20] 24 (0, 0))) := ⟨(by rw [hw]; exact (bF_ BKAb.out NBAb_Ad.out))⟩; have n5_ : Aside0 (w35.heap[gbAd]? = some (.cells #[.int .i64 tAm, .int .i64 tAr, .int .i64 tAq, .int .i64 tAs, .int .i64 tAu, .slice Ao34 tAt.length co34] 29 (0, 0))) := ⟨(by rw [hw]; exact (by (with_reducible repeat (first | refine blk_drewN ?_ _ | refine blk_drew ?_ | refine blk_alloc ?_ _)); refine blk_put (cs := #[.int .i64 tAm, .int .i64 tAr, .int .i64 tAq, .int .i64 tAs, .int .i64 tAu, .slice none 0 0]) ?_ 5 _ rfl; (with_reducible repeat (first | refine blk_drewN ?_ _ | refine blk_drew ?_ | refine blk_alloc ?_ _)); refine blk_put (cs := #[.int .i64 tAm, .int .i64 tAr, .int .i64 tAq, .int .i64 tAs, .int .i64 0, .slice none 0 0]) ?_ 4 _ rfl; (with_reducible repeat (first | refine blk_drewN ?_ _ | refine blk_drew ?_ | refine blk_alloc ?_ _)); refine blk_put (cs := #[.int .i64 tAm, .int .i64 tAr, .int .i64 tAq, .int .i64 0, .int .i64 0, .slice none 0 0]) ?_ 3 _ rfl; (with_reducible repeat (first | refine blk_drewN ?_ _ | refine blk_drew ?_ | refine blk_alloc ?_ _)); refine blk_put (cs := #[.int .i64 tAm, .int .i64 tAr, .int .i64 0, .int .i64 0, .int .i64 0, .slice none 0 0]) ?_ 2 _ rfl; (with_reducible repeat (first | refine blk_drewN ?_ _ | refine blk_drew ?_ | refine blk_alloc ?_ _)); refine blk_put (cs := #[.int .i64 tAm, .int .i64 0, .int .i64 0, .int .i64 0, .int .i64 0, .slice none 0 0]) ?_ 1 _ rfl; (with_reducible repeat (first | refine blk_drewN ?_ _ | refine blk_drew ?_ | refine blk_alloc ?_ _)); refine blk_put (cs := #[.int .i64 0, .int .i64 0, .int .i64 0, .int .i64 0, .int .i64 0, .slice none 0 0]) ?_ 0 _ rfl; (with_reducible repeat (first | refine blk_drewN ?_ _ | refine blk_drew ?_ | refine blk_alloc ?_ _)); exact BKAd.out))⟩; have n6_ : Aside0 (Below w.heap.size w w35) := ⟨(by rw [hw]; exact (pH_ HB.out))⟩; clear hw; clear HOAz; clear HOBg; clear BKAk; clear BKAf; clear BKAb; clear BKAd; clear HB; have HOAz := n0_; have HOBg := n1_; have BKAk := n2_; have BKAf := n3_; have BKAb := n4_; have BKAd := n5_; have HB := n6_; clear n0_ n1_ n2_ n3_ n4_ n5_ n6_; obtain ⟨hcz36_0, hcz36_1, hcz36_2, hcz36_3, hcz36_4, hcz36_5⟩ := c6_ BKAb; obtain ⟨hfz36_0, hfz36_1, hfz36_2, hfz36_3, hfz36_4, hfz36_5⟩ := f6_ BKAb) | ((with_reducible refine gate_dst (N := 11) rfl ?_); refine be_ 11 #[.int .i64 0, .int .i64 0, .int .i64 0, .int .i64 0, .int .i64 0, .slice none 0 0] 24 ?_; intro gbAc hg w37 hbox hb; have BKAc := Aside0.mk (hbox); have GWAc := Aside0.mk ((by rw [hg]; exact (below_size (pH_ HB.out)) : w.heap.size ≤ gbAc)); have GEAc := Aside0.mk ((by rw [hg]; exact (below_size (pH_ HB.out)) : w.heap.size ≤ gbAc)); have NBAk_Ac := Aside0.mk (ltB_ hg BKAk.out); have NBAc_Ak := Aside0.mk (ltB_ hg BKAk.out).symm; have NBAf_Ac := Aside0.mk (ltB_ hg BKAf.out); have NBAc_Af := Aside0.mk (ltB_ hg BKAf.out).symm; have NBAb_Ac := Aside0.mk (ltB_ hg BKAb.out); have NBAc_Ab := Aside0.mk (ltB_ hg BKAb.out).symm; have NBAd_Ac := Aside0.mk (ltB_ hg BKAd.out); have NBAc_Ad := Aside0.mk (ltB_ hg BKAd.out).symm; replace HOAz := Aside0.mk (Kd.R_below (pR_ HOAz.out) hb); replace HOBg := Aside0.mk (Kd.R_below (pR_ HOBg.out) hb); replace BKAk := bb_ BKAk hb; replace BKAf := bb_ BKAf hb; replace BKAb := bb_ BKAb hb; replace BKAd := bb_ BKAd hb; replace HB := bs_ HB hb; clear hb hbox hg; have hnb38 := NBAc_Ak.out; have hnc38 := NBAk_Ac.out; have hnb39 := NBAc_Af.out; have hnc39 := NBAf_Ac.out; have hnb40 := NBAc_Ab.out; have hnc40 := NBAb_Ac.out; have hnb41 := NBAc_Ad.out; have hnc41 := NBAd_Ac.out; obtain ⟨hcz42_0, hcz42_1, hcz42_2, hcz42_3, hcz42_4, hcz42_5⟩ := c6_ BKAc; obtain ⟨hfz42_0, hfz42_1, hfz42_2, hfz42_3, hfz42_4, hfz42_5⟩ := f6_ BKAc) | ((with_reducible refine gate_store (t := 24) (p := 11) rfl ?_); refine store_event (t := 24) (p := 11) (v := ?vo_w43) (w1 := ((((((w37.setCell ⟨gbAc, 0, none⟩ (.int .i64 tAe)).setCell ⟨gbAc, 1, none⟩ (.int .i64 tAg)).setCell ⟨gbAc, 2, none⟩ (.int .i64 tAh)).setCell ⟨gbAc, 3, none⟩ (.int .i64 tAi)).setCell ⟨gbAc, 4, none⟩ (.int .i64 tAj)).setCell ⟨gbAc, 5, none⟩ (.slice Ao20 tAn.length co20))) ?hg ?ho ?hn ?hr ?_; (case ho => rfl); (case hg => rfl); (case hn => rfl); (case hr => first | (go_simp; done) | (go_simp; rfl)); intro w43 hw; have n0_ : Aside0 (Kd.R (Kd.int .i64) 3 w43 w.heap.size (fun _ => True) (.slice Ao20 tAn.length co20) tAn) := ⟨(by rw [hw]; exact (by (with_reducible repeat (first | apply Kd.R_alloc | apply Kd.R_drewN | apply Kd.R_drew)); exact Kd.R_mono (Kd.R_far (p := ⟨gbAc, 5, none⟩) (Kd.R_far (p := ⟨gbAc, 4, none⟩) (Kd.R_far (p := ⟨gbAc, 3, none⟩) (Kd.R_far (p := ⟨gbAc, 2, none⟩) (Kd.R_far (p := ⟨gbAc, 1, none⟩) (Kd.R_far (p := ⟨gbAc, 0, none⟩) (Kd.R_types HOAz.out BKAc.out (by decide)) (fun _ hk => hk.2) (.int .i64 tAe)) (fun _ hk => hk.2) (.int .i64 tAg)) (fun _ hk => hk.2) (.int .i64 tAh)) (fun _ hk => hk.2) (.int .i64 tAi)) (fun _ hk => hk.2) (.int .i64 tAj)) (fun _ hk => hk.2) (.slice Ao20 tAn.length co20)) (fun _ hk => trivial)))⟩; have n1_ : Aside0 (Kd.R k26 26 w43 w.heap.size (fun _ => True) (.slice Ao34 tAt.length co34) tAt) := ⟨(by rw [hw]; exact (by (with_reducible repeat (first | apply Kd.R_alloc | apply Kd.R_drewN | apply Kd.R_drew)); exact Kd.R_mono (Kd.R_far (p := ⟨gbAc, 5, none⟩) (Kd.R_far (p := ⟨gbAc, 4, none⟩) (Kd.R_far (p := ⟨gbAc, 3, none⟩) (Kd.R_far (p := ⟨gbAc, 2, none⟩) (Kd.R_far (p := ⟨gbAc, 1, none⟩) (Kd.R_far (p := ⟨gbAc, 0, none⟩) (Kd.R_types HOBg.out BKAc.out (by decide)) (fun _ hk => hk.2) (.int .i64 tAe)) (fun _ hk => hk.2) (.int .i64 tAg)) (fun _ hk => hk.2) (.int .i64 tAh)) (fun _ hk => hk.2) (.int .i64 tAi)) (fun _ hk => hk.2) (.int .i64 tAj)) (fun _ hk => hk.2) (.slice Ao20 tAn.length co20)) (fun _ hk => trivial)))⟩; have n2_ : Aside0 (w43.heap[gbAk]? = some (.cells #[.int .i64 a0_0, .int .i64 a0_1, .int .i64 a0_2, .int .i64 a0_3, .int .i64 a0_4, .slice A0_5 l0_5.length c0_5] 24 (0, 0))) := ⟨(by rw [hw]; exact (bF_ BKAk.out NBAk_Ac.out))⟩; have n3_ : Aside0 (w43.heap[gbAf]? = some (.cells #[.int .i64 2, .int .i64 a1_1, .int .i64 tBf, .int .i64 a1_3, .int .i64 a1_4, .slice A1_5 l1_5.length c1_5] 29 (0, 0))) := ⟨(by rw [hw]; exact (bF_ BKAf.out NBAf_Ac.out))⟩; have n4_ : Aside0 (w43.heap[gbAb]? = some (.cells #[.int .i64 tAe, .int .i64 tAg, .int .i64 tAh, .int .i64 tAi, .int .i64 tAj, .slice Ao20 tAn.length co20] 24 (0, 0))) := ⟨(by rw [hw]; exact (bF_ BKAb.out NBAb_Ac.out))⟩; have n5_ : Aside0 (w43.heap[gbAd]? = some (.cells #[.int .i64 tAm, .int .i64 tAr, .int .i64 tAq, .int .i64 tAs, .int .i64 tAu, .slice Ao34 tAt.length co34] 29 (0, 0))) := ⟨(by rw [hw]; exact (bF_ BKAd.out NBAd_Ac.out))⟩; have n6_ : Aside0 (w43.heap[gbAc]? = some (.cells #[.int .i64 tAe, .int .i64 tAg, .int .i64 tAh, .int .i64 tAi, .int .i64 tAj, .slice Ao20 tAn.length co20] 24 (0, 0))) := ⟨(by rw [hw]; exact (by (with_reducible repeat (first | refine blk_drewN ?_ _ | refine blk_drew ?_ | refine blk_alloc ?_ _)); refine blk_put (cs := #[.int .i64 tAe, .int .i64 tAg, .int .i64 tAh, .int .i64 tAi, .int .i64 tAj, .slice none 0 0]) ?_ 5 _ rfl; (with_reducible repeat (first | refine blk_drewN ?_ _ | refine blk_drew ?_ | refine blk_alloc ?_ _)); refine blk_put (cs := #[.int .i64 tAe, .int .i64 tAg, .int .i64 tAh, .int .i64 tAi, .int .i64 0, .slice none 0 0]) ?_ 4 _ rfl; (with_reducible repeat (first | refine blk_drewN ?_ _ | refine blk_drew ?_ | refine blk_alloc ?_ _)); refine blk_put (cs := #[.int .i64 tAe, .int .i64 tAg, .int .i64 tAh, .int .i64 0, .int .i64 0, .slice none 0 0]) ?_ 3 _ rfl; (with_reducible repeat (first | refine blk_drewN ?_ _ | refine blk_drew ?_ | refine blk_alloc ?_ _)); refine blk_put (cs := #[.int .i64 tAe, .int .i64 tAg, .int .i64 0, .int .i64 0, .int .i64 0, .slice none 0 0]) ?_ 2 _ rfl; (with_reducible repeat (first | refine blk_drewN ?_ _ | refine blk_drew ?_ | refine blk_alloc ?_ _)); refine blk_put (cs := #[.int .i64 tAe, .int .i64 0, .int .i64 0, .int .i64 0, .int .i64 0, .slice none 0 0]) ?_ 1 _ rfl; (with_reducible repeat (first | refine blk_drewN ?_ _ | refine blk_drew ?_ | refine blk_alloc ?_ _)); refine blk_put (cs := #[.int .i64 0, .int .i64 0, .int .i64 0, .int .i64 0, .int .i64 0, .slice none 0 0]) ?_ 0 _ rfl; (with_reducible repeat (first | refine blk_drewN ?_ _ | refine blk_drew ?_ | refine blk_alloc ?_ _)); exact BKAc.out))⟩; have n7_ : Aside0 (Below w.heap.size w w43) := ⟨(by rw [hw]; exact (pH_ HB.out))⟩; clear hw; clear HOAz; clear HOBg; clear BKAk; clear BKAf; clear BKAb; clear BKAd; clear BKAc; clear HB; have HOAz := n0_; have HOBg := n1_; have BKAk := n2_; have BKAf := n3_; have BKAb := n4_; have BKAd := n5_; have BKAc := n6_; have HB := n7_; clear n0_ n1_ n2_ n3_ n4_ n5_ n6_ n7_) | ((with_reducible refine gate_dst (N := 23) rfl ?_); clear TOK1; obtain ⟨hlBq, hlBr, hlBs, hlBt, hlBu, hlBv⟩ := fo6_ BKAb; obtain ⟨hlBw, hlBx, hlBy, hlBz, hlCa, hlCb⟩ := fo6_ BKAf) | ((with_reducible refine gate_dst (N := 27) rfl ?_); clear TOK2; obtain ⟨hlCc, hlCd, hlCe, hlCf, hlCg, hlCh⟩ := fo6_ BKAb) | ((with_reducible refine gate_dst (N := 28) rfl ?_); clear TOK3; refine Aside0.out ?_))
 refine Aside0.mk ?_
 have HRd := HOAz; have HRg := HOBg; have hHC := Aside0.mk (Kd.R_reads' HOAz.out).2.1; have hHL := Aside0.mk (Kd.R_reads' HOAz.out).2.2.2.1
 have he5 : w43.cell? ⟨gbAc, 5, none⟩ = some (.slice Ao20 tAn.length co20) := bc_ BKAc 5; have hf5 := blk_frozen BKAc.out 5
 have H := HT.out
 unfold plaitinglaw5_FrameOther.mid at H
 by_cases hl : 0 < tAn.length
 ·
  rw [if_pos hl] at H
  have hlz : decide ((tAn.length : Int) > 0) = true := decide_eq_true (by omega)
  have hwr : wrap64 ((tAn.length : Int) - 1) = ((tAn.length - 1 : Nat) : Int) := by have := hHL.out; rw [w64 (by omega) (by omega)]; omega
  have hcap : tAn.length - 1 ≤ co20 := by have := hHC.out; omega
  go_wp2_with fail
  obtain ⟨ps, hps⟩ : ∃ ps, ps = tAn.take (tAn.length - 1) := ⟨_, rfl⟩
  have hpl : tAn.length - 1 = ps.length := by rw [hps, List.length_take]; omega
  rw [← hps] at H
  have hpt : tAn.take ps.length = ps := by rw [← hpl]; exact hps.symm
  rw [hpl]
  have BE := Aside0.mk (show (w43.setCell ⟨gbAc, 5, none⟩ (.slice Ao20 ps.length co20)).heap[gbAc]? = some (.cells #[.int .i64 tAe, .int .i64 tAg, .int .i64 tAh, .int .i64 tAi, .int .i64 tAj, .slice Ao20 ps.length co20] 24 (0, 0)) from blk_put BKAc.out 5 _ rfl)
  have BD := Aside0.mk (show (w43.setCell ⟨gbAc, 5, none⟩ (.slice Ao20 ps.length co20)).heap[gbAb]? = _ from blk_far BKAb.out NBAb_Ac.out _); have BG := Aside0.mk (show (w43.setCell ⟨gbAc, 5, none⟩ (.slice Ao20 ps.length co20)).heap[gbAd]? = _ from blk_far BKAd.out NBAd_Ac.out _)
  have RD := Aside0.mk (show Kd.R (Kd.int .i64) 3 (w43.setCell ⟨gbAc, 5, none⟩ (.slice Ao20 ps.length co20)) _ _ _ _ from Kd.R_set HRd.out BKAc.out (by decide) 5 _); have RG := Aside0.mk (show Kd.R k26 26 (w43.setCell ⟨gbAc, 5, none⟩ (.slice Ao20 ps.length co20)) _ _ _ _ from Kd.R_set HRg.out BKAc.out (by decide) 5 _)
  have RE := Aside0.mk (show Kd.R (Kd.int .i64) 3 (w43.setCell ⟨gbAc, 5, none⟩ (.slice Ao20 ps.length co20)) _ _ (.slice Ao20 ps.length co20) ps from by have := Kd.R_take RD.out (m := ps.length) (by omega); rwa [hpt] at this)
  have HBW := Aside0.mk (show Below w.heap.size w (w43.setCell ⟨gbAc, 5, none⟩ (.slice Ao20 ps.length co20)) from below_set HB.out GEAc.out)
  generalize (w43.setCell ⟨gbAc, 5, none⟩ (.slice Ao20 ps.length co20)) = wB at BE BD BG RD RG RE HBW ⊢
  clear HOAz HOBg BKAk BKAf BKAb BKAd BKAc HRd HRg he5 hf5
  have BKAb := BD; have BKAd := BG; have BKAc := BE; clear BD BG BE HB
  have HB := Aside0.mk (Below.refl wB.heap.size wB)
  have HR0_5 := Aside0.mk (Kd.R_reads' RD.out).2.2; have HC0_5 := Aside0.mk (Kd.R_reads' RD.out).2.1; have HR1_5 := Aside0.mk (Kd.R_reads' RG.out).2.2; have HC1_5 := Aside0.mk (Kd.R_reads' RG.out).2.1; have HR2_5 := Aside0.mk (Kd.R_reads' RE.out).2.2; have HC2_5 := Aside0.mk (Kd.R_reads' RE.out).2.1
  clear hps hpt hpl hwr hcap hlz hl hHC hHL RD RG RE
  replace H := Option.bind_eq_some_iff.mp H
  obtain ⟨tBd, A40, H⟩ := H
  try dsimp only at H
  have A4 := Aside0.mk A40
  clear A40
  replace H := Option.bind_eq_some_iff.mp H
  obtain ⟨⟨tAv, tAw, tAx, tAy, tBa, tBb, tBc⟩, A50, H⟩ := H
  try dsimp only at H
  have A5 := Aside0.mk A50
  clear A50
  by_cases c6 : tAm = 3
  rotate_left
  ·
   rw [if_neg c6] at H
   have c6b0 : (tAm == 3) = false := beq_eq_false_iff_ne.mpr c6
   have c6b1 : (tAm != 3) = true := bne_iff_ne.mpr c6
   exact absurd ((Option.some.inj H).trans HRT.out) (by decide)
  rw [if_pos c6] at H
  have c6b0 : (tAm == 3) = true := beq_iff_eq.mpr c6
  have c6b1 : (tAm != 3) = false := bne_eq_false_iff_eq.mpr c6
  clear c6
  by_cases c7 : tAq < 6
  rotate_left
  ·
   rw [if_neg c7] at H
   have c7b0 : decide (tAq < 6) = false := decide_eq_false c7
   clear c7
   exact absurd ((Option.some.inj H).trans HRT.out) (by decide)
  rw [if_pos c7] at H
  have c7b0 : decide (tAq < 6) = true := decide_eq_true c7
  clear c7
  by_cases c8 : tBc = 2
  rotate_left
  ·
   rw [if_neg c8] at H
   have c8b0 : (tBc == 2) = false := beq_eq_false_iff_ne.mpr c8
   have c8b1 : (tBc != 2) = true := bne_iff_ne.mpr c8
   exact absurd ((Option.some.inj H).trans HRT.out) (by decide)
  rw [if_pos c8] at H
  have c8b0 : (tBc == 2) = true := beq_iff_eq.mpr c8
  have c8b1 : (tBc != 2) = false := bne_eq_false_iff_eq.mpr c8
  clear c8
  replace H := Option.bind_eq_some_iff.mp H
  obtain ⟨tBh, A90, H⟩ := H
  try dsimp only at H
  have A9 := Aside0.mk A90
  clear A90
  by_cases c10 : tBh = 2
  rotate_left
  ·
   rw [if_neg c10] at H
   have c10b0 : (tBh == 2) = false := beq_eq_false_iff_ne.mpr c10
   have c10b1 : (tBh != 2) = true := bne_iff_ne.mpr c10
   exact absurd ((Option.some.inj H).trans HRT.out) (by decide)
  rw [if_pos c10] at H
  have c10b0 : (tBh == 2) = true := beq_iff_eq.mpr c10
  have c10b1 : (tBh != 2) = false := bne_eq_false_iff_eq.mpr c10
  clear c10
  replace H := Option.bind_eq_some_iff.mp H
  obtain ⟨tBi, A110, H⟩ := H
  try dsimp only at H
  have A11 := Aside0.mk A110
  clear A110
  replace H := Option.bind_eq_some_iff.mp H
  obtain ⟨tBj, A120, H⟩ := H
  try dsimp only at H
  have A12 := Aside0.mk A120
  clear A120
  by_cases c13 : tBi = tBj
  ·
   rw [if_pos c13] at H
   have c13b0 : (tBi == tBj) = true := beq_iff_eq.mpr c13
   have c13b1 : (tBi != tBj) = false := bne_eq_false_iff_eq.mpr c13
   clear c13
   exact absurd ((Option.some.inj H).trans HRT.out) (by decide)
  rw [if_neg c13] at H
  have c13b0 : (tBi == tBj) = false := beq_eq_false_iff_ne.mpr c13
  have c13b1 : (tBi != tBj) = true := bne_iff_ne.mpr c13
  replace H := Option.bind_eq_some_iff.mp H
  obtain ⟨tBm, A140, H⟩ := H
  try dsimp only at H
  have A14 := Aside0.mk A140
  clear A140
  obtain rfl := Option.some.inj H
  replace BKAb := Aside0.mk (blk_drew BKAb.out)
  replace BKAd := Aside0.mk (blk_drew BKAd.out)
  replace BKAc := Aside0.mk (blk_drew BKAc.out)
  replace HB := Aside0.mk (below_drew1 HB.out)
  refine start_ (n := 11) (S := fun w' => w'.cell? ⟨gbAc, 0, none⟩ = some (.int .i64 tAe) ∧ w'.cell? ⟨gbAc, 1, none⟩ = some (.int .i64 tAg) ∧ w'.cell? ⟨gbAc, 2, none⟩ = some (.int .i64 tAh) ∧ w'.cell? ⟨gbAc, 3, none⟩ = some (.int .i64 tAi) ∧ w'.cell? ⟨gbAc, 4, none⟩ = some (.int .i64 tAj) ∧ w'.cell? ⟨gbAc, 5, none⟩ = some (.slice Ao20 ps.length co20) ∧ w'.cell? ⟨gbAb, 0, none⟩ = some (.int .i64 tAe) ∧ w'.cell? ⟨gbAb, 1, none⟩ = some (.int .i64 tAg) ∧ w'.cell? ⟨gbAb, 2, none⟩ = some (.int .i64 tAh) ∧ w'.cell? ⟨gbAb, 3, none⟩ = some (.int .i64 tAi) ∧ w'.cell? ⟨gbAb, 4, none⟩ = some (.int .i64 tAj) ∧ w'.cell? ⟨gbAb, 5, none⟩ = some (.slice Ao20 tAn.length co20) ∧ w'.cell? ⟨gbAd, 0, none⟩ = some (.int .i64 tAm) ∧ w'.cell? ⟨gbAd, 1, none⟩ = some (.int .i64 tAr) ∧ w'.cell? ⟨gbAd, 2, none⟩ = some (.int .i64 tAq) ∧ w'.cell? ⟨gbAd, 3, none⟩ = some (.int .i64 tAs) ∧ w'.cell? ⟨gbAd, 4, none⟩ = some (.int .i64 tAu) ∧ w'.cell? ⟨gbAd, 5, none⟩ = some (.slice Ao34 tAt.length co34)) (ds := []) #[false, false, false, false, false, false, false, false, false, false, false] (by kernel_rfl) rfl rfl ⟨bc_ BKAc 0, bc_ BKAc 1, bc_ BKAc 2, bc_ BKAc 3, bc_ BKAc 4, bc_ BKAc 5, bc_ BKAb 0, bc_ BKAb 1, bc_ BKAb 2, bc_ BKAb 3, bc_ BKAb 4, bc_ BKAb 5, bc_ BKAd 0, bc_ BKAd 1, bc_ BKAd 2, bc_ BKAd 3, bc_ BKAd 4, bc_ BKAd 5⟩ (fun hHeld => ?_); refine with_tabW plaitinglaw5_FrameOther.tab11 plaitinglaw5_FrameOther.bits11 (fun HT_ HW_ => ?_)
  generalize wB.drew = w18 at BKAb BKAd BKAc HB hHeld ⊢
  refine tq_ 0 45 HT_ HW_ hHeld ?_
  refine tq_ 1 46 HT_ HW_ hHeld ?_
  refine tq_ 2 47 HT_ HW_ hHeld ?_
  refine join_ (σ := Value × Nat) 2 #[true, true, true, true, true, true, true, true, true, false, false] (fun s_ => [(48, .string tBd), (49, .tuple #[.agg #[.int .i64 tAv, .int .i64 tAw, .int .i64 tAx, .int .i64 tAy, .int .i64 tBa, s_.1], .int .i64 tBc]), (12, .pointer (some ⟨s_.2, 0, none⟩)), (44, .tuple #[.agg #[.int .i64 tAv, .int .i64 tAw, .int .i64 tAx, .int .i64 tAy, .int .i64 tBa, s_.1], .int .i64 tBc]), (50, .agg #[.int .i64 tAv, .int .i64 tAw, .int .i64 tAx, .int .i64 tAy, .int .i64 tBa, s_.1]), (51, .int .i64 tBc)]) (fun s_ w' => (w'.cell? ⟨gbAc, 0, none⟩ = some (.int .i64 tAe) ∧ w'.cell? ⟨gbAc, 1, none⟩ = some (.int .i64 tAg) ∧ w'.cell? ⟨gbAc, 2, none⟩ = some (.int .i64 tAh) ∧ w'.cell? ⟨gbAc, 3, none⟩ = some (.int .i64 tAi) ∧ w'.cell? ⟨gbAc, 4, none⟩ = some (.int .i64 tAj) ∧ w'.cell? ⟨gbAc, 5, none⟩ = some (.slice Ao20 ps.length co20) ∧ w'.cell? ⟨gbAb, 0, none⟩ = some (.int .i64 tAe) ∧ w'.cell? ⟨gbAb, 1, none⟩ = some (.int .i64 tAg) ∧ w'.cell? ⟨gbAb, 2, none⟩ = some (.int .i64 tAh) ∧ w'.cell? ⟨gbAb, 3, none⟩ = some (.int .i64 tAi) ∧ w'.cell? ⟨gbAb, 4, none⟩ = some (.int .i64 tAj) ∧ w'.cell? ⟨gbAb, 5, none⟩ = some (.slice Ao20 tAn.length co20) ∧ w'.cell? ⟨gbAd, 0, none⟩ = some (.int .i64 tAm) ∧ w'.cell? ⟨gbAd, 1, none⟩ = some (.int .i64 tAr) ∧ w'.cell? ⟨gbAd, 2, none⟩ = some (.int .i64 tAq) ∧ w'.cell? ⟨gbAd, 3, none⟩ = some (.int .i64 tAs) ∧ w'.cell? ⟨gbAd, 4, none⟩ = some (.int .i64 tAu) ∧ w'.cell? ⟨gbAd, 5, none⟩ = some (.slice Ao34 tAt.length co34)) ∧ (Kd.R k26 26 w' wB.heap.size (fun _ => True) s_.1 tBb) ∧ (w'.heap[gbAb]? = some (.cells #[.int .i64 tAe, .int .i64 tAg, .int .i64 tAh, .int .i64 tAi, .int .i64 tAj, .slice Ao20 tAn.length co20] 24 (0, 0))) ∧ (w'.heap[gbAd]? = some (.cells #[.int .i64 tAm, .int .i64 tAr, .int .i64 tAq, .int .i64 tAs, .int .i64 tAu, .slice Ao34 tAt.length co34] 29 (0, 0))) ∧ (w'.heap[gbAc]? = some (.cells #[.int .i64 tAe, .int .i64 tAg, .int .i64 tAh, .int .i64 tAi, .int .i64 tAj, .slice Ao20 ps.length co20] 24 (0, 0))) ∧ (w'.heap[s_.2]? = some (.cells #[.int .i64 0, .int .i64 0, .int .i64 0, .int .i64 0, .int .i64 0, .slice none 0 0] 29 (0, 0))) ∧ (wB.heap.size ≤ s_.2) ∧ (wB.heap.size ≤ s_.2) ∧ (gbAb ≠ s_.2) ∧ (s_.2 ≠ gbAb) ∧ (gbAd ≠ s_.2) ∧ (s_.2 ≠ gbAd) ∧ (gbAc ≠ s_.2) ∧ (s_.2 ≠ gbAc) ∧ (Below wB.heap.size wB w')) ?_ ?_
  rotate_left
  ·
   intro hCont
   refine two_ (i := 3) (j := 8) (Ni := some 48) (Nj := some 12) #[true, true, true, true, false, false, false, false, false, false, false] #[true, true, true, false, false, false, false, false, true, false, false] rfl rfl rfl rfl (two_of HT_.out (by kernel_rfl)) (by decide) (by decide) (fun K hK => ?_) (fun K hK => ?_)
   ·
    skip
    refine gs_ Try.func26 #[.agg #[.int .i64 tAe, .int .i64 tAg, .int .i64 tAh, .int .i64 tAi, .int .i64 tAj, .slice Ao20 tAn.length co20], .agg #[.int .i64 tAm, .int .i64 tAr, .int .i64 tAq, .int .i64 tAs, .int .i64 tAu, .slice Ao34 tAt.length co34]] ?_
    with_reducible refine (frame_Text.calls tAe tAg tAh tAi tAj _ _ tAn tAm tAr tAq tAs tAu _ _ tAt tBd _ ?side1 ?side2 ?side3 ?side4 A4.out).mono ?_
    (case side1 => exact cC_ (Kd.C_below HR0_5.out HB.out))
    (case side2 => exact HC0_5.out)
    (case side3 => exact cC_ (Kd.C_below HR1_5.out HB.out))
    (case side4 => exact HC1_5.out)
    rintro e w19 ⟨rfl, hb⟩
    refine ⟨_, rfl, ?_⟩
    replace BKAb := bb_ BKAb hb
    replace BKAd := bb_ BKAd hb
    replace BKAc := bb_ BKAc hb
    replace HB := bs_ HB hb
    (try clear hb)
    (try clear hb2)
    (try clear hk)
    (try clear hi)
    refine hK.out _ _ ⟨bc_ BKAc 0, bc_ BKAc 1, bc_ BKAc 2, bc_ BKAc 3, bc_ BKAc 4, bc_ BKAc 5, bc_ BKAb 0, bc_ BKAb 1, bc_ BKAb 2, bc_ BKAb 3, bc_ BKAb 4, bc_ BKAb 5, bc_ BKAd 0, bc_ BKAd 1, bc_ BKAd 2, bc_ BKAd 3, bc_ BKAd 4, bc_ BKAd 5⟩ (fun hHeld => ?_)
    clear hK K
    refine nq_ 48 ?_
    refine two_ (i := 4) (j := 8) (Ni := some 49) (Nj := some 12) #[true, true, true, true, true, false, false, false, false, false, false] #[true, true, true, true, false, false, false, false, true, false, false] rfl rfl rfl rfl (two_of HT_.out (by kernel_rfl)) (by decide) (by decide) (fun K hK => ?_) (fun K hK => ?_)
    ·
     skip
     refine gs_ Try.func35 #[.agg #[.int .i64 tAe, .int .i64 tAg, .int .i64 tAh, .int .i64 tAi, .int .i64 tAj, .slice Ao20 ps.length co20], .string tBd] ?_
     with_reducible refine (frame_Read.calls tAe tAg tAh tAi tAj _ _ ps tBd tAv tAw tAx tAy tBa tBb tBc _ ?side1 ?side2 A5.out).mono ?_
     (case side1 => exact cC_ (Kd.C_below HR2_5.out HB.out))
     (case side2 => exact HC2_5.out)
     rintro e w20 ⟨vBe, rfl, ho0, hb⟩
     refine ⟨_, rfl, ?_⟩
     have HOAp := Aside0.mk (Kd.R_lower ho0 (below_size (pH_ HB.out)))
     replace BKAb := bb_ BKAb hb
     replace BKAd := bb_ BKAd hb
     replace BKAc := bb_ BKAc hb
     replace HB := bs_ HB hb
     (try clear hb)
     (try clear hb2)
     (try clear hk)
     (try clear hi)
     (try clear ho0)
     refine hK.out _ _ ⟨bc_ BKAc 0, bc_ BKAc 1, bc_ BKAc 2, bc_ BKAc 3, bc_ BKAc 4, bc_ BKAc 5, bc_ BKAb 0, bc_ BKAb 1, bc_ BKAb 2, bc_ BKAb 3, bc_ BKAb 4, bc_ BKAb 5, bc_ BKAd 0, bc_ BKAd 1, bc_ BKAd 2, bc_ BKAd 3, bc_ BKAd 4, bc_ BKAd 5⟩ (fun hHeld => ?_)
     clear hK K
     refine nq_ 49 ?_
     refine pq_ 5 44 HT_ ?_
     refine pq_ 6 50 HT_ ?_
     refine pq_ 7 51 HT_ ?_
     refine oq_ 8 12 HT_ (fun K hK => ?_)
     refine box_step ?hg (N := 12) ?hd (cs := #[.int .i64 0, .int .i64 0, .int .i64 0, .int .i64 0, .int .i64 0, .slice none 0 0]) (t := 29) ?hr ?_; (case hd => rfl); (case hg => rfl); (case hr => first | (go_simp; done) | (go_simp; rfl))
     intro gbAa hg w21 hbox hb
     have BKAa := Aside0.mk (hbox)
     have GWAa := Aside0.mk ((by rw [hg]; exact (below_size (pH_ HB.out)) : wB.heap.size ≤ gbAa))
     have GEAa := Aside0.mk ((by rw [hg]; exact (below_size (pH_ HB.out)) : wB.heap.size ≤ gbAa))
     have NBAb_Aa := Aside0.mk (ltB_ hg BKAb.out)
     have NBAa_Ab := Aside0.mk (ltB_ hg BKAb.out).symm
     have NBAd_Aa := Aside0.mk (ltB_ hg BKAd.out)
     have NBAa_Ad := Aside0.mk (ltB_ hg BKAd.out).symm
     have NBAc_Aa := Aside0.mk (ltB_ hg BKAc.out)
     have NBAa_Ac := Aside0.mk (ltB_ hg BKAc.out).symm
     replace HOAp := Aside0.mk (Kd.R_below (pR_ HOAp.out) hb)
     replace BKAb := bb_ BKAb hb
     replace BKAd := bb_ BKAd hb
     replace BKAc := bb_ BKAc hb
     replace HB := bs_ HB hb
     clear hb hbox hg
     refine hK.out _ _ ⟨bc_ BKAc 0, bc_ BKAc 1, bc_ BKAc 2, bc_ BKAc 3, bc_ BKAc 4, bc_ BKAc 5, bc_ BKAb 0, bc_ BKAb 1, bc_ BKAb 2, bc_ BKAb 3, bc_ BKAb 4, bc_ BKAb 5, bc_ BKAd 0, bc_ BKAd 1, bc_ BKAd 2, bc_ BKAd 3, bc_ BKAd 4, bc_ BKAd 5⟩ (fun hHeld => ?_)
     clear hK K
     refine nq_ 12 ?_
     exact norm_ (by simp only [putAll, Act.put, List.setIfInBounds_toArray, List.set_cons_zero, List.set_cons_succ]) (hCont (vBe, gbAa) _ ⟨hHeld, (pR_ HOAp.out), (pB_ BKAb.out), (pB_ BKAd.out), (pB_ BKAc.out), (pB_ BKAa.out), GWAa.out, GEAa.out, NBAb_Aa.out, NBAa_Ab.out, NBAd_Aa.out, NBAa_Ad.out, NBAc_Aa.out, NBAa_Ac.out, (pH_ HB.out)⟩)
    skip
    refine box_step ?hg (N := 12) ?hd (cs := #[.int .i64 0, .int .i64 0, .int .i64 0, .int .i64 0, .int .i64 0, .slice none 0 0]) (t := 29) ?hr ?_; (case hd => rfl); (case hg => rfl); (case hr => first | (go_simp; done) | (go_simp; rfl))
    intro gbAa hg w20 hbox hb
    have BKAa := Aside0.mk (hbox)
    have GWAa := Aside0.mk ((by rw [hg]; exact (below_size (pH_ HB.out)) : wB.heap.size ≤ gbAa))
    have GEAa := Aside0.mk ((by rw [hg]; exact (below_size (pH_ HB.out)) : wB.heap.size ≤ gbAa))
    have NBAb_Aa := Aside0.mk (ltB_ hg BKAb.out)
    have NBAa_Ab := Aside0.mk (ltB_ hg BKAb.out).symm
    have NBAd_Aa := Aside0.mk (ltB_ hg BKAd.out)
    have NBAa_Ad := Aside0.mk (ltB_ hg BKAd.out).symm
    have NBAc_Aa := Aside0.mk (ltB_ hg BKAc.out)
    have NBAa_Ac := Aside0.mk (ltB_ hg BKAc.out).symm
    replace BKAb := bb_ BKAb hb
    replace BKAd := bb_ BKAd hb
    replace BKAc := bb_ BKAc hb
    replace HB := bs_ HB hb
    clear hb hbox hg
    refine hK.out _ _ ⟨bc_ BKAc 0, bc_ BKAc 1, bc_ BKAc 2, bc_ BKAc 3, bc_ BKAc 4, bc_ BKAc 5, bc_ BKAb 0, bc_ BKAb 1, bc_ BKAb 2, bc_ BKAb 3, bc_ BKAb 4, bc_ BKAb 5, bc_ BKAd 0, bc_ BKAd 1, bc_ BKAd 2, bc_ BKAd 3, bc_ BKAd 4, bc_ BKAd 5⟩ (fun hHeld => ?_)
    clear hK K
    refine nq_ 12 ?_
    refine oq_ 4 49 HT_ (fun K hK => ?_)
    refine gs_ Try.func35 #[.agg #[.int .i64 tAe, .int .i64 tAg, .int .i64 tAh, .int .i64 tAi, .int .i64 tAj, .slice Ao20 ps.length co20], .string tBd] ?_
    with_reducible refine (frame_Read.calls tAe tAg tAh tAi tAj _ _ ps tBd tAv tAw tAx tAy tBa tBb tBc _ ?side1 ?side2 A5.out).mono ?_
    (case side1 => exact cC_ (Kd.C_below HR2_5.out HB.out))
    (case side2 => exact HC2_5.out)
    rintro e w21 ⟨vBe, rfl, ho0, hb⟩
    refine ⟨_, rfl, ?_⟩
    have HOAp := Aside0.mk (Kd.R_lower ho0 (below_size (pH_ HB.out)))
    replace BKAb := bb_ BKAb hb
    replace BKAd := bb_ BKAd hb
    replace BKAc := bb_ BKAc hb
    replace BKAa := bb_ BKAa hb
    replace HB := bs_ HB hb
    (try clear hb)
    (try clear hb2)
    (try clear hk)
    (try clear hi)
    (try clear ho0)
    refine hK.out _ _ ⟨bc_ BKAc 0, bc_ BKAc 1, bc_ BKAc 2, bc_ BKAc 3, bc_ BKAc 4, bc_ BKAc 5, bc_ BKAb 0, bc_ BKAb 1, bc_ BKAb 2, bc_ BKAb 3, bc_ BKAb 4, bc_ BKAb 5, bc_ BKAd 0, bc_ BKAd 1, bc_ BKAd 2, bc_ BKAd 3, bc_ BKAd 4, bc_ BKAd 5⟩ (fun hHeld => ?_)
    clear hK K
    refine nq_ 49 ?_
    refine pq_ 5 44 HT_ ?_
    refine pq_ 6 50 HT_ ?_
    refine pq_ 7 51 HT_ ?_
    exact norm_ (by simp only [putAll, Act.put, List.setIfInBounds_toArray, List.set_cons_zero, List.set_cons_succ]) (hCont (vBe, gbAa) _ ⟨hHeld, (pR_ HOAp.out), (pB_ BKAb.out), (pB_ BKAd.out), (pB_ BKAc.out), (pB_ BKAa.out), GWAa.out, GEAa.out, NBAb_Aa.out, NBAa_Ab.out, NBAd_Aa.out, NBAa_Ad.out, NBAc_Aa.out, NBAa_Ac.out, (pH_ HB.out)⟩)
   skip
   refine box_step ?hg (N := 12) ?hd (cs := #[.int .i64 0, .int .i64 0, .int .i64 0, .int .i64 0, .int .i64 0, .slice none 0 0]) (t := 29) ?hr ?_; (case hd => rfl); (case hg => rfl); (case hr => first | (go_simp; done) | (go_simp; rfl))
   intro gbAa hg w19 hbox hb
   have BKAa := Aside0.mk (hbox)
   have GWAa := Aside0.mk ((by rw [hg]; exact (below_size (pH_ HB.out)) : wB.heap.size ≤ gbAa))
   have GEAa := Aside0.mk ((by rw [hg]; exact (below_size (pH_ HB.out)) : wB.heap.size ≤ gbAa))
   have NBAb_Aa := Aside0.mk (ltB_ hg BKAb.out)
   have NBAa_Ab := Aside0.mk (ltB_ hg BKAb.out).symm
   have NBAd_Aa := Aside0.mk (ltB_ hg BKAd.out)
   have NBAa_Ad := Aside0.mk (ltB_ hg BKAd.out).symm
   have NBAc_Aa := Aside0.mk (ltB_ hg BKAc.out)
   have NBAa_Ac := Aside0.mk (ltB_ hg BKAc.out).symm
   replace BKAb := bb_ BKAb hb
   replace BKAd := bb_ BKAd hb
   replace BKAc := bb_ BKAc hb
   replace HB := bs_ HB hb
   clear hb hbox hg
   refine hK.out _ _ ⟨bc_ BKAc 0, bc_ BKAc 1, bc_ BKAc 2, bc_ BKAc 3, bc_ BKAc 4, bc_ BKAc 5, bc_ BKAb 0, bc_ BKAb 1, bc_ BKAb 2, bc_ BKAb 3, bc_ BKAb 4, bc_ BKAb 5, bc_ BKAd 0, bc_ BKAd 1, bc_ BKAd 2, bc_ BKAd 3, bc_ BKAd 4, bc_ BKAd 5⟩ (fun hHeld => ?_)
   clear hK K
   refine nq_ 12 ?_
   refine oq_ 3 48 HT_ (fun K hK => ?_)
   refine gs_ Try.func26 #[.agg #[.int .i64 tAe, .int .i64 tAg, .int .i64 tAh, .int .i64 tAi, .int .i64 tAj, .slice Ao20 tAn.length co20], .agg #[.int .i64 tAm, .int .i64 tAr, .int .i64 tAq, .int .i64 tAs, .int .i64 tAu, .slice Ao34 tAt.length co34]] ?_
   with_reducible refine (frame_Text.calls tAe tAg tAh tAi tAj _ _ tAn tAm tAr tAq tAs tAu _ _ tAt tBd _ ?side1 ?side2 ?side3 ?side4 A4.out).mono ?_
   (case side1 => exact cC_ (Kd.C_below HR0_5.out HB.out))
   (case side2 => exact HC0_5.out)
   (case side3 => exact cC_ (Kd.C_below HR1_5.out HB.out))
   (case side4 => exact HC1_5.out)
   rintro e w20 ⟨rfl, hb⟩
   refine ⟨_, rfl, ?_⟩
   replace BKAb := bb_ BKAb hb
   replace BKAd := bb_ BKAd hb
   replace BKAc := bb_ BKAc hb
   replace BKAa := bb_ BKAa hb
   replace HB := bs_ HB hb
   (try clear hb)
   (try clear hb2)
   (try clear hk)
   (try clear hi)
   refine hK.out _ _ ⟨bc_ BKAc 0, bc_ BKAc 1, bc_ BKAc 2, bc_ BKAc 3, bc_ BKAc 4, bc_ BKAc 5, bc_ BKAb 0, bc_ BKAb 1, bc_ BKAb 2, bc_ BKAb 3, bc_ BKAb 4, bc_ BKAb 5, bc_ BKAd 0, bc_ BKAd 1, bc_ BKAd 2, bc_ BKAd 3, bc_ BKAd 4, bc_ BKAd 5⟩ (fun hHeld => ?_)
   clear hK K
   refine nq_ 48 ?_
   refine oq_ 4 49 HT_ (fun K hK => ?_)
   refine gs_ Try.func35 #[.agg #[.int .i64 tAe, .int .i64 tAg, .int .i64 tAh, .int .i64 tAi, .int .i64 tAj, .slice Ao20 ps.length co20], .string tBd] ?_
   with_reducible refine (frame_Read.calls tAe tAg tAh tAi tAj _ _ ps tBd tAv tAw tAx tAy tBa tBb tBc _ ?side1 ?side2 A5.out).mono ?_
   (case side1 => exact cC_ (Kd.C_below HR2_5.out HB.out))
   (case side2 => exact HC2_5.out)
   rintro e w21 ⟨vBe, rfl, ho0, hb⟩
   refine ⟨_, rfl, ?_⟩
   have HOAp := Aside0.mk (Kd.R_lower ho0 (below_size (pH_ HB.out)))
   replace BKAb := bb_ BKAb hb
   replace BKAd := bb_ BKAd hb
   replace BKAc := bb_ BKAc hb
   replace BKAa := bb_ BKAa hb
   replace HB := bs_ HB hb
   (try clear hb)
   (try clear hb2)
   (try clear hk)
   (try clear hi)
   (try clear ho0)
   refine hK.out _ _ ⟨bc_ BKAc 0, bc_ BKAc 1, bc_ BKAc 2, bc_ BKAc 3, bc_ BKAc 4, bc_ BKAc 5, bc_ BKAb 0, bc_ BKAb 1, bc_ BKAb 2, bc_ BKAb 3, bc_ BKAb 4, bc_ BKAb 5, bc_ BKAd 0, bc_ BKAd 1, bc_ BKAd 2, bc_ BKAd 3, bc_ BKAd 4, bc_ BKAd 5⟩ (fun hHeld => ?_)
   clear hK K
   refine nq_ 49 ?_
   refine pq_ 5 44 HT_ ?_
   refine pq_ 6 50 HT_ ?_
   refine pq_ 7 51 HT_ ?_
   exact norm_ (by simp only [putAll, Act.put, List.setIfInBounds_toArray, List.set_cons_zero, List.set_cons_succ]) (hCont (vBe, gbAa) _ ⟨hHeld, (pR_ HOAp.out), (pB_ BKAb.out), (pB_ BKAd.out), (pB_ BKAc.out), (pB_ BKAa.out), GWAa.out, GEAa.out, NBAb_Aa.out, NBAa_Ab.out, NBAd_Aa.out, NBAa_Ad.out, NBAc_Aa.out, NBAa_Ac.out, (pH_ HB.out)⟩)
  rintro ⟨vBe, gbAa⟩ w22 ⟨hS_, h0_, h1_, h2_, h3_, h4_, h5_, h6_, h7_, h8_, h9_, h10_, h11_, h12_, h13_⟩
  have n0_ : Aside0 (Kd.R k26 26 w22 wB.heap.size (fun _ => True) vBe tBb) := ⟨h0_⟩
  have n1_ : Aside0 (w22.heap[gbAb]? = some (.cells #[.int .i64 tAe, .int .i64 tAg, .int .i64 tAh, .int .i64 tAi, .int .i64 tAj, .slice Ao20 tAn.length co20] 24 (0, 0))) := ⟨h1_⟩
  have n2_ : Aside0 (w22.heap[gbAd]? = some (.cells #[.int .i64 tAm, .int .i64 tAr, .int .i64 tAq, .int .i64 tAs, .int .i64 tAu, .slice Ao34 tAt.length co34] 29 (0, 0))) := ⟨h2_⟩
  have n3_ : Aside0 (w22.heap[gbAc]? = some (.cells #[.int .i64 tAe, .int .i64 tAg, .int .i64 tAh, .int .i64 tAi, .int .i64 tAj, .slice Ao20 ps.length co20] 24 (0, 0))) := ⟨h3_⟩
  have n4_ : Aside0 (w22.heap[gbAa]? = some (.cells #[.int .i64 0, .int .i64 0, .int .i64 0, .int .i64 0, .int .i64 0, .slice none 0 0] 29 (0, 0))) := ⟨h4_⟩
  have n5_ : Aside0 (wB.heap.size ≤ gbAa) := ⟨h5_⟩
  have n6_ : Aside0 (wB.heap.size ≤ gbAa) := ⟨h6_⟩
  have n7_ : Aside0 (gbAb ≠ gbAa) := ⟨h7_⟩
  have n8_ : Aside0 (gbAa ≠ gbAb) := ⟨h8_⟩
  have n9_ : Aside0 (gbAd ≠ gbAa) := ⟨h9_⟩
  have n10_ : Aside0 (gbAa ≠ gbAd) := ⟨h10_⟩
  have n11_ : Aside0 (gbAc ≠ gbAa) := ⟨h11_⟩
  have n12_ : Aside0 (gbAa ≠ gbAc) := ⟨h12_⟩
  have n13_ : Aside0 (Below wB.heap.size wB w22) := ⟨h13_⟩
  clear BKAb
  clear BKAd
  clear BKAc
  clear HB
  clear h0_ h1_ h2_ h3_ h4_ h5_ h6_ h7_ h8_ h9_ h10_ h11_ h12_ h13_
  have HOAp := n0_
  have BKAb := n1_
  have BKAd := n2_
  have BKAc := n3_
  have BKAa := n4_
  have GWAa := n5_
  have GEAa := n6_
  have NBAb_Aa := n7_
  have NBAa_Ab := n8_
  have NBAd_Aa := n9_
  have NBAa_Ad := n10_
  have NBAc_Aa := n11_
  have NBAa_Ac := n12_
  have HB := n13_
  clear n0_ n1_ n2_ n3_ n4_ n5_ n6_ n7_ n8_ n9_ n10_ n11_ n12_ n13_
  have hHeld : w22.cell? ⟨gbAc, 0, none⟩ = some (.int .i64 tAe) ∧ w22.cell? ⟨gbAc, 1, none⟩ = some (.int .i64 tAg) ∧ w22.cell? ⟨gbAc, 2, none⟩ = some (.int .i64 tAh) ∧ w22.cell? ⟨gbAc, 3, none⟩ = some (.int .i64 tAi) ∧ w22.cell? ⟨gbAc, 4, none⟩ = some (.int .i64 tAj) ∧ w22.cell? ⟨gbAc, 5, none⟩ = some (.slice Ao20 ps.length co20) ∧ w22.cell? ⟨gbAb, 0, none⟩ = some (.int .i64 tAe) ∧ w22.cell? ⟨gbAb, 1, none⟩ = some (.int .i64 tAg) ∧ w22.cell? ⟨gbAb, 2, none⟩ = some (.int .i64 tAh) ∧ w22.cell? ⟨gbAb, 3, none⟩ = some (.int .i64 tAi) ∧ w22.cell? ⟨gbAb, 4, none⟩ = some (.int .i64 tAj) ∧ w22.cell? ⟨gbAb, 5, none⟩ = some (.slice Ao20 tAn.length co20) ∧ w22.cell? ⟨gbAd, 0, none⟩ = some (.int .i64 tAm) ∧ w22.cell? ⟨gbAd, 1, none⟩ = some (.int .i64 tAr) ∧ w22.cell? ⟨gbAd, 2, none⟩ = some (.int .i64 tAq) ∧ w22.cell? ⟨gbAd, 3, none⟩ = some (.int .i64 tAs) ∧ w22.cell? ⟨gbAd, 4, none⟩ = some (.int .i64 tAu) ∧ w22.cell? ⟨gbAd, 5, none⟩ = some (.slice Ao34 tAt.length co34) := hS_
  obtain ⟨Ao28, co28, eo28⟩ := Kd.R_slice HOAp.out
  (first | subst eo28 | (injection eo28 with f1_ f2_ f3_; have f4_ := f1_.symm; have f5_ := f3_.symm; clear f1_ f2_ f3_; subst f4_; subst f5_))
  refine norm_ (a' := ?_) ?_ ?_
  rotate_left
  ·
   simp only [putAll, Act.put, List.setIfInBounds_toArray, List.set_cons_zero, List.set_cons_succ]
   rfl
  refine one_ (i := 9) (N := none) #[true, true, true, true, true, true, true, true, true, true, false] rfl rfl (one_of HT_.out (by kernel_rfl)) (by decide) (fun K hK => ?_)
  have hs23 : w22.cell? ⟨gbAa, 0, none⟩ = some (.int .i64 0) := bc_ BKAa 0
  have hfs23 := blk_frozen BKAa.out 0
  have hns23_0 := NBAb_Aa.out
  have hns23_1 := NBAd_Aa.out
  have hns23_2 := NBAc_Aa.out
  have hms23_0 := NBAa_Ab.out
  have hms23_1 := NBAa_Ad.out
  have hms23_2 := NBAa_Ac.out
  have hs24 : w22.cell? ⟨gbAa, 1, none⟩ = some (.int .i64 0) := bc_ BKAa 1
  have hfs24 := blk_frozen BKAa.out 1
  have hns24_0 := NBAb_Aa.out
  have hns24_1 := NBAd_Aa.out
  have hns24_2 := NBAc_Aa.out
  have hms24_0 := NBAa_Ab.out
  have hms24_1 := NBAa_Ad.out
  have hms24_2 := NBAa_Ac.out
  have hs25 : w22.cell? ⟨gbAa, 2, none⟩ = some (.int .i64 0) := bc_ BKAa 2
  have hfs25 := blk_frozen BKAa.out 2
  have hns25_0 := NBAb_Aa.out
  have hns25_1 := NBAd_Aa.out
  have hns25_2 := NBAc_Aa.out
  have hms25_0 := NBAa_Ab.out
  have hms25_1 := NBAa_Ad.out
  have hms25_2 := NBAa_Ac.out
  have hs26 : w22.cell? ⟨gbAa, 3, none⟩ = some (.int .i64 0) := bc_ BKAa 3
  have hfs26 := blk_frozen BKAa.out 3
  have hns26_0 := NBAb_Aa.out
  have hns26_1 := NBAd_Aa.out
  have hns26_2 := NBAc_Aa.out
  have hms26_0 := NBAa_Ab.out
  have hms26_1 := NBAa_Ad.out
  have hms26_2 := NBAa_Ac.out
  have hs27 : w22.cell? ⟨gbAa, 4, none⟩ = some (.int .i64 0) := bc_ BKAa 4
  have hfs27 := blk_frozen BKAa.out 4
  have hns27_0 := NBAb_Aa.out
  have hns27_1 := NBAd_Aa.out
  have hns27_2 := NBAc_Aa.out
  have hms27_0 := NBAa_Ab.out
  have hms27_1 := NBAa_Ad.out
  have hms27_2 := NBAa_Ac.out
  have hs29 : w22.cell? ⟨gbAa, 5, none⟩ = some (.slice none 0 0) := bc_ BKAa 5
  have hfs29 := blk_frozen BKAa.out 5
  have hns29_0 := NBAb_Aa.out
  have hns29_1 := NBAd_Aa.out
  have hns29_2 := NBAc_Aa.out
  have hms29_0 := NBAa_Ab.out
  have hms29_1 := NBAa_Ad.out
  have hms29_2 := NBAa_Ac.out
  refine skip_ (w1 := ?_) (by rfl) rfl ?_ ?_
  rotate_left
  ·
   go_simp
   rfl
  refine hK.out _ _ ⟨((cell_far (p := ⟨gbAa, _, none⟩) NBAc_Aa.out _).trans (((cell_far (p := ⟨gbAa, _, none⟩) NBAc_Aa.out _).trans (((cell_far (p := ⟨gbAa, _, none⟩) NBAc_Aa.out _).trans (((cell_far (p := ⟨gbAa, _, none⟩) NBAc_Aa.out _).trans (((cell_far (p := ⟨gbAa, _, none⟩) NBAc_Aa.out _).trans (((cell_far (p := ⟨gbAa, _, none⟩) NBAc_Aa.out _).trans (hHeld.1)))))))))))), ((cell_far (p := ⟨gbAa, _, none⟩) NBAc_Aa.out _).trans (((cell_far (p := ⟨gbAa, _, none⟩) NBAc_Aa.out _).trans (((cell_far (p := ⟨gbAa, _, none⟩) NBAc_Aa.out _).trans (((cell_far (p := ⟨gbAa, _, none⟩) NBAc_Aa.out _).trans (((cell_far (p := ⟨gbAa, _, none⟩) NBAc_Aa.out _).trans (((cell_far (p := ⟨gbAa, _, none⟩) NBAc_Aa.out _).trans (hHeld.2.1)))))))))))), ((cell_far (p := ⟨gbAa, _, none⟩) NBAc_Aa.out _).trans (((cell_far (p := ⟨gbAa, _, none⟩) NBAc_Aa.out _).trans (((cell_far (p := ⟨gbAa, _, none⟩) NBAc_Aa.out _).trans (((cell_far (p := ⟨gbAa, _, none⟩) NBAc_Aa.out _).trans (((cell_far (p := ⟨gbAa, _, none⟩) NBAc_Aa.out _).trans (((cell_far (p := ⟨gbAa, _, none⟩) NBAc_Aa.out _).trans (hHeld.2.2.1)))))))))))), ((cell_far (p := ⟨gbAa, _, none⟩) NBAc_Aa.out _).trans (((cell_far (p := ⟨gbAa, _, none⟩) NBAc_Aa.out _).trans (((cell_far (p := ⟨gbAa, _, none⟩) NBAc_Aa.out _).trans (((cell_far (p := ⟨gbAa, _, none⟩) NBAc_Aa.out _).trans (((cell_far (p := ⟨gbAa, _, none⟩) NBAc_Aa.out _).trans (((cell_far (p := ⟨gbAa, _, none⟩) NBAc_Aa.out _).trans (hHeld.2.2.2.1)))))))))))), ((cell_far (p := ⟨gbAa, _, none⟩) NBAc_Aa.out _).trans (((cell_far (p := ⟨gbAa, _, none⟩) NBAc_Aa.out _).trans (((cell_far (p := ⟨gbAa, _, none⟩) NBAc_Aa.out _).trans (((cell_far (p := ⟨gbAa, _, none⟩) NBAc_Aa.out _).trans (((cell_far (p := ⟨gbAa, _, none⟩) NBAc_Aa.out _).trans (((cell_far (p := ⟨gbAa, _, none⟩) NBAc_Aa.out _).trans (hHeld.2.2.2.2.1)))))))))))), ((cell_far (p := ⟨gbAa, _, none⟩) NBAc_Aa.out _).trans (((cell_far (p := ⟨gbAa, _, none⟩) NBAc_Aa.out _).trans (((cell_far (p := ⟨gbAa, _, none⟩) NBAc_Aa.out _).trans (((cell_far (p := ⟨gbAa, _, none⟩) NBAc_Aa.out _).trans (((cell_far (p := ⟨gbAa, _, none⟩) NBAc_Aa.out _).trans (((cell_far (p := ⟨gbAa, _, none⟩) NBAc_Aa.out _).trans (hHeld.2.2.2.2.2.1)))))))))))), ((cell_far (p := ⟨gbAa, _, none⟩) NBAb_Aa.out _).trans (((cell_far (p := ⟨gbAa, _, none⟩) NBAb_Aa.out _).trans (((cell_far (p := ⟨gbAa, _, none⟩) NBAb_Aa.out _).trans (((cell_far (p := ⟨gbAa, _, none⟩) NBAb_Aa.out _).trans (((cell_far (p := ⟨gbAa, _, none⟩) NBAb_Aa.out _).trans (((cell_far (p := ⟨gbAa, _, none⟩) NBAb_Aa.out _).trans (hHeld.2.2.2.2.2.2.1)))))))))))), ((cell_far (p := ⟨gbAa, _, none⟩) NBAb_Aa.out _).trans (((cell_far (p := ⟨gbAa, _, none⟩) NBAb_Aa.out _).trans (((cell_far (p := ⟨gbAa, _, none⟩) NBAb_Aa.out _).trans (((cell_far (p := ⟨gbAa, _, none⟩) NBAb_Aa.out _).trans (((cell_far (p := ⟨gbAa, _, none⟩) NBAb_Aa.out _).trans (((cell_far (p := ⟨gbAa, _, none⟩) NBAb_Aa.out _).trans (hHeld.2.2.2.2.2.2.2.1)))))))))))), ((cell_far (p := ⟨gbAa, _, none⟩) NBAb_Aa.out _).trans (((cell_far (p := ⟨gbAa, _, none⟩) NBAb_Aa.out _).trans (((cell_far (p := ⟨gbAa, _, none⟩) NBAb_Aa.out _).trans (((cell_far (p := ⟨gbAa, _, none⟩) NBAb_Aa.out _).trans (((cell_far (p := ⟨gbAa, _, none⟩) NBAb_Aa.out _).trans (((cell_far (p := ⟨gbAa, _, none⟩) NBAb_Aa.out _).trans (hHeld.2.2.2.2.2.2.2.2.1)))))))))))), ((cell_far (p := ⟨gbAa, _, none⟩) NBAb_Aa.out _).trans (((cell_far (p := ⟨gbAa, _, none⟩) NBAb_Aa.out _).trans (((cell_far (p := ⟨gbAa, _, none⟩) NBAb_Aa.out _).trans (((cell_far (p := ⟨gbAa, _, none⟩) NBAb_Aa.out _).trans (((cell_far (p := ⟨gbAa, _, none⟩) NBAb_Aa.out _).trans (((cell_far (p := ⟨gbAa, _, none⟩) NBAb_Aa.out _).trans (hHeld.2.2.2.2.2.2.2.2.2.1)))))))))))), ((cell_far (p := ⟨gbAa, _, none⟩) NBAb_Aa.out _).trans (((cell_far (p := ⟨gbAa, _, none⟩) NBAb_Aa.out _).trans (((cell_far (p := ⟨gbAa, _, none⟩) NBAb_Aa.out _).trans (((cell_far (p := ⟨gbAa, _, none⟩) NBAb_Aa.out _).trans (((cell_far (p := ⟨gbAa, _, none⟩) NBAb_Aa.out _).trans (((cell_far (p := ⟨gbAa, _, none⟩) NBAb_Aa.out _).trans (hHeld.2.2.2.2.2.2.2.2.2.2.1)))))))))))), ((cell_far (p := ⟨gbAa, _, none⟩) NBAb_Aa.out _).trans (((cell_far (p := ⟨gbAa, _, none⟩) NBAb_Aa.out _).trans (((cell_far (p := ⟨gbAa, _, none⟩) NBAb_Aa.out _).trans (((cell_far (p := ⟨gbAa, _, none⟩) NBAb_Aa.out _).trans (((cell_far (p := ⟨gbAa, _, none⟩) NBAb_Aa.out _).trans (((cell_far (p := ⟨gbAa, _, none⟩) NBAb_Aa.out _).trans (hHeld.2.2.2.2.2.2.2.2.2.2.2.1)))))))))))), ((cell_far (p := ⟨gbAa, _, none⟩) NBAd_Aa.out _).trans (((cell_far (p := ⟨gbAa, _, none⟩) NBAd_Aa.out _).trans (((cell_far (p := ⟨gbAa, _, none⟩) NBAd_Aa.out _).trans (((cell_far (p := ⟨gbAa, _, none⟩) NBAd_Aa.out _).trans (((cell_far (p := ⟨gbAa, _, none⟩) NBAd_Aa.out _).trans (((cell_far (p := ⟨gbAa, _, none⟩) NBAd_Aa.out _).trans (hHeld.2.2.2.2.2.2.2.2.2.2.2.2.1)))))))))))), ((cell_far (p := ⟨gbAa, _, none⟩) NBAd_Aa.out _).trans (((cell_far (p := ⟨gbAa, _, none⟩) NBAd_Aa.out _).trans (((cell_far (p := ⟨gbAa, _, none⟩) NBAd_Aa.out _).trans (((cell_far (p := ⟨gbAa, _, none⟩) NBAd_Aa.out _).trans (((cell_far (p := ⟨gbAa, _, none⟩) NBAd_Aa.out _).trans (((cell_far (p := ⟨gbAa, _, none⟩) NBAd_Aa.out _).trans (hHeld.2.2.2.2.2.2.2.2.2.2.2.2.2.1)))))))))))), ((cell_far (p := ⟨gbAa, _, none⟩) NBAd_Aa.out _).trans (((cell_far (p := ⟨gbAa, _, none⟩) NBAd_Aa.out _).trans (((cell_far (p := ⟨gbAa, _, none⟩) NBAd_Aa.out _).trans (((cell_far (p := ⟨gbAa, _, none⟩) NBAd_Aa.out _).trans (((cell_far (p := ⟨gbAa, _, none⟩) NBAd_Aa.out _).trans (((cell_far (p := ⟨gbAa, _, none⟩) NBAd_Aa.out _).trans (hHeld.2.2.2.2.2.2.2.2.2.2.2.2.2.2.1)))))))))))), ((cell_far (p := ⟨gbAa, _, none⟩) NBAd_Aa.out _).trans (((cell_far (p := ⟨gbAa, _, none⟩) NBAd_Aa.out _).trans (((cell_far (p := ⟨gbAa, _, none⟩) NBAd_Aa.out _).trans (((cell_far (p := ⟨gbAa, _, none⟩) NBAd_Aa.out _).trans (((cell_far (p := ⟨gbAa, _, none⟩) NBAd_Aa.out _).trans (((cell_far (p := ⟨gbAa, _, none⟩) NBAd_Aa.out _).trans (hHeld.2.2.2.2.2.2.2.2.2.2.2.2.2.2.2.1)))))))))))), ((cell_far (p := ⟨gbAa, _, none⟩) NBAd_Aa.out _).trans (((cell_far (p := ⟨gbAa, _, none⟩) NBAd_Aa.out _).trans (((cell_far (p := ⟨gbAa, _, none⟩) NBAd_Aa.out _).trans (((cell_far (p := ⟨gbAa, _, none⟩) NBAd_Aa.out _).trans (((cell_far (p := ⟨gbAa, _, none⟩) NBAd_Aa.out _).trans (((cell_far (p := ⟨gbAa, _, none⟩) NBAd_Aa.out _).trans (hHeld.2.2.2.2.2.2.2.2.2.2.2.2.2.2.2.2.1)))))))))))), ((cell_far (p := ⟨gbAa, _, none⟩) NBAd_Aa.out _).trans (((cell_far (p := ⟨gbAa, _, none⟩) NBAd_Aa.out _).trans (((cell_far (p := ⟨gbAa, _, none⟩) NBAd_Aa.out _).trans (((cell_far (p := ⟨gbAa, _, none⟩) NBAd_Aa.out _).trans (((cell_far (p := ⟨gbAa, _, none⟩) NBAd_Aa.out _).trans (((cell_far (p := ⟨gbAa, _, none⟩) NBAd_Aa.out _).trans (hHeld.2.2.2.2.2.2.2.2.2.2.2.2.2.2.2.2.2))))))))))))⟩ (fun hHeld => ?_)
  clear hK K
  refine pq_ 10 13 HT_ ?_
  refine done_ (done_of HT_.out (by kernel_rfl)) ?_
  try go_wp2
  (try (rw [drewN_self w22]; generalize hq_ : World.drewN w22 _ = w22; have n0_ := Aside0.mk (Kd.R_at hq_ HOAp.out); have n1_ := Aside0.mk (blk_at hq_ BKAb.out); have n2_ := Aside0.mk (blk_at hq_ BKAd.out); have n3_ := Aside0.mk (blk_at hq_ BKAc.out); have n4_ := Aside0.mk (blk_at hq_ BKAa.out); have n5_ := Aside0.mk (below_at hq_ HB.out); clear hq_ HOAp BKAb BKAd BKAc BKAa HB; have HOAp := n0_; have BKAb := n1_; have BKAd := n2_; have BKAc := n3_; have BKAa := n4_; have HB := n5_; clear n0_ n1_ n2_ n3_ n4_ n5_))
  have n0_ : Aside0 (Kd.R k26 26 ((((((w22.setCell ⟨gbAa, 0, none⟩ (.int .i64 tAv)).setCell ⟨gbAa, 1, none⟩ (.int .i64 tAw)).setCell ⟨gbAa, 2, none⟩ (.int .i64 tAx)).setCell ⟨gbAa, 3, none⟩ (.int .i64 tAy)).setCell ⟨gbAa, 4, none⟩ (.int .i64 tBa)).setCell ⟨gbAa, 5, none⟩ (.slice Ao28 tBb.length co28)) wB.heap.size (fun _ => True) (.slice Ao28 tBb.length co28) tBb) := ⟨by (with_reducible repeat (first | apply Kd.R_alloc | apply Kd.R_drewN | apply Kd.R_drew)); exact Kd.R_mono (Kd.R_far (p := ⟨gbAa, 5, none⟩) (Kd.R_far (p := ⟨gbAa, 4, none⟩) (Kd.R_far (p := ⟨gbAa, 3, none⟩) (Kd.R_far (p := ⟨gbAa, 2, none⟩) (Kd.R_far (p := ⟨gbAa, 1, none⟩) (Kd.R_far (p := ⟨gbAa, 0, none⟩) (Kd.R_types HOAp.out BKAa.out (by decide)) (fun _ hk => hk.2) (.int .i64 tAv)) (fun _ hk => hk.2) (.int .i64 tAw)) (fun _ hk => hk.2) (.int .i64 tAx)) (fun _ hk => hk.2) (.int .i64 tAy)) (fun _ hk => hk.2) (.int .i64 tBa)) (fun _ hk => hk.2) (.slice Ao28 tBb.length co28)) (fun _ hk => trivial)⟩
  have n1_ : Aside0 (((((((w22.setCell ⟨gbAa, 0, none⟩ (.int .i64 tAv)).setCell ⟨gbAa, 1, none⟩ (.int .i64 tAw)).setCell ⟨gbAa, 2, none⟩ (.int .i64 tAx)).setCell ⟨gbAa, 3, none⟩ (.int .i64 tAy)).setCell ⟨gbAa, 4, none⟩ (.int .i64 tBa)).setCell ⟨gbAa, 5, none⟩ (.slice Ao28 tBb.length co28)).heap[gbAb]? = some (.cells #[.int .i64 tAe, .int .i64 tAg, .int .i64 tAh, .int .i64 tAi, .int .i64 tAj, .slice Ao20 tAn.length co20] 24 (0, 0))) := ⟨bF_ BKAb.out NBAb_Aa.out⟩
  have n2_ : Aside0 (((((((w22.setCell ⟨gbAa, 0, none⟩ (.int .i64 tAv)).setCell ⟨gbAa, 1, none⟩ (.int .i64 tAw)).setCell ⟨gbAa, 2, none⟩ (.int .i64 tAx)).setCell ⟨gbAa, 3, none⟩ (.int .i64 tAy)).setCell ⟨gbAa, 4, none⟩ (.int .i64 tBa)).setCell ⟨gbAa, 5, none⟩ (.slice Ao28 tBb.length co28)).heap[gbAd]? = some (.cells #[.int .i64 tAm, .int .i64 tAr, .int .i64 tAq, .int .i64 tAs, .int .i64 tAu, .slice Ao34 tAt.length co34] 29 (0, 0))) := ⟨bF_ BKAd.out NBAd_Aa.out⟩
  have n3_ : Aside0 (((((((w22.setCell ⟨gbAa, 0, none⟩ (.int .i64 tAv)).setCell ⟨gbAa, 1, none⟩ (.int .i64 tAw)).setCell ⟨gbAa, 2, none⟩ (.int .i64 tAx)).setCell ⟨gbAa, 3, none⟩ (.int .i64 tAy)).setCell ⟨gbAa, 4, none⟩ (.int .i64 tBa)).setCell ⟨gbAa, 5, none⟩ (.slice Ao28 tBb.length co28)).heap[gbAc]? = some (.cells #[.int .i64 tAe, .int .i64 tAg, .int .i64 tAh, .int .i64 tAi, .int .i64 tAj, .slice Ao20 ps.length co20] 24 (0, 0))) := ⟨bF_ BKAc.out NBAc_Aa.out⟩
  have n4_ : Aside0 (((((((w22.setCell ⟨gbAa, 0, none⟩ (.int .i64 tAv)).setCell ⟨gbAa, 1, none⟩ (.int .i64 tAw)).setCell ⟨gbAa, 2, none⟩ (.int .i64 tAx)).setCell ⟨gbAa, 3, none⟩ (.int .i64 tAy)).setCell ⟨gbAa, 4, none⟩ (.int .i64 tBa)).setCell ⟨gbAa, 5, none⟩ (.slice Ao28 tBb.length co28)).heap[gbAa]? = some (.cells #[.int .i64 tAv, .int .i64 tAw, .int .i64 tAx, .int .i64 tAy, .int .i64 tBa, .slice Ao28 tBb.length co28] 29 (0, 0))) := ⟨by (with_reducible repeat (first | refine blk_drewN ?_ _ | refine blk_drew ?_ | refine blk_alloc ?_ _)); refine blk_put (cs := #[.int .i64 tAv, .int .i64 tAw, .int .i64 tAx, .int .i64 tAy, .int .i64 tBa, .slice none 0 0]) ?_ 5 _ rfl; (with_reducible repeat (first | refine blk_drewN ?_ _ | refine blk_drew ?_ | refine blk_alloc ?_ _)); refine blk_put (cs := #[.int .i64 tAv, .int .i64 tAw, .int .i64 tAx, .int .i64 tAy, .int .i64 0, .slice none 0 0]) ?_ 4 _ rfl; (with_reducible repeat (first | refine blk_drewN ?_ _ | refine blk_drew ?_ | refine blk_alloc ?_ _)); refine blk_put (cs := #[.int .i64 tAv, .int .i64 tAw, .int .i64 tAx, .int .i64 0, .int .i64 0, .slice none 0 0]) ?_ 3 _ rfl; (with_reducible repeat (first | refine blk_drewN ?_ _ | refine blk_drew ?_ | refine blk_alloc ?_ _)); refine blk_put (cs := #[.int .i64 tAv, .int .i64 tAw, .int .i64 0, .int .i64 0, .int .i64 0, .slice none 0 0]) ?_ 2 _ rfl; (with_reducible repeat (first | refine blk_drewN ?_ _ | refine blk_drew ?_ | refine blk_alloc ?_ _)); refine blk_put (cs := #[.int .i64 tAv, .int .i64 0, .int .i64 0, .int .i64 0, .int .i64 0, .slice none 0 0]) ?_ 1 _ rfl; (with_reducible repeat (first | refine blk_drewN ?_ _ | refine blk_drew ?_ | refine blk_alloc ?_ _)); refine blk_put (cs := #[.int .i64 0, .int .i64 0, .int .i64 0, .int .i64 0, .int .i64 0, .slice none 0 0]) ?_ 0 _ rfl; (with_reducible repeat (first | refine blk_drewN ?_ _ | refine blk_drew ?_ | refine blk_alloc ?_ _)); exact BKAa.out⟩
  have n5_ : Aside0 (Below wB.heap.size wB ((((((w22.setCell ⟨gbAa, 0, none⟩ (.int .i64 tAv)).setCell ⟨gbAa, 1, none⟩ (.int .i64 tAw)).setCell ⟨gbAa, 2, none⟩ (.int .i64 tAx)).setCell ⟨gbAa, 3, none⟩ (.int .i64 tAy)).setCell ⟨gbAa, 4, none⟩ (.int .i64 tBa)).setCell ⟨gbAa, 5, none⟩ (.slice Ao28 tBb.length co28))) := ⟨pH_ HB.out⟩
  (try clear HOAp)
  (try clear BKAb)
  (try clear BKAd)
  (try clear BKAc)
  (try clear BKAa)
  (try clear HB)
  generalize ((((((w22.setCell ⟨gbAa, 0, none⟩ (.int .i64 tAv)).setCell ⟨gbAa, 1, none⟩ (.int .i64 tAw)).setCell ⟨gbAa, 2, none⟩ (.int .i64 tAx)).setCell ⟨gbAa, 3, none⟩ (.int .i64 tAy)).setCell ⟨gbAa, 4, none⟩ (.int .i64 tBa)).setCell ⟨gbAa, 5, none⟩ (.slice Ao28 tBb.length co28)) = w30 at n0_ n1_ n2_ n3_ n4_ n5_ ⊢
  have HOAp := n0_
  have BKAb := n1_
  have BKAd := n2_
  have BKAc := n3_
  have BKAa := n4_
  have HB := n5_
  clear n0_ n1_ n2_ n3_ n4_ n5_
  replace HOAp := Aside0.mk (Kd.R_drew HOAp.out)
  replace BKAb := Aside0.mk (blk_drew BKAb.out)
  replace BKAd := Aside0.mk (blk_drew BKAd.out)
  replace BKAc := Aside0.mk (blk_drew BKAc.out)
  replace BKAa := Aside0.mk (blk_drew BKAa.out)
  replace HB := Aside0.mk (below_drew1 HB.out)
  refine start_ (n := 31) (S := fun w' => w'.cell? ⟨gbAd, 0, none⟩ = some (.int .i64 tAm) ∧ w'.cell? ⟨gbAd, 1, none⟩ = some (.int .i64 tAr) ∧ w'.cell? ⟨gbAd, 2, none⟩ = some (.int .i64 tAq) ∧ w'.cell? ⟨gbAd, 3, none⟩ = some (.int .i64 tAs) ∧ w'.cell? ⟨gbAd, 4, none⟩ = some (.int .i64 tAu) ∧ w'.cell? ⟨gbAd, 5, none⟩ = some (.slice Ao34 tAt.length co34) ∧ w'.cell? ⟨gbAc, 0, none⟩ = some (.int .i64 tAe) ∧ w'.cell? ⟨gbAc, 1, none⟩ = some (.int .i64 tAg) ∧ w'.cell? ⟨gbAc, 2, none⟩ = some (.int .i64 tAh) ∧ w'.cell? ⟨gbAc, 3, none⟩ = some (.int .i64 tAi) ∧ w'.cell? ⟨gbAc, 4, none⟩ = some (.int .i64 tAj) ∧ w'.cell? ⟨gbAc, 5, none⟩ = some (.slice Ao20 ps.length co20) ∧ w'.cell? ⟨gbAb, 0, none⟩ = some (.int .i64 tAe) ∧ w'.cell? ⟨gbAb, 1, none⟩ = some (.int .i64 tAg) ∧ w'.cell? ⟨gbAb, 2, none⟩ = some (.int .i64 tAh) ∧ w'.cell? ⟨gbAb, 3, none⟩ = some (.int .i64 tAi) ∧ w'.cell? ⟨gbAb, 4, none⟩ = some (.int .i64 tAj) ∧ w'.cell? ⟨gbAb, 5, none⟩ = some (.slice Ao20 tAn.length co20)) (ds := []) #[false, false, false, false, false, false, false, false, false, false, false, false, false, false, false, false, false, false, false, false, false, false, false, false, false, false, false, false, false, false, false] (by kernel_rfl) rfl rfl ⟨bc_ BKAd 0, bc_ BKAd 1, bc_ BKAd 2, bc_ BKAd 3, bc_ BKAd 4, bc_ BKAd 5, bc_ BKAc 0, bc_ BKAc 1, bc_ BKAc 2, bc_ BKAc 3, bc_ BKAc 4, bc_ BKAc 5, bc_ BKAb 0, bc_ BKAb 1, bc_ BKAb 2, bc_ BKAb 3, bc_ BKAb 4, bc_ BKAb 5⟩ (fun hHeld => ?_); refine with_tabW plaitinglaw5_FrameOther.tab12 plaitinglaw5_FrameOther.bits12 (fun HT_ HW_ => ?_)
  generalize w30.drew = w31 at HOAp BKAb BKAd BKAc BKAa HB hHeld ⊢
  refine pq_ 0 52 HT_ ?_
  refine tq_ 1 53 HT_ HW_ hHeld ?_
  refine pq_ 2 54 HT_ ?_
  refine pq_ 3 55 HT_ ?_
  refine pq_ 4 56 HT_ ?_
  refine tq_ 5 57 HT_ HW_ hHeld ?_
  refine pq_ 6 58 HT_ ?_
  refine pq_ 7 59 HT_ ?_
  refine pq_ 8 60 HT_ ?_
  refine pq_ 9 61 HT_ ?_
  refine pq_ 10 62 HT_ ?_
  refine pq_ 11 63 HT_ ?_
  refine pq_ 12 64 HT_ ?_
  refine tq_ 13 65 HT_ HW_ hHeld ?_
  refine tq_ 14 66 HT_ HW_ hHeld ?_
  refine oq_ 15 67 HT_ (fun K hK => ?_)
  refine gs_ Try.func22 #[.agg #[.int .i64 tAe, .int .i64 tAg, .int .i64 tAh, .int .i64 tAi, .int .i64 tAj, .slice Ao20 ps.length co20], .agg #[.int .i64 tAm, .int .i64 tAr, .int .i64 tAq, .int .i64 tAs, .int .i64 tAu, .slice Ao34 tAt.length co34]] ?_
  with_reducible refine (frame_Check.calls tAe tAg tAh tAi tAj _ _ ps tAm tAr tAq tAs tAu _ _ tAt tBh _ ?side1 ?side2 ?side3 ?side4 A9.out).mono ?_
  (case side1 => exact cC_ (Kd.C_below HR2_5.out HB.out))
  (case side2 => exact HC2_5.out)
  (case side3 => exact cC_ (Kd.C_below HR1_5.out HB.out))
  (case side4 => exact HC1_5.out)
  rintro e w32 ⟨rfl, hb⟩
  refine ⟨_, rfl, ?_⟩
  replace HOAp := Aside0.mk (Kd.R_below (pR_ HOAp.out) hb)
  replace BKAb := bb_ BKAb hb
  replace BKAd := bb_ BKAd hb
  replace BKAc := bb_ BKAc hb
  replace BKAa := bb_ BKAa hb
  replace HB := bs_ HB hb
  (try clear hb)
  (try clear hb2)
  (try clear hk)
  (try clear hi)
  refine hK.out _ _ ⟨bc_ BKAd 0, bc_ BKAd 1, bc_ BKAd 2, bc_ BKAd 3, bc_ BKAd 4, bc_ BKAd 5, bc_ BKAc 0, bc_ BKAc 1, bc_ BKAc 2, bc_ BKAc 3, bc_ BKAc 4, bc_ BKAc 5, bc_ BKAb 0, bc_ BKAb 1, bc_ BKAb 2, bc_ BKAb 3, bc_ BKAb 4, bc_ BKAb 5⟩ (fun hHeld => ?_)
  clear hK K
  refine nq_ 67 ?_
  refine pq_ 16 68 HT_ ?_
  refine pq_ 17 69 HT_ ?_
  refine pq_ 18 70 HT_ ?_
  refine tq_ 19 71 HT_ HW_ hHeld ?_
  refine tq_ 21 73 HT_ HW_ hHeld ?_
  refine oq_ 20 72 HT_ (fun K hK => ?_)
  refine gs_ Try.func25 #[.agg #[.int .i64 tAe, .int .i64 tAg, .int .i64 tAh, .int .i64 tAi, .int .i64 tAj, .slice Ao20 tAn.length co20]] ?_
  with_reducible refine (plaitingref3_Slots.calls tAe tAg tAh tAi tAj _ _ tAn tBi _ ?side1 ?side2 A11.out).mono ?_
  (case side1 => exact cC_ (Kd.C_below HR0_5.out HB.out))
  (case side2 => exact HC0_5.out)
  rintro e w33 ⟨rfl, hb⟩
  refine ⟨_, rfl, ?_⟩
  replace HOAp := Aside0.mk (Kd.R_below (pR_ HOAp.out) hb)
  replace BKAb := bb_ BKAb hb
  replace BKAd := bb_ BKAd hb
  replace BKAc := bb_ BKAc hb
  replace BKAa := bb_ BKAa hb
  replace HB := bs_ HB hb
  (try clear hb)
  (try clear hb2)
  (try clear hk)
  (try clear hi)
  refine hK.out _ _ ⟨bc_ BKAd 0, bc_ BKAd 1, bc_ BKAd 2, bc_ BKAd 3, bc_ BKAd 4, bc_ BKAd 5, bc_ BKAc 0, bc_ BKAc 1, bc_ BKAc 2, bc_ BKAc 3, bc_ BKAc 4, bc_ BKAc 5, bc_ BKAb 0, bc_ BKAb 1, bc_ BKAb 2, bc_ BKAb 3, bc_ BKAb 4, bc_ BKAb 5⟩ (fun hHeld => ?_)
  clear hK K
  refine nq_ 72 ?_
  refine oq_ 22 74 HT_ (fun K hK => ?_)
  refine gs_ Try.func25 #[.agg #[.int .i64 tAe, .int .i64 tAg, .int .i64 tAh, .int .i64 tAi, .int .i64 tAj, .slice Ao20 ps.length co20]] ?_
  with_reducible refine (plaitingref3_Slots.calls tAe tAg tAh tAi tAj _ _ ps tBj _ ?side1 ?side2 A12.out).mono ?_
  (case side1 => exact cC_ (Kd.C_below HR2_5.out HB.out))
  (case side2 => exact HC2_5.out)
  rintro e w34 ⟨rfl, hb⟩
  refine ⟨_, rfl, ?_⟩
  replace HOAp := Aside0.mk (Kd.R_below (pR_ HOAp.out) hb)
  replace BKAb := bb_ BKAb hb
  replace BKAd := bb_ BKAd hb
  replace BKAc := bb_ BKAc hb
  replace BKAa := bb_ BKAa hb
  replace HB := bs_ HB hb
  (try clear hb)
  (try clear hb2)
  (try clear hk)
  (try clear hi)
  refine hK.out _ _ ⟨bc_ BKAd 0, bc_ BKAd 1, bc_ BKAd 2, bc_ BKAd 3, bc_ BKAd 4, bc_ BKAd 5, bc_ BKAc 0, bc_ BKAc 1, bc_ BKAc 2, bc_ BKAc 3, bc_ BKAc 4, bc_ BKAc 5, bc_ BKAb 0, bc_ BKAb 1, bc_ BKAb 2, bc_ BKAb 3, bc_ BKAb 4, bc_ BKAb 5⟩ (fun hHeld => ?_)
  clear hK K
  refine nq_ 74 ?_
  refine pq_ 23 75 HT_ ?_
  refine pq_ 24 76 HT_ ?_
  refine pq_ 25 77 HT_ ?_
  refine tq_ 26 78 HT_ HW_ hHeld ?_
  refine tq_ 27 79 HT_ HW_ hHeld ?_
  refine oq_ 28 80 HT_ (fun K hK => ?_)
  refine gs_ Try.func30 #[.agg #[.int .i64 tAm, .int .i64 tAr, .int .i64 tAq, .int .i64 tAs, .int .i64 tAu, .slice Ao34 tAt.length co34], .agg #[.int .i64 tAm, .int .i64 tAr, .int .i64 tAq, .int .i64 tAs, .int .i64 tAu, .slice Ao34 tAt.length co34]] ?_
  with_reducible refine (plaitingref5_Same.calls k tAm tAr tAq tAs tAu _ _ tAt tAm tAr tAq tAs tAu _ _ tAt tBm _ ?side1 ?side2 ?side3 ?side4 A14.out).mono ?_
  (case side1 => exact cC_ (Kd.C_below HR1_5.out HB.out))
  (case side2 => exact HC1_5.out)
  (case side3 => exact cC_ (Kd.C_below HR1_5.out HB.out))
  (case side4 => exact HC1_5.out)
  rintro e w35 ⟨rfl, hb⟩
  refine ⟨_, rfl, ?_⟩
  replace HOAp := Aside0.mk (Kd.R_below (pR_ HOAp.out) hb)
  replace BKAb := bb_ BKAb hb
  replace BKAd := bb_ BKAd hb
  replace BKAc := bb_ BKAc hb
  replace BKAa := bb_ BKAa hb
  replace HB := bs_ HB hb
  (try clear hb)
  (try clear hb2)
  (try clear hk)
  (try clear hi)
  refine hK.out _ _ ⟨bc_ BKAd 0, bc_ BKAd 1, bc_ BKAd 2, bc_ BKAd 3, bc_ BKAd 4, bc_ BKAd 5, bc_ BKAc 0, bc_ BKAc 1, bc_ BKAc 2, bc_ BKAc 3, bc_ BKAc 4, bc_ BKAc 5, bc_ BKAb 0, bc_ BKAb 1, bc_ BKAb 2, bc_ BKAb 3, bc_ BKAb 4, bc_ BKAb 5⟩ (fun hHeld => ?_)
  clear hK K
  refine nq_ 80 ?_
  refine pq_ 29 81 HT_ ?_
  refine pq_ 30 8 HT_ ?_
  refine done_ (done_of HT_.out (by kernel_rfl)) ?_
  try go_wp2
  go_ret
  exact ⟨by first | rfl | (simp [errW_none, errW_some] <;> rfl) | (simp [*, errW_none, errW_some] <;> rfl), below_step HBW.out (show Below wB.heap.size wB _ from (pH_ HB.out))⟩
 ·
  rw [if_neg hl] at H
  obtain ⟨v5, A15, H⟩ := Option.bind_eq_some_iff.mp H
  have hlz : decide ((tAn.length : Int) > 0) = false := decide_eq_false (by omega)
  go_wp2_with fail
  refine (plaitinglaw5_within.calls a3 6 v5 _ A15).mono ?_
  rintro e w44 ⟨rfl, ⟨nd, rfl⟩⟩
  replace BKAb := Aside0.mk (blk_drewN BKAb.out nd); replace BKAd := Aside0.mk (blk_drewN BKAd.out nd); replace BKAc := Aside0.mk (blk_drewN BKAc.out nd); replace HRd := Aside0.mk (Kd.R_drewN HRd.out nd); replace HRg := Aside0.mk (Kd.R_drewN HRg.out nd); replace HB := Aside0.mk (pw_below_drewN HB.out nd)
  generalize w43.drewN nd = w45 at BKAb BKAd BKAc HRd HRg HB ⊢
  obtain ⟨ps, hps⟩ : ∃ ps : List Int, ps = [v5] := ⟨_, rfl⟩
  rw [← hps] at H
  go_wp2_with ((with_reducible refine gate_dst (N := 42) rfl ?_); refine Kd.R_lit (Kd.int .i64) _ 3 ?hg (N := 42) ?hd (xs := ([v5] : List Int)) (inner := [.int .i64 v5]) (ok := fun _ => True) (okp := fun _ => True) ?hr ?hp (fun _ hk => hk) trivial (Below.refl _ _) (Nat.le_refl _) (by simp) ?_; (case hd => rfl); (case hg => rfl); (case hr => first | (go_simp; done) | (go_simp; rfl)); (case hp => exact (Reps.one (show Kd.M (Kd.int .i64) _ _ _ v5 [.int .i64 v5] from rfl) (Reps.none _ _))); intro v42 w46 ho hb hg_ hn_; clear hg_ hn_; rw [← hps] at ho; clear hps; have RE0 := Aside0.mk (Kd.R_lower ho (below_size HB.out)); obtain ⟨Ae, ce, rfl⟩ := Kd.R_slice RE0.out; replace BKAb := Aside0.mk (blk_below BKAb.out hb); replace BKAd := Aside0.mk (blk_below BKAd.out hb); replace BKAc := Aside0.mk (blk_below BKAc.out hb); replace HRd := Aside0.mk (Kd.R_below HRd.out hb); replace HRg := Aside0.mk (Kd.R_below HRg.out hb); replace HB := Aside0.mk (below_step HB.out hb); clear hb ho; have he6 : w46.cell? ⟨gbAc, 5, none⟩ = some (.slice Ao20 tAn.length co20) := bc_ BKAc 5; have hf6 := blk_frozen BKAc.out 5)
  have BE := Aside0.mk (show (w46.setCell ⟨gbAc, 5, none⟩ (.slice Ae ps.length ce)).heap[gbAc]? = some (.cells #[.int .i64 tAe, .int .i64 tAg, .int .i64 tAh, .int .i64 tAi, .int .i64 tAj, .slice Ae ps.length ce] 24 (0, 0)) from blk_put BKAc.out 5 _ rfl)
  have BD := Aside0.mk (show (w46.setCell ⟨gbAc, 5, none⟩ (.slice Ae ps.length ce)).heap[gbAb]? = _ from blk_far BKAb.out NBAb_Ac.out _); have BG := Aside0.mk (show (w46.setCell ⟨gbAc, 5, none⟩ (.slice Ae ps.length ce)).heap[gbAd]? = _ from blk_far BKAd.out NBAd_Ac.out _)
  have RD := Aside0.mk (show Kd.R (Kd.int .i64) 3 (w46.setCell ⟨gbAc, 5, none⟩ (.slice Ae ps.length ce)) _ _ _ _ from Kd.R_set HRd.out BKAc.out (by decide) 5 _); have RG := Aside0.mk (show Kd.R k26 26 (w46.setCell ⟨gbAc, 5, none⟩ (.slice Ae ps.length ce)) _ _ _ _ from Kd.R_set HRg.out BKAc.out (by decide) 5 _)
  have RE := Aside0.mk (show Kd.R (Kd.int .i64) 3 (w46.setCell ⟨gbAc, 5, none⟩ (.slice Ae ps.length ce)) _ _ (.slice Ae ps.length ce) ps from Kd.R_set RE0.out BKAc.out (by decide) 5 _)
  have HBW := Aside0.mk (show Below w.heap.size w (w46.setCell ⟨gbAc, 5, none⟩ (.slice Ae ps.length ce)) from below_set HB.out GEAc.out)
  generalize (w46.setCell ⟨gbAc, 5, none⟩ (.slice Ae ps.length ce)) = wB at BE BD BG RD RG RE HBW ⊢
  clear HOAz HOBg BKAk BKAf BKAb BKAd BKAc HRd HRg he5 hf5
  have BKAb := BD; have BKAd := BG; have BKAc := BE; clear BD BG BE HB
  have HB := Aside0.mk (Below.refl wB.heap.size wB)
  have HR0_5 := Aside0.mk (Kd.R_reads' RD.out).2.2; have HC0_5 := Aside0.mk (Kd.R_reads' RD.out).2.1; have HR1_5 := Aside0.mk (Kd.R_reads' RG.out).2.2; have HC1_5 := Aside0.mk (Kd.R_reads' RG.out).2.1; have HR2_5 := Aside0.mk (Kd.R_reads' RE.out).2.2; have HC2_5 := Aside0.mk (Kd.R_reads' RE.out).2.1
  clear hlz hl hHC hHL RD RG RE RE0 A15 he6 hf6
  replace H := Option.bind_eq_some_iff.mp H
  obtain ⟨tBd, A40, H⟩ := H
  try dsimp only at H
  have A4 := Aside0.mk A40
  clear A40
  replace H := Option.bind_eq_some_iff.mp H
  obtain ⟨⟨tAv, tAw, tAx, tAy, tBa, tBb, tBc⟩, A50, H⟩ := H
  try dsimp only at H
  have A5 := Aside0.mk A50
  clear A50
  by_cases c6 : tAm = 3
  rotate_left
  ·
   rw [if_neg c6] at H
   have c6b0 : (tAm == 3) = false := beq_eq_false_iff_ne.mpr c6
   have c6b1 : (tAm != 3) = true := bne_iff_ne.mpr c6
   exact absurd ((Option.some.inj H).trans HRT.out) (by decide)
  rw [if_pos c6] at H
  have c6b0 : (tAm == 3) = true := beq_iff_eq.mpr c6
  have c6b1 : (tAm != 3) = false := bne_eq_false_iff_eq.mpr c6
  clear c6
  by_cases c7 : tAq < 6
  rotate_left
  ·
   rw [if_neg c7] at H
   have c7b0 : decide (tAq < 6) = false := decide_eq_false c7
   clear c7
   exact absurd ((Option.some.inj H).trans HRT.out) (by decide)
  rw [if_pos c7] at H
  have c7b0 : decide (tAq < 6) = true := decide_eq_true c7
  clear c7
  by_cases c8 : tBc = 2
  rotate_left
  ·
   rw [if_neg c8] at H
   have c8b0 : (tBc == 2) = false := beq_eq_false_iff_ne.mpr c8
   have c8b1 : (tBc != 2) = true := bne_iff_ne.mpr c8
   exact absurd ((Option.some.inj H).trans HRT.out) (by decide)
  rw [if_pos c8] at H
  have c8b0 : (tBc == 2) = true := beq_iff_eq.mpr c8
  have c8b1 : (tBc != 2) = false := bne_eq_false_iff_eq.mpr c8
  clear c8
  replace H := Option.bind_eq_some_iff.mp H
  obtain ⟨tBh, A90, H⟩ := H
  try dsimp only at H
  have A9 := Aside0.mk A90
  clear A90
  by_cases c10 : tBh = 2
  rotate_left
  ·
   rw [if_neg c10] at H
   have c10b0 : (tBh == 2) = false := beq_eq_false_iff_ne.mpr c10
   have c10b1 : (tBh != 2) = true := bne_iff_ne.mpr c10
   exact absurd ((Option.some.inj H).trans HRT.out) (by decide)
  rw [if_pos c10] at H
  have c10b0 : (tBh == 2) = true := beq_iff_eq.mpr c10
  have c10b1 : (tBh != 2) = false := bne_eq_false_iff_eq.mpr c10
  clear c10
  replace H := Option.bind_eq_some_iff.mp H
  obtain ⟨tBi, A110, H⟩ := H
  try dsimp only at H
  have A11 := Aside0.mk A110
  clear A110
  replace H := Option.bind_eq_some_iff.mp H
  obtain ⟨tBj, A120, H⟩ := H
  try dsimp only at H
  have A12 := Aside0.mk A120
  clear A120
  by_cases c13 : tBi = tBj
  ·
   rw [if_pos c13] at H
   have c13b0 : (tBi == tBj) = true := beq_iff_eq.mpr c13
   have c13b1 : (tBi != tBj) = false := bne_eq_false_iff_eq.mpr c13
   clear c13
   exact absurd ((Option.some.inj H).trans HRT.out) (by decide)
  rw [if_neg c13] at H
  have c13b0 : (tBi == tBj) = false := beq_eq_false_iff_ne.mpr c13
  have c13b1 : (tBi != tBj) = true := bne_iff_ne.mpr c13
  replace H := Option.bind_eq_some_iff.mp H
  obtain ⟨tBm, A140, H⟩ := H
  try dsimp only at H
  have A14 := Aside0.mk A140
  clear A140
  obtain rfl := Option.some.inj H
  replace BKAb := Aside0.mk (blk_drew BKAb.out)
  replace BKAd := Aside0.mk (blk_drew BKAd.out)
  replace BKAc := Aside0.mk (blk_drew BKAc.out)
  replace HB := Aside0.mk (below_drew1 HB.out)
  refine start_ (n := 11) (S := fun w' => w'.cell? ⟨gbAc, 0, none⟩ = some (.int .i64 tAe) ∧ w'.cell? ⟨gbAc, 1, none⟩ = some (.int .i64 tAg) ∧ w'.cell? ⟨gbAc, 2, none⟩ = some (.int .i64 tAh) ∧ w'.cell? ⟨gbAc, 3, none⟩ = some (.int .i64 tAi) ∧ w'.cell? ⟨gbAc, 4, none⟩ = some (.int .i64 tAj) ∧ w'.cell? ⟨gbAc, 5, none⟩ = some (.slice Ae ps.length ce) ∧ w'.cell? ⟨gbAb, 0, none⟩ = some (.int .i64 tAe) ∧ w'.cell? ⟨gbAb, 1, none⟩ = some (.int .i64 tAg) ∧ w'.cell? ⟨gbAb, 2, none⟩ = some (.int .i64 tAh) ∧ w'.cell? ⟨gbAb, 3, none⟩ = some (.int .i64 tAi) ∧ w'.cell? ⟨gbAb, 4, none⟩ = some (.int .i64 tAj) ∧ w'.cell? ⟨gbAb, 5, none⟩ = some (.slice Ao20 tAn.length co20) ∧ w'.cell? ⟨gbAd, 0, none⟩ = some (.int .i64 tAm) ∧ w'.cell? ⟨gbAd, 1, none⟩ = some (.int .i64 tAr) ∧ w'.cell? ⟨gbAd, 2, none⟩ = some (.int .i64 tAq) ∧ w'.cell? ⟨gbAd, 3, none⟩ = some (.int .i64 tAs) ∧ w'.cell? ⟨gbAd, 4, none⟩ = some (.int .i64 tAu) ∧ w'.cell? ⟨gbAd, 5, none⟩ = some (.slice Ao34 tAt.length co34)) (ds := []) #[false, false, false, false, false, false, false, false, false, false, false] (by kernel_rfl) rfl rfl ⟨bc_ BKAc 0, bc_ BKAc 1, bc_ BKAc 2, bc_ BKAc 3, bc_ BKAc 4, bc_ BKAc 5, bc_ BKAb 0, bc_ BKAb 1, bc_ BKAb 2, bc_ BKAb 3, bc_ BKAb 4, bc_ BKAb 5, bc_ BKAd 0, bc_ BKAd 1, bc_ BKAd 2, bc_ BKAd 3, bc_ BKAd 4, bc_ BKAd 5⟩ (fun hHeld => ?_); refine with_tabW plaitinglaw5_FrameOther.tab11 plaitinglaw5_FrameOther.bits11 (fun HT_ HW_ => ?_)
  generalize wB.drew = w18 at BKAb BKAd BKAc HB hHeld ⊢
  refine tq_ 0 45 HT_ HW_ hHeld ?_
  refine tq_ 1 46 HT_ HW_ hHeld ?_
  refine tq_ 2 47 HT_ HW_ hHeld ?_
  refine join_ (σ := Value × Nat) 2 #[true, true, true, true, true, true, true, true, true, false, false] (fun s_ => [(48, .string tBd), (49, .tuple #[.agg #[.int .i64 tAv, .int .i64 tAw, .int .i64 tAx, .int .i64 tAy, .int .i64 tBa, s_.1], .int .i64 tBc]), (12, .pointer (some ⟨s_.2, 0, none⟩)), (44, .tuple #[.agg #[.int .i64 tAv, .int .i64 tAw, .int .i64 tAx, .int .i64 tAy, .int .i64 tBa, s_.1], .int .i64 tBc]), (50, .agg #[.int .i64 tAv, .int .i64 tAw, .int .i64 tAx, .int .i64 tAy, .int .i64 tBa, s_.1]), (51, .int .i64 tBc)]) (fun s_ w' => (w'.cell? ⟨gbAc, 0, none⟩ = some (.int .i64 tAe) ∧ w'.cell? ⟨gbAc, 1, none⟩ = some (.int .i64 tAg) ∧ w'.cell? ⟨gbAc, 2, none⟩ = some (.int .i64 tAh) ∧ w'.cell? ⟨gbAc, 3, none⟩ = some (.int .i64 tAi) ∧ w'.cell? ⟨gbAc, 4, none⟩ = some (.int .i64 tAj) ∧ w'.cell? ⟨gbAc, 5, none⟩ = some (.slice Ae ps.length ce) ∧ w'.cell? ⟨gbAb, 0, none⟩ = some (.int .i64 tAe) ∧ w'.cell? ⟨gbAb, 1, none⟩ = some (.int .i64 tAg) ∧ w'.cell? ⟨gbAb, 2, none⟩ = some (.int .i64 tAh) ∧ w'.cell? ⟨gbAb, 3, none⟩ = some (.int .i64 tAi) ∧ w'.cell? ⟨gbAb, 4, none⟩ = some (.int .i64 tAj) ∧ w'.cell? ⟨gbAb, 5, none⟩ = some (.slice Ao20 tAn.length co20) ∧ w'.cell? ⟨gbAd, 0, none⟩ = some (.int .i64 tAm) ∧ w'.cell? ⟨gbAd, 1, none⟩ = some (.int .i64 tAr) ∧ w'.cell? ⟨gbAd, 2, none⟩ = some (.int .i64 tAq) ∧ w'.cell? ⟨gbAd, 3, none⟩ = some (.int .i64 tAs) ∧ w'.cell? ⟨gbAd, 4, none⟩ = some (.int .i64 tAu) ∧ w'.cell? ⟨gbAd, 5, none⟩ = some (.slice Ao34 tAt.length co34)) ∧ (Kd.R k26 26 w' wB.heap.size (fun _ => True) s_.1 tBb) ∧ (w'.heap[gbAb]? = some (.cells #[.int .i64 tAe, .int .i64 tAg, .int .i64 tAh, .int .i64 tAi, .int .i64 tAj, .slice Ao20 tAn.length co20] 24 (0, 0))) ∧ (w'.heap[gbAd]? = some (.cells #[.int .i64 tAm, .int .i64 tAr, .int .i64 tAq, .int .i64 tAs, .int .i64 tAu, .slice Ao34 tAt.length co34] 29 (0, 0))) ∧ (w'.heap[gbAc]? = some (.cells #[.int .i64 tAe, .int .i64 tAg, .int .i64 tAh, .int .i64 tAi, .int .i64 tAj, .slice Ae ps.length ce] 24 (0, 0))) ∧ (w'.heap[s_.2]? = some (.cells #[.int .i64 0, .int .i64 0, .int .i64 0, .int .i64 0, .int .i64 0, .slice none 0 0] 29 (0, 0))) ∧ (wB.heap.size ≤ s_.2) ∧ (wB.heap.size ≤ s_.2) ∧ (gbAb ≠ s_.2) ∧ (s_.2 ≠ gbAb) ∧ (gbAd ≠ s_.2) ∧ (s_.2 ≠ gbAd) ∧ (gbAc ≠ s_.2) ∧ (s_.2 ≠ gbAc) ∧ (Below wB.heap.size wB w')) ?_ ?_
  rotate_left
  ·
   intro hCont
   refine two_ (i := 3) (j := 8) (Ni := some 48) (Nj := some 12) #[true, true, true, true, false, false, false, false, false, false, false] #[true, true, true, false, false, false, false, false, true, false, false] rfl rfl rfl rfl (two_of HT_.out (by kernel_rfl)) (by decide) (by decide) (fun K hK => ?_) (fun K hK => ?_)
   ·
    skip
    refine gs_ Try.func26 #[.agg #[.int .i64 tAe, .int .i64 tAg, .int .i64 tAh, .int .i64 tAi, .int .i64 tAj, .slice Ao20 tAn.length co20], .agg #[.int .i64 tAm, .int .i64 tAr, .int .i64 tAq, .int .i64 tAs, .int .i64 tAu, .slice Ao34 tAt.length co34]] ?_
    with_reducible refine (frame_Text.calls tAe tAg tAh tAi tAj _ _ tAn tAm tAr tAq tAs tAu _ _ tAt tBd _ ?side1 ?side2 ?side3 ?side4 A4.out).mono ?_
    (case side1 => exact cC_ (Kd.C_below HR0_5.out HB.out))
    (case side2 => exact HC0_5.out)
    (case side3 => exact cC_ (Kd.C_below HR1_5.out HB.out))
    (case side4 => exact HC1_5.out)
    rintro e w19 ⟨rfl, hb⟩
    refine ⟨_, rfl, ?_⟩
    replace BKAb := bb_ BKAb hb
    replace BKAd := bb_ BKAd hb
    replace BKAc := bb_ BKAc hb
    replace HB := bs_ HB hb
    (try clear hb)
    (try clear hb2)
    (try clear hk)
    (try clear hi)
    refine hK.out _ _ ⟨bc_ BKAc 0, bc_ BKAc 1, bc_ BKAc 2, bc_ BKAc 3, bc_ BKAc 4, bc_ BKAc 5, bc_ BKAb 0, bc_ BKAb 1, bc_ BKAb 2, bc_ BKAb 3, bc_ BKAb 4, bc_ BKAb 5, bc_ BKAd 0, bc_ BKAd 1, bc_ BKAd 2, bc_ BKAd 3, bc_ BKAd 4, bc_ BKAd 5⟩ (fun hHeld => ?_)
    clear hK K
    refine nq_ 48 ?_
    refine two_ (i := 4) (j := 8) (Ni := some 49) (Nj := some 12) #[true, true, true, true, true, false, false, false, false, false, false] #[true, true, true, true, false, false, false, false, true, false, false] rfl rfl rfl rfl (two_of HT_.out (by kernel_rfl)) (by decide) (by decide) (fun K hK => ?_) (fun K hK => ?_)
    ·
     skip
     refine gs_ Try.func35 #[.agg #[.int .i64 tAe, .int .i64 tAg, .int .i64 tAh, .int .i64 tAi, .int .i64 tAj, .slice Ae ps.length ce], .string tBd] ?_
     with_reducible refine (frame_Read.calls tAe tAg tAh tAi tAj _ _ ps tBd tAv tAw tAx tAy tBa tBb tBc _ ?side1 ?side2 A5.out).mono ?_
     (case side1 => exact cC_ (Kd.C_below HR2_5.out HB.out))
     (case side2 => exact HC2_5.out)
     rintro e w20 ⟨vBe, rfl, ho0, hb⟩
     refine ⟨_, rfl, ?_⟩
     have HOAp := Aside0.mk (Kd.R_lower ho0 (below_size (pH_ HB.out)))
     replace BKAb := bb_ BKAb hb
     replace BKAd := bb_ BKAd hb
     replace BKAc := bb_ BKAc hb
     replace HB := bs_ HB hb
     (try clear hb)
     (try clear hb2)
     (try clear hk)
     (try clear hi)
     (try clear ho0)
     refine hK.out _ _ ⟨bc_ BKAc 0, bc_ BKAc 1, bc_ BKAc 2, bc_ BKAc 3, bc_ BKAc 4, bc_ BKAc 5, bc_ BKAb 0, bc_ BKAb 1, bc_ BKAb 2, bc_ BKAb 3, bc_ BKAb 4, bc_ BKAb 5, bc_ BKAd 0, bc_ BKAd 1, bc_ BKAd 2, bc_ BKAd 3, bc_ BKAd 4, bc_ BKAd 5⟩ (fun hHeld => ?_)
     clear hK K
     refine nq_ 49 ?_
     refine pq_ 5 44 HT_ ?_
     refine pq_ 6 50 HT_ ?_
     refine pq_ 7 51 HT_ ?_
     refine oq_ 8 12 HT_ (fun K hK => ?_)
     refine box_step ?hg (N := 12) ?hd (cs := #[.int .i64 0, .int .i64 0, .int .i64 0, .int .i64 0, .int .i64 0, .slice none 0 0]) (t := 29) ?hr ?_; (case hd => rfl); (case hg => rfl); (case hr => first | (go_simp; done) | (go_simp; rfl))
     intro gbAa hg w21 hbox hb
     have BKAa := Aside0.mk (hbox)
     have GWAa := Aside0.mk ((by rw [hg]; exact (below_size (pH_ HB.out)) : wB.heap.size ≤ gbAa))
     have GEAa := Aside0.mk ((by rw [hg]; exact (below_size (pH_ HB.out)) : wB.heap.size ≤ gbAa))
     have NBAb_Aa := Aside0.mk (ltB_ hg BKAb.out)
     have NBAa_Ab := Aside0.mk (ltB_ hg BKAb.out).symm
     have NBAd_Aa := Aside0.mk (ltB_ hg BKAd.out)
     have NBAa_Ad := Aside0.mk (ltB_ hg BKAd.out).symm
     have NBAc_Aa := Aside0.mk (ltB_ hg BKAc.out)
     have NBAa_Ac := Aside0.mk (ltB_ hg BKAc.out).symm
     replace HOAp := Aside0.mk (Kd.R_below (pR_ HOAp.out) hb)
     replace BKAb := bb_ BKAb hb
     replace BKAd := bb_ BKAd hb
     replace BKAc := bb_ BKAc hb
     replace HB := bs_ HB hb
     clear hb hbox hg
     refine hK.out _ _ ⟨bc_ BKAc 0, bc_ BKAc 1, bc_ BKAc 2, bc_ BKAc 3, bc_ BKAc 4, bc_ BKAc 5, bc_ BKAb 0, bc_ BKAb 1, bc_ BKAb 2, bc_ BKAb 3, bc_ BKAb 4, bc_ BKAb 5, bc_ BKAd 0, bc_ BKAd 1, bc_ BKAd 2, bc_ BKAd 3, bc_ BKAd 4, bc_ BKAd 5⟩ (fun hHeld => ?_)
     clear hK K
     refine nq_ 12 ?_
     exact norm_ (by simp only [putAll, Act.put, List.setIfInBounds_toArray, List.set_cons_zero, List.set_cons_succ]) (hCont (vBe, gbAa) _ ⟨hHeld, (pR_ HOAp.out), (pB_ BKAb.out), (pB_ BKAd.out), (pB_ BKAc.out), (pB_ BKAa.out), GWAa.out, GEAa.out, NBAb_Aa.out, NBAa_Ab.out, NBAd_Aa.out, NBAa_Ad.out, NBAc_Aa.out, NBAa_Ac.out, (pH_ HB.out)⟩)
    skip
    refine box_step ?hg (N := 12) ?hd (cs := #[.int .i64 0, .int .i64 0, .int .i64 0, .int .i64 0, .int .i64 0, .slice none 0 0]) (t := 29) ?hr ?_; (case hd => rfl); (case hg => rfl); (case hr => first | (go_simp; done) | (go_simp; rfl))
    intro gbAa hg w20 hbox hb
    have BKAa := Aside0.mk (hbox)
    have GWAa := Aside0.mk ((by rw [hg]; exact (below_size (pH_ HB.out)) : wB.heap.size ≤ gbAa))
    have GEAa := Aside0.mk ((by rw [hg]; exact (below_size (pH_ HB.out)) : wB.heap.size ≤ gbAa))
    have NBAb_Aa := Aside0.mk (ltB_ hg BKAb.out)
    have NBAa_Ab := Aside0.mk (ltB_ hg BKAb.out).symm
    have NBAd_Aa := Aside0.mk (ltB_ hg BKAd.out)
    have NBAa_Ad := Aside0.mk (ltB_ hg BKAd.out).symm
    have NBAc_Aa := Aside0.mk (ltB_ hg BKAc.out)
    have NBAa_Ac := Aside0.mk (ltB_ hg BKAc.out).symm
    replace BKAb := bb_ BKAb hb
    replace BKAd := bb_ BKAd hb
    replace BKAc := bb_ BKAc hb
    replace HB := bs_ HB hb
    clear hb hbox hg
    refine hK.out _ _ ⟨bc_ BKAc 0, bc_ BKAc 1, bc_ BKAc 2, bc_ BKAc 3, bc_ BKAc 4, bc_ BKAc 5, bc_ BKAb 0, bc_ BKAb 1, bc_ BKAb 2, bc_ BKAb 3, bc_ BKAb 4, bc_ BKAb 5, bc_ BKAd 0, bc_ BKAd 1, bc_ BKAd 2, bc_ BKAd 3, bc_ BKAd 4, bc_ BKAd 5⟩ (fun hHeld => ?_)
    clear hK K
    refine nq_ 12 ?_
    refine oq_ 4 49 HT_ (fun K hK => ?_)
    refine gs_ Try.func35 #[.agg #[.int .i64 tAe, .int .i64 tAg, .int .i64 tAh, .int .i64 tAi, .int .i64 tAj, .slice Ae ps.length ce], .string tBd] ?_
    with_reducible refine (frame_Read.calls tAe tAg tAh tAi tAj _ _ ps tBd tAv tAw tAx tAy tBa tBb tBc _ ?side1 ?side2 A5.out).mono ?_
    (case side1 => exact cC_ (Kd.C_below HR2_5.out HB.out))
    (case side2 => exact HC2_5.out)
    rintro e w21 ⟨vBe, rfl, ho0, hb⟩
    refine ⟨_, rfl, ?_⟩
    have HOAp := Aside0.mk (Kd.R_lower ho0 (below_size (pH_ HB.out)))
    replace BKAb := bb_ BKAb hb
    replace BKAd := bb_ BKAd hb
    replace BKAc := bb_ BKAc hb
    replace BKAa := bb_ BKAa hb
    replace HB := bs_ HB hb
    (try clear hb)
    (try clear hb2)
    (try clear hk)
    (try clear hi)
    (try clear ho0)
    refine hK.out _ _ ⟨bc_ BKAc 0, bc_ BKAc 1, bc_ BKAc 2, bc_ BKAc 3, bc_ BKAc 4, bc_ BKAc 5, bc_ BKAb 0, bc_ BKAb 1, bc_ BKAb 2, bc_ BKAb 3, bc_ BKAb 4, bc_ BKAb 5, bc_ BKAd 0, bc_ BKAd 1, bc_ BKAd 2, bc_ BKAd 3, bc_ BKAd 4, bc_ BKAd 5⟩ (fun hHeld => ?_)
    clear hK K
    refine nq_ 49 ?_
    refine pq_ 5 44 HT_ ?_
    refine pq_ 6 50 HT_ ?_
    refine pq_ 7 51 HT_ ?_
    exact norm_ (by simp only [putAll, Act.put, List.setIfInBounds_toArray, List.set_cons_zero, List.set_cons_succ]) (hCont (vBe, gbAa) _ ⟨hHeld, (pR_ HOAp.out), (pB_ BKAb.out), (pB_ BKAd.out), (pB_ BKAc.out), (pB_ BKAa.out), GWAa.out, GEAa.out, NBAb_Aa.out, NBAa_Ab.out, NBAd_Aa.out, NBAa_Ad.out, NBAc_Aa.out, NBAa_Ac.out, (pH_ HB.out)⟩)
   skip
   refine box_step ?hg (N := 12) ?hd (cs := #[.int .i64 0, .int .i64 0, .int .i64 0, .int .i64 0, .int .i64 0, .slice none 0 0]) (t := 29) ?hr ?_; (case hd => rfl); (case hg => rfl); (case hr => first | (go_simp; done) | (go_simp; rfl))
   intro gbAa hg w19 hbox hb
   have BKAa := Aside0.mk (hbox)
   have GWAa := Aside0.mk ((by rw [hg]; exact (below_size (pH_ HB.out)) : wB.heap.size ≤ gbAa))
   have GEAa := Aside0.mk ((by rw [hg]; exact (below_size (pH_ HB.out)) : wB.heap.size ≤ gbAa))
   have NBAb_Aa := Aside0.mk (ltB_ hg BKAb.out)
   have NBAa_Ab := Aside0.mk (ltB_ hg BKAb.out).symm
   have NBAd_Aa := Aside0.mk (ltB_ hg BKAd.out)
   have NBAa_Ad := Aside0.mk (ltB_ hg BKAd.out).symm
   have NBAc_Aa := Aside0.mk (ltB_ hg BKAc.out)
   have NBAa_Ac := Aside0.mk (ltB_ hg BKAc.out).symm
   replace BKAb := bb_ BKAb hb
   replace BKAd := bb_ BKAd hb
   replace BKAc := bb_ BKAc hb
   replace HB := bs_ HB hb
   clear hb hbox hg
   refine hK.out _ _ ⟨bc_ BKAc 0, bc_ BKAc 1, bc_ BKAc 2, bc_ BKAc 3, bc_ BKAc 4, bc_ BKAc 5, bc_ BKAb 0, bc_ BKAb 1, bc_ BKAb 2, bc_ BKAb 3, bc_ BKAb 4, bc_ BKAb 5, bc_ BKAd 0, bc_ BKAd 1, bc_ BKAd 2, bc_ BKAd 3, bc_ BKAd 4, bc_ BKAd 5⟩ (fun hHeld => ?_)
   clear hK K
   refine nq_ 12 ?_
   refine oq_ 3 48 HT_ (fun K hK => ?_)
   refine gs_ Try.func26 #[.agg #[.int .i64 tAe, .int .i64 tAg, .int .i64 tAh, .int .i64 tAi, .int .i64 tAj, .slice Ao20 tAn.length co20], .agg #[.int .i64 tAm, .int .i64 tAr, .int .i64 tAq, .int .i64 tAs, .int .i64 tAu, .slice Ao34 tAt.length co34]] ?_
   with_reducible refine (frame_Text.calls tAe tAg tAh tAi tAj _ _ tAn tAm tAr tAq tAs tAu _ _ tAt tBd _ ?side1 ?side2 ?side3 ?side4 A4.out).mono ?_
   (case side1 => exact cC_ (Kd.C_below HR0_5.out HB.out))
   (case side2 => exact HC0_5.out)
   (case side3 => exact cC_ (Kd.C_below HR1_5.out HB.out))
   (case side4 => exact HC1_5.out)
   rintro e w20 ⟨rfl, hb⟩
   refine ⟨_, rfl, ?_⟩
   replace BKAb := bb_ BKAb hb
   replace BKAd := bb_ BKAd hb
   replace BKAc := bb_ BKAc hb
   replace BKAa := bb_ BKAa hb
   replace HB := bs_ HB hb
   (try clear hb)
   (try clear hb2)
   (try clear hk)
   (try clear hi)
   refine hK.out _ _ ⟨bc_ BKAc 0, bc_ BKAc 1, bc_ BKAc 2, bc_ BKAc 3, bc_ BKAc 4, bc_ BKAc 5, bc_ BKAb 0, bc_ BKAb 1, bc_ BKAb 2, bc_ BKAb 3, bc_ BKAb 4, bc_ BKAb 5, bc_ BKAd 0, bc_ BKAd 1, bc_ BKAd 2, bc_ BKAd 3, bc_ BKAd 4, bc_ BKAd 5⟩ (fun hHeld => ?_)
   clear hK K
   refine nq_ 48 ?_
   refine oq_ 4 49 HT_ (fun K hK => ?_)
   refine gs_ Try.func35 #[.agg #[.int .i64 tAe, .int .i64 tAg, .int .i64 tAh, .int .i64 tAi, .int .i64 tAj, .slice Ae ps.length ce], .string tBd] ?_
   with_reducible refine (frame_Read.calls tAe tAg tAh tAi tAj _ _ ps tBd tAv tAw tAx tAy tBa tBb tBc _ ?side1 ?side2 A5.out).mono ?_
   (case side1 => exact cC_ (Kd.C_below HR2_5.out HB.out))
   (case side2 => exact HC2_5.out)
   rintro e w21 ⟨vBe, rfl, ho0, hb⟩
   refine ⟨_, rfl, ?_⟩
   have HOAp := Aside0.mk (Kd.R_lower ho0 (below_size (pH_ HB.out)))
   replace BKAb := bb_ BKAb hb
   replace BKAd := bb_ BKAd hb
   replace BKAc := bb_ BKAc hb
   replace BKAa := bb_ BKAa hb
   replace HB := bs_ HB hb
   (try clear hb)
   (try clear hb2)
   (try clear hk)
   (try clear hi)
   (try clear ho0)
   refine hK.out _ _ ⟨bc_ BKAc 0, bc_ BKAc 1, bc_ BKAc 2, bc_ BKAc 3, bc_ BKAc 4, bc_ BKAc 5, bc_ BKAb 0, bc_ BKAb 1, bc_ BKAb 2, bc_ BKAb 3, bc_ BKAb 4, bc_ BKAb 5, bc_ BKAd 0, bc_ BKAd 1, bc_ BKAd 2, bc_ BKAd 3, bc_ BKAd 4, bc_ BKAd 5⟩ (fun hHeld => ?_)
   clear hK K
   refine nq_ 49 ?_
   refine pq_ 5 44 HT_ ?_
   refine pq_ 6 50 HT_ ?_
   refine pq_ 7 51 HT_ ?_
   exact norm_ (by simp only [putAll, Act.put, List.setIfInBounds_toArray, List.set_cons_zero, List.set_cons_succ]) (hCont (vBe, gbAa) _ ⟨hHeld, (pR_ HOAp.out), (pB_ BKAb.out), (pB_ BKAd.out), (pB_ BKAc.out), (pB_ BKAa.out), GWAa.out, GEAa.out, NBAb_Aa.out, NBAa_Ab.out, NBAd_Aa.out, NBAa_Ad.out, NBAc_Aa.out, NBAa_Ac.out, (pH_ HB.out)⟩)
  rintro ⟨vBe, gbAa⟩ w22 ⟨hS_, h0_, h1_, h2_, h3_, h4_, h5_, h6_, h7_, h8_, h9_, h10_, h11_, h12_, h13_⟩
  have n0_ : Aside0 (Kd.R k26 26 w22 wB.heap.size (fun _ => True) vBe tBb) := ⟨h0_⟩
  have n1_ : Aside0 (w22.heap[gbAb]? = some (.cells #[.int .i64 tAe, .int .i64 tAg, .int .i64 tAh, .int .i64 tAi, .int .i64 tAj, .slice Ao20 tAn.length co20] 24 (0, 0))) := ⟨h1_⟩
  have n2_ : Aside0 (w22.heap[gbAd]? = some (.cells #[.int .i64 tAm, .int .i64 tAr, .int .i64 tAq, .int .i64 tAs, .int .i64 tAu, .slice Ao34 tAt.length co34] 29 (0, 0))) := ⟨h2_⟩
  have n3_ : Aside0 (w22.heap[gbAc]? = some (.cells #[.int .i64 tAe, .int .i64 tAg, .int .i64 tAh, .int .i64 tAi, .int .i64 tAj, .slice Ae ps.length ce] 24 (0, 0))) := ⟨h3_⟩
  have n4_ : Aside0 (w22.heap[gbAa]? = some (.cells #[.int .i64 0, .int .i64 0, .int .i64 0, .int .i64 0, .int .i64 0, .slice none 0 0] 29 (0, 0))) := ⟨h4_⟩
  have n5_ : Aside0 (wB.heap.size ≤ gbAa) := ⟨h5_⟩
  have n6_ : Aside0 (wB.heap.size ≤ gbAa) := ⟨h6_⟩
  have n7_ : Aside0 (gbAb ≠ gbAa) := ⟨h7_⟩
  have n8_ : Aside0 (gbAa ≠ gbAb) := ⟨h8_⟩
  have n9_ : Aside0 (gbAd ≠ gbAa) := ⟨h9_⟩
  have n10_ : Aside0 (gbAa ≠ gbAd) := ⟨h10_⟩
  have n11_ : Aside0 (gbAc ≠ gbAa) := ⟨h11_⟩
  have n12_ : Aside0 (gbAa ≠ gbAc) := ⟨h12_⟩
  have n13_ : Aside0 (Below wB.heap.size wB w22) := ⟨h13_⟩
  clear BKAb
  clear BKAd
  clear BKAc
  clear HB
  clear h0_ h1_ h2_ h3_ h4_ h5_ h6_ h7_ h8_ h9_ h10_ h11_ h12_ h13_
  have HOAp := n0_
  have BKAb := n1_
  have BKAd := n2_
  have BKAc := n3_
  have BKAa := n4_
  have GWAa := n5_
  have GEAa := n6_
  have NBAb_Aa := n7_
  have NBAa_Ab := n8_
  have NBAd_Aa := n9_
  have NBAa_Ad := n10_
  have NBAc_Aa := n11_
  have NBAa_Ac := n12_
  have HB := n13_
  clear n0_ n1_ n2_ n3_ n4_ n5_ n6_ n7_ n8_ n9_ n10_ n11_ n12_ n13_
  have hHeld : w22.cell? ⟨gbAc, 0, none⟩ = some (.int .i64 tAe) ∧ w22.cell? ⟨gbAc, 1, none⟩ = some (.int .i64 tAg) ∧ w22.cell? ⟨gbAc, 2, none⟩ = some (.int .i64 tAh) ∧ w22.cell? ⟨gbAc, 3, none⟩ = some (.int .i64 tAi) ∧ w22.cell? ⟨gbAc, 4, none⟩ = some (.int .i64 tAj) ∧ w22.cell? ⟨gbAc, 5, none⟩ = some (.slice Ae ps.length ce) ∧ w22.cell? ⟨gbAb, 0, none⟩ = some (.int .i64 tAe) ∧ w22.cell? ⟨gbAb, 1, none⟩ = some (.int .i64 tAg) ∧ w22.cell? ⟨gbAb, 2, none⟩ = some (.int .i64 tAh) ∧ w22.cell? ⟨gbAb, 3, none⟩ = some (.int .i64 tAi) ∧ w22.cell? ⟨gbAb, 4, none⟩ = some (.int .i64 tAj) ∧ w22.cell? ⟨gbAb, 5, none⟩ = some (.slice Ao20 tAn.length co20) ∧ w22.cell? ⟨gbAd, 0, none⟩ = some (.int .i64 tAm) ∧ w22.cell? ⟨gbAd, 1, none⟩ = some (.int .i64 tAr) ∧ w22.cell? ⟨gbAd, 2, none⟩ = some (.int .i64 tAq) ∧ w22.cell? ⟨gbAd, 3, none⟩ = some (.int .i64 tAs) ∧ w22.cell? ⟨gbAd, 4, none⟩ = some (.int .i64 tAu) ∧ w22.cell? ⟨gbAd, 5, none⟩ = some (.slice Ao34 tAt.length co34) := hS_
  obtain ⟨Ao28, co28, eo28⟩ := Kd.R_slice HOAp.out
  (first | subst eo28 | (injection eo28 with f1_ f2_ f3_; have f4_ := f1_.symm; have f5_ := f3_.symm; clear f1_ f2_ f3_; subst f4_; subst f5_))
  refine norm_ (a' := ?_) ?_ ?_
  rotate_left
  ·
   simp only [putAll, Act.put, List.setIfInBounds_toArray, List.set_cons_zero, List.set_cons_succ]
   rfl
  refine one_ (i := 9) (N := none) #[true, true, true, true, true, true, true, true, true, true, false] rfl rfl (one_of HT_.out (by kernel_rfl)) (by decide) (fun K hK => ?_)
  have hs23 : w22.cell? ⟨gbAa, 0, none⟩ = some (.int .i64 0) := bc_ BKAa 0
  have hfs23 := blk_frozen BKAa.out 0
  have hns23_0 := NBAb_Aa.out
  have hns23_1 := NBAd_Aa.out
  have hns23_2 := NBAc_Aa.out
  have hms23_0 := NBAa_Ab.out
  have hms23_1 := NBAa_Ad.out
  have hms23_2 := NBAa_Ac.out
  have hs24 : w22.cell? ⟨gbAa, 1, none⟩ = some (.int .i64 0) := bc_ BKAa 1
  have hfs24 := blk_frozen BKAa.out 1
  have hns24_0 := NBAb_Aa.out
  have hns24_1 := NBAd_Aa.out
  have hns24_2 := NBAc_Aa.out
  have hms24_0 := NBAa_Ab.out
  have hms24_1 := NBAa_Ad.out
  have hms24_2 := NBAa_Ac.out
  have hs25 : w22.cell? ⟨gbAa, 2, none⟩ = some (.int .i64 0) := bc_ BKAa 2
  have hfs25 := blk_frozen BKAa.out 2
  have hns25_0 := NBAb_Aa.out
  have hns25_1 := NBAd_Aa.out
  have hns25_2 := NBAc_Aa.out
  have hms25_0 := NBAa_Ab.out
  have hms25_1 := NBAa_Ad.out
  have hms25_2 := NBAa_Ac.out
  have hs26 : w22.cell? ⟨gbAa, 3, none⟩ = some (.int .i64 0) := bc_ BKAa 3
  have hfs26 := blk_frozen BKAa.out 3
  have hns26_0 := NBAb_Aa.out
  have hns26_1 := NBAd_Aa.out
  have hns26_2 := NBAc_Aa.out
  have hms26_0 := NBAa_Ab.out
  have hms26_1 := NBAa_Ad.out
  have hms26_2 := NBAa_Ac.out
  have hs27 : w22.cell? ⟨gbAa, 4, none⟩ = some (.int .i64 0) := bc_ BKAa 4
  have hfs27 := blk_frozen BKAa.out 4
  have hns27_0 := NBAb_Aa.out
  have hns27_1 := NBAd_Aa.out
  have hns27_2 := NBAc_Aa.out
  have hms27_0 := NBAa_Ab.out
  have hms27_1 := NBAa_Ad.out
  have hms27_2 := NBAa_Ac.out
  have hs29 : w22.cell? ⟨gbAa, 5, none⟩ = some (.slice none 0 0) := bc_ BKAa 5
  have hfs29 := blk_frozen BKAa.out 5
  have hns29_0 := NBAb_Aa.out
  have hns29_1 := NBAd_Aa.out
  have hns29_2 := NBAc_Aa.out
  have hms29_0 := NBAa_Ab.out
  have hms29_1 := NBAa_Ad.out
  have hms29_2 := NBAa_Ac.out
  refine skip_ (w1 := ?_) (by rfl) rfl ?_ ?_
  rotate_left
  ·
   go_simp
   rfl
  refine hK.out _ _ ⟨((cell_far (p := ⟨gbAa, _, none⟩) NBAc_Aa.out _).trans (((cell_far (p := ⟨gbAa, _, none⟩) NBAc_Aa.out _).trans (((cell_far (p := ⟨gbAa, _, none⟩) NBAc_Aa.out _).trans (((cell_far (p := ⟨gbAa, _, none⟩) NBAc_Aa.out _).trans (((cell_far (p := ⟨gbAa, _, none⟩) NBAc_Aa.out _).trans (((cell_far (p := ⟨gbAa, _, none⟩) NBAc_Aa.out _).trans (hHeld.1)))))))))))), ((cell_far (p := ⟨gbAa, _, none⟩) NBAc_Aa.out _).trans (((cell_far (p := ⟨gbAa, _, none⟩) NBAc_Aa.out _).trans (((cell_far (p := ⟨gbAa, _, none⟩) NBAc_Aa.out _).trans (((cell_far (p := ⟨gbAa, _, none⟩) NBAc_Aa.out _).trans (((cell_far (p := ⟨gbAa, _, none⟩) NBAc_Aa.out _).trans (((cell_far (p := ⟨gbAa, _, none⟩) NBAc_Aa.out _).trans (hHeld.2.1)))))))))))), ((cell_far (p := ⟨gbAa, _, none⟩) NBAc_Aa.out _).trans (((cell_far (p := ⟨gbAa, _, none⟩) NBAc_Aa.out _).trans (((cell_far (p := ⟨gbAa, _, none⟩) NBAc_Aa.out _).trans (((cell_far (p := ⟨gbAa, _, none⟩) NBAc_Aa.out _).trans (((cell_far (p := ⟨gbAa, _, none⟩) NBAc_Aa.out _).trans (((cell_far (p := ⟨gbAa, _, none⟩) NBAc_Aa.out _).trans (hHeld.2.2.1)))))))))))), ((cell_far (p := ⟨gbAa, _, none⟩) NBAc_Aa.out _).trans (((cell_far (p := ⟨gbAa, _, none⟩) NBAc_Aa.out _).trans (((cell_far (p := ⟨gbAa, _, none⟩) NBAc_Aa.out _).trans (((cell_far (p := ⟨gbAa, _, none⟩) NBAc_Aa.out _).trans (((cell_far (p := ⟨gbAa, _, none⟩) NBAc_Aa.out _).trans (((cell_far (p := ⟨gbAa, _, none⟩) NBAc_Aa.out _).trans (hHeld.2.2.2.1)))))))))))), ((cell_far (p := ⟨gbAa, _, none⟩) NBAc_Aa.out _).trans (((cell_far (p := ⟨gbAa, _, none⟩) NBAc_Aa.out _).trans (((cell_far (p := ⟨gbAa, _, none⟩) NBAc_Aa.out _).trans (((cell_far (p := ⟨gbAa, _, none⟩) NBAc_Aa.out _).trans (((cell_far (p := ⟨gbAa, _, none⟩) NBAc_Aa.out _).trans (((cell_far (p := ⟨gbAa, _, none⟩) NBAc_Aa.out _).trans (hHeld.2.2.2.2.1)))))))))))), ((cell_far (p := ⟨gbAa, _, none⟩) NBAc_Aa.out _).trans (((cell_far (p := ⟨gbAa, _, none⟩) NBAc_Aa.out _).trans (((cell_far (p := ⟨gbAa, _, none⟩) NBAc_Aa.out _).trans (((cell_far (p := ⟨gbAa, _, none⟩) NBAc_Aa.out _).trans (((cell_far (p := ⟨gbAa, _, none⟩) NBAc_Aa.out _).trans (((cell_far (p := ⟨gbAa, _, none⟩) NBAc_Aa.out _).trans (hHeld.2.2.2.2.2.1)))))))))))), ((cell_far (p := ⟨gbAa, _, none⟩) NBAb_Aa.out _).trans (((cell_far (p := ⟨gbAa, _, none⟩) NBAb_Aa.out _).trans (((cell_far (p := ⟨gbAa, _, none⟩) NBAb_Aa.out _).trans (((cell_far (p := ⟨gbAa, _, none⟩) NBAb_Aa.out _).trans (((cell_far (p := ⟨gbAa, _, none⟩) NBAb_Aa.out _).trans (((cell_far (p := ⟨gbAa, _, none⟩) NBAb_Aa.out _).trans (hHeld.2.2.2.2.2.2.1)))))))))))), ((cell_far (p := ⟨gbAa, _, none⟩) NBAb_Aa.out _).trans (((cell_far (p := ⟨gbAa, _, none⟩) NBAb_Aa.out _).trans (((cell_far (p := ⟨gbAa, _, none⟩) NBAb_Aa.out _).trans (((cell_far (p := ⟨gbAa, _, none⟩) NBAb_Aa.out _).trans (((cell_far (p := ⟨gbAa, _, none⟩) NBAb_Aa.out _).trans (((cell_far (p := ⟨gbAa, _, none⟩) NBAb_Aa.out _).trans (hHeld.2.2.2.2.2.2.2.1)))))))))))), ((cell_far (p := ⟨gbAa, _, none⟩) NBAb_Aa.out _).trans (((cell_far (p := ⟨gbAa, _, none⟩) NBAb_Aa.out _).trans (((cell_far (p := ⟨gbAa, _, none⟩) NBAb_Aa.out _).trans (((cell_far (p := ⟨gbAa, _, none⟩) NBAb_Aa.out _).trans (((cell_far (p := ⟨gbAa, _, none⟩) NBAb_Aa.out _).trans (((cell_far (p := ⟨gbAa, _, none⟩) NBAb_Aa.out _).trans (hHeld.2.2.2.2.2.2.2.2.1)))))))))))), ((cell_far (p := ⟨gbAa, _, none⟩) NBAb_Aa.out _).trans (((cell_far (p := ⟨gbAa, _, none⟩) NBAb_Aa.out _).trans (((cell_far (p := ⟨gbAa, _, none⟩) NBAb_Aa.out _).trans (((cell_far (p := ⟨gbAa, _, none⟩) NBAb_Aa.out _).trans (((cell_far (p := ⟨gbAa, _, none⟩) NBAb_Aa.out _).trans (((cell_far (p := ⟨gbAa, _, none⟩) NBAb_Aa.out _).trans (hHeld.2.2.2.2.2.2.2.2.2.1)))))))))))), ((cell_far (p := ⟨gbAa, _, none⟩) NBAb_Aa.out _).trans (((cell_far (p := ⟨gbAa, _, none⟩) NBAb_Aa.out _).trans (((cell_far (p := ⟨gbAa, _, none⟩) NBAb_Aa.out _).trans (((cell_far (p := ⟨gbAa, _, none⟩) NBAb_Aa.out _).trans (((cell_far (p := ⟨gbAa, _, none⟩) NBAb_Aa.out _).trans (((cell_far (p := ⟨gbAa, _, none⟩) NBAb_Aa.out _).trans (hHeld.2.2.2.2.2.2.2.2.2.2.1)))))))))))), ((cell_far (p := ⟨gbAa, _, none⟩) NBAb_Aa.out _).trans (((cell_far (p := ⟨gbAa, _, none⟩) NBAb_Aa.out _).trans (((cell_far (p := ⟨gbAa, _, none⟩) NBAb_Aa.out _).trans (((cell_far (p := ⟨gbAa, _, none⟩) NBAb_Aa.out _).trans (((cell_far (p := ⟨gbAa, _, none⟩) NBAb_Aa.out _).trans (((cell_far (p := ⟨gbAa, _, none⟩) NBAb_Aa.out _).trans (hHeld.2.2.2.2.2.2.2.2.2.2.2.1)))))))))))), ((cell_far (p := ⟨gbAa, _, none⟩) NBAd_Aa.out _).trans (((cell_far (p := ⟨gbAa, _, none⟩) NBAd_Aa.out _).trans (((cell_far (p := ⟨gbAa, _, none⟩) NBAd_Aa.out _).trans (((cell_far (p := ⟨gbAa, _, none⟩) NBAd_Aa.out _).trans (((cell_far (p := ⟨gbAa, _, none⟩) NBAd_Aa.out _).trans (((cell_far (p := ⟨gbAa, _, none⟩) NBAd_Aa.out _).trans (hHeld.2.2.2.2.2.2.2.2.2.2.2.2.1)))))))))))), ((cell_far (p := ⟨gbAa, _, none⟩) NBAd_Aa.out _).trans (((cell_far (p := ⟨gbAa, _, none⟩) NBAd_Aa.out _).trans (((cell_far (p := ⟨gbAa, _, none⟩) NBAd_Aa.out _).trans (((cell_far (p := ⟨gbAa, _, none⟩) NBAd_Aa.out _).trans (((cell_far (p := ⟨gbAa, _, none⟩) NBAd_Aa.out _).trans (((cell_far (p := ⟨gbAa, _, none⟩) NBAd_Aa.out _).trans (hHeld.2.2.2.2.2.2.2.2.2.2.2.2.2.1)))))))))))), ((cell_far (p := ⟨gbAa, _, none⟩) NBAd_Aa.out _).trans (((cell_far (p := ⟨gbAa, _, none⟩) NBAd_Aa.out _).trans (((cell_far (p := ⟨gbAa, _, none⟩) NBAd_Aa.out _).trans (((cell_far (p := ⟨gbAa, _, none⟩) NBAd_Aa.out _).trans (((cell_far (p := ⟨gbAa, _, none⟩) NBAd_Aa.out _).trans (((cell_far (p := ⟨gbAa, _, none⟩) NBAd_Aa.out _).trans (hHeld.2.2.2.2.2.2.2.2.2.2.2.2.2.2.1)))))))))))), ((cell_far (p := ⟨gbAa, _, none⟩) NBAd_Aa.out _).trans (((cell_far (p := ⟨gbAa, _, none⟩) NBAd_Aa.out _).trans (((cell_far (p := ⟨gbAa, _, none⟩) NBAd_Aa.out _).trans (((cell_far (p := ⟨gbAa, _, none⟩) NBAd_Aa.out _).trans (((cell_far (p := ⟨gbAa, _, none⟩) NBAd_Aa.out _).trans (((cell_far (p := ⟨gbAa, _, none⟩) NBAd_Aa.out _).trans (hHeld.2.2.2.2.2.2.2.2.2.2.2.2.2.2.2.1)))))))))))), ((cell_far (p := ⟨gbAa, _, none⟩) NBAd_Aa.out _).trans (((cell_far (p := ⟨gbAa, _, none⟩) NBAd_Aa.out _).trans (((cell_far (p := ⟨gbAa, _, none⟩) NBAd_Aa.out _).trans (((cell_far (p := ⟨gbAa, _, none⟩) NBAd_Aa.out _).trans (((cell_far (p := ⟨gbAa, _, none⟩) NBAd_Aa.out _).trans (((cell_far (p := ⟨gbAa, _, none⟩) NBAd_Aa.out _).trans (hHeld.2.2.2.2.2.2.2.2.2.2.2.2.2.2.2.2.1)))))))))))), ((cell_far (p := ⟨gbAa, _, none⟩) NBAd_Aa.out _).trans (((cell_far (p := ⟨gbAa, _, none⟩) NBAd_Aa.out _).trans (((cell_far (p := ⟨gbAa, _, none⟩) NBAd_Aa.out _).trans (((cell_far (p := ⟨gbAa, _, none⟩) NBAd_Aa.out _).trans (((cell_far (p := ⟨gbAa, _, none⟩) NBAd_Aa.out _).trans (((cell_far (p := ⟨gbAa, _, none⟩) NBAd_Aa.out _).trans (hHeld.2.2.2.2.2.2.2.2.2.2.2.2.2.2.2.2.2))))))))))))⟩ (fun hHeld => ?_)
  clear hK K
  refine pq_ 10 13 HT_ ?_
  refine done_ (done_of HT_.out (by kernel_rfl)) ?_
  try go_wp2
  (try (rw [drewN_self w22]; generalize hq_ : World.drewN w22 _ = w22; have n0_ := Aside0.mk (Kd.R_at hq_ HOAp.out); have n1_ := Aside0.mk (blk_at hq_ BKAb.out); have n2_ := Aside0.mk (blk_at hq_ BKAd.out); have n3_ := Aside0.mk (blk_at hq_ BKAc.out); have n4_ := Aside0.mk (blk_at hq_ BKAa.out); have n5_ := Aside0.mk (below_at hq_ HB.out); clear hq_ HOAp BKAb BKAd BKAc BKAa HB; have HOAp := n0_; have BKAb := n1_; have BKAd := n2_; have BKAc := n3_; have BKAa := n4_; have HB := n5_; clear n0_ n1_ n2_ n3_ n4_ n5_))
  have n0_ : Aside0 (Kd.R k26 26 ((((((w22.setCell ⟨gbAa, 0, none⟩ (.int .i64 tAv)).setCell ⟨gbAa, 1, none⟩ (.int .i64 tAw)).setCell ⟨gbAa, 2, none⟩ (.int .i64 tAx)).setCell ⟨gbAa, 3, none⟩ (.int .i64 tAy)).setCell ⟨gbAa, 4, none⟩ (.int .i64 tBa)).setCell ⟨gbAa, 5, none⟩ (.slice Ao28 tBb.length co28)) wB.heap.size (fun _ => True) (.slice Ao28 tBb.length co28) tBb) := ⟨by (with_reducible repeat (first | apply Kd.R_alloc | apply Kd.R_drewN | apply Kd.R_drew)); exact Kd.R_mono (Kd.R_far (p := ⟨gbAa, 5, none⟩) (Kd.R_far (p := ⟨gbAa, 4, none⟩) (Kd.R_far (p := ⟨gbAa, 3, none⟩) (Kd.R_far (p := ⟨gbAa, 2, none⟩) (Kd.R_far (p := ⟨gbAa, 1, none⟩) (Kd.R_far (p := ⟨gbAa, 0, none⟩) (Kd.R_types HOAp.out BKAa.out (by decide)) (fun _ hk => hk.2) (.int .i64 tAv)) (fun _ hk => hk.2) (.int .i64 tAw)) (fun _ hk => hk.2) (.int .i64 tAx)) (fun _ hk => hk.2) (.int .i64 tAy)) (fun _ hk => hk.2) (.int .i64 tBa)) (fun _ hk => hk.2) (.slice Ao28 tBb.length co28)) (fun _ hk => trivial)⟩
  have n1_ : Aside0 (((((((w22.setCell ⟨gbAa, 0, none⟩ (.int .i64 tAv)).setCell ⟨gbAa, 1, none⟩ (.int .i64 tAw)).setCell ⟨gbAa, 2, none⟩ (.int .i64 tAx)).setCell ⟨gbAa, 3, none⟩ (.int .i64 tAy)).setCell ⟨gbAa, 4, none⟩ (.int .i64 tBa)).setCell ⟨gbAa, 5, none⟩ (.slice Ao28 tBb.length co28)).heap[gbAb]? = some (.cells #[.int .i64 tAe, .int .i64 tAg, .int .i64 tAh, .int .i64 tAi, .int .i64 tAj, .slice Ao20 tAn.length co20] 24 (0, 0))) := ⟨bF_ BKAb.out NBAb_Aa.out⟩
  have n2_ : Aside0 (((((((w22.setCell ⟨gbAa, 0, none⟩ (.int .i64 tAv)).setCell ⟨gbAa, 1, none⟩ (.int .i64 tAw)).setCell ⟨gbAa, 2, none⟩ (.int .i64 tAx)).setCell ⟨gbAa, 3, none⟩ (.int .i64 tAy)).setCell ⟨gbAa, 4, none⟩ (.int .i64 tBa)).setCell ⟨gbAa, 5, none⟩ (.slice Ao28 tBb.length co28)).heap[gbAd]? = some (.cells #[.int .i64 tAm, .int .i64 tAr, .int .i64 tAq, .int .i64 tAs, .int .i64 tAu, .slice Ao34 tAt.length co34] 29 (0, 0))) := ⟨bF_ BKAd.out NBAd_Aa.out⟩
  have n3_ : Aside0 (((((((w22.setCell ⟨gbAa, 0, none⟩ (.int .i64 tAv)).setCell ⟨gbAa, 1, none⟩ (.int .i64 tAw)).setCell ⟨gbAa, 2, none⟩ (.int .i64 tAx)).setCell ⟨gbAa, 3, none⟩ (.int .i64 tAy)).setCell ⟨gbAa, 4, none⟩ (.int .i64 tBa)).setCell ⟨gbAa, 5, none⟩ (.slice Ao28 tBb.length co28)).heap[gbAc]? = some (.cells #[.int .i64 tAe, .int .i64 tAg, .int .i64 tAh, .int .i64 tAi, .int .i64 tAj, .slice Ae ps.length ce] 24 (0, 0))) := ⟨bF_ BKAc.out NBAc_Aa.out⟩
  have n4_ : Aside0 (((((((w22.setCell ⟨gbAa, 0, none⟩ (.int .i64 tAv)).setCell ⟨gbAa, 1, none⟩ (.int .i64 tAw)).setCell ⟨gbAa, 2, none⟩ (.int .i64 tAx)).setCell ⟨gbAa, 3, none⟩ (.int .i64 tAy)).setCell ⟨gbAa, 4, none⟩ (.int .i64 tBa)).setCell ⟨gbAa, 5, none⟩ (.slice Ao28 tBb.length co28)).heap[gbAa]? = some (.cells #[.int .i64 tAv, .int .i64 tAw, .int .i64 tAx, .int .i64 tAy, .int .i64 tBa, .slice Ao28 tBb.length co28] 29 (0, 0))) := ⟨by (with_reducible repeat (first | refine blk_drewN ?_ _ | refine blk_drew ?_ | refine blk_alloc ?_ _)); refine blk_put (cs := #[.int .i64 tAv, .int .i64 tAw, .int .i64 tAx, .int .i64 tAy, .int .i64 tBa, .slice none 0 0]) ?_ 5 _ rfl; (with_reducible repeat (first | refine blk_drewN ?_ _ | refine blk_drew ?_ | refine blk_alloc ?_ _)); refine blk_put (cs := #[.int .i64 tAv, .int .i64 tAw, .int .i64 tAx, .int .i64 tAy, .int .i64 0, .slice none 0 0]) ?_ 4 _ rfl; (with_reducible repeat (first | refine blk_drewN ?_ _ | refine blk_drew ?_ | refine blk_alloc ?_ _)); refine blk_put (cs := #[.int .i64 tAv, .int .i64 tAw, .int .i64 tAx, .int .i64 0, .int .i64 0, .slice none 0 0]) ?_ 3 _ rfl; (with_reducible repeat (first | refine blk_drewN ?_ _ | refine blk_drew ?_ | refine blk_alloc ?_ _)); refine blk_put (cs := #[.int .i64 tAv, .int .i64 tAw, .int .i64 0, .int .i64 0, .int .i64 0, .slice none 0 0]) ?_ 2 _ rfl; (with_reducible repeat (first | refine blk_drewN ?_ _ | refine blk_drew ?_ | refine blk_alloc ?_ _)); refine blk_put (cs := #[.int .i64 tAv, .int .i64 0, .int .i64 0, .int .i64 0, .int .i64 0, .slice none 0 0]) ?_ 1 _ rfl; (with_reducible repeat (first | refine blk_drewN ?_ _ | refine blk_drew ?_ | refine blk_alloc ?_ _)); refine blk_put (cs := #[.int .i64 0, .int .i64 0, .int .i64 0, .int .i64 0, .int .i64 0, .slice none 0 0]) ?_ 0 _ rfl; (with_reducible repeat (first | refine blk_drewN ?_ _ | refine blk_drew ?_ | refine blk_alloc ?_ _)); exact BKAa.out⟩
  have n5_ : Aside0 (Below wB.heap.size wB ((((((w22.setCell ⟨gbAa, 0, none⟩ (.int .i64 tAv)).setCell ⟨gbAa, 1, none⟩ (.int .i64 tAw)).setCell ⟨gbAa, 2, none⟩ (.int .i64 tAx)).setCell ⟨gbAa, 3, none⟩ (.int .i64 tAy)).setCell ⟨gbAa, 4, none⟩ (.int .i64 tBa)).setCell ⟨gbAa, 5, none⟩ (.slice Ao28 tBb.length co28))) := ⟨pH_ HB.out⟩
  (try clear HOAp)
  (try clear BKAb)
  (try clear BKAd)
  (try clear BKAc)
  (try clear BKAa)
  (try clear HB)
  generalize ((((((w22.setCell ⟨gbAa, 0, none⟩ (.int .i64 tAv)).setCell ⟨gbAa, 1, none⟩ (.int .i64 tAw)).setCell ⟨gbAa, 2, none⟩ (.int .i64 tAx)).setCell ⟨gbAa, 3, none⟩ (.int .i64 tAy)).setCell ⟨gbAa, 4, none⟩ (.int .i64 tBa)).setCell ⟨gbAa, 5, none⟩ (.slice Ao28 tBb.length co28)) = w30 at n0_ n1_ n2_ n3_ n4_ n5_ ⊢
  have HOAp := n0_
  have BKAb := n1_
  have BKAd := n2_
  have BKAc := n3_
  have BKAa := n4_
  have HB := n5_
  clear n0_ n1_ n2_ n3_ n4_ n5_
  replace HOAp := Aside0.mk (Kd.R_drew HOAp.out)
  replace BKAb := Aside0.mk (blk_drew BKAb.out)
  replace BKAd := Aside0.mk (blk_drew BKAd.out)
  replace BKAc := Aside0.mk (blk_drew BKAc.out)
  replace BKAa := Aside0.mk (blk_drew BKAa.out)
  replace HB := Aside0.mk (below_drew1 HB.out)
  refine start_ (n := 31) (S := fun w' => w'.cell? ⟨gbAd, 0, none⟩ = some (.int .i64 tAm) ∧ w'.cell? ⟨gbAd, 1, none⟩ = some (.int .i64 tAr) ∧ w'.cell? ⟨gbAd, 2, none⟩ = some (.int .i64 tAq) ∧ w'.cell? ⟨gbAd, 3, none⟩ = some (.int .i64 tAs) ∧ w'.cell? ⟨gbAd, 4, none⟩ = some (.int .i64 tAu) ∧ w'.cell? ⟨gbAd, 5, none⟩ = some (.slice Ao34 tAt.length co34) ∧ w'.cell? ⟨gbAc, 0, none⟩ = some (.int .i64 tAe) ∧ w'.cell? ⟨gbAc, 1, none⟩ = some (.int .i64 tAg) ∧ w'.cell? ⟨gbAc, 2, none⟩ = some (.int .i64 tAh) ∧ w'.cell? ⟨gbAc, 3, none⟩ = some (.int .i64 tAi) ∧ w'.cell? ⟨gbAc, 4, none⟩ = some (.int .i64 tAj) ∧ w'.cell? ⟨gbAc, 5, none⟩ = some (.slice Ae ps.length ce) ∧ w'.cell? ⟨gbAb, 0, none⟩ = some (.int .i64 tAe) ∧ w'.cell? ⟨gbAb, 1, none⟩ = some (.int .i64 tAg) ∧ w'.cell? ⟨gbAb, 2, none⟩ = some (.int .i64 tAh) ∧ w'.cell? ⟨gbAb, 3, none⟩ = some (.int .i64 tAi) ∧ w'.cell? ⟨gbAb, 4, none⟩ = some (.int .i64 tAj) ∧ w'.cell? ⟨gbAb, 5, none⟩ = some (.slice Ao20 tAn.length co20)) (ds := []) #[false, false, false, false, false, false, false, false, false, false, false, false, false, false, false, false, false, false, false, false, false, false, false, false, false, false, false, false, false, false, false] (by kernel_rfl) rfl rfl ⟨bc_ BKAd 0, bc_ BKAd 1, bc_ BKAd 2, bc_ BKAd 3, bc_ BKAd 4, bc_ BKAd 5, bc_ BKAc 0, bc_ BKAc 1, bc_ BKAc 2, bc_ BKAc 3, bc_ BKAc 4, bc_ BKAc 5, bc_ BKAb 0, bc_ BKAb 1, bc_ BKAb 2, bc_ BKAb 3, bc_ BKAb 4, bc_ BKAb 5⟩ (fun hHeld => ?_); refine with_tabW plaitinglaw5_FrameOther.tab12 plaitinglaw5_FrameOther.bits12 (fun HT_ HW_ => ?_)
  generalize w30.drew = w31 at HOAp BKAb BKAd BKAc BKAa HB hHeld ⊢
  refine pq_ 0 52 HT_ ?_
  refine tq_ 1 53 HT_ HW_ hHeld ?_
  refine pq_ 2 54 HT_ ?_
  refine pq_ 3 55 HT_ ?_
  refine pq_ 4 56 HT_ ?_
  refine tq_ 5 57 HT_ HW_ hHeld ?_
  refine pq_ 6 58 HT_ ?_
  refine pq_ 7 59 HT_ ?_
  refine pq_ 8 60 HT_ ?_
  refine pq_ 9 61 HT_ ?_
  refine pq_ 10 62 HT_ ?_
  refine pq_ 11 63 HT_ ?_
  refine pq_ 12 64 HT_ ?_
  refine tq_ 13 65 HT_ HW_ hHeld ?_
  refine tq_ 14 66 HT_ HW_ hHeld ?_
  refine oq_ 15 67 HT_ (fun K hK => ?_)
  refine gs_ Try.func22 #[.agg #[.int .i64 tAe, .int .i64 tAg, .int .i64 tAh, .int .i64 tAi, .int .i64 tAj, .slice Ae ps.length ce], .agg #[.int .i64 tAm, .int .i64 tAr, .int .i64 tAq, .int .i64 tAs, .int .i64 tAu, .slice Ao34 tAt.length co34]] ?_
  with_reducible refine (frame_Check.calls tAe tAg tAh tAi tAj _ _ ps tAm tAr tAq tAs tAu _ _ tAt tBh _ ?side1 ?side2 ?side3 ?side4 A9.out).mono ?_
  (case side1 => exact cC_ (Kd.C_below HR2_5.out HB.out))
  (case side2 => exact HC2_5.out)
  (case side3 => exact cC_ (Kd.C_below HR1_5.out HB.out))
  (case side4 => exact HC1_5.out)
  rintro e w32 ⟨rfl, hb⟩
  refine ⟨_, rfl, ?_⟩
  replace HOAp := Aside0.mk (Kd.R_below (pR_ HOAp.out) hb)
  replace BKAb := bb_ BKAb hb
  replace BKAd := bb_ BKAd hb
  replace BKAc := bb_ BKAc hb
  replace BKAa := bb_ BKAa hb
  replace HB := bs_ HB hb
  (try clear hb)
  (try clear hb2)
  (try clear hk)
  (try clear hi)
  refine hK.out _ _ ⟨bc_ BKAd 0, bc_ BKAd 1, bc_ BKAd 2, bc_ BKAd 3, bc_ BKAd 4, bc_ BKAd 5, bc_ BKAc 0, bc_ BKAc 1, bc_ BKAc 2, bc_ BKAc 3, bc_ BKAc 4, bc_ BKAc 5, bc_ BKAb 0, bc_ BKAb 1, bc_ BKAb 2, bc_ BKAb 3, bc_ BKAb 4, bc_ BKAb 5⟩ (fun hHeld => ?_)
  clear hK K
  refine nq_ 67 ?_
  refine pq_ 16 68 HT_ ?_
  refine pq_ 17 69 HT_ ?_
  refine pq_ 18 70 HT_ ?_
  refine tq_ 19 71 HT_ HW_ hHeld ?_
  refine tq_ 21 73 HT_ HW_ hHeld ?_
  refine oq_ 20 72 HT_ (fun K hK => ?_)
  refine gs_ Try.func25 #[.agg #[.int .i64 tAe, .int .i64 tAg, .int .i64 tAh, .int .i64 tAi, .int .i64 tAj, .slice Ao20 tAn.length co20]] ?_
  with_reducible refine (plaitingref3_Slots.calls tAe tAg tAh tAi tAj _ _ tAn tBi _ ?side1 ?side2 A11.out).mono ?_
  (case side1 => exact cC_ (Kd.C_below HR0_5.out HB.out))
  (case side2 => exact HC0_5.out)
  rintro e w33 ⟨rfl, hb⟩
  refine ⟨_, rfl, ?_⟩
  replace HOAp := Aside0.mk (Kd.R_below (pR_ HOAp.out) hb)
  replace BKAb := bb_ BKAb hb
  replace BKAd := bb_ BKAd hb
  replace BKAc := bb_ BKAc hb
  replace BKAa := bb_ BKAa hb
  replace HB := bs_ HB hb
  (try clear hb)
  (try clear hb2)
  (try clear hk)
  (try clear hi)
  refine hK.out _ _ ⟨bc_ BKAd 0, bc_ BKAd 1, bc_ BKAd 2, bc_ BKAd 3, bc_ BKAd 4, bc_ BKAd 5, bc_ BKAc 0, bc_ BKAc 1, bc_ BKAc 2, bc_ BKAc 3, bc_ BKAc 4, bc_ BKAc 5, bc_ BKAb 0, bc_ BKAb 1, bc_ BKAb 2, bc_ BKAb 3, bc_ BKAb 4, bc_ BKAb 5⟩ (fun hHeld => ?_)
  clear hK K
  refine nq_ 72 ?_
  refine oq_ 22 74 HT_ (fun K hK => ?_)
  refine gs_ Try.func25 #[.agg #[.int .i64 tAe, .int .i64 tAg, .int .i64 tAh, .int .i64 tAi, .int .i64 tAj, .slice Ae ps.length ce]] ?_
  with_reducible refine (plaitingref3_Slots.calls tAe tAg tAh tAi tAj _ _ ps tBj _ ?side1 ?side2 A12.out).mono ?_
  (case side1 => exact cC_ (Kd.C_below HR2_5.out HB.out))
  (case side2 => exact HC2_5.out)
  rintro e w34 ⟨rfl, hb⟩
  refine ⟨_, rfl, ?_⟩
  replace HOAp := Aside0.mk (Kd.R_below (pR_ HOAp.out) hb)
  replace BKAb := bb_ BKAb hb
  replace BKAd := bb_ BKAd hb
  replace BKAc := bb_ BKAc hb
  replace BKAa := bb_ BKAa hb
  replace HB := bs_ HB hb
  (try clear hb)
  (try clear hb2)
  (try clear hk)
  (try clear hi)
  refine hK.out _ _ ⟨bc_ BKAd 0, bc_ BKAd 1, bc_ BKAd 2, bc_ BKAd 3, bc_ BKAd 4, bc_ BKAd 5, bc_ BKAc 0, bc_ BKAc 1, bc_ BKAc 2, bc_ BKAc 3, bc_ BKAc 4, bc_ BKAc 5, bc_ BKAb 0, bc_ BKAb 1, bc_ BKAb 2, bc_ BKAb 3, bc_ BKAb 4, bc_ BKAb 5⟩ (fun hHeld => ?_)
  clear hK K
  refine nq_ 74 ?_
  refine pq_ 23 75 HT_ ?_
  refine pq_ 24 76 HT_ ?_
  refine pq_ 25 77 HT_ ?_
  refine tq_ 26 78 HT_ HW_ hHeld ?_
  refine tq_ 27 79 HT_ HW_ hHeld ?_
  refine oq_ 28 80 HT_ (fun K hK => ?_)
  refine gs_ Try.func30 #[.agg #[.int .i64 tAm, .int .i64 tAr, .int .i64 tAq, .int .i64 tAs, .int .i64 tAu, .slice Ao34 tAt.length co34], .agg #[.int .i64 tAm, .int .i64 tAr, .int .i64 tAq, .int .i64 tAs, .int .i64 tAu, .slice Ao34 tAt.length co34]] ?_
  with_reducible refine (plaitingref5_Same.calls k tAm tAr tAq tAs tAu _ _ tAt tAm tAr tAq tAs tAu _ _ tAt tBm _ ?side1 ?side2 ?side3 ?side4 A14.out).mono ?_
  (case side1 => exact cC_ (Kd.C_below HR1_5.out HB.out))
  (case side2 => exact HC1_5.out)
  (case side3 => exact cC_ (Kd.C_below HR1_5.out HB.out))
  (case side4 => exact HC1_5.out)
  rintro e w35 ⟨rfl, hb⟩
  refine ⟨_, rfl, ?_⟩
  replace HOAp := Aside0.mk (Kd.R_below (pR_ HOAp.out) hb)
  replace BKAb := bb_ BKAb hb
  replace BKAd := bb_ BKAd hb
  replace BKAc := bb_ BKAc hb
  replace BKAa := bb_ BKAa hb
  replace HB := bs_ HB hb
  (try clear hb)
  (try clear hb2)
  (try clear hk)
  (try clear hi)
  refine hK.out _ _ ⟨bc_ BKAd 0, bc_ BKAd 1, bc_ BKAd 2, bc_ BKAd 3, bc_ BKAd 4, bc_ BKAd 5, bc_ BKAc 0, bc_ BKAc 1, bc_ BKAc 2, bc_ BKAc 3, bc_ BKAc 4, bc_ BKAc 5, bc_ BKAb 0, bc_ BKAb 1, bc_ BKAb 2, bc_ BKAb 3, bc_ BKAb 4, bc_ BKAb 5⟩ (fun hHeld => ?_)
  clear hK K
  refine nq_ 80 ?_
  refine pq_ 29 81 HT_ ?_
  refine pq_ 30 8 HT_ ?_
  refine done_ (done_of HT_.out (by kernel_rfl)) ?_
  try go_wp2
  go_ret
  exact ⟨by first | rfl | (simp [errW_none, errW_some] <;> rfl) | (simp [*, errW_none, errW_some] <;> rfl), below_step HBW.out (show Below wB.heap.size wB _ from (pH_ HB.out))⟩
def plaitinglaw5_FrameOther.Pure : Prop := ∀ (a0_0 : Int) (a0_1 : Int) (a0_2 : Int) (a0_3 : Int) (a0_4 : Int) (l0_5 : List Int) (a1_0 : Int) (a1_1 : Int) (a1_2 : Int) (a1_3 : Int) (a1_4 : Int) (l1_5 : List (S26)) (l2 : List Int) (a3 : Int), ((Lit.int .i64 a0_0).wf = true) → ((Lit.int .i64 a0_1).wf = true) → ((Lit.int .i64 a0_2).wf = true) → ((Lit.int .i64 a0_3).wf = true) → ((Lit.int .i64 a0_4).wf = true) → (l0_5.length ≤ maxLen ∧ ∀ y_ ∈ l0_5, (Lit.int .i64 y_).wf = true) → ((Lit.int .i64 a1_0).wf = true) → ((Lit.int .i64 a1_1).wf = true) → ((Lit.int .i64 a1_2).wf = true) → ((Lit.int .i64 a1_3).wf = true) → ((Lit.int .i64 a1_4).wf = true) → (l1_5.length ≤ maxLen ∧ ∀ y_ ∈ l1_5, ok26 y_) → (l2.length ≤ maxLen) → (l2.length * 8 ≤ 140737488351232) → (∀ y_ ∈ l2, (Lit.int .i64 y_).wf = true) → ((Lit.int .i64 a3).wf = true) → ∃ k, plaitinglaw5_FrameOther.f k a0_0 a0_1 a0_2 a0_3 a0_4 l0_5 a1_0 a1_1 a1_2 a1_3 a1_4 l1_5 l2 a3 = some true
theorem plaitinglaw5_FrameOther.walk (P : plaitinglaw5_FrameOther.Pure) (a0_0 : Int) (a0_1 : Int) (a0_2 : Int) (a0_3 : Int) (a0_4 : Int) (A0_5 : Option Addr) (c0_5 : Nat) (l0_5 : List Int) (a1_0 : Int) (a1_1 : Int) (a1_2 : Int) (a1_3 : Int) (a1_4 : Int) (A1_5 : Option Addr) (c1_5 : Nat) (l1_5 : List (S26)) (A2 : Option Addr) (c2 : Nat) (l2 : List Int) (a3 : Int) (w : World) (q0 : (Lit.int .i64 a0_0).wf = true) (q1 : (Lit.int .i64 a0_1).wf = true) (q2 : (Lit.int .i64 a0_2).wf = true) (q3 : (Lit.int .i64 a0_3).wf = true) (q4 : (Lit.int .i64 a0_4).wf = true) (q5 : l0_5.length ≤ maxLen ∧ ∀ y_ ∈ l0_5, (Lit.int .i64 y_).wf = true) (q6 : (Lit.int .i64 a1_0).wf = true) (q7 : (Lit.int .i64 a1_1).wf = true) (q8 : (Lit.int .i64 a1_2).wf = true) (q9 : (Lit.int .i64 a1_3).wf = true) (q10 : (Lit.int .i64 a1_4).wf = true) (q11 : l1_5.length ≤ maxLen ∧ ∀ y_ ∈ l1_5, ok26 y_) (q12 : l2.length ≤ maxLen) (q13 : l2.length * 8 ≤ 140737488351232) (q14 : ∀ y_ ∈ l2, (Lit.int .i64 y_).wf = true) (q15 : (Lit.int .i64 a3).wf = true) (hr0_5 : Kd.C (Kd.int .i64) w A0_5 l0_5.length l0_5) (hc0_5 : l0_5.length ≤ c0_5) (hr1_5 : Kd.C k26 w A1_5 l1_5.length l1_5) (hc1_5 : l1_5.length ≤ c1_5) (hr2 : Kd.C (Kd.int .i64) w A2 l2.length l2) (hc2 : l2.length ≤ c2) :
  Calls Try.prog 9 #[.agg #[.int .i64 a0_0, .int .i64 a0_1, .int .i64 a0_2, .int .i64 a0_3, .int .i64 a0_4, .slice A0_5 l0_5.length c0_5], .agg #[.int .i64 a1_0, .int .i64 a1_1, .int .i64 a1_2, .int .i64 a1_3, .int .i64 a1_4, .slice A1_5 l1_5.length c1_5], .slice A2 l2.length c2, .int .i64 a3] w fun e w' => e = .returned (.bool true) ∧ Below w.heap.size w w' := by
 obtain ⟨k, h⟩ := P a0_0 a0_1 a0_2 a0_3 a0_4 l0_5 a1_0 a1_1 a1_2 a1_3 a1_4 l1_5 l2 a3 q0 q1 q2 q3 q4 q5 q6 q7 q8 q9 q10 q11 q12 q13 q14 q15
 refine (plaitinglaw5_FrameOther.calls k a0_0 a0_1 a0_2 a0_3 a0_4 A0_5 c0_5 l0_5 a1_0 a1_1 a1_2 a1_3 a1_4 A1_5 c1_5 l1_5 A2 c2 l2 a3 true w hr0_5 hc0_5 hr1_5 hc1_5 hr2 hc2 rfl h).mono ?_
 rintro e w' ⟨rfl, hd⟩
 exact ⟨rfl, hd⟩
end Go.Proofs.Ytcpohmfkmgcjkaa.P
