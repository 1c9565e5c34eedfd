/- Printed by a program of this session (myprint) out of the translation: the functions as plain Lean functions, and that the calls compute them. What counts is Lean's check. -/
import Derived.Test.YtcpohmfkmgcjkaaQFrameSamePx0
import Derived.Test.YtcpohmfkmgcjkaaQFrameSamePx8
import Derived.Test.YtcpohmfkmgcjkaaQFrameSamePx11
namespace Go.Proofs.Ytcpohmfkmgcjkaa.P
open Go.RowKit Go.Proofs.YtcpohmfkmgcjkaaW.PrintWords Go.Proofs.YtcpohmfkmgcjkaaW.PrintLast Go.Proofs.YtcpohmfkmgcjkaaW.PrintMore
attribute [local go_sem] max2_int min2_int max_two min_two max_three min_three max_four min_four
set_option linter.unusedVariables false
set_option linter.unusedSimpArgs false
attribute [-simp] ByteArray.size_extract ByteArray.size_append ByteArray.extract_append_extract
attribute [-go_sem] ByteArray.size_append'
mutual
def plaitinglaw5_Make.j0 : Nat → List Int → Int → Int → Int → Int → Int → List Int → Int → Int → Int → Int → Int → List (S26) → Int → Int → Int → Int → Int → Option (Int × Int × Int × Int × Int × (List (S26)))
  | 0, _, _, _, _, _, _, _, _, _, _, _, _, _, _, _, _, _, _ => none
  | k + 1, x2, x42102000, x42102001, x42102002, x42102003, x42102004, x42102005, x42103000, x42103001, x42103002, x42103003, x42103004, x42103005, x42109000, x42109001, x42109002, x42109003, x42109004 => if x42109000 = 3 then ((plaitinglaw5_Item.f k x42103004 true).bind fun bt42109 => (plaitinglaw5_Make.l0 k x2 0 x42102000 x42102001 x42102002 x42102003 x42102004 x42102005 x42109000 x42109001 x42109002 bt42109.1 bt42109.2 ([] : List (S26)))) else (some (x42109000, x42109001, x42109002, x42109003, x42109004, ([] : List (S26))))
def plaitinglaw5_Make.l0 : Nat → List Int → Int → Int → Int → Int → Int → Int → List Int → Int → Int → Int → Int → Int → List (S26) → Option (Int × Int × Int × Int × Int × (List (S26)))
  | 0, _, _, _, _, _, _, _, _, _, _, _, _, _, _ => none
  | k + 1, x2, x8, x42102000, x42102001, x42102002, x42102003, x42102004, x42102005, x42109000, x42109001, x42109002, x42109003, x42109004, x42109005 => (plaitingref3_Slots.f x42102000 x42102001 x42102002 x42102003 x42102004 x42102005).bind fun t42111 => (if x8 < t42111 then (plaitinglaw5_Make.j2 k x2 x8 (decide (x42109002 < x42102000)) x42102000 x42102001 x42102002 x42102003 x42102004 x42102005 x42109000 x42109001 x42109002 x42109003 x42109004 x42109005) else (plaitinglaw5_Make.j2 k x2 x8 false x42102000 x42102001 x42102002 x42102003 x42102004 x42102005 x42109000 x42109001 x42109002 x42109003 x42109004 x42109005))
def plaitinglaw5_Make.j2 : Nat → List Int → Int → Bool → Int → Int → Int → Int → Int → List Int → Int → Int → Int → Int → Int → List (S26) → Option (Int × Int × Int × Int × Int × (List (S26)))
  | 0, _, _, _, _, _, _, _, _, _, _, _, _, _, _, _ => none
  | k + 1, x2, x8, x48, x42102000, x42102001, x42102002, x42102003, x42102004, x42102005, x42109000, x42109001, x42109002, x42109003, x42109004, x42109005 => if x48 = true then (if (x2.length : Int) > 0 then (if (x2.length : Int) = 0 then (none) else (if 0 ≤ (Int.tmod x8 (x2.length : Int)) then (if (Int.tmod x8 (x2.length : Int)) < (x2.length : Int) then (if (wrap64 (1 + x8)) = 0 then (none) else ((plaitinglaw5_Item.f k (wrap64 ((wrap64 (Int.tdiv (rd x2 (Int.tmod x8 (x2.length : Int))) (wrap64 (1 + x8)))) + x8)) false).bind fun bt42113 => (if x42109005.length < 8796093022208 then (plaitinglaw5_Make.l0 k x2 (wrap64 (x8 + 1)) x42102000 x42102001 x42102002 x42102003 x42102004 x42102005 x42109000 x42109001 x42109002 x42109003 x42109004 (x42109005 ++ [(⟨bt42113.1, bt42113.2⟩ : S26)])) else (none)))) else (none)) else (none))) else ((plaitinglaw5_Item.f k x8 false).bind fun bt42118 => (if x42109005.length < 8796093022208 then (plaitinglaw5_Make.l0 k x2 (wrap64 (x8 + 1)) x42102000 x42102001 x42102002 x42102003 x42102004 x42102005 x42109000 x42109001 x42109002 x42109003 x42109004 (x42109005 ++ [(⟨bt42118.1, bt42118.2⟩ : S26)])) else (none)))) else (some (x42109000, x42109001, x42109002, x42109003, x42109004, x42109005))
end
def plaitinglaw5_Make.f (k : Nat) (a0_0 : Int) (a0_1 : Int) (a0_2 : Int) (a0_3 : Int) (a0_4 : Int) (l0_5 : List Int) (a1_0 : Int) (a1_1 : Int) (a1_2 : Int) (a1_3 : Int) (a1_4 : Int) (l1_5 : List (S26)) (l2 : List Int) : Option (Int × Int × Int × Int × Int × (List (S26))) := (plaitinglaw5_within.f a1_0 3).bind fun t42104 => ((plaitinglaw5_within.f a1_1 65536).bind fun t42105 => ((plaitingref3_Slots.f a0_0 a0_1 a0_2 a0_3 a0_4 l0_5).bind fun t42106 => ((plaitinglaw5_within.f a1_2 t42106).bind fun t42107 => (if t42107 ≥ a0_0 then (plaitinglaw5_Make.j0 k l2 a0_0 a0_1 a0_2 a0_3 a0_4 l0_5 a1_0 a1_1 a1_2 a1_3 a1_4 l1_5 3 t42105 t42107 0 0) else (plaitinglaw5_Make.j0 k l2 a0_0 a0_1 a0_2 a0_3 a0_4 l0_5 a1_0 a1_1 a1_2 a1_3 a1_4 l1_5 (wrap64 (1 + t42104)) t42105 t42107 0 0)))))
def plaitinglaw5_Make.T1 : Bool × List (List Nat × List Nat) := (true, [([], []), ([0], [0]), ([1], [1]), ([2], [2]), ([], []), ([4], [4]), ([5, 2], [5]), ([], []), ([7], [7]), ([], []), ([9, 6], [9]), ([8, 10, 10], [8, 10]), ([3, 6, 11], [3, 6, 11]), ([], []), ([13, 12, 11, 0, 1, 2, 3, 4, 5, 6, 7, 8, 9, 10, 11, 12, 13], [12, 13])])
def plaitinglaw5_Make.B1 : List Nat := [0, 1, 3, 7, 0, 16, 55, 0, 128, 0, 631, 2039, 4095, 0, 16383]
theorem plaitinglaw5_Make.tab1 : rtab .any (opsOf Try.f21 1) = plaitinglaw5_Make.T1 := by kernel_rfl
theorem plaitinglaw5_Make.bits1 : waitsOk plaitinglaw5_Make.T1.2 plaitinglaw5_Make.B1 = true := by kernel_rfl
def plaitinglaw5_Make.T13 : Bool × List (List Nat × List Nat) := (true, [([], []), ([0], [0]), ([], []), ([2], [2]), ([3], [3]), ([1, 4, 3], [1, 4]), ([0, 1, 2, 3, 4, 5], []), ([6, 5, 5, 0, 1, 2, 3, 4, 5], [5, 6])])
def plaitinglaw5_Make.B13 : List Nat := [0, 1, 0, 4, 12, 31, 63, 127]
theorem plaitinglaw5_Make.tab13 : rtab .any (opsOf Try.f21 13) = plaitinglaw5_Make.T13 := by kernel_rfl
theorem plaitinglaw5_Make.bits13 : waitsOk plaitinglaw5_Make.T13.2 plaitinglaw5_Make.B13 = true := by kernel_rfl
set_option maxHeartbeats 8000000 in
set_option maxRecDepth 100000 in
theorem plaitinglaw5_Make.calls (k : Nat) (a0_0 : Int) (a0_1 : Int) (a0_2 : Int) (a0_3 : Int) (a0_4 : Int) (A0_5 : Option Addr) (c0_5 : Nat) (l0_5 : List Int) (a1_0 : Int) (a1_1 : Int) (a1_2 : Int) (a1_3 : Int) (a1_4 : Int) (A1_5 : Option Addr) (c1_5 : Nat) (l1_5 : List (S26)) (A2 : Option Addr) (c2 : Nat) (l2 : List Int) (r1 : Int) (r2 : Int) (r3 : Int) (r4 : Int) (r5 : Int) (r6 : List (S26)) (w : World) (hr0_5 : Kd.C (Kd.int .i64) w A0_5 l0_5.length l0_5) (hc0_5 : l0_5.length ≤ c0_5) (hr1_5 : Kd.C k26 w A1_5 l1_5.length l1_5) (hc1_5 : l1_5.length ≤ c1_5) (hr2 : Kd.C (Kd.int .i64) w A2 l2.length l2) (hc2 : l2.length ≤ c2) (h : plaitinglaw5_Make.f k a0_0 a0_1 a0_2 a0_3 a0_4 l0_5 a1_0 a1_1 a1_2 a1_3 a1_4 l1_5 l2 = some (r1, r2, r3, r4, r5, r6)) :
    Calls Try.prog 21 #[.agg #[.int .i64 a0_0, .int .i64 a0_1, .int .i64 a0_2, .int .i64 a0_3, .int .i64 a0_4, .slice A0_5 l0_5.length c0_5], .agg #[.int .i64 a1_0, .int .i64 a1_1, .int .i64 a1_2, .int .i64 a1_3, .int .i64 a1_4, .slice A1_5 l1_5.length c1_5], .slice A2 l2.length c2] w fun e w' => ∃ v5_ : Value, e = .returned (.agg #[.int .i64 r1, .int .i64 r2, .int .i64 r3, .int .i64 r4, .int .i64 r5, v5_]) ∧ Kd.R k26 26 w' w.heap.size (fun _ => True) v5_ r6 ∧ Below w.heap.size w w' := by
  have hu24 := Try.underlying24
  have hu29 := Try.underlying29
  have hu26 := Try.underlying26
  have HR0_5 := Aside0.mk hr0_5
  have HC0_5 := Aside0.mk hc0_5
  clear hr0_5 hc0_5
  have HR1_5 := Aside0.mk hr1_5
  have HC1_5 := Aside0.mk hc1_5
  clear hr1_5 hc1_5
  have HR2 := Aside0.mk hr2
  have HC2 := Aside0.mk hc2
  clear hr2 hc2
  have HB := Aside0.mk (Below.refl w.heap.size w)
  have H : ((plaitinglaw5_within.f a1_0 3).bind fun t42104 => ((plaitinglaw5_within.f a1_1 65536).bind fun t42105 => ((plaitingref3_Slots.f a0_0 a0_1 a0_2 a0_3 a0_4 l0_5).bind fun t42106 => ((plaitinglaw5_within.f a1_2 t42106).bind fun t42107 => (if t42107 ≥ a0_0 then (plaitinglaw5_Make.j0 k l2 a0_0 a0_1 a0_2 a0_3 a0_4 l0_5 a1_0 a1_1 a1_2 a1_3 a1_4 l1_5 3 t42105 t42107 0 0) else (plaitinglaw5_Make.j0 k l2 a0_0 a0_1 a0_2 a0_3 a0_4 l0_5 a1_0 a1_1 a1_2 a1_3 a1_4 l1_5 (wrap64 (1 + t42104)) t42105 t42107 0 0)))))) = some (r1, r2, r3, r4, r5, r6) := h
  clear h
  replace H := Option.bind_eq_some_iff.mp H
  obtain ⟨t42104, A40, H⟩ := H
  replace H : ((plaitinglaw5_within.f a1_1 65536).bind fun t42105 => ((plaitingref3_Slots.f a0_0 a0_1 a0_2 a0_3 a0_4 l0_5).bind fun t42106 => ((plaitinglaw5_within.f a1_2 t42106).bind fun t42107 => (if t42107 ≥ a0_0 then (plaitinglaw5_Make.j0 k l2 a0_0 a0_1 a0_2 a0_3 a0_4 l0_5 a1_0 a1_1 a1_2 a1_3 a1_4 l1_5 3 t42105 t42107 0 0) else (plaitinglaw5_Make.j0 k l2 a0_0 a0_1 a0_2 a0_3 a0_4 l0_5 a1_0 a1_1 a1_2 a1_3 a1_4 l1_5 (wrap64 (1 + t42104)) t42105 t42107 0 0))))) = some (r1, r2, r3, r4, r5, r6) := H
  have A4 := Aside0.mk A40
  clear A40
  replace H := Option.bind_eq_some_iff.mp H
  obtain ⟨t42105, A50, H⟩ := H
  replace H : ((plaitingref3_Slots.f a0_0 a0_1 a0_2 a0_3 a0_4 l0_5).bind fun t42106 => ((plaitinglaw5_within.f a1_2 t42106).bind fun t42107 => (if t42107 ≥ a0_0 then (plaitinglaw5_Make.j0 k l2 a0_0 a0_1 a0_2 a0_3 a0_4 l0_5 a1_0 a1_1 a1_2 a1_3 a1_4 l1_5 3 t42105 t42107 0 0) else (plaitinglaw5_Make.j0 k l2 a0_0 a0_1 a0_2 a0_3 a0_4 l0_5 a1_0 a1_1 a1_2 a1_3 a1_4 l1_5 (wrap64 (1 + t42104)) t42105 t42107 0 0)))) = some (r1, r2, r3, r4, r5, r6) := H
  have A5 := Aside0.mk A50
  clear A50
  replace H := Option.bind_eq_some_iff.mp H
  obtain ⟨t42106, A60, H⟩ := H
  replace H : ((plaitinglaw5_within.f a1_2 t42106).bind fun t42107 => (if t42107 ≥ a0_0 then (plaitinglaw5_Make.j0 k l2 a0_0 a0_1 a0_2 a0_3 a0_4 l0_5 a1_0 a1_1 a1_2 a1_3 a1_4 l1_5 3 t42105 t42107 0 0) else (plaitinglaw5_Make.j0 k l2 a0_0 a0_1 a0_2 a0_3 a0_4 l0_5 a1_0 a1_1 a1_2 a1_3 a1_4 l1_5 (wrap64 (1 + t42104)) t42105 t42107 0 0))) = some (r1, r2, r3, r4, r5, r6) := H
  have A6 := Aside0.mk A60
  clear A60
  replace H := Option.bind_eq_some_iff.mp H
  obtain ⟨t42107, A70, H⟩ := H
  replace H : (if t42107 ≥ a0_0 then (plaitinglaw5_Make.j0 k l2 a0_0 a0_1 a0_2 a0_3 a0_4 l0_5 a1_0 a1_1 a1_2 a1_3 a1_4 l1_5 3 t42105 t42107 0 0) else (plaitinglaw5_Make.j0 k l2 a0_0 a0_1 a0_2 a0_3 a0_4 l0_5 a1_0 a1_1 a1_2 a1_3 a1_4 l1_5 (wrap64 (1 + t42104)) t42105 t42107 0 0)) = some (r1, r2, r3, r4, r5, r6) := H
  have A7 := Aside0.mk A70
  clear A70
  have HC8 := Aside0.mk H
  clear H
  go_enter Try.func21, Try.ntmps21
  try go_wp2_with (first | ((with_reducible refine gate_dst (N := 3) rfl ?_); refine box_event ?hg (N := 3) ?hd (cs := #[.int .i64 a0_0, .int .i64 a0_1, .int .i64 a0_2, .int .i64 a0_3, .int .i64 a0_4, .slice A0_5 l0_5.length c0_5]) (t := 24) ?hr ?_; (case hd => rfl); (case hg => rfl); (case hr => first | (go_simp; done) | (go_simp; rfl)); intro gb42101 hg w9 hbox hb; have BK42101 := Aside0.mk (hbox); have GW42101 := Aside0.mk ((by rw [hg]; exact (below_size (pH_ HB.out)) : w.heap.size ≤ gb42101)); have GE42101 := Aside0.mk ((by rw [hg]; exact (below_size (pH_ HB.out)) : w.heap.size ≤ gb42101)); replace HB := Aside0.mk (below_step (pH_ HB.out) hb); clear hb hbox hg) | ((with_reducible refine gate_dst (N := 4) rfl ?_); refine box_event ?hg (N := 4) ?hd (cs := #[.int .i64 a1_0, .int .i64 a1_1, .int .i64 a1_2, .int .i64 a1_3, .int .i64 a1_4, .slice A1_5 l1_5.length c1_5]) (t := 29) ?hr ?_; (case hd => rfl); (case hg => rfl); (case hr => first | (go_simp; done) | (go_simp; rfl)); intro gb42102 hg w10 hbox hb; have BK42102 := Aside0.mk (hbox); have GW42102 := Aside0.mk ((by rw [hg]; exact (below_size (pH_ HB.out)) : w.heap.size ≤ gb42102)); have GE42102 := Aside0.mk ((by rw [hg]; exact (below_size (pH_ HB.out)) : w.heap.size ≤ gb42102)); have NB42101_42102 := Aside0.mk (ltB_ hg BK42101.out); have NB42102_42101 := Aside0.mk (ltB_ hg BK42101.out).symm; replace BK42101 := Aside0.mk (blk_below (pB_ BK42101.out) hb); replace HB := Aside0.mk (below_step (pH_ HB.out) hb); clear hb hbox hg) | ((with_reducible refine gate_dst (N := 6) rfl ?_); refine box_event ?hg (N := 6) ?hd (cs := #[.int .i64 0, .int .i64 0, .int .i64 0, .int .i64 0, .int .i64 0, .slice none 0 0]) (t := 29) ?hr ?_; (case hd => rfl); (case hg => rfl); (case hr => first | (go_simp; done) | (go_simp; rfl)); intro gb42103 hg w11 hbox hb; have BK42103 := Aside0.mk (hbox); have GW42103 := Aside0.mk ((by rw [hg]; exact (below_size (pH_ HB.out)) : w.heap.size ≤ gb42103)); have GE42103 := Aside0.mk ((by rw [hg]; exact (below_size (pH_ HB.out)) : w.heap.size ≤ gb42103)); have NB42101_42103 := Aside0.mk (ltB_ hg BK42101.out); have NB42103_42101 := Aside0.mk (ltB_ hg BK42101.out).symm; have NB42102_42103 := Aside0.mk (ltB_ hg BK42102.out); have NB42103_42102 := Aside0.mk (ltB_ hg BK42102.out).symm; replace BK42101 := Aside0.mk (blk_below (pB_ BK42101.out) hb); replace BK42102 := Aside0.mk (blk_below (pB_ BK42102.out) hb); replace HB := Aside0.mk (below_step (pH_ HB.out) hb); clear hb hbox hg))
  replace BK42101 := Aside0.mk (blk_drew BK42101.out)
  replace BK42102 := Aside0.mk (blk_drew BK42102.out)
  replace BK42103 := Aside0.mk (blk_drew BK42103.out)
  replace HB := Aside0.mk (below_drew1 HB.out)
  refine start_ (n := 15) (S := fun w' => w'.cell? ⟨gb42102, 0, none⟩ = some (.int .i64 a1_0) ∧ w'.cell? ⟨gb42102, 1, none⟩ = some (.int .i64 a1_1) ∧ w'.cell? ⟨gb42102, 2, none⟩ = some (.int .i64 a1_2) ∧ w'.cell? ⟨gb42102, 3, none⟩ = some (.int .i64 a1_3) ∧ w'.cell? ⟨gb42102, 4, none⟩ = some (.int .i64 a1_4) ∧ w'.cell? ⟨gb42102, 5, none⟩ = some (.slice A1_5 l1_5.length c1_5) ∧ w'.cell? ⟨gb42101, 0, none⟩ = some (.int .i64 a0_0) ∧ w'.cell? ⟨gb42101, 1, none⟩ = some (.int .i64 a0_1) ∧ w'.cell? ⟨gb42101, 2, none⟩ = some (.int .i64 a0_2) ∧ w'.cell? ⟨gb42101, 3, none⟩ = some (.int .i64 a0_3) ∧ w'.cell? ⟨gb42101, 4, none⟩ = some (.int .i64 a0_4) ∧ w'.cell? ⟨gb42101, 5, none⟩ = some (.slice A0_5 l0_5.length c0_5)) (ds := []) #[false, false, false, false, false, false, false, false, false, false, false, false, false, false, false] (by kernel_rfl) rfl rfl ⟨(blk_cell BK42102.out 0).trans rfl, (blk_cell BK42102.out 1).trans rfl, (blk_cell BK42102.out 2).trans rfl, (blk_cell BK42102.out 3).trans rfl, (blk_cell BK42102.out 4).trans rfl, (blk_cell BK42102.out 5).trans rfl, (blk_cell BK42101.out 0).trans rfl, (blk_cell BK42101.out 1).trans rfl, (blk_cell BK42101.out 2).trans rfl, (blk_cell BK42101.out 3).trans rfl, (blk_cell BK42101.out 4).trans rfl, (blk_cell BK42101.out 5).trans rfl⟩ (fun hHeld => ?_); refine with_tabW plaitinglaw5_Make.tab1 plaitinglaw5_Make.bits1 (fun HT_ HW_ => ?_)
  generalize w11.drew = w12 at BK42101 BK42102 BK42103 HB hHeld ⊢
  refine pure_ (i := 0) (N := some 10) (v := ?_) (a' := ?_) #[true, false, false, false, false, false, false, false, false, false, false, false, false, false, false] rfl rfl (any_of HT_.out (by kernel_rfl)) (fun _ _ _ h => h) (Or.inl ⟨by rfl, ?_⟩) ?_ ?_
  rotate_left
  · intro w'
    go_simp
    with_reducible rfl
  rotate_left
  · simp only [Act.put, List.setIfInBounds_toArray, List.set_cons_zero, List.set_cons_succ, i64_w, i32_w]
    rfl
  refine pure_ (i := 4) (N := some 14) (v := ?_) (a' := ?_) #[true, false, false, false, true, false, false, false, false, false, false, false, false, false, false] rfl rfl (any_of HT_.out (by kernel_rfl)) (fun _ _ _ h => h) (Or.inl ⟨by rfl, ?_⟩) ?_ ?_
  rotate_left
  · intro w'
    go_simp
    with_reducible rfl
  rotate_left
  · simp only [Act.put, List.setIfInBounds_toArray, List.set_cons_zero, List.set_cons_succ, i64_w, i32_w]
    rfl
  refine pure_ (i := 7) (N := some 17) (v := ?_) (a' := ?_) #[true, false, false, false, true, false, false, true, false, false, false, false, false, false, false] rfl rfl (any_of HT_.out (by kernel_rfl)) (fun _ _ _ h => h) (Or.inl ⟨by rfl, ?_⟩) ?_ ?_
  rotate_left
  · intro w'
    go_simp
    with_reducible rfl
  rotate_left
  · simp only [Act.put, List.setIfInBounds_toArray, List.set_cons_zero, List.set_cons_succ, i64_w, i32_w]
    rfl
  refine take_ (i := 1) (N := some 11) (v := ?_) (a' := ?_) #[true, true, false, false, true, false, false, true, false, false, false, false, false, false, false] rfl rfl (take_ofW HT_.out HW_.out (by kernel_rfl)) (fun _ _ _ h => h) (Or.inl ⟨by rfl, ?_⟩) hHeld ?_ ?_
  rotate_left
  · rintro w' ⟨s0, s1, s2, s3, s4, s5, s6, s7, s8, s9, s10, s11⟩
    go_simp
    with_reducible rfl
  rotate_left
  · simp only [Act.put, List.setIfInBounds_toArray, List.set_cons_zero, List.set_cons_succ, i64_w, i32_w]
    rfl
  refine take_ (i := 5) (N := some 15) (v := ?_) (a' := ?_) #[true, true, false, false, true, true, false, true, false, false, false, false, false, false, false] rfl rfl (take_ofW HT_.out HW_.out (by kernel_rfl)) (fun _ _ _ h => h) (Or.inl ⟨by rfl, ?_⟩) hHeld ?_ ?_
  rotate_left
  · rintro w' ⟨s0, s1, s2, s3, s4, s5, s6, s7, s8, s9, s10, s11⟩
    go_simp
    with_reducible rfl
  rotate_left
  · simp only [Act.put, List.setIfInBounds_toArray, List.set_cons_zero, List.set_cons_succ, i64_w, i32_w]
    rfl
  refine take_ (i := 8) (N := some 18) (v := ?_) (a' := ?_) #[true, true, false, false, true, true, false, true, true, false, false, false, false, false, false] rfl rfl (take_ofW HT_.out HW_.out (by kernel_rfl)) (fun _ _ _ h => h) (Or.inl ⟨by rfl, ?_⟩) hHeld ?_ ?_
  rotate_left
  · rintro w' ⟨s0, s1, s2, s3, s4, s5, s6, s7, s8, s9, s10, s11⟩
    go_simp
    with_reducible rfl
  rotate_left
  · simp only [Act.put, List.setIfInBounds_toArray, List.set_cons_zero, List.set_cons_succ, i64_w, i32_w]
    rfl
  refine take_ (i := 9) (N := some 19) (v := ?_) (a' := ?_) #[true, true, false, false, true, true, false, true, true, true, false, false, false, false, false] rfl rfl (take_ofW HT_.out HW_.out (by kernel_rfl)) (fun _ _ _ h => h) (Or.inl ⟨by rfl, ?_⟩) hHeld ?_ ?_
  rotate_left
  · rintro w' ⟨s0, s1, s2, s3, s4, s5, s6, s7, s8, s9, s10, s11⟩
    go_simp
    with_reducible rfl
  rotate_left
  · simp only [Act.put, List.setIfInBounds_toArray, List.set_cons_zero, List.set_cons_succ, i64_w, i32_w]
    rfl
  refine join_ (σ := Nat) 1 #[true, true, true, true, true, true, true, true, true, true, true, true, true, true, false] (fun s_ => [(12, .int .i64 t42104), (16, .int .i64 t42105), (20, .int .i64 t42106), (21, .int .i64 t42107), (7, .pointer (some ⟨s_, 0, none⟩)), (13, .int .i64 (wrap64 (1 + t42104))), (22, .agg #[.int .i64 (wrap64 (1 + t42104)), .int .i64 t42105, .int .i64 t42107, .int .i64 0, .int .i64 0, .slice none 0 0])]) (fun s_ w' => (w'.cell? ⟨gb42102, 0, none⟩ = some (.int .i64 a1_0) ∧ w'.cell? ⟨gb42102, 1, none⟩ = some (.int .i64 a1_1) ∧ w'.cell? ⟨gb42102, 2, none⟩ = some (.int .i64 a1_2) ∧ w'.cell? ⟨gb42102, 3, none⟩ = some (.int .i64 a1_3) ∧ w'.cell? ⟨gb42102, 4, none⟩ = some (.int .i64 a1_4) ∧ w'.cell? ⟨gb42102, 5, none⟩ = some (.slice A1_5 l1_5.length c1_5) ∧ w'.cell? ⟨gb42101, 0, none⟩ = some (.int .i64 a0_0) ∧ w'.cell? ⟨gb42101, 1, none⟩ = some (.int .i64 a0_1) ∧ w'.cell? ⟨gb42101, 2, none⟩ = some (.int .i64 a0_2) ∧ w'.cell? ⟨gb42101, 3, none⟩ = some (.int .i64 a0_3) ∧ w'.cell? ⟨gb42101, 4, none⟩ = some (.int .i64 a0_4) ∧ w'.cell? ⟨gb42101, 5, none⟩ = some (.slice A0_5 l0_5.length c0_5)) ∧ (w'.heap[gb42101]? = some (.cells #[.int .i64 a0_0, .int .i64 a0_1, .int .i64 a0_2, .int .i64 a0_3, .int .i64 a0_4, .slice A0_5 l0_5.length c0_5] 24 (0, 0))) ∧ (w'.heap[gb42102]? = some (.cells #[.int .i64 a1_0, .int .i64 a1_1, .int .i64 a1_2, .int .i64 a1_3, .int .i64 a1_4, .slice A1_5 l1_5.length c1_5] 29 (0, 0))) ∧ (w'.heap[gb42103]? = some (.cells #[.int .i64 0, .int .i64 0, .int .i64 0, .int .i64 0, .int .i64 0, .slice none 0 0] 29 (0, 0))) ∧ (w'.heap[s_]? = some (.cells #[.int .i64 0, .int .i64 0, .int .i64 0, .int .i64 0, .int .i64 0, .slice none 0 0] 29 (0, 0))) ∧ (w.heap.size ≤ s_) ∧ (w.heap.size ≤ s_) ∧ (gb42101 ≠ s_) ∧ (s_ ≠ gb42101) ∧ (gb42102 ≠ s_) ∧ (s_ ≠ gb42102) ∧ (gb42103 ≠ s_) ∧ (s_ ≠ gb42103) ∧ (Below w.heap.size w w')) ?_ ?_
  rotate_left
  · intro hJ2_6_10_11_13
    refine join_ (σ := Unit) 2 #[true, true, true, true, true, true, true, true, true, true, true, true, true, false, false] (fun s_ => [(12, .int .i64 t42104), (16, .int .i64 t42105), (20, .int .i64 t42106), (21, .int .i64 t42107), (13, .int .i64 (wrap64 (1 + t42104))), (22, .agg #[.int .i64 (wrap64 (1 + t42104)), .int .i64 t42105, .int .i64 t42107, .int .i64 0, .int .i64 0, .slice none 0 0])]) (fun s_ w' => (w'.cell? ⟨gb42102, 0, none⟩ = some (.int .i64 a1_0) ∧ w'.cell? ⟨gb42102, 1, none⟩ = some (.int .i64 a1_1) ∧ w'.cell? ⟨gb42102, 2, none⟩ = some (.int .i64 a1_2) ∧ w'.cell? ⟨gb42102, 3, none⟩ = some (.int .i64 a1_3) ∧ w'.cell? ⟨gb42102, 4, none⟩ = some (.int .i64 a1_4) ∧ w'.cell? ⟨gb42102, 5, none⟩ = some (.slice A1_5 l1_5.length c1_5) ∧ w'.cell? ⟨gb42101, 0, none⟩ = some (.int .i64 a0_0) ∧ w'.cell? ⟨gb42101, 1, none⟩ = some (.int .i64 a0_1) ∧ w'.cell? ⟨gb42101, 2, none⟩ = some (.int .i64 a0_2) ∧ w'.cell? ⟨gb42101, 3, none⟩ = some (.int .i64 a0_3) ∧ w'.cell? ⟨gb42101, 4, none⟩ = some (.int .i64 a0_4) ∧ w'.cell? ⟨gb42101, 5, none⟩ = some (.slice A0_5 l0_5.length c0_5)) ∧ (w'.heap[gb42101]? = some (.cells #[.int .i64 a0_0, .int .i64 a0_1, .int .i64 a0_2, .int .i64 a0_3, .int .i64 a0_4, .slice A0_5 l0_5.length c0_5] 24 (0, 0))) ∧ (w'.heap[gb42102]? = some (.cells #[.int .i64 a1_0, .int .i64 a1_1, .int .i64 a1_2, .int .i64 a1_3, .int .i64 a1_4, .slice A1_5 l1_5.length c1_5] 29 (0, 0))) ∧ (w'.heap[gb42103]? = some (.cells #[.int .i64 0, .int .i64 0, .int .i64 0, .int .i64 0, .int .i64 0, .slice none 0 0] 29 (0, 0))) ∧ (Below w.heap.size w w')) ?_ ?_
    rotate_left
    · intro hJ2_6_10_11
      refine join_ (σ := Nat) 3 #[true, true, true, true, true, true, true, true, true, true, true, false, false, true, false] (fun s_ => [(12, .int .i64 t42104), (16, .int .i64 t42105), (20, .int .i64 t42106), (7, .pointer (some ⟨s_, 0, none⟩)), (13, .int .i64 (wrap64 (1 + t42104)))]) (fun s_ w' => (w'.cell? ⟨gb42102, 0, none⟩ = some (.int .i64 a1_0) ∧ w'.cell? ⟨gb42102, 1, none⟩ = some (.int .i64 a1_1) ∧ w'.cell? ⟨gb42102, 2, none⟩ = some (.int .i64 a1_2) ∧ w'.cell? ⟨gb42102, 3, none⟩ = some (.int .i64 a1_3) ∧ w'.cell? ⟨gb42102, 4, none⟩ = some (.int .i64 a1_4) ∧ w'.cell? ⟨gb42102, 5, none⟩ = some (.slice A1_5 l1_5.length c1_5) ∧ w'.cell? ⟨gb42101, 0, none⟩ = some (.int .i64 a0_0) ∧ w'.cell? ⟨gb42101, 1, none⟩ = some (.int .i64 a0_1) ∧ w'.cell? ⟨gb42101, 2, none⟩ = some (.int .i64 a0_2) ∧ w'.cell? ⟨gb42101, 3, none⟩ = some (.int .i64 a0_3) ∧ w'.cell? ⟨gb42101, 4, none⟩ = some (.int .i64 a0_4) ∧ w'.cell? ⟨gb42101, 5, none⟩ = some (.slice A0_5 l0_5.length c0_5)) ∧ (w'.heap[gb42101]? = some (.cells #[.int .i64 a0_0, .int .i64 a0_1, .int .i64 a0_2, .int .i64 a0_3, .int .i64 a0_4, .slice A0_5 l0_5.length c0_5] 24 (0, 0))) ∧ (w'.heap[gb42102]? = some (.cells #[.int .i64 a1_0, .int .i64 a1_1, .int .i64 a1_2, .int .i64 a1_3, .int .i64 a1_4, .slice A1_5 l1_5.length c1_5] 29 (0, 0))) ∧ (w'.heap[gb42103]? = some (.cells #[.int .i64 0, .int .i64 0, .int .i64 0, .int .i64 0, .int .i64 0, .slice none 0 0] 29 (0, 0))) ∧ (w'.heap[s_]? = some (.cells #[.int .i64 0, .int .i64 0, .int .i64 0, .int .i64 0, .int .i64 0, .slice none 0 0] 29 (0, 0))) ∧ (w.heap.size ≤ s_) ∧ (w.heap.size ≤ s_) ∧ (gb42101 ≠ s_) ∧ (s_ ≠ gb42101) ∧ (gb42102 ≠ s_) ∧ (s_ ≠ gb42102) ∧ (gb42103 ≠ s_) ∧ (s_ ≠ gb42103) ∧ (Below w.heap.size w w')) ?_ ?_
      rotate_left
      · intro hJ2_6_10_13
        refine join_ (σ := Unit) 4 #[true, true, true, true, true, true, true, true, true, true, true, false, false, false, false] (fun s_ => [(12, .int .i64 t42104), (16, .int .i64 t42105), (20, .int .i64 t42106), (13, .int .i64 (wrap64 (1 + t42104)))]) (fun s_ w' => (w'.cell? ⟨gb42102, 0, none⟩ = some (.int .i64 a1_0) ∧ w'.cell? ⟨gb42102, 1, none⟩ = some (.int .i64 a1_1) ∧ w'.cell? ⟨gb42102, 2, none⟩ = some (.int .i64 a1_2) ∧ w'.cell? ⟨gb42102, 3, none⟩ = some (.int .i64 a1_3) ∧ w'.cell? ⟨gb42102, 4, none⟩ = some (.int .i64 a1_4) ∧ w'.cell? ⟨gb42102, 5, none⟩ = some (.slice A1_5 l1_5.length c1_5) ∧ w'.cell? ⟨gb42101, 0, none⟩ = some (.int .i64 a0_0) ∧ w'.cell? ⟨gb42101, 1, none⟩ = some (.int .i64 a0_1) ∧ w'.cell? ⟨gb42101, 2, none⟩ = some (.int .i64 a0_2) ∧ w'.cell? ⟨gb42101, 3, none⟩ = some (.int .i64 a0_3) ∧ w'.cell? ⟨gb42101, 4, none⟩ = some (.int .i64 a0_4) ∧ w'.cell? ⟨gb42101, 5, none⟩ = some (.slice A0_5 l0_5.length c0_5)) ∧ (w'.heap[gb42101]? = some (.cells #[.int .i64 a0_0, .int .i64 a0_1, .int .i64 a0_2, .int .i64 a0_3, .int .i64 a0_4, .slice A0_5 l0_5.length c0_5] 24 (0, 0))) ∧ (w'.heap[gb42102]? = some (.cells #[.int .i64 a1_0, .int .i64 a1_1, .int .i64 a1_2, .int .i64 a1_3, .int .i64 a1_4, .slice A1_5 l1_5.length c1_5] 29 (0, 0))) ∧ (w'.heap[gb42103]? = some (.cells #[.int .i64 0, .int .i64 0, .int .i64 0, .int .i64 0, .int .i64 0, .slice none 0 0] 29 (0, 0))) ∧ (Below w.heap.size w w')) ?_ ?_
        rotate_left
        · intro hJ2_6_10
          refine join_ (σ := Nat) 4 #[true, true, true, true, true, true, true, true, true, true, false, false, false, true, false] (fun s_ => [(12, .int .i64 t42104), (16, .int .i64 t42105), (7, .pointer (some ⟨s_, 0, none⟩)), (13, .int .i64 (wrap64 (1 + t42104)))]) (fun s_ w' => (w'.cell? ⟨gb42102, 0, none⟩ = some (.int .i64 a1_0) ∧ w'.cell? ⟨gb42102, 1, none⟩ = some (.int .i64 a1_1) ∧ w'.cell? ⟨gb42102, 2, none⟩ = some (.int .i64 a1_2) ∧ w'.cell? ⟨gb42102, 3, none⟩ = some (.int .i64 a1_3) ∧ w'.cell? ⟨gb42102, 4, none⟩ = some (.int .i64 a1_4) ∧ w'.cell? ⟨gb42102, 5, none⟩ = some (.slice A1_5 l1_5.length c1_5) ∧ w'.cell? ⟨gb42101, 0, none⟩ = some (.int .i64 a0_0) ∧ w'.cell? ⟨gb42101, 1, none⟩ = some (.int .i64 a0_1) ∧ w'.cell? ⟨gb42101, 2, none⟩ = some (.int .i64 a0_2) ∧ w'.cell? ⟨gb42101, 3, none⟩ = some (.int .i64 a0_3) ∧ w'.cell? ⟨gb42101, 4, none⟩ = some (.int .i64 a0_4) ∧ w'.cell? ⟨gb42101, 5, none⟩ = some (.slice A0_5 l0_5.length c0_5)) ∧ (w'.heap[gb42101]? = some (.cells #[.int .i64 a0_0, .int .i64 a0_1, .int .i64 a0_2, .int .i64 a0_3, .int .i64 a0_4, .slice A0_5 l0_5.length c0_5] 24 (0, 0))) ∧ (w'.heap[gb42102]? = some (.cells #[.int .i64 a1_0, .int .i64 a1_1, .int .i64 a1_2, .int .i64 a1_3, .int .i64 a1_4, .slice A1_5 l1_5.length c1_5] 29 (0, 0))) ∧ (w'.heap[gb42103]? = some (.cells #[.int .i64 0, .int .i64 0, .int .i64 0, .int .i64 0, .int .i64 0, .slice none 0 0] 29 (0, 0))) ∧ (w'.heap[s_]? = some (.cells #[.int .i64 0, .int .i64 0, .int .i64 0, .int .i64 0, .int .i64 0, .slice none 0 0] 29 (0, 0))) ∧ (w.heap.size ≤ s_) ∧ (w.heap.size ≤ s_) ∧ (gb42101 ≠ s_) ∧ (s_ ≠ gb42101) ∧ (gb42102 ≠ s_) ∧ (s_ ≠ gb42102) ∧ (gb42103 ≠ s_) ∧ (s_ ≠ gb42103) ∧ (Below w.heap.size w w')) ?_ ?_
          rotate_left
          · intro hJ2_6_13
            refine join_ (σ := Unit) 5 #[true, true, true, true, true, true, true, true, true, true, false, false, false, false, false] (fun s_ => [(12, .int .i64 t42104), (16, .int .i64 t42105), (13, .int .i64 (wrap64 (1 + t42104)))]) (fun s_ w' => (w'.cell? ⟨gb42102, 0, none⟩ = some (.int .i64 a1_0) ∧ w'.cell? ⟨gb42102, 1, none⟩ = some (.int .i64 a1_1) ∧ w'.cell? ⟨gb42102, 2, none⟩ = some (.int .i64 a1_2) ∧ w'.cell? ⟨gb42102, 3, none⟩ = some (.int .i64 a1_3) ∧ w'.cell? ⟨gb42102, 4, none⟩ = some (.int .i64 a1_4) ∧ w'.cell? ⟨gb42102, 5, none⟩ = some (.slice A1_5 l1_5.length c1_5) ∧ w'.cell? ⟨gb42101, 0, none⟩ = some (.int .i64 a0_0) ∧ w'.cell? ⟨gb42101, 1, none⟩ = some (.int .i64 a0_1) ∧ w'.cell? ⟨gb42101, 2, none⟩ = some (.int .i64 a0_2) ∧ w'.cell? ⟨gb42101, 3, none⟩ = some (.int .i64 a0_3) ∧ w'.cell? ⟨gb42101, 4, none⟩ = some (.int .i64 a0_4) ∧ w'.cell? ⟨gb42101, 5, none⟩ = some (.slice A0_5 l0_5.length c0_5)) ∧ (w'.heap[gb42101]? = some (.cells #[.int .i64 a0_0, .int .i64 a0_1, .int .i64 a0_2, .int .i64 a0_3, .int .i64 a0_4, .slice A0_5 l0_5.length c0_5] 24 (0, 0))) ∧ (w'.heap[gb42102]? = some (.cells #[.int .i64 a1_0, .int .i64 a1_1, .int .i64 a1_2, .int .i64 a1_3, .int .i64 a1_4, .slice A1_5 l1_5.length c1_5] 29 (0, 0))) ∧ (w'.heap[gb42103]? = some (.cells #[.int .i64 0, .int .i64 0, .int .i64 0, .int .i64 0, .int .i64 0, .slice none 0 0] 29 (0, 0))) ∧ (Below w.heap.size w w')) ?_ ?_
            rotate_left
            · intro hJ2_6
              refine join_ (σ := Nat) 5 #[true, true, true, true, true, true, false, true, true, true, false, false, false, true, false] (fun s_ => [(12, .int .i64 t42104), (7, .pointer (some ⟨s_, 0, none⟩)), (13, .int .i64 (wrap64 (1 + t42104)))]) (fun s_ w' => (w'.cell? ⟨gb42102, 0, none⟩ = some (.int .i64 a1_0) ∧ w'.cell? ⟨gb42102, 1, none⟩ = some (.int .i64 a1_1) ∧ w'.cell? ⟨gb42102, 2, none⟩ = some (.int .i64 a1_2) ∧ w'.cell? ⟨gb42102, 3, none⟩ = some (.int .i64 a1_3) ∧ w'.cell? ⟨gb42102, 4, none⟩ = some (.int .i64 a1_4) ∧ w'.cell? ⟨gb42102, 5, none⟩ = some (.slice A1_5 l1_5.length c1_5) ∧ w'.cell? ⟨gb42101, 0, none⟩ = some (.int .i64 a0_0) ∧ w'.cell? ⟨gb42101, 1, none⟩ = some (.int .i64 a0_1) ∧ w'.cell? ⟨gb42101, 2, none⟩ = some (.int .i64 a0_2) ∧ w'.cell? ⟨gb42101, 3, none⟩ = some (.int .i64 a0_3) ∧ w'.cell? ⟨gb42101, 4, none⟩ = some (.int .i64 a0_4) ∧ w'.cell? ⟨gb42101, 5, none⟩ = some (.slice A0_5 l0_5.length c0_5)) ∧ (w'.heap[gb42101]? = some (.cells #[.int .i64 a0_0, .int .i64 a0_1, .int .i64 a0_2, .int .i64 a0_3, .int .i64 a0_4, .slice A0_5 l0_5.length c0_5] 24 (0, 0))) ∧ (w'.heap[gb42102]? = some (.cells #[.int .i64 a1_0, .int .i64 a1_1, .int .i64 a1_2, .int .i64 a1_3, .int .i64 a1_4, .slice A1_5 l1_5.length c1_5] 29 (0, 0))) ∧ (w'.heap[gb42103]? = some (.cells #[.int .i64 0, .int .i64 0, .int .i64 0, .int .i64 0, .int .i64 0, .slice none 0 0] 29 (0, 0))) ∧ (w'.heap[s_]? = some (.cells #[.int .i64 0, .int .i64 0, .int .i64 0, .int .i64 0, .int .i64 0, .slice none 0 0] 29 (0, 0))) ∧ (w.heap.size ≤ s_) ∧ (w.heap.size ≤ s_) ∧ (gb42101 ≠ s_) ∧ (s_ ≠ gb42101) ∧ (gb42102 ≠ s_) ∧ (s_ ≠ gb42102) ∧ (gb42103 ≠ s_) ∧ (s_ ≠ gb42103) ∧ (Below w.heap.size w w')) ?_ ?_
              rotate_left
              · intro hJ2_13
                refine join_ (σ := Unit) 6 #[true, true, true, true, true, true, false, true, true, true, false, false, false, false, false] (fun s_ => [(12, .int .i64 t42104), (13, .int .i64 (wrap64 (1 + t42104)))]) (fun s_ w' => (w'.cell? ⟨gb42102, 0, none⟩ = some (.int .i64 a1_0) ∧ w'.cell? ⟨gb42102, 1, none⟩ = some (.int .i64 a1_1) ∧ w'.cell? ⟨gb42102, 2, none⟩ = some (.int .i64 a1_2) ∧ w'.cell? ⟨gb42102, 3, none⟩ = some (.int .i64 a1_3) ∧ w'.cell? ⟨gb42102, 4, none⟩ = some (.int .i64 a1_4) ∧ w'.cell? ⟨gb42102, 5, none⟩ = some (.slice A1_5 l1_5.length c1_5) ∧ w'.cell? ⟨gb42101, 0, none⟩ = some (.int .i64 a0_0) ∧ w'.cell? ⟨gb42101, 1, none⟩ = some (.int .i64 a0_1) ∧ w'.cell? ⟨gb42101, 2, none⟩ = some (.int .i64 a0_2) ∧ w'.cell? ⟨gb42101, 3, none⟩ = some (.int .i64 a0_3) ∧ w'.cell? ⟨gb42101, 4, none⟩ = some (.int .i64 a0_4) ∧ w'.cell? ⟨gb42101, 5, none⟩ = some (.slice A0_5 l0_5.length c0_5)) ∧ (w'.heap[gb42101]? = some (.cells #[.int .i64 a0_0, .int .i64 a0_1, .int .i64 a0_2, .int .i64 a0_3, .int .i64 a0_4, .slice A0_5 l0_5.length c0_5] 24 (0, 0))) ∧ (w'.heap[gb42102]? = some (.cells #[.int .i64 a1_0, .int .i64 a1_1, .int .i64 a1_2, .int .i64 a1_3, .int .i64 a1_4, .slice A1_5 l1_5.length c1_5] 29 (0, 0))) ∧ (w'.heap[gb42103]? = some (.cells #[.int .i64 0, .int .i64 0, .int .i64 0, .int .i64 0, .int .i64 0, .slice none 0 0] 29 (0, 0))) ∧ (Below w.heap.size w w')) ?_ ?_
                rotate_left
                · intro hJ2
                  refine join_ (σ := Nat) 7 #[true, true, false, false, true, true, false, true, true, true, false, false, false, true, false] (fun s_ => [(7, .pointer (some ⟨s_, 0, none⟩))]) (fun s_ w' => (w'.cell? ⟨gb42102, 0, none⟩ = some (.int .i64 a1_0) ∧ w'.cell? ⟨gb42102, 1, none⟩ = some (.int .i64 a1_1) ∧ w'.cell? ⟨gb42102, 2, none⟩ = some (.int .i64 a1_2) ∧ w'.cell? ⟨gb42102, 3, none⟩ = some (.int .i64 a1_3) ∧ w'.cell? ⟨gb42102, 4, none⟩ = some (.int .i64 a1_4) ∧ w'.cell? ⟨gb42102, 5, none⟩ = some (.slice A1_5 l1_5.length c1_5) ∧ w'.cell? ⟨gb42101, 0, none⟩ = some (.int .i64 a0_0) ∧ w'.cell? ⟨gb42101, 1, none⟩ = some (.int .i64 a0_1) ∧ w'.cell? ⟨gb42101, 2, none⟩ = some (.int .i64 a0_2) ∧ w'.cell? ⟨gb42101, 3, none⟩ = some (.int .i64 a0_3) ∧ w'.cell? ⟨gb42101, 4, none⟩ = some (.int .i64 a0_4) ∧ w'.cell? ⟨gb42101, 5, none⟩ = some (.slice A0_5 l0_5.length c0_5)) ∧ (w'.heap[gb42101]? = some (.cells #[.int .i64 a0_0, .int .i64 a0_1, .int .i64 a0_2, .int .i64 a0_3, .int .i64 a0_4, .slice A0_5 l0_5.length c0_5] 24 (0, 0))) ∧ (w'.heap[gb42102]? = some (.cells #[.int .i64 a1_0, .int .i64 a1_1, .int .i64 a1_2, .int .i64 a1_3, .int .i64 a1_4, .slice A1_5 l1_5.length c1_5] 29 (0, 0))) ∧ (w'.heap[gb42103]? = some (.cells #[.int .i64 0, .int .i64 0, .int .i64 0, .int .i64 0, .int .i64 0, .slice none 0 0] 29 (0, 0))) ∧ (w'.heap[s_]? = some (.cells #[.int .i64 0, .int .i64 0, .int .i64 0, .int .i64 0, .int .i64 0, .slice none 0 0] 29 (0, 0))) ∧ (w.heap.size ≤ s_) ∧ (w.heap.size ≤ s_) ∧ (gb42101 ≠ s_) ∧ (s_ ≠ gb42101) ∧ (gb42102 ≠ s_) ∧ (s_ ≠ gb42102) ∧ (gb42103 ≠ s_) ∧ (s_ ≠ gb42103) ∧ (Below w.heap.size w w')) ?_ ?_
                  rotate_left
                  · intro hJ13
                    refine two_ (i := 2) (j := 13) (Ni := some 12) (Nj := some 7) #[true, true, true, false, true, true, false, true, true, true, false, false, false, false, false] #[true, true, false, false, true, true, false, true, true, true, false, false, false, true, false] rfl rfl rfl rfl (two_of HT_.out (by kernel_rfl)) (by decide) (by decide) (fun K hK => ?_) (fun K hK => ?_)
                    · skip
                      refine goes_ Try.func24 (by kernel_rfl) rfl #[.int .i64 a1_0, .int .i64 3] (by rfl) rfl rfl (by (try simp only [List.map_toArray, List.map_cons, List.map_nil]); first | done | rfl | (simp only [List.length_drop, List.length_take]; rfl)) ?_
                      with_reducible refine (plaitinglaw5_within.calls a1_0 3 t42104 _ A4.out).mono ?_
                      rintro e w' ⟨rfl, ⟨nd, rfl⟩⟩
                      refine ⟨_, rfl, ?_⟩
                      refine hK.out _ _ ⟨(blk_cell BK42102.out 0).trans rfl, (blk_cell BK42102.out 1).trans rfl, (blk_cell BK42102.out 2).trans rfl, (blk_cell BK42102.out 3).trans rfl, (blk_cell BK42102.out 4).trans rfl, (blk_cell BK42102.out 5).trans rfl, (blk_cell BK42101.out 0).trans rfl, (blk_cell BK42101.out 1).trans rfl, (blk_cell BK42101.out 2).trans rfl, (blk_cell BK42101.out 3).trans rfl, (blk_cell BK42101.out 4).trans rfl, (blk_cell BK42101.out 5).trans rfl⟩ (fun hHeld => ?_)
                      clear hK K
                      refine norm_ (a' := ?_) ?_ ?_
                      rotate_left
                      · show Act.put _ (some 12) _ = _
                        simp only [Act.put, List.setIfInBounds_toArray, List.set_cons_zero, List.set_cons_succ, i64_w, i32_w]
                        rfl
                      refine pure_ (i := 3) (N := some 13) (v := ?_) (a' := ?_) #[true, true, true, true, true, true, false, true, true, true, false, false, false, false, false] rfl rfl (any_of HT_.out (by kernel_rfl)) (fun _ _ _ h => h) (Or.inl ⟨by rfl, ?_⟩) ?_ ?_
                      rotate_left
                      · intro w'
                        go_simp
                        with_reducible rfl
                      rotate_left
                      · simp only [Act.put, List.setIfInBounds_toArray, List.set_cons_zero, List.set_cons_succ, i64_w, i32_w]
                        rfl
                      exact norm2_ (hJ2 () _ ⟨hHeld, (pB_ BK42101.out), (pB_ BK42102.out), (pB_ BK42103.out), (pH_ HB.out)⟩)
                    skip
                    refine box_step ?hg (N := 7) ?hd (cs := #[.int .i64 0, .int .i64 0, .int .i64 0, .int .i64 0, .int .i64 0, .slice none 0 0]) (t := 29) ?hr ?_; (case hd => rfl); (case hg => rfl); (case hr => first | (go_simp; done) | (go_simp; rfl))
                    intro gb42108 hg w13 hbox hb
                    have BK42108 := Aside0.mk (hbox)
                    have GW42108 := Aside0.mk ((by rw [hg]; exact (below_size (pH_ HB.out)) : w.heap.size ≤ gb42108))
                    have GE42108 := Aside0.mk ((by rw [hg]; exact (below_size (pH_ HB.out)) : w.heap.size ≤ gb42108))
                    have NB42101_42108 := Aside0.mk (ltB_ hg BK42101.out)
                    have NB42108_42101 := Aside0.mk (ltB_ hg BK42101.out).symm
                    have NB42102_42108 := Aside0.mk (ltB_ hg BK42102.out)
                    have NB42108_42102 := Aside0.mk (ltB_ hg BK42102.out).symm
                    have NB42103_42108 := Aside0.mk (ltB_ hg BK42103.out)
                    have NB42108_42103 := Aside0.mk (ltB_ hg BK42103.out).symm
                    replace BK42101 := Aside0.mk (blk_below (pB_ BK42101.out) hb)
                    replace BK42102 := Aside0.mk (blk_below (pB_ BK42102.out) hb)
                    replace BK42103 := Aside0.mk (blk_below (pB_ BK42103.out) hb)
                    replace HB := Aside0.mk (below_step (pH_ HB.out) hb)
                    clear hb hbox hg
                    refine hK.out _ _ ⟨(blk_cell BK42102.out 0).trans rfl, (blk_cell BK42102.out 1).trans rfl, (blk_cell BK42102.out 2).trans rfl, (blk_cell BK42102.out 3).trans rfl, (blk_cell BK42102.out 4).trans rfl, (blk_cell BK42102.out 5).trans rfl, (blk_cell BK42101.out 0).trans rfl, (blk_cell BK42101.out 1).trans rfl, (blk_cell BK42101.out 2).trans rfl, (blk_cell BK42101.out 3).trans rfl, (blk_cell BK42101.out 4).trans rfl, (blk_cell BK42101.out 5).trans rfl⟩ (fun hHeld => ?_)
                    clear hK K
                    refine norm_ (a' := ?_) ?_ ?_
                    rotate_left
                    · show Act.put _ (some 7) _ = _
                      simp only [Act.put, List.setIfInBounds_toArray, List.set_cons_zero, List.set_cons_succ, i64_w, i32_w]
                      rfl
                    exact norm2_ (hJ13 (gb42108) _ ⟨hHeld, (pB_ BK42101.out), (pB_ BK42102.out), (pB_ BK42103.out), (pB_ BK42108.out), GW42108.out, GE42108.out, NB42101_42108.out, NB42108_42101.out, NB42102_42108.out, NB42108_42102.out, NB42103_42108.out, NB42108_42103.out, (pH_ HB.out)⟩)
                  skip
                  rintro gb42108 w14 ⟨hS_, h0_, h1_, h2_, h3_, h4_, h5_, h6_, h7_, h8_, h9_, h10_, h11_, h12_⟩
                  have n0_ : Aside0 (w14.heap[gb42101]? = some (.cells #[.int .i64 a0_0, .int .i64 a0_1, .int .i64 a0_2, .int .i64 a0_3, .int .i64 a0_4, .slice A0_5 l0_5.length c0_5] 24 (0, 0))) := ⟨h0_⟩
                  have n1_ : Aside0 (w14.heap[gb42102]? = some (.cells #[.int .i64 a1_0, .int .i64 a1_1, .int .i64 a1_2, .int .i64 a1_3, .int .i64 a1_4, .slice A1_5 l1_5.length c1_5] 29 (0, 0))) := ⟨h1_⟩
                  have n2_ : Aside0 (w14.heap[gb42103]? = some (.cells #[.int .i64 0, .int .i64 0, .int .i64 0, .int .i64 0, .int .i64 0, .slice none 0 0] 29 (0, 0))) := ⟨h2_⟩
                  have n3_ : Aside0 (w14.heap[gb42108]? = some (.cells #[.int .i64 0, .int .i64 0, .int .i64 0, .int .i64 0, .int .i64 0, .slice none 0 0] 29 (0, 0))) := ⟨h3_⟩
                  have n4_ : Aside0 (w.heap.size ≤ gb42108) := ⟨h4_⟩
                  have n5_ : Aside0 (w.heap.size ≤ gb42108) := ⟨h5_⟩
                  have n6_ : Aside0 (gb42101 ≠ gb42108) := ⟨h6_⟩
                  have n7_ : Aside0 (gb42108 ≠ gb42101) := ⟨h7_⟩
                  have n8_ : Aside0 (gb42102 ≠ gb42108) := ⟨h8_⟩
                  have n9_ : Aside0 (gb42108 ≠ gb42102) := ⟨h9_⟩
                  have n10_ : Aside0 (gb42103 ≠ gb42108) := ⟨h10_⟩
                  have n11_ : Aside0 (gb42108 ≠ gb42103) := ⟨h11_⟩
                  have n12_ : Aside0 (Below w.heap.size w w14) := ⟨h12_⟩
                  clear BK42101
                  clear BK42102
                  clear BK42103
                  clear HB
                  clear h0_ h1_ h2_ h3_ h4_ h5_ h6_ h7_ h8_ h9_ h10_ h11_ h12_
                  have BK42101 := n0_
                  have BK42102 := n1_
                  have BK42103 := n2_
                  have BK42108 := n3_
                  have GW42108 := n4_
                  have GE42108 := n5_
                  have NB42101_42108 := n6_
                  have NB42108_42101 := n7_
                  have NB42102_42108 := n8_
                  have NB42108_42102 := n9_
                  have NB42103_42108 := n10_
                  have NB42108_42103 := n11_
                  have HB := n12_
                  clear n0_ n1_ n2_ n3_ n4_ n5_ n6_ n7_ n8_ n9_ n10_ n11_ n12_
                  have hHeld : w14.cell? ⟨gb42102, 0, none⟩ = some (.int .i64 a1_0) ∧ w14.cell? ⟨gb42102, 1, none⟩ = some (.int .i64 a1_1) ∧ w14.cell? ⟨gb42102, 2, none⟩ = some (.int .i64 a1_2) ∧ w14.cell? ⟨gb42102, 3, none⟩ = some (.int .i64 a1_3) ∧ w14.cell? ⟨gb42102, 4, none⟩ = some (.int .i64 a1_4) ∧ w14.cell? ⟨gb42102, 5, none⟩ = some (.slice A1_5 l1_5.length c1_5) ∧ w14.cell? ⟨gb42101, 0, none⟩ = some (.int .i64 a0_0) ∧ w14.cell? ⟨gb42101, 1, none⟩ = some (.int .i64 a0_1) ∧ w14.cell? ⟨gb42101, 2, none⟩ = some (.int .i64 a0_2) ∧ w14.cell? ⟨gb42101, 3, none⟩ = some (.int .i64 a0_3) ∧ w14.cell? ⟨gb42101, 4, none⟩ = some (.int .i64 a0_4) ∧ w14.cell? ⟨gb42101, 5, none⟩ = some (.slice A0_5 l0_5.length c0_5) := hS_
                  refine norm_ (a' := ?_) ?_ ?_
                  rotate_left
                  · simp only [putAll, Act.put, List.setIfInBounds_toArray, List.set_cons_zero, List.set_cons_succ]
                    rfl
                  refine one_ (i := 2) (N := some 12) #[true, true, true, false, true, true, false, true, true, true, false, false, false, true, false] rfl rfl (one_of HT_.out (by kernel_rfl)) (by decide) (fun K hK => ?_)
                  refine goes_ Try.func24 (by kernel_rfl) rfl #[.int .i64 a1_0, .int .i64 3] (by rfl) rfl rfl (by (try simp only [List.map_toArray, List.map_cons, List.map_nil]); first | done | rfl | (simp only [List.length_drop, List.length_take]; rfl)) ?_
                  with_reducible refine (plaitinglaw5_within.calls a1_0 3 t42104 _ A4.out).mono ?_
                  rintro e w' ⟨rfl, ⟨nd, rfl⟩⟩
                  refine ⟨_, rfl, ?_⟩
                  refine hK.out _ _ ⟨(blk_cell BK42102.out 0).trans rfl, (blk_cell BK42102.out 1).trans rfl, (blk_cell BK42102.out 2).trans rfl, (blk_cell BK42102.out 3).trans rfl, (blk_cell BK42102.out 4).trans rfl, (blk_cell BK42102.out 5).trans rfl, (blk_cell BK42101.out 0).trans rfl, (blk_cell BK42101.out 1).trans rfl, (blk_cell BK42101.out 2).trans rfl, (blk_cell BK42101.out 3).trans rfl, (blk_cell BK42101.out 4).trans rfl, (blk_cell BK42101.out 5).trans rfl⟩ (fun hHeld => ?_)
                  clear hK K
                  refine norm_ (a' := ?_) ?_ ?_
                  rotate_left
                  · show Act.put _ (some 12) _ = _
                    simp only [Act.put, List.setIfInBounds_toArray, List.set_cons_zero, List.set_cons_succ, i64_w, i32_w]
                    rfl
                  refine pure_ (i := 3) (N := some 13) (v := ?_) (a' := ?_) #[true, true, true, true, true, true, false, true, true, true, false, false, false, true, false] rfl rfl (any_of HT_.out (by kernel_rfl)) (fun _ _ _ h => h) (Or.inl ⟨by rfl, ?_⟩) ?_ ?_
                  rotate_left
                  · intro w'
                    go_simp
                    with_reducible rfl
                  rotate_left
                  · simp only [Act.put, List.setIfInBounds_toArray, List.set_cons_zero, List.set_cons_succ, i64_w, i32_w]
                    rfl
                  exact norm2_ (hJ2_13 (gb42108) _ ⟨hHeld, (pB_ BK42101.out), (pB_ BK42102.out), (pB_ BK42103.out), (pB_ BK42108.out), GW42108.out, GE42108.out, NB42101_42108.out, NB42108_42101.out, NB42102_42108.out, NB42108_42102.out, NB42103_42108.out, NB42108_42103.out, (pH_ HB.out)⟩)
                skip
                rintro _ w13 ⟨hS_, h0_, h1_, h2_, h3_⟩
                have n0_ : Aside0 (w13.heap[gb42101]? = some (.cells #[.int .i64 a0_0, .int .i64 a0_1, .int .i64 a0_2, .int .i64 a0_3, .int .i64 a0_4, .slice A0_5 l0_5.length c0_5] 24 (0, 0))) := ⟨h0_⟩
                have n1_ : Aside0 (w13.heap[gb42102]? = some (.cells #[.int .i64 a1_0, .int .i64 a1_1, .int .i64 a1_2, .int .i64 a1_3, .int .i64 a1_4, .slice A1_5 l1_5.length c1_5] 29 (0, 0))) := ⟨h1_⟩
                have n2_ : Aside0 (w13.heap[gb42103]? = some (.cells #[.int .i64 0, .int .i64 0, .int .i64 0, .int .i64 0, .int .i64 0, .slice none 0 0] 29 (0, 0))) := ⟨h2_⟩
                have n3_ : Aside0 (Below w.heap.size w w13) := ⟨h3_⟩
                clear BK42101
                clear BK42102
                clear BK42103
                clear HB
                clear h0_ h1_ h2_ h3_
                have BK42101 := n0_
                have BK42102 := n1_
                have BK42103 := n2_
                have HB := n3_
                clear n0_ n1_ n2_ n3_
                have hHeld : w13.cell? ⟨gb42102, 0, none⟩ = some (.int .i64 a1_0) ∧ w13.cell? ⟨gb42102, 1, none⟩ = some (.int .i64 a1_1) ∧ w13.cell? ⟨gb42102, 2, none⟩ = some (.int .i64 a1_2) ∧ w13.cell? ⟨gb42102, 3, none⟩ = some (.int .i64 a1_3) ∧ w13.cell? ⟨gb42102, 4, none⟩ = some (.int .i64 a1_4) ∧ w13.cell? ⟨gb42102, 5, none⟩ = some (.slice A1_5 l1_5.length c1_5) ∧ w13.cell? ⟨gb42101, 0, none⟩ = some (.int .i64 a0_0) ∧ w13.cell? ⟨gb42101, 1, none⟩ = some (.int .i64 a0_1) ∧ w13.cell? ⟨gb42101, 2, none⟩ = some (.int .i64 a0_2) ∧ w13.cell? ⟨gb42101, 3, none⟩ = some (.int .i64 a0_3) ∧ w13.cell? ⟨gb42101, 4, none⟩ = some (.int .i64 a0_4) ∧ w13.cell? ⟨gb42101, 5, none⟩ = some (.slice A0_5 l0_5.length c0_5) := hS_
                refine norm_ (a' := ?_) ?_ ?_
                rotate_left
                · simp only [putAll, Act.put, List.setIfInBounds_toArray, List.set_cons_zero, List.set_cons_succ]
                  rfl
                refine two_ (i := 6) (j := 13) (Ni := some 16) (Nj := some 7) #[true, true, true, true, true, true, true, true, true, true, false, false, false, false, false] #[true, true, true, true, true, true, false, true, true, true, false, false, false, true, false] rfl rfl rfl rfl (two_of HT_.out (by kernel_rfl)) (by decide) (by decide) (fun K hK => ?_) (fun K hK => ?_)
                · skip
                  refine goes_ Try.func24 (by kernel_rfl) rfl #[.int .i64 a1_1, .int .i64 65536] (by rfl) rfl rfl (by (try simp only [List.map_toArray, List.map_cons, List.map_nil]); first | done | rfl | (simp only [List.length_drop, List.length_take]; rfl)) ?_
                  with_reducible refine (plaitinglaw5_within.calls a1_1 65536 t42105 _ A5.out).mono ?_
                  rintro e w' ⟨rfl, ⟨nd, rfl⟩⟩
                  refine ⟨_, rfl, ?_⟩
                  refine hK.out _ _ ⟨(blk_cell BK42102.out 0).trans rfl, (blk_cell BK42102.out 1).trans rfl, (blk_cell BK42102.out 2).trans rfl, (blk_cell BK42102.out 3).trans rfl, (blk_cell BK42102.out 4).trans rfl, (blk_cell BK42102.out 5).trans rfl, (blk_cell BK42101.out 0).trans rfl, (blk_cell BK42101.out 1).trans rfl, (blk_cell BK42101.out 2).trans rfl, (blk_cell BK42101.out 3).trans rfl, (blk_cell BK42101.out 4).trans rfl, (blk_cell BK42101.out 5).trans rfl⟩ (fun hHeld => ?_)
                  clear hK K
                  refine norm_ (a' := ?_) ?_ ?_
                  rotate_left
                  · show Act.put _ (some 16) _ = _
                    simp only [Act.put, List.setIfInBounds_toArray, List.set_cons_zero, List.set_cons_succ, i64_w, i32_w]
                    rfl
                  exact norm2_ (hJ2_6 () _ ⟨hHeld, (pB_ BK42101.out), (pB_ BK42102.out), (pB_ BK42103.out), (pH_ HB.out)⟩)
                skip
                refine box_step ?hg (N := 7) ?hd (cs := #[.int .i64 0, .int .i64 0, .int .i64 0, .int .i64 0, .int .i64 0, .slice none 0 0]) (t := 29) ?hr ?_; (case hd => rfl); (case hg => rfl); (case hr => first | (go_simp; done) | (go_simp; rfl))
                intro gb42108 hg w14 hbox hb
                have BK42108 := Aside0.mk (hbox)
                have GW42108 := Aside0.mk ((by rw [hg]; exact (below_size (pH_ HB.out)) : w.heap.size ≤ gb42108))
                have GE42108 := Aside0.mk ((by rw [hg]; exact (below_size (pH_ HB.out)) : w.heap.size ≤ gb42108))
                have NB42101_42108 := Aside0.mk (ltB_ hg BK42101.out)
                have NB42108_42101 := Aside0.mk (ltB_ hg BK42101.out).symm
                have NB42102_42108 := Aside0.mk (ltB_ hg BK42102.out)
                have NB42108_42102 := Aside0.mk (ltB_ hg BK42102.out).symm
                have NB42103_42108 := Aside0.mk (ltB_ hg BK42103.out)
                have NB42108_42103 := Aside0.mk (ltB_ hg BK42103.out).symm
                replace BK42101 := Aside0.mk (blk_below (pB_ BK42101.out) hb)
                replace BK42102 := Aside0.mk (blk_below (pB_ BK42102.out) hb)
                replace BK42103 := Aside0.mk (blk_below (pB_ BK42103.out) hb)
                replace HB := Aside0.mk (below_step (pH_ HB.out) hb)
                clear hb hbox hg
                refine hK.out _ _ ⟨(blk_cell BK42102.out 0).trans rfl, (blk_cell BK42102.out 1).trans rfl, (blk_cell BK42102.out 2).trans rfl, (blk_cell BK42102.out 3).trans rfl, (blk_cell BK42102.out 4).trans rfl, (blk_cell BK42102.out 5).trans rfl, (blk_cell BK42101.out 0).trans rfl, (blk_cell BK42101.out 1).trans rfl, (blk_cell BK42101.out 2).trans rfl, (blk_cell BK42101.out 3).trans rfl, (blk_cell BK42101.out 4).trans rfl, (blk_cell BK42101.out 5).trans rfl⟩ (fun hHeld => ?_)
                clear hK K
                refine norm_ (a' := ?_) ?_ ?_
                rotate_left
                · show Act.put _ (some 7) _ = _
                  simp only [Act.put, List.setIfInBounds_toArray, List.set_cons_zero, List.set_cons_succ, i64_w, i32_w]
                  rfl
                exact norm2_ (hJ2_13 (gb42108) _ ⟨hHeld, (pB_ BK42101.out), (pB_ BK42102.out), (pB_ BK42103.out), (pB_ BK42108.out), GW42108.out, GE42108.out, NB42101_42108.out, NB42108_42101.out, NB42102_42108.out, NB42108_42102.out, NB42103_42108.out, NB42108_42103.out, (pH_ HB.out)⟩)
              skip
              rintro gb42108 w14 ⟨hS_, h0_, h1_, h2_, h3_, h4_, h5_, h6_, h7_, h8_, h9_, h10_, h11_, h12_⟩
              have n0_ : Aside0 (w14.heap[gb42101]? = some (.cells #[.int .i64 a0_0, .int .i64 a0_1, .int .i64 a0_2, .int .i64 a0_3, .int .i64 a0_4, .slice A0_5 l0_5.length c0_5] 24 (0, 0))) := ⟨h0_⟩
              have n1_ : Aside0 (w14.heap[gb42102]? = some (.cells #[.int .i64 a1_0, .int .i64 a1_1, .int .i64 a1_2, .int .i64 a1_3, .int .i64 a1_4, .slice A1_5 l1_5.length c1_5] 29 (0, 0))) := ⟨h1_⟩
              have n2_ : Aside0 (w14.heap[gb42103]? = some (.cells #[.int .i64 0, .int .i64 0, .int .i64 0, .int .i64 0, .int .i64 0, .slice none 0 0] 29 (0, 0))) := ⟨h2_⟩
              have n3_ : Aside0 (w14.heap[gb42108]? = some (.cells #[.int .i64 0, .int .i64 0, .int .i64 0, .int .i64 0, .int .i64 0, .slice none 0 0] 29 (0, 0))) := ⟨h3_⟩
              have n4_ : Aside0 (w.heap.size ≤ gb42108) := ⟨h4_⟩
              have n5_ : Aside0 (w.heap.size ≤ gb42108) := ⟨h5_⟩
              have n6_ : Aside0 (gb42101 ≠ gb42108) := ⟨h6_⟩
              have n7_ : Aside0 (gb42108 ≠ gb42101) := ⟨h7_⟩
              have n8_ : Aside0 (gb42102 ≠ gb42108) := ⟨h8_⟩
              have n9_ : Aside0 (gb42108 ≠ gb42102) := ⟨h9_⟩
              have n10_ : Aside0 (gb42103 ≠ gb42108) := ⟨h10_⟩
              have n11_ : Aside0 (gb42108 ≠ gb42103) := ⟨h11_⟩
              have n12_ : Aside0 (Below w.heap.size w w14) := ⟨h12_⟩
              clear BK42101
              clear BK42102
              clear BK42103
              clear HB
              clear h0_ h1_ h2_ h3_ h4_ h5_ h6_ h7_ h8_ h9_ h10_ h11_ h12_
              have BK42101 := n0_
              have BK42102 := n1_
              have BK42103 := n2_
              have BK42108 := n3_
              have GW42108 := n4_
              have GE42108 := n5_
              have NB42101_42108 := n6_
              have NB42108_42101 := n7_
              have NB42102_42108 := n8_
              have NB42108_42102 := n9_
              have NB42103_42108 := n10_
              have NB42108_42103 := n11_
              have HB := n12_
              clear n0_ n1_ n2_ n3_ n4_ n5_ n6_ n7_ n8_ n9_ n10_ n11_ n12_
              have hHeld : w14.cell? ⟨gb42102, 0, none⟩ = some (.int .i64 a1_0) ∧ w14.cell? ⟨gb42102, 1, none⟩ = some (.int .i64 a1_1) ∧ w14.cell? ⟨gb42102, 2, none⟩ = some (.int .i64 a1_2) ∧ w14.cell? ⟨gb42102, 3, none⟩ = some (.int .i64 a1_3) ∧ w14.cell? ⟨gb42102, 4, none⟩ = some (.int .i64 a1_4) ∧ w14.cell? ⟨gb42102, 5, none⟩ = some (.slice A1_5 l1_5.length c1_5) ∧ w14.cell? ⟨gb42101, 0, none⟩ = some (.int .i64 a0_0) ∧ w14.cell? ⟨gb42101, 1, none⟩ = some (.int .i64 a0_1) ∧ w14.cell? ⟨gb42101, 2, none⟩ = some (.int .i64 a0_2) ∧ w14.cell? ⟨gb42101, 3, none⟩ = some (.int .i64 a0_3) ∧ w14.cell? ⟨gb42101, 4, none⟩ = some (.int .i64 a0_4) ∧ w14.cell? ⟨gb42101, 5, none⟩ = some (.slice A0_5 l0_5.length c0_5) := hS_
              refine norm_ (a' := ?_) ?_ ?_
              rotate_left
              · simp only [putAll, Act.put, List.setIfInBounds_toArray, List.set_cons_zero, List.set_cons_succ]
                rfl
              refine one_ (i := 6) (N := some 16) #[true, true, true, true, true, true, true, true, true, true, false, false, false, true, false] rfl rfl (one_of HT_.out (by kernel_rfl)) (by decide) (fun K hK => ?_)
              refine goes_ Try.func24 (by kernel_rfl) rfl #[.int .i64 a1_1, .int .i64 65536] (by rfl) rfl rfl (by (try simp only [List.map_toArray, List.map_cons, List.map_nil]); first | done | rfl | (simp only [List.length_drop, List.length_take]; rfl)) ?_
              with_reducible refine (plaitinglaw5_within.calls a1_1 65536 t42105 _ A5.out).mono ?_
              rintro e w' ⟨rfl, ⟨nd, rfl⟩⟩
              refine ⟨_, rfl, ?_⟩
              refine hK.out _ _ ⟨(blk_cell BK42102.out 0).trans rfl, (blk_cell BK42102.out 1).trans rfl, (blk_cell BK42102.out 2).trans rfl, (blk_cell BK42102.out 3).trans rfl, (blk_cell BK42102.out 4).trans rfl, (blk_cell BK42102.out 5).trans rfl, (blk_cell BK42101.out 0).trans rfl, (blk_cell BK42101.out 1).trans rfl, (blk_cell BK42101.out 2).trans rfl, (blk_cell BK42101.out 3).trans rfl, (blk_cell BK42101.out 4).trans rfl, (blk_cell BK42101.out 5).trans rfl⟩ (fun hHeld => ?_)
              clear hK K
              refine norm_ (a' := ?_) ?_ ?_
              rotate_left
              · show Act.put _ (some 16) _ = _
                simp only [Act.put, List.setIfInBounds_toArray, List.set_cons_zero, List.set_cons_succ, i64_w, i32_w]
                rfl
              exact norm2_ (hJ2_6_13 (gb42108) _ ⟨hHeld, (pB_ BK42101.out), (pB_ BK42102.out), (pB_ BK42103.out), (pB_ BK42108.out), GW42108.out, GE42108.out, NB42101_42108.out, NB42108_42101.out, NB42102_42108.out, NB42108_42102.out, NB42103_42108.out, NB42108_42103.out, (pH_ HB.out)⟩)
            skip
            rintro _ w13 ⟨hS_, h0_, h1_, h2_, h3_⟩
            have n0_ : Aside0 (w13.heap[gb42101]? = some (.cells #[.int .i64 a0_0, .int .i64 a0_1, .int .i64 a0_2, .int .i64 a0_3, .int .i64 a0_4, .slice A0_5 l0_5.length c0_5] 24 (0, 0))) := ⟨h0_⟩
            have n1_ : Aside0 (w13.heap[gb42102]? = some (.cells #[.int .i64 a1_0, .int .i64 a1_1, .int .i64 a1_2, .int .i64 a1_3, .int .i64 a1_4, .slice A1_5 l1_5.length c1_5] 29 (0, 0))) := ⟨h1_⟩
            have n2_ : Aside0 (w13.heap[gb42103]? = some (.cells #[.int .i64 0, .int .i64 0, .int .i64 0, .int .i64 0, .int .i64 0, .slice none 0 0] 29 (0, 0))) := ⟨h2_⟩
            have n3_ : Aside0 (Below w.heap.size w w13) := ⟨h3_⟩
            clear BK42101
            clear BK42102
            clear BK42103
            clear HB
            clear h0_ h1_ h2_ h3_
            have BK42101 := n0_
            have BK42102 := n1_
            have BK42103 := n2_
            have HB := n3_
            clear n0_ n1_ n2_ n3_
            have hHeld : w13.cell? ⟨gb42102, 0, none⟩ = some (.int .i64 a1_0) ∧ w13.cell? ⟨gb42102, 1, none⟩ = some (.int .i64 a1_1) ∧ w13.cell? ⟨gb42102, 2, none⟩ = some (.int .i64 a1_2) ∧ w13.cell? ⟨gb42102, 3, none⟩ = some (.int .i64 a1_3) ∧ w13.cell? ⟨gb42102, 4, none⟩ = some (.int .i64 a1_4) ∧ w13.cell? ⟨gb42102, 5, none⟩ = some (.slice A1_5 l1_5.length c1_5) ∧ w13.cell? ⟨gb42101, 0, none⟩ = some (.int .i64 a0_0) ∧ w13.cell? ⟨gb42101, 1, none⟩ = some (.int .i64 a0_1) ∧ w13.cell? ⟨gb42101, 2, none⟩ = some (.int .i64 a0_2) ∧ w13.cell? ⟨gb42101, 3, none⟩ = some (.int .i64 a0_3) ∧ w13.cell? ⟨gb42101, 4, none⟩ = some (.int .i64 a0_4) ∧ w13.cell? ⟨gb42101, 5, none⟩ = some (.slice A0_5 l0_5.length c0_5) := hS_
            refine norm_ (a' := ?_) ?_ ?_
            rotate_left
            · simp only [putAll, Act.put, List.setIfInBounds_toArray, List.set_cons_zero, List.set_cons_succ]
              rfl
            refine two_ (i := 10) (j := 13) (Ni := some 20) (Nj := some 7) #[true, true, true, true, true, true, true, true, true, true, true, false, false, false, false] #[true, true, true, true, true, true, true, true, true, true, false, false, false, true, false] rfl rfl rfl rfl (two_of HT_.out (by kernel_rfl)) (by decide) (by decide) (fun K hK => ?_) (fun K hK => ?_)
            · skip
              refine goes_ Try.func25 (by kernel_rfl) rfl #[.agg #[.int .i64 a0_0, .int .i64 a0_1, .int .i64 a0_2, .int .i64 a0_3, .int .i64 a0_4, .slice A0_5 l0_5.length c0_5]] (by rfl) rfl rfl (by (try simp only [List.map_toArray, List.map_cons, List.map_nil]); first | done | rfl | (simp only [List.length_drop, List.length_take]; rfl)) ?_
              with_reducible refine (plaitingref3_Slots.calls a0_0 a0_1 a0_2 a0_3 a0_4 _ _ l0_5 t42106 _ ?side1 ?side2 A6.out).mono ?_
              (case side1 => repeat (first | exact (Kd.C_below HR0_5.out HB.out) | (with_reducible refine Kd.C_alloc ?_ _) | (with_reducible refine Kd.C_drewN ?_ _) | (with_reducible refine Kd.C_drew ?_)))
              (case side2 => exact HC0_5.out)
              rintro e w14 ⟨rfl, hb⟩
              refine ⟨_, rfl, ?_⟩
              replace BK42101 := Aside0.mk (blk_below (pB_ BK42101.out) hb)
              replace BK42102 := Aside0.mk (blk_below (pB_ BK42102.out) hb)
              replace BK42103 := Aside0.mk (blk_below (pB_ BK42103.out) hb)
              replace HB := Aside0.mk (below_step (pH_ HB.out) hb)
              (try clear hb)
              (try clear hb2)
              (try clear hk)
              (try clear hi)
              refine hK.out _ _ ⟨(blk_cell BK42102.out 0).trans rfl, (blk_cell BK42102.out 1).trans rfl, (blk_cell BK42102.out 2).trans rfl, (blk_cell BK42102.out 3).trans rfl, (blk_cell BK42102.out 4).trans rfl, (blk_cell BK42102.out 5).trans rfl, (blk_cell BK42101.out 0).trans rfl, (blk_cell BK42101.out 1).trans rfl, (blk_cell BK42101.out 2).trans rfl, (blk_cell BK42101.out 3).trans rfl, (blk_cell BK42101.out 4).trans rfl, (blk_cell BK42101.out 5).trans rfl⟩ (fun hHeld => ?_)
              clear hK K
              refine norm_ (a' := ?_) ?_ ?_
              rotate_left
              · show Act.put _ (some 20) _ = _
                simp only [Act.put, List.setIfInBounds_toArray, List.set_cons_zero, List.set_cons_succ, i64_w, i32_w]
                rfl
              exact norm2_ (hJ2_6_10 () _ ⟨hHeld, (pB_ BK42101.out), (pB_ BK42102.out), (pB_ BK42103.out), (pH_ HB.out)⟩)
            skip
            refine box_step ?hg (N := 7) ?hd (cs := #[.int .i64 0, .int .i64 0, .int .i64 0, .int .i64 0, .int .i64 0, .slice none 0 0]) (t := 29) ?hr ?_; (case hd => rfl); (case hg => rfl); (case hr => first | (go_simp; done) | (go_simp; rfl))
            intro gb42108 hg w14 hbox hb
            have BK42108 := Aside0.mk (hbox)
            have GW42108 := Aside0.mk ((by rw [hg]; exact (below_size (pH_ HB.out)) : w.heap.size ≤ gb42108))
            have GE42108 := Aside0.mk ((by rw [hg]; exact (below_size (pH_ HB.out)) : w.heap.size ≤ gb42108))
            have NB42101_42108 := Aside0.mk (ltB_ hg BK42101.out)
            have NB42108_42101 := Aside0.mk (ltB_ hg BK42101.out).symm
            have NB42102_42108 := Aside0.mk (ltB_ hg BK42102.out)
            have NB42108_42102 := Aside0.mk (ltB_ hg BK42102.out).symm
            have NB42103_42108 := Aside0.mk (ltB_ hg BK42103.out)
            have NB42108_42103 := Aside0.mk (ltB_ hg BK42103.out).symm
            replace BK42101 := Aside0.mk (blk_below (pB_ BK42101.out) hb)
            replace BK42102 := Aside0.mk (blk_below (pB_ BK42102.out) hb)
            replace BK42103 := Aside0.mk (blk_below (pB_ BK42103.out) hb)
            replace HB := Aside0.mk (below_step (pH_ HB.out) hb)
            clear hb hbox hg
            refine hK.out _ _ ⟨(blk_cell BK42102.out 0).trans rfl, (blk_cell BK42102.out 1).trans rfl, (blk_cell BK42102.out 2).trans rfl, (blk_cell BK42102.out 3).trans rfl, (blk_cell BK42102.out 4).trans rfl, (blk_cell BK42102.out 5).trans rfl, (blk_cell BK42101.out 0).trans rfl, (blk_cell BK42101.out 1).trans rfl, (blk_cell BK42101.out 2).trans rfl, (blk_cell BK42101.out 3).trans rfl, (blk_cell BK42101.out 4).trans rfl, (blk_cell BK42101.out 5).trans rfl⟩ (fun hHeld => ?_)
            clear hK K
            refine norm_ (a' := ?_) ?_ ?_
            rotate_left
            · show Act.put _ (some 7) _ = _
              simp only [Act.put, List.setIfInBounds_toArray, List.set_cons_zero, List.set_cons_succ, i64_w, i32_w]
              rfl
            exact norm2_ (hJ2_6_13 (gb42108) _ ⟨hHeld, (pB_ BK42101.out), (pB_ BK42102.out), (pB_ BK42103.out), (pB_ BK42108.out), GW42108.out, GE42108.out, NB42101_42108.out, NB42108_42101.out, NB42102_42108.out, NB42108_42102.out, NB42103_42108.out, NB42108_42103.out, (pH_ HB.out)⟩)
          skip
          rintro gb42108 w14 ⟨hS_, h0_, h1_, h2_, h3_, h4_, h5_, h6_, h7_, h8_, h9_, h10_, h11_, h12_⟩
          have n0_ : Aside0 (w14.heap[gb42101]? = some (.cells #[.int .i64 a0_0, .int .i64 a0_1, .int .i64 a0_2, .int .i64 a0_3, .int .i64 a0_4, .slice A0_5 l0_5.length c0_5] 24 (0, 0))) := ⟨h0_⟩
          have n1_ : Aside0 (w14.heap[gb42102]? = some (.cells #[.int .i64 a1_0, .int .i64 a1_1, .int .i64 a1_2, .int .i64 a1_3, .int .i64 a1_4, .slice A1_5 l1_5.length c1_5] 29 (0, 0))) := ⟨h1_⟩
          have n2_ : Aside0 (w14.heap[gb42103]? = some (.cells #[.int .i64 0, .int .i64 0, .int .i64 0, .int .i64 0, .int .i64 0, .slice none 0 0] 29 (0, 0))) := ⟨h2_⟩
          have n3_ : Aside0 (w14.heap[gb42108]? = some (.cells #[.int .i64 0, .int .i64 0, .int .i64 0, .int .i64 0, .int .i64 0, .slice none 0 0] 29 (0, 0))) := ⟨h3_⟩
          have n4_ : Aside0 (w.heap.size ≤ gb42108) := ⟨h4_⟩
          have n5_ : Aside0 (w.heap.size ≤ gb42108) := ⟨h5_⟩
          have n6_ : Aside0 (gb42101 ≠ gb42108) := ⟨h6_⟩
          have n7_ : Aside0 (gb42108 ≠ gb42101) := ⟨h7_⟩
          have n8_ : Aside0 (gb42102 ≠ gb42108) := ⟨h8_⟩
          have n9_ : Aside0 (gb42108 ≠ gb42102) := ⟨h9_⟩
          have n10_ : Aside0 (gb42103 ≠ gb42108) := ⟨h10_⟩
          have n11_ : Aside0 (gb42108 ≠ gb42103) := ⟨h11_⟩
          have n12_ : Aside0 (Below w.heap.size w w14) := ⟨h12_⟩
          clear BK42101
          clear BK42102
          clear BK42103
          clear HB
          clear h0_ h1_ h2_ h3_ h4_ h5_ h6_ h7_ h8_ h9_ h10_ h11_ h12_
          have BK42101 := n0_
          have BK42102 := n1_
          have BK42103 := n2_
          have BK42108 := n3_
          have GW42108 := n4_
          have GE42108 := n5_
          have NB42101_42108 := n6_
          have NB42108_42101 := n7_
          have NB42102_42108 := n8_
          have NB42108_42102 := n9_
          have NB42103_42108 := n10_
          have NB42108_42103 := n11_
          have HB := n12_
          clear n0_ n1_ n2_ n3_ n4_ n5_ n6_ n7_ n8_ n9_ n10_ n11_ n12_
          have hHeld : w14.cell? ⟨gb42102, 0, none⟩ = some (.int .i64 a1_0) ∧ w14.cell? ⟨gb42102, 1, none⟩ = some (.int .i64 a1_1) ∧ w14.cell? ⟨gb42102, 2, none⟩ = some (.int .i64 a1_2) ∧ w14.cell? ⟨gb42102, 3, none⟩ = some (.int .i64 a1_3) ∧ w14.cell? ⟨gb42102, 4, none⟩ = some (.int .i64 a1_4) ∧ w14.cell? ⟨gb42102, 5, none⟩ = some (.slice A1_5 l1_5.length c1_5) ∧ w14.cell? ⟨gb42101, 0, none⟩ = some (.int .i64 a0_0) ∧ w14.cell? ⟨gb42101, 1, none⟩ = some (.int .i64 a0_1) ∧ w14.cell? ⟨gb42101, 2, none⟩ = some (.int .i64 a0_2) ∧ w14.cell? ⟨gb42101, 3, none⟩ = some (.int .i64 a0_3) ∧ w14.cell? ⟨gb42101, 4, none⟩ = some (.int .i64 a0_4) ∧ w14.cell? ⟨gb42101, 5, none⟩ = some (.slice A0_5 l0_5.length c0_5) := hS_
          refine norm_ (a' := ?_) ?_ ?_
          rotate_left
          · simp only [putAll, Act.put, List.setIfInBounds_toArray, List.set_cons_zero, List.set_cons_succ]
            rfl
          refine one_ (i := 10) (N := some 20) #[true, true, true, true, true, true, true, true, true, true, true, false, false, true, false] rfl rfl (one_of HT_.out (by kernel_rfl)) (by decide) (fun K hK => ?_)
          refine goes_ Try.func25 (by kernel_rfl) rfl #[.agg #[.int .i64 a0_0, .int .i64 a0_1, .int .i64 a0_2, .int .i64 a0_3, .int .i64 a0_4, .slice A0_5 l0_5.length c0_5]] (by rfl) rfl rfl (by (try simp only [List.map_toArray, List.map_cons, List.map_nil]); first | done | rfl | (simp only [List.length_drop, List.length_take]; rfl)) ?_
          with_reducible refine (plaitingref3_Slots.calls a0_0 a0_1 a0_2 a0_3 a0_4 _ _ l0_5 t42106 _ ?side1 ?side2 A6.out).mono ?_
          (case side1 => repeat (first | exact (Kd.C_below HR0_5.out HB.out) | (with_reducible refine Kd.C_alloc ?_ _) | (with_reducible refine Kd.C_drewN ?_ _) | (with_reducible refine Kd.C_drew ?_)))
          (case side2 => exact HC0_5.out)
          rintro e w15 ⟨rfl, hb⟩
          refine ⟨_, rfl, ?_⟩
          replace BK42101 := Aside0.mk (blk_below (pB_ BK42101.out) hb)
          replace BK42102 := Aside0.mk (blk_below (pB_ BK42102.out) hb)
          replace BK42103 := Aside0.mk (blk_below (pB_ BK42103.out) hb)
          replace BK42108 := Aside0.mk (blk_below (pB_ BK42108.out) hb)
          replace HB := Aside0.mk (below_step (pH_ HB.out) hb)
          (try clear hb)
          (try clear hb2)
          (try clear hk)
          (try clear hi)
          refine hK.out _ _ ⟨(blk_cell BK42102.out 0).trans rfl, (blk_cell BK42102.out 1).trans rfl, (blk_cell BK42102.out 2).trans rfl, (blk_cell BK42102.out 3).trans rfl, (blk_cell BK42102.out 4).trans rfl, (blk_cell BK42102.out 5).trans rfl, (blk_cell BK42101.out 0).trans rfl, (blk_cell BK42101.out 1).trans rfl, (blk_cell BK42101.out 2).trans rfl, (blk_cell BK42101.out 3).trans rfl, (blk_cell BK42101.out 4).trans rfl, (blk_cell BK42101.out 5).trans rfl⟩ (fun hHeld => ?_)
          clear hK K
          refine norm_ (a' := ?_) ?_ ?_
          rotate_left
          · show Act.put _ (some 20) _ = _
            simp only [Act.put, List.setIfInBounds_toArray, List.set_cons_zero, List.set_cons_succ, i64_w, i32_w]
            rfl
          exact norm2_ (hJ2_6_10_13 (gb42108) _ ⟨hHeld, (pB_ BK42101.out), (pB_ BK42102.out), (pB_ BK42103.out), (pB_ BK42108.out), GW42108.out, GE42108.out, NB42101_42108.out, NB42108_42101.out, NB42102_42108.out, NB42108_42102.out, NB42103_42108.out, NB42108_42103.out, (pH_ HB.out)⟩)
        skip
        rintro _ w14 ⟨hS_, h0_, h1_, h2_, h3_⟩
        have n0_ : Aside0 (w14.heap[gb42101]? = some (.cells #[.int .i64 a0_0, .int .i64 a0_1, .int .i64 a0_2, .int .i64 a0_3, .int .i64 a0_4, .slice A0_5 l0_5.length c0_5] 24 (0, 0))) := ⟨h0_⟩
        have n1_ : Aside0 (w14.heap[gb42102]? = some (.cells #[.int .i64 a1_0, .int .i64 a1_1, .int .i64 a1_2, .int .i64 a1_3, .int .i64 a1_4, .slice A1_5 l1_5.length c1_5] 29 (0, 0))) := ⟨h1_⟩
        have n2_ : Aside0 (w14.heap[gb42103]? = some (.cells #[.int .i64 0, .int .i64 0, .int .i64 0, .int .i64 0, .int .i64 0, .slice none 0 0] 29 (0, 0))) := ⟨h2_⟩
        have n3_ : Aside0 (Below w.heap.size w w14) := ⟨h3_⟩
        clear BK42101
        clear BK42102
        clear BK42103
        clear HB
        clear h0_ h1_ h2_ h3_
        have BK42101 := n0_
        have BK42102 := n1_
        have BK42103 := n2_
        have HB := n3_
        clear n0_ n1_ n2_ n3_
        have hHeld : w14.cell? ⟨gb42102, 0, none⟩ = some (.int .i64 a1_0) ∧ w14.cell? ⟨gb42102, 1, none⟩ = some (.int .i64 a1_1) ∧ w14.cell? ⟨gb42102, 2, none⟩ = some (.int .i64 a1_2) ∧ w14.cell? ⟨gb42102, 3, none⟩ = some (.int .i64 a1_3) ∧ w14.cell? ⟨gb42102, 4, none⟩ = some (.int .i64 a1_4) ∧ w14.cell? ⟨gb42102, 5, none⟩ = some (.slice A1_5 l1_5.length c1_5) ∧ w14.cell? ⟨gb42101, 0, none⟩ = some (.int .i64 a0_0) ∧ w14.cell? ⟨gb42101, 1, none⟩ = some (.int .i64 a0_1) ∧ w14.cell? ⟨gb42101, 2, none⟩ = some (.int .i64 a0_2) ∧ w14.cell? ⟨gb42101, 3, none⟩ = some (.int .i64 a0_3) ∧ w14.cell? ⟨gb42101, 4, none⟩ = some (.int .i64 a0_4) ∧ w14.cell? ⟨gb42101, 5, none⟩ = some (.slice A0_5 l0_5.length c0_5) := hS_
        refine norm_ (a' := ?_) ?_ ?_
        rotate_left
        · simp only [putAll, Act.put, List.setIfInBounds_toArray, List.set_cons_zero, List.set_cons_succ]
          rfl
        refine two_ (i := 11) (j := 13) (Ni := some 21) (Nj := some 7) #[true, true, true, true, true, true, true, true, true, true, true, true, false, false, false] #[true, true, true, true, true, true, true, true, true, true, true, false, false, true, false] rfl rfl rfl rfl (two_of HT_.out (by kernel_rfl)) (by decide) (by decide) (fun K hK => ?_) (fun K hK => ?_)
        · skip
          refine goes_ Try.func24 (by kernel_rfl) rfl #[.int .i64 a1_2, .int .i64 t42106] (by rfl) rfl rfl (by (try simp only [List.map_toArray, List.map_cons, List.map_nil]); first | done | rfl | (simp only [List.length_drop, List.length_take]; rfl)) ?_
          with_reducible refine (plaitinglaw5_within.calls a1_2 t42106 t42107 _ A7.out).mono ?_
          rintro e w' ⟨rfl, ⟨nd, rfl⟩⟩
          refine ⟨_, rfl, ?_⟩
          refine hK.out _ _ ⟨(blk_cell BK42102.out 0).trans rfl, (blk_cell BK42102.out 1).trans rfl, (blk_cell BK42102.out 2).trans rfl, (blk_cell BK42102.out 3).trans rfl, (blk_cell BK42102.out 4).trans rfl, (blk_cell BK42102.out 5).trans rfl, (blk_cell BK42101.out 0).trans rfl, (blk_cell BK42101.out 1).trans rfl, (blk_cell BK42101.out 2).trans rfl, (blk_cell BK42101.out 3).trans rfl, (blk_cell BK42101.out 4).trans rfl, (blk_cell BK42101.out 5).trans rfl⟩ (fun hHeld => ?_)
          clear hK K
          refine norm_ (a' := ?_) ?_ ?_
          rotate_left
          · show Act.put _ (some 21) _ = _
            simp only [Act.put, List.setIfInBounds_toArray, List.set_cons_zero, List.set_cons_succ, i64_w, i32_w]
            rfl
          refine pure_ (i := 12) (N := some 22) (v := ?_) (a' := ?_) #[true, true, true, true, true, true, true, true, true, true, true, true, true, false, false] rfl rfl (any_of HT_.out (by kernel_rfl)) (fun _ _ _ h => h) (Or.inl ⟨by rfl, ?_⟩) ?_ ?_
          rotate_left
          · intro w'
            go_simp
            with_reducible rfl
          rotate_left
          · simp only [Act.put, List.setIfInBounds_toArray, List.set_cons_zero, List.set_cons_succ, i64_w, i32_w]
            rfl
          exact norm2_ (hJ2_6_10_11 () _ ⟨hHeld, (pB_ BK42101.out), (pB_ BK42102.out), (pB_ BK42103.out), (pH_ HB.out)⟩)
        skip
        refine box_step ?hg (N := 7) ?hd (cs := #[.int .i64 0, .int .i64 0, .int .i64 0, .int .i64 0, .int .i64 0, .slice none 0 0]) (t := 29) ?hr ?_; (case hd => rfl); (case hg => rfl); (case hr => first | (go_simp; done) | (go_simp; rfl))
        intro gb42108 hg w15 hbox hb
        have BK42108 := Aside0.mk (hbox)
        have GW42108 := Aside0.mk ((by rw [hg]; exact (below_size (pH_ HB.out)) : w.heap.size ≤ gb42108))
        have GE42108 := Aside0.mk ((by rw [hg]; exact (below_size (pH_ HB.out)) : w.heap.size ≤ gb42108))
        have NB42101_42108 := Aside0.mk (ltB_ hg BK42101.out)
        have NB42108_42101 := Aside0.mk (ltB_ hg BK42101.out).symm
        have NB42102_42108 := Aside0.mk (ltB_ hg BK42102.out)
        have NB42108_42102 := Aside0.mk (ltB_ hg BK42102.out).symm
        have NB42103_42108 := Aside0.mk (ltB_ hg BK42103.out)
        have NB42108_42103 := Aside0.mk (ltB_ hg BK42103.out).symm
        replace BK42101 := Aside0.mk (blk_below (pB_ BK42101.out) hb)
        replace BK42102 := Aside0.mk (blk_below (pB_ BK42102.out) hb)
        replace BK42103 := Aside0.mk (blk_below (pB_ BK42103.out) hb)
        replace HB := Aside0.mk (below_step (pH_ HB.out) hb)
        clear hb hbox hg
        refine hK.out _ _ ⟨(blk_cell BK42102.out 0).trans rfl, (blk_cell BK42102.out 1).trans rfl, (blk_cell BK42102.out 2).trans rfl, (blk_cell BK42102.out 3).trans rfl, (blk_cell BK42102.out 4).trans rfl, (blk_cell BK42102.out 5).trans rfl, (blk_cell BK42101.out 0).trans rfl, (blk_cell BK42101.out 1).trans rfl, (blk_cell BK42101.out 2).trans rfl, (blk_cell BK42101.out 3).trans rfl, (blk_cell BK42101.out 4).trans rfl, (blk_cell BK42101.out 5).trans rfl⟩ (fun hHeld => ?_)
        clear hK K
        refine norm_ (a' := ?_) ?_ ?_
        rotate_left
        · show Act.put _ (some 7) _ = _
          simp only [Act.put, List.setIfInBounds_toArray, List.set_cons_zero, List.set_cons_succ, i64_w, i32_w]
          rfl
        exact norm2_ (hJ2_6_10_13 (gb42108) _ ⟨hHeld, (pB_ BK42101.out), (pB_ BK42102.out), (pB_ BK42103.out), (pB_ BK42108.out), GW42108.out, GE42108.out, NB42101_42108.out, NB42108_42101.out, NB42102_42108.out, NB42108_42102.out, NB42103_42108.out, NB42108_42103.out, (pH_ HB.out)⟩)
      skip
      rintro gb42108 w15 ⟨hS_, h0_, h1_, h2_, h3_, h4_, h5_, h6_, h7_, h8_, h9_, h10_, h11_, h12_⟩
      have n0_ : Aside0 (w15.heap[gb42101]? = some (.cells #[.int .i64 a0_0, .int .i64 a0_1, .int .i64 a0_2, .int .i64 a0_3, .int .i64 a0_4, .slice A0_5 l0_5.length c0_5] 24 (0, 0))) := ⟨h0_⟩
      have n1_ : Aside0 (w15.heap[gb42102]? = some (.cells #[.int .i64 a1_0, .int .i64 a1_1, .int .i64 a1_2, .int .i64 a1_3, .int .i64 a1_4, .slice A1_5 l1_5.length c1_5] 29 (0, 0))) := ⟨h1_⟩
      have n2_ : Aside0 (w15.heap[gb42103]? = some (.cells #[.int .i64 0, .int .i64 0, .int .i64 0, .int .i64 0, .int .i64 0, .slice none 0 0] 29 (0, 0))) := ⟨h2_⟩
      have n3_ : Aside0 (w15.heap[gb42108]? = some (.cells #[.int .i64 0, .int .i64 0, .int .i64 0, .int .i64 0, .int .i64 0, .slice none 0 0] 29 (0, 0))) := ⟨h3_⟩
      have n4_ : Aside0 (w.heap.size ≤ gb42108) := ⟨h4_⟩
      have n5_ : Aside0 (w.heap.size ≤ gb42108) := ⟨h5_⟩
      have n6_ : Aside0 (gb42101 ≠ gb42108) := ⟨h6_⟩
      have n7_ : Aside0 (gb42108 ≠ gb42101) := ⟨h7_⟩
      have n8_ : Aside0 (gb42102 ≠ gb42108) := ⟨h8_⟩
      have n9_ : Aside0 (gb42108 ≠ gb42102) := ⟨h9_⟩
      have n10_ : Aside0 (gb42103 ≠ gb42108) := ⟨h10_⟩
      have n11_ : Aside0 (gb42108 ≠ gb42103) := ⟨h11_⟩
      have n12_ : Aside0 (Below w.heap.size w w15) := ⟨h12_⟩
      clear BK42101
      clear BK42102
      clear BK42103
      clear HB
      clear h0_ h1_ h2_ h3_ h4_ h5_ h6_ h7_ h8_ h9_ h10_ h11_ h12_
      have BK42101 := n0_
      have BK42102 := n1_
      have BK42103 := n2_
      have BK42108 := n3_
      have GW42108 := n4_
      have GE42108 := n5_
      have NB42101_42108 := n6_
      have NB42108_42101 := n7_
      have NB42102_42108 := n8_
      have NB42108_42102 := n9_
      have NB42103_42108 := n10_
      have NB42108_42103 := n11_
      have HB := n12_
      clear n0_ n1_ n2_ n3_ n4_ n5_ n6_ n7_ n8_ n9_ n10_ n11_ n12_
      have hHeld : w15.cell? ⟨gb42102, 0, none⟩ = some (.int .i64 a1_0) ∧ w15.cell? ⟨gb42102, 1, none⟩ = some (.int .i64 a1_1) ∧ w15.cell? ⟨gb42102, 2, none⟩ = some (.int .i64 a1_2) ∧ w15.cell? ⟨gb42102, 3, none⟩ = some (.int .i64 a1_3) ∧ w15.cell? ⟨gb42102, 4, none⟩ = some (.int .i64 a1_4) ∧ w15.cell? ⟨gb42102, 5, none⟩ = some (.slice A1_5 l1_5.length c1_5) ∧ w15.cell? ⟨gb42101, 0, none⟩ = some (.int .i64 a0_0) ∧ w15.cell? ⟨gb42101, 1, none⟩ = some (.int .i64 a0_1) ∧ w15.cell? ⟨gb42101, 2, none⟩ = some (.int .i64 a0_2) ∧ w15.cell? ⟨gb42101, 3, none⟩ = some (.int .i64 a0_3) ∧ w15.cell? ⟨gb42101, 4, none⟩ = some (.int .i64 a0_4) ∧ w15.cell? ⟨gb42101, 5, none⟩ = some (.slice A0_5 l0_5.length c0_5) := hS_
      refine norm_ (a' := ?_) ?_ ?_
      rotate_left
      · simp only [putAll, Act.put, List.setIfInBounds_toArray, List.set_cons_zero, List.set_cons_succ]
        rfl
      refine one_ (i := 11) (N := some 21) #[true, true, true, true, true, true, true, true, true, true, true, true, false, true, false] rfl rfl (one_of HT_.out (by kernel_rfl)) (by decide) (fun K hK => ?_)
      refine goes_ Try.func24 (by kernel_rfl) rfl #[.int .i64 a1_2, .int .i64 t42106] (by rfl) rfl rfl (by (try simp only [List.map_toArray, List.map_cons, List.map_nil]); first | done | rfl | (simp only [List.length_drop, List.length_take]; rfl)) ?_
      with_reducible refine (plaitinglaw5_within.calls a1_2 t42106 t42107 _ A7.out).mono ?_
      rintro e w' ⟨rfl, ⟨nd, rfl⟩⟩
      refine ⟨_, rfl, ?_⟩
      refine hK.out _ _ ⟨(blk_cell BK42102.out 0).trans rfl, (blk_cell BK42102.out 1).trans rfl, (blk_cell BK42102.out 2).trans rfl, (blk_cell BK42102.out 3).trans rfl, (blk_cell BK42102.out 4).trans rfl, (blk_cell BK42102.out 5).trans rfl, (blk_cell BK42101.out 0).trans rfl, (blk_cell BK42101.out 1).trans rfl, (blk_cell BK42101.out 2).trans rfl, (blk_cell BK42101.out 3).trans rfl, (blk_cell BK42101.out 4).trans rfl, (blk_cell BK42101.out 5).trans rfl⟩ (fun hHeld => ?_)
      clear hK K
      refine norm_ (a' := ?_) ?_ ?_
      rotate_left
      · show Act.put _ (some 21) _ = _
        simp only [Act.put, List.setIfInBounds_toArray, List.set_cons_zero, List.set_cons_succ, i64_w, i32_w]
        rfl
      refine pure_ (i := 12) (N := some 22) (v := ?_) (a' := ?_) #[true, true, true, true, true, true, true, true, true, true, true, true, true, true, false] rfl rfl (any_of HT_.out (by kernel_rfl)) (fun _ _ _ h => h) (Or.inl ⟨by rfl, ?_⟩) ?_ ?_
      rotate_left
      · intro w'
        go_simp
        with_reducible rfl
      rotate_left
      · simp only [Act.put, List.setIfInBounds_toArray, List.set_cons_zero, List.set_cons_succ, i64_w, i32_w]
        rfl
      exact norm2_ (hJ2_6_10_11_13 (gb42108) _ ⟨hHeld, (pB_ BK42101.out), (pB_ BK42102.out), (pB_ BK42103.out), (pB_ BK42108.out), GW42108.out, GE42108.out, NB42101_42108.out, NB42108_42101.out, NB42102_42108.out, NB42108_42102.out, NB42103_42108.out, NB42108_42103.out, (pH_ HB.out)⟩)
    skip
    rintro _ w14 ⟨hS_, h0_, h1_, h2_, h3_⟩
    have n0_ : Aside0 (w14.heap[gb42101]? = some (.cells #[.int .i64 a0_0, .int .i64 a0_1, .int .i64 a0_2, .int .i64 a0_3, .int .i64 a0_4, .slice A0_5 l0_5.length c0_5] 24 (0, 0))) := ⟨h0_⟩
    have n1_ : Aside0 (w14.heap[gb42102]? = some (.cells #[.int .i64 a1_0, .int .i64 a1_1, .int .i64 a1_2, .int .i64 a1_3, .int .i64 a1_4, .slice A1_5 l1_5.length c1_5] 29 (0, 0))) := ⟨h1_⟩
    have n2_ : Aside0 (w14.heap[gb42103]? = some (.cells #[.int .i64 0, .int .i64 0, .int .i64 0, .int .i64 0, .int .i64 0, .slice none 0 0] 29 (0, 0))) := ⟨h2_⟩
    have n3_ : Aside0 (Below w.heap.size w w14) := ⟨h3_⟩
    clear BK42101
    clear BK42102
    clear BK42103
    clear HB
    clear h0_ h1_ h2_ h3_
    have BK42101 := n0_
    have BK42102 := n1_
    have BK42103 := n2_
    have HB := n3_
    clear n0_ n1_ n2_ n3_
    have hHeld : w14.cell? ⟨gb42102, 0, none⟩ = some (.int .i64 a1_0) ∧ w14.cell? ⟨gb42102, 1, none⟩ = some (.int .i64 a1_1) ∧ w14.cell? ⟨gb42102, 2, none⟩ = some (.int .i64 a1_2) ∧ w14.cell? ⟨gb42102, 3, none⟩ = some (.int .i64 a1_3) ∧ w14.cell? ⟨gb42102, 4, none⟩ = some (.int .i64 a1_4) ∧ w14.cell? ⟨gb42102, 5, none⟩ = some (.slice A1_5 l1_5.length c1_5) ∧ w14.cell? ⟨gb42101, 0, none⟩ = some (.int .i64 a0_0) ∧ w14.cell? ⟨gb42101, 1, none⟩ = some (.int .i64 a0_1) ∧ w14.cell? ⟨gb42101, 2, none⟩ = some (.int .i64 a0_2) ∧ w14.cell? ⟨gb42101, 3, none⟩ = some (.int .i64 a0_3) ∧ w14.cell? ⟨gb42101, 4, none⟩ = some (.int .i64 a0_4) ∧ w14.cell? ⟨gb42101, 5, none⟩ = some (.slice A0_5 l0_5.length c0_5) := hS_
    refine norm_ (a' := ?_) ?_ ?_
    rotate_left
    · simp only [putAll, Act.put, List.setIfInBounds_toArray, List.set_cons_zero, List.set_cons_succ]
      rfl
    refine one_ (i := 13) (N := some 7) #[true, true, true, true, true, true, true, true, true, true, true, true, true, true, false] rfl rfl (one_of HT_.out (by kernel_rfl)) (by decide) (fun K hK => ?_)
    refine box_step ?hg (N := 7) ?hd (cs := #[.int .i64 0, .int .i64 0, .int .i64 0, .int .i64 0, .int .i64 0, .slice none 0 0]) (t := 29) ?hr ?_; (case hd => rfl); (case hg => rfl); (case hr => first | (go_simp; done) | (go_simp; rfl))
    intro gb42108 hg w15 hbox hb
    have BK42108 := Aside0.mk (hbox)
    have GW42108 := Aside0.mk ((by rw [hg]; exact (below_size (pH_ HB.out)) : w.heap.size ≤ gb42108))
    have GE42108 := Aside0.mk ((by rw [hg]; exact (below_size (pH_ HB.out)) : w.heap.size ≤ gb42108))
    have NB42101_42108 := Aside0.mk (ltB_ hg BK42101.out)
    have NB42108_42101 := Aside0.mk (ltB_ hg BK42101.out).symm
    have NB42102_42108 := Aside0.mk (ltB_ hg BK42102.out)
    have NB42108_42102 := Aside0.mk (ltB_ hg BK42102.out).symm
    have NB42103_42108 := Aside0.mk (ltB_ hg BK42103.out)
    have NB42108_42103 := Aside0.mk (ltB_ hg BK42103.out).symm
    replace BK42101 := Aside0.mk (blk_below (pB_ BK42101.out) hb)
    replace BK42102 := Aside0.mk (blk_below (pB_ BK42102.out) hb)
    replace BK42103 := Aside0.mk (blk_below (pB_ BK42103.out) hb)
    replace HB := Aside0.mk (below_step (pH_ HB.out) hb)
    clear hb hbox hg
    refine hK.out _ _ ⟨(blk_cell BK42102.out 0).trans rfl, (blk_cell BK42102.out 1).trans rfl, (blk_cell BK42102.out 2).trans rfl, (blk_cell BK42102.out 3).trans rfl, (blk_cell BK42102.out 4).trans rfl, (blk_cell BK42102.out 5).trans rfl, (blk_cell BK42101.out 0).trans rfl, (blk_cell BK42101.out 1).trans rfl, (blk_cell BK42101.out 2).trans rfl, (blk_cell BK42101.out 3).trans rfl, (blk_cell BK42101.out 4).trans rfl, (blk_cell BK42101.out 5).trans rfl⟩ (fun hHeld => ?_)
    clear hK K
    refine norm_ (a' := ?_) ?_ ?_
    rotate_left
    · show Act.put _ (some 7) _ = _
      simp only [Act.put, List.setIfInBounds_toArray, List.set_cons_zero, List.set_cons_succ, i64_w, i32_w]
      rfl
    exact norm2_ (hJ2_6_10_11_13 (gb42108) _ ⟨hHeld, (pB_ BK42101.out), (pB_ BK42102.out), (pB_ BK42103.out), (pB_ BK42108.out), GW42108.out, GE42108.out, NB42101_42108.out, NB42108_42101.out, NB42102_42108.out, NB42108_42102.out, NB42103_42108.out, NB42108_42103.out, (pH_ HB.out)⟩)
  rintro gb42108 w15 ⟨hS_, h0_, h1_, h2_, h3_, h4_, h5_, h6_, h7_, h8_, h9_, h10_, h11_, h12_⟩
  have n0_ : Aside0 (w15.heap[gb42101]? = some (.cells #[.int .i64 a0_0, .int .i64 a0_1, .int .i64 a0_2, .int .i64 a0_3, .int .i64 a0_4, .slice A0_5 l0_5.length c0_5] 24 (0, 0))) := ⟨h0_⟩
  have n1_ : Aside0 (w15.heap[gb42102]? = some (.cells #[.int .i64 a1_0, .int .i64 a1_1, .int .i64 a1_2, .int .i64 a1_3, .int .i64 a1_4, .slice A1_5 l1_5.length c1_5] 29 (0, 0))) := ⟨h1_⟩
  have n2_ : Aside0 (w15.heap[gb42103]? = some (.cells #[.int .i64 0, .int .i64 0, .int .i64 0, .int .i64 0, .int .i64 0, .slice none 0 0] 29 (0, 0))) := ⟨h2_⟩
  have n3_ : Aside0 (w15.heap[gb42108]? = some (.cells #[.int .i64 0, .int .i64 0, .int .i64 0, .int .i64 0, .int .i64 0, .slice none 0 0] 29 (0, 0))) := ⟨h3_⟩
  have n4_ : Aside0 (w.heap.size ≤ gb42108) := ⟨h4_⟩
  have n5_ : Aside0 (w.heap.size ≤ gb42108) := ⟨h5_⟩
  have n6_ : Aside0 (gb42101 ≠ gb42108) := ⟨h6_⟩
  have n7_ : Aside0 (gb42108 ≠ gb42101) := ⟨h7_⟩
  have n8_ : Aside0 (gb42102 ≠ gb42108) := ⟨h8_⟩
  have n9_ : Aside0 (gb42108 ≠ gb42102) := ⟨h9_⟩
  have n10_ : Aside0 (gb42103 ≠ gb42108) := ⟨h10_⟩
  have n11_ : Aside0 (gb42108 ≠ gb42103) := ⟨h11_⟩
  have n12_ : Aside0 (Below w.heap.size w w15) := ⟨h12_⟩
  clear BK42101
  clear BK42102
  clear BK42103
  clear HB
  clear h0_ h1_ h2_ h3_ h4_ h5_ h6_ h7_ h8_ h9_ h10_ h11_ h12_
  have BK42101 := n0_
  have BK42102 := n1_
  have BK42103 := n2_
  have BK42108 := n3_
  have GW42108 := n4_
  have GE42108 := n5_
  have NB42101_42108 := n6_
  have NB42108_42101 := n7_
  have NB42102_42108 := n8_
  have NB42108_42102 := n9_
  have NB42103_42108 := n10_
  have NB42108_42103 := n11_
  have HB := n12_
  clear n0_ n1_ n2_ n3_ n4_ n5_ n6_ n7_ n8_ n9_ n10_ n11_ n12_
  have hHeld : w15.cell? ⟨gb42102, 0, none⟩ = some (.int .i64 a1_0) ∧ w15.cell? ⟨gb42102, 1, none⟩ = some (.int .i64 a1_1) ∧ w15.cell? ⟨gb42102, 2, none⟩ = some (.int .i64 a1_2) ∧ w15.cell? ⟨gb42102, 3, none⟩ = some (.int .i64 a1_3) ∧ w15.cell? ⟨gb42102, 4, none⟩ = some (.int .i64 a1_4) ∧ w15.cell? ⟨gb42102, 5, none⟩ = some (.slice A1_5 l1_5.length c1_5) ∧ w15.cell? ⟨gb42101, 0, none⟩ = some (.int .i64 a0_0) ∧ w15.cell? ⟨gb42101, 1, none⟩ = some (.int .i64 a0_1) ∧ w15.cell? ⟨gb42101, 2, none⟩ = some (.int .i64 a0_2) ∧ w15.cell? ⟨gb42101, 3, none⟩ = some (.int .i64 a0_3) ∧ w15.cell? ⟨gb42101, 4, none⟩ = some (.int .i64 a0_4) ∧ w15.cell? ⟨gb42101, 5, none⟩ = some (.slice A0_5 l0_5.length c0_5) := hS_
  refine norm_ (a' := ?_) ?_ ?_
  rotate_left
  · simp only [putAll, Act.put, List.setIfInBounds_toArray, List.set_cons_zero, List.set_cons_succ]
    rfl
  refine one_ (i := 14) (N := none) #[true, true, true, true, true, true, true, true, true, true, true, true, true, true, true] rfl rfl (one_of HT_.out (by kernel_rfl)) (by decide) (fun K hK => ?_)
  have hs16 : w15.cell? ⟨gb42108, 0, none⟩ = some (.int .i64 0) := (blk_cell BK42108.out 0).trans rfl
  have hfs16 := blk_frozen BK42108.out 0
  have hns16_0 := NB42101_42108.out
  have hns16_1 := NB42102_42108.out
  have hns16_2 := NB42103_42108.out
  have hms16_0 := NB42108_42101.out
  have hms16_1 := NB42108_42102.out
  have hms16_2 := NB42108_42103.out
  have hs17 : w15.cell? ⟨gb42108, 1, none⟩ = some (.int .i64 0) := (blk_cell BK42108.out 1).trans rfl
  have hfs17 := blk_frozen BK42108.out 1
  have hns17_0 := NB42101_42108.out
  have hns17_1 := NB42102_42108.out
  have hns17_2 := NB42103_42108.out
  have hms17_0 := NB42108_42101.out
  have hms17_1 := NB42108_42102.out
  have hms17_2 := NB42108_42103.out
  have hs18 : w15.cell? ⟨gb42108, 2, none⟩ = some (.int .i64 0) := (blk_cell BK42108.out 2).trans rfl
  have hfs18 := blk_frozen BK42108.out 2
  have hns18_0 := NB42101_42108.out
  have hns18_1 := NB42102_42108.out
  have hns18_2 := NB42103_42108.out
  have hms18_0 := NB42108_42101.out
  have hms18_1 := NB42108_42102.out
  have hms18_2 := NB42108_42103.out
  have hs19 : w15.cell? ⟨gb42108, 3, none⟩ = some (.int .i64 0) := (blk_cell BK42108.out 3).trans rfl
  have hfs19 := blk_frozen BK42108.out 3
  have hns19_0 := NB42101_42108.out
  have hns19_1 := NB42102_42108.out
  have hns19_2 := NB42103_42108.out
  have hms19_0 := NB42108_42101.out
  have hms19_1 := NB42108_42102.out
  have hms19_2 := NB42108_42103.out
  have hs20 : w15.cell? ⟨gb42108, 4, none⟩ = some (.int .i64 0) := (blk_cell BK42108.out 4).trans rfl
  have hfs20 := blk_frozen BK42108.out 4
  have hns20_0 := NB42101_42108.out
  have hns20_1 := NB42102_42108.out
  have hns20_2 := NB42103_42108.out
  have hms20_0 := NB42108_42101.out
  have hms20_1 := NB42108_42102.out
  have hms20_2 := NB42108_42103.out
  have hs21 : w15.cell? ⟨gb42108, 5, none⟩ = some (.slice none 0 0) := (blk_cell BK42108.out 5).trans rfl
  have hfs21 := blk_frozen BK42108.out 5
  have hns21_0 := NB42101_42108.out
  have hns21_1 := NB42102_42108.out
  have hns21_2 := NB42103_42108.out
  have hms21_0 := NB42108_42101.out
  have hms21_1 := NB42108_42102.out
  have hms21_2 := NB42108_42103.out
  refine skip_ (w1 := ?_) (by rfl) rfl ?_ ?_
  rotate_left
  · go_simp
    rfl
  refine hK.out _ _ ⟨((cell_far (p := ⟨gb42108, _, none⟩) NB42102_42108.out _).trans (((cell_far (p := ⟨gb42108, _, none⟩) NB42102_42108.out _).trans (((cell_far (p := ⟨gb42108, _, none⟩) NB42102_42108.out _).trans (((cell_far (p := ⟨gb42108, _, none⟩) NB42102_42108.out _).trans (((cell_far (p := ⟨gb42108, _, none⟩) NB42102_42108.out _).trans (((cell_far (p := ⟨gb42108, _, none⟩) NB42102_42108.out _).trans (hHeld.1)))))))))))), ((cell_far (p := ⟨gb42108, _, none⟩) NB42102_42108.out _).trans (((cell_far (p := ⟨gb42108, _, none⟩) NB42102_42108.out _).trans (((cell_far (p := ⟨gb42108, _, none⟩) NB42102_42108.out _).trans (((cell_far (p := ⟨gb42108, _, none⟩) NB42102_42108.out _).trans (((cell_far (p := ⟨gb42108, _, none⟩) NB42102_42108.out _).trans (((cell_far (p := ⟨gb42108, _, none⟩) NB42102_42108.out _).trans (hHeld.2.1)))))))))))), ((cell_far (p := ⟨gb42108, _, none⟩) NB42102_42108.out _).trans (((cell_far (p := ⟨gb42108, _, none⟩) NB42102_42108.out _).trans (((cell_far (p := ⟨gb42108, _, none⟩) NB42102_42108.out _).trans (((cell_far (p := ⟨gb42108, _, none⟩) NB42102_42108.out _).trans (((cell_far (p := ⟨gb42108, _, none⟩) NB42102_42108.out _).trans (((cell_far (p := ⟨gb42108, _, none⟩) NB42102_42108.out _).trans (hHeld.2.2.1)))))))))))), ((cell_far (p := ⟨gb42108, _, none⟩) NB42102_42108.out _).trans (((cell_far (p := ⟨gb42108, _, none⟩) NB42102_42108.out _).trans (((cell_far (p := ⟨gb42108, _, none⟩) NB42102_42108.out _).trans (((cell_far (p := ⟨gb42108, _, none⟩) NB42102_42108.out _).trans (((cell_far (p := ⟨gb42108, _, none⟩) NB42102_42108.out _).trans (((cell_far (p := ⟨gb42108, _, none⟩) NB42102_42108.out _).trans (hHeld.2.2.2.1)))))))))))), ((cell_far (p := ⟨gb42108, _, none⟩) NB42102_42108.out _).trans (((cell_far (p := ⟨gb42108, _, none⟩) NB42102_42108.out _).trans (((cell_far (p := ⟨gb42108, _, none⟩) NB42102_42108.out _).trans (((cell_far (p := ⟨gb42108, _, none⟩) NB42102_42108.out _).trans (((cell_far (p := ⟨gb42108, _, none⟩) NB42102_42108.out _).trans (((cell_far (p := ⟨gb42108, _, none⟩) NB42102_42108.out _).trans (hHeld.2.2.2.2.1)))))))))))), ((cell_far (p := ⟨gb42108, _, none⟩) NB42102_42108.out _).trans (((cell_far (p := ⟨gb42108, _, none⟩) NB42102_42108.out _).trans (((cell_far (p := ⟨gb42108, _, none⟩) NB42102_42108.out _).trans (((cell_far (p := ⟨gb42108, _, none⟩) NB42102_42108.out _).trans (((cell_far (p := ⟨gb42108, _, none⟩) NB42102_42108.out _).trans (((cell_far (p := ⟨gb42108, _, none⟩) NB42102_42108.out _).trans (hHeld.2.2.2.2.2.1)))))))))))), ((cell_far (p := ⟨gb42108, _, none⟩) NB42101_42108.out _).trans (((cell_far (p := ⟨gb42108, _, none⟩) NB42101_42108.out _).trans (((cell_far (p := ⟨gb42108, _, none⟩) NB42101_42108.out _).trans (((cell_far (p := ⟨gb42108, _, none⟩) NB42101_42108.out _).trans (((cell_far (p := ⟨gb42108, _, none⟩) NB42101_42108.out _).trans (((cell_far (p := ⟨gb42108, _, none⟩) NB42101_42108.out _).trans (hHeld.2.2.2.2.2.2.1)))))))))))), ((cell_far (p := ⟨gb42108, _, none⟩) NB42101_42108.out _).trans (((cell_far (p := ⟨gb42108, _, none⟩) NB42101_42108.out _).trans (((cell_far (p := ⟨gb42108, _, none⟩) NB42101_42108.out _).trans (((cell_far (p := ⟨gb42108, _, none⟩) NB42101_42108.out _).trans (((cell_far (p := ⟨gb42108, _, none⟩) NB42101_42108.out _).trans (((cell_far (p := ⟨gb42108, _, none⟩) NB42101_42108.out _).trans (hHeld.2.2.2.2.2.2.2.1)))))))))))), ((cell_far (p := ⟨gb42108, _, none⟩) NB42101_42108.out _).trans (((cell_far (p := ⟨gb42108, _, none⟩) NB42101_42108.out _).trans (((cell_far (p := ⟨gb42108, _, none⟩) NB42101_42108.out _).trans (((cell_far (p := ⟨gb42108, _, none⟩) NB42101_42108.out _).trans (((cell_far (p := ⟨gb42108, _, none⟩) NB42101_42108.out _).trans (((cell_far (p := ⟨gb42108, _, none⟩) NB42101_42108.out _).trans (hHeld.2.2.2.2.2.2.2.2.1)))))))))))), ((cell_far (p := ⟨gb42108, _, none⟩) NB42101_42108.out _).trans (((cell_far (p := ⟨gb42108, _, none⟩) NB42101_42108.out _).trans (((cell_far (p := ⟨gb42108, _, none⟩) NB42101_42108.out _).trans (((cell_far (p := ⟨gb42108, _, none⟩) NB42101_42108.out _).trans (((cell_far (p := ⟨gb42108, _, none⟩) NB42101_42108.out _).trans (((cell_far (p := ⟨gb42108, _, none⟩) NB42101_42108.out _).trans (hHeld.2.2.2.2.2.2.2.2.2.1)))))))))))), ((cell_far (p := ⟨gb42108, _, none⟩) NB42101_42108.out _).trans (((cell_far (p := ⟨gb42108, _, none⟩) NB42101_42108.out _).trans (((cell_far (p := ⟨gb42108, _, none⟩) NB42101_42108.out _).trans (((cell_far (p := ⟨gb42108, _, none⟩) NB42101_42108.out _).trans (((cell_far (p := ⟨gb42108, _, none⟩) NB42101_42108.out _).trans (((cell_far (p := ⟨gb42108, _, none⟩) NB42101_42108.out _).trans (hHeld.2.2.2.2.2.2.2.2.2.2.1)))))))))))), ((cell_far (p := ⟨gb42108, _, none⟩) NB42101_42108.out _).trans (((cell_far (p := ⟨gb42108, _, none⟩) NB42101_42108.out _).trans (((cell_far (p := ⟨gb42108, _, none⟩) NB42101_42108.out _).trans (((cell_far (p := ⟨gb42108, _, none⟩) NB42101_42108.out _).trans (((cell_far (p := ⟨gb42108, _, none⟩) NB42101_42108.out _).trans (((cell_far (p := ⟨gb42108, _, none⟩) NB42101_42108.out _).trans (hHeld.2.2.2.2.2.2.2.2.2.2.2))))))))))))⟩ (fun hHeld => ?_)
  clear hK K
  refine done_ (done_of HT_.out (by kernel_rfl)) ?_
  have hnb22 := NB42108_42101.out
  have hnc22 := NB42101_42108.out
  have hnb23 := NB42108_42102.out
  have hnc23 := NB42102_42108.out
  have hnb24 := NB42108_42103.out
  have hnc24 := NB42103_42108.out
  have hcz25_0 : w15.cell? ⟨gb42108, 0, none⟩ = some (.int .i64 0) := (blk_cell BK42108.out 0).trans rfl
  have hcz25_1 : w15.cell? ⟨gb42108, 1, none⟩ = some (.int .i64 0) := (blk_cell BK42108.out 1).trans rfl
  have hcz25_2 : w15.cell? ⟨gb42108, 2, none⟩ = some (.int .i64 0) := (blk_cell BK42108.out 2).trans rfl
  have hcz25_3 : w15.cell? ⟨gb42108, 3, none⟩ = some (.int .i64 0) := (blk_cell BK42108.out 3).trans rfl
  have hcz25_4 : w15.cell? ⟨gb42108, 4, none⟩ = some (.int .i64 0) := (blk_cell BK42108.out 4).trans rfl
  have hcz25_5 : w15.cell? ⟨gb42108, 5, none⟩ = some (.slice none 0 0) := (blk_cell BK42108.out 5).trans rfl
  have hfz25_0 := blk_frozen BK42108.out 0
  have hfz25_1 := blk_frozen BK42108.out 1
  have hfz25_2 := blk_frozen BK42108.out 2
  have hfz25_3 := blk_frozen BK42108.out 3
  have hfz25_4 := blk_frozen BK42108.out 4
  have hfz25_5 := blk_frozen BK42108.out 5
  have hnb26 := NB42101_42102.out
  have hnc26 := NB42102_42101.out
  have hnb27 := NB42101_42103.out
  have hnc27 := NB42103_42101.out
  have hcz28_0 : w15.cell? ⟨gb42101, 0, none⟩ = some (.int .i64 a0_0) := (blk_cell BK42101.out 0).trans rfl
  have hcz28_1 : w15.cell? ⟨gb42101, 1, none⟩ = some (.int .i64 a0_1) := (blk_cell BK42101.out 1).trans rfl
  have hcz28_2 : w15.cell? ⟨gb42101, 2, none⟩ = some (.int .i64 a0_2) := (blk_cell BK42101.out 2).trans rfl
  have hcz28_3 : w15.cell? ⟨gb42101, 3, none⟩ = some (.int .i64 a0_3) := (blk_cell BK42101.out 3).trans rfl
  have hcz28_4 : w15.cell? ⟨gb42101, 4, none⟩ = some (.int .i64 a0_4) := (blk_cell BK42101.out 4).trans rfl
  have hcz28_5 : w15.cell? ⟨gb42101, 5, none⟩ = some (.slice A0_5 l0_5.length c0_5) := (blk_cell BK42101.out 5).trans rfl
  have hfz28_0 := blk_frozen BK42101.out 0
  have hfz28_1 := blk_frozen BK42101.out 1
  have hfz28_2 := blk_frozen BK42101.out 2
  have hfz28_3 := blk_frozen BK42101.out 3
  have hfz28_4 := blk_frozen BK42101.out 4
  have hfz28_5 := blk_frozen BK42101.out 5
  go_upto_if 27 with (fail)
  go_cut [] (fun wc => ∃ (kq : Nat) (x42109000_7 : Int), Aside0 (plaitinglaw5_Make.j0 kq l2 a0_0 a0_1 a0_2 a0_3 a0_4 l0_5 a1_0 a1_1 a1_2 a1_3 a1_4 l1_5 x42109000_7 t42105 t42107 0 0 = some (r1, r2, r3, r4, r5, r6)) ∧ Aside0 (kq ≤ k) ∧ Aside0 (wc.heap[gb42101]? = some (.cells #[.int .i64 a0_0, .int .i64 a0_1, .int .i64 a0_2, .int .i64 a0_3, .int .i64 a0_4, (.slice A0_5 l0_5.length c0_5)] 24 (0, 0))) ∧ Aside0 (wc.heap[gb42102]? = some (.cells #[.int .i64 a1_0, .int .i64 a1_1, .int .i64 a1_2, .int .i64 a1_3, .int .i64 a1_4, (.slice A1_5 l1_5.length c1_5)] 29 (0, 0))) ∧ Aside0 (wc.heap[gb42103]? = some (.cells #[.int .i64 0, .int .i64 0, .int .i64 0, .int .i64 0, .int .i64 0, (.slice none 0 0)] 29 (0, 0))) ∧ Aside0 (wc.heap[gb42108]? = some (.cells #[.int .i64 x42109000_7, .int .i64 t42105, .int .i64 t42107, .int .i64 0, .int .i64 0, (.slice none 0 0)] 29 (0, 0))) ∧ Aside0 (Below w.heap.size w wc))
  case first =>
    have H := HC8.out
    clear HC8
    by_cases c29 : t42107 ≥ a0_0
    rotate_left
    · rw [if_neg c29] at H
      have c29b0 : decide (a0_0 ≤ t42107) = false := decide_eq_false c29
      clear c29
      (first | rw [c29b0] | (simp only [i64_w, i32_w]; rw [c29b0]) | skip)
      have H' := Aside0.mk H
      clear H
      go_wp2
      go_meet
      case rel => exact ⟨_, (wrap64 (1 + t42104)), H', ⟨by first | omega | exact Nat.le_refl _⟩, ⟨by (with_reducible repeat (first | refine blk_drewN ?_ _ | refine blk_drew ?_ | refine blk_alloc ?_ _)); refine blk_far ?_ NB42101_42108.out _; (with_reducible repeat (first | refine blk_drewN ?_ _ | refine blk_drew ?_ | refine blk_alloc ?_ _)); refine blk_far ?_ NB42101_42108.out _; (with_reducible repeat (first | refine blk_drewN ?_ _ | refine blk_drew ?_ | refine blk_alloc ?_ _)); refine blk_far ?_ NB42101_42108.out _; (with_reducible repeat (first | refine blk_drewN ?_ _ | refine blk_drew ?_ | refine blk_alloc ?_ _)); refine blk_far ?_ NB42101_42108.out _; (with_reducible repeat (first | refine blk_drewN ?_ _ | refine blk_drew ?_ | refine blk_alloc ?_ _)); refine blk_far ?_ NB42101_42108.out _; (with_reducible repeat (first | refine blk_drewN ?_ _ | refine blk_drew ?_ | refine blk_alloc ?_ _)); refine blk_far ?_ NB42101_42108.out _; (with_reducible repeat (first | refine blk_drewN ?_ _ | refine blk_drew ?_ | refine blk_alloc ?_ _)); exact BK42101.out⟩, ⟨by (with_reducible repeat (first | refine blk_drewN ?_ _ | refine blk_drew ?_ | refine blk_alloc ?_ _)); refine blk_far ?_ NB42102_42108.out _; (with_reducible repeat (first | refine blk_drewN ?_ _ | refine blk_drew ?_ | refine blk_alloc ?_ _)); refine blk_far ?_ NB42102_42108.out _; (with_reducible repeat (first | refine blk_drewN ?_ _ | refine blk_drew ?_ | refine blk_alloc ?_ _)); refine blk_far ?_ NB42102_42108.out _; (with_reducible repeat (first | refine blk_drewN ?_ _ | refine blk_drew ?_ | refine blk_alloc ?_ _)); refine blk_far ?_ NB42102_42108.out _; (with_reducible repeat (first | refine blk_drewN ?_ _ | refine blk_drew ?_ | refine blk_alloc ?_ _)); refine blk_far ?_ NB42102_42108.out _; (with_reducible repeat (first | refine blk_drewN ?_ _ | refine blk_drew ?_ | refine blk_alloc ?_ _)); refine blk_far ?_ NB42102_42108.out _; (with_reducible repeat (first | refine blk_drewN ?_ _ | refine blk_drew ?_ | refine blk_alloc ?_ _)); exact BK42102.out⟩, ⟨by (with_reducible repeat (first | refine blk_drewN ?_ _ | refine blk_drew ?_ | refine blk_alloc ?_ _)); refine blk_far ?_ NB42103_42108.out _; (with_reducible repeat (first | refine blk_drewN ?_ _ | refine blk_drew ?_ | refine blk_alloc ?_ _)); refine blk_far ?_ NB42103_42108.out _; (with_reducible repeat (first | refine blk_drewN ?_ _ | refine blk_drew ?_ | refine blk_alloc ?_ _)); refine blk_far ?_ NB42103_42108.out _; (with_reducible repeat (first | refine blk_drewN ?_ _ | refine blk_drew ?_ | refine blk_alloc ?_ _)); refine blk_far ?_ NB42103_42108.out _; (with_reducible repeat (first | refine blk_drewN ?_ _ | refine blk_drew ?_ | refine blk_alloc ?_ _)); refine blk_far ?_ NB42103_42108.out _; (with_reducible repeat (first | refine blk_drewN ?_ _ | refine blk_drew ?_ | refine blk_alloc ?_ _)); refine blk_far ?_ NB42103_42108.out _; (with_reducible repeat (first | refine blk_drewN ?_ _ | refine blk_drew ?_ | refine blk_alloc ?_ _)); exact BK42103.out⟩, ⟨by (with_reducible repeat (first | refine blk_drewN ?_ _ | refine blk_drew ?_ | refine blk_alloc ?_ _)); refine blk_put (cs := #[.int .i64 (wrap64 (1 + t42104)), .int .i64 t42105, .int .i64 t42107, .int .i64 0, .int .i64 0, .slice none 0 0]) ?_ 5 _ rfl; (with_reducible repeat (first | refine blk_drewN ?_ _ | refine blk_drew ?_ | refine blk_alloc ?_ _)); refine blk_put (cs := #[.int .i64 (wrap64 (1 + t42104)), .int .i64 t42105, .int .i64 t42107, .int .i64 0, .int .i64 0, .slice none 0 0]) ?_ 4 _ rfl; (with_reducible repeat (first | refine blk_drewN ?_ _ | refine blk_drew ?_ | refine blk_alloc ?_ _)); refine blk_put (cs := #[.int .i64 (wrap64 (1 + t42104)), .int .i64 t42105, .int .i64 t42107, .int .i64 0, .int .i64 0, .slice none 0 0]) ?_ 3 _ rfl; (with_reducible repeat (first | refine blk_drewN ?_ _ | refine blk_drew ?_ | refine blk_alloc ?_ _)); refine blk_put (cs := #[.int .i64 (wrap64 (1 + t42104)), .int .i64 t42105, .int .i64 0, .int .i64 0, .int .i64 0, .slice none 0 0]) ?_ 2 _ rfl; (with_reducible repeat (first | refine blk_drewN ?_ _ | refine blk_drew ?_ | refine blk_alloc ?_ _)); refine blk_put (cs := #[.int .i64 (wrap64 (1 + t42104)), .int .i64 0, .int .i64 0, .int .i64 0, .int .i64 0, .slice none 0 0]) ?_ 1 _ rfl; (with_reducible repeat (first | refine blk_drewN ?_ _ | refine blk_drew ?_ | refine blk_alloc ?_ _)); refine blk_put (cs := #[.int .i64 0, .int .i64 0, .int .i64 0, .int .i64 0, .int .i64 0, .slice none 0 0]) ?_ 0 _ rfl; (with_reducible repeat (first | refine blk_drewN ?_ _ | refine blk_drew ?_ | refine blk_alloc ?_ _)); exact BK42108.out⟩, ⟨by repeat (first | (with_reducible first | exact HB.out | apply below_alloc | apply pw_below_drewN | apply below_drew1 | refine below_set ?_ GE42101.out | refine below_set ?_ GE42102.out | refine below_set ?_ GE42103.out | refine below_set ?_ GE42108.out) | exact HB.out)⟩⟩
    rw [if_pos c29] at H
    have c29b0 : decide (a0_0 ≤ t42107) = true := decide_eq_true c29
    clear c29
    (first | rw [c29b0] | (simp only [i64_w, i32_w]; rw [c29b0]) | skip)
    have H' := Aside0.mk H
    clear H
    have hnb30 := NB42108_42101.out
    have hnc30 := NB42101_42108.out
    have hnb31 := NB42108_42102.out
    have hnc31 := NB42102_42108.out
    have hnb32 := NB42108_42103.out
    have hnc32 := NB42103_42108.out
    have hcz33_0 : w15.cell? ⟨gb42108, 0, none⟩ = some (.int .i64 0) := (blk_cell BK42108.out 0).trans rfl
    have hcz33_1 : w15.cell? ⟨gb42108, 1, none⟩ = some (.int .i64 0) := (blk_cell BK42108.out 1).trans rfl
    have hcz33_2 : w15.cell? ⟨gb42108, 2, none⟩ = some (.int .i64 0) := (blk_cell BK42108.out 2).trans rfl
    have hcz33_3 : w15.cell? ⟨gb42108, 3, none⟩ = some (.int .i64 0) := (blk_cell BK42108.out 3).trans rfl
    have hcz33_4 : w15.cell? ⟨gb42108, 4, none⟩ = some (.int .i64 0) := (blk_cell BK42108.out 4).trans rfl
    have hcz33_5 : w15.cell? ⟨gb42108, 5, none⟩ = some (.slice none 0 0) := (blk_cell BK42108.out 5).trans rfl
    have hfz33_0 := blk_frozen BK42108.out 0
    have hfz33_1 := blk_frozen BK42108.out 1
    have hfz33_2 := blk_frozen BK42108.out 2
    have hfz33_3 := blk_frozen BK42108.out 3
    have hfz33_4 := blk_frozen BK42108.out 4
    have hfz33_5 := blk_frozen BK42108.out 5
    go_wp2
    go_meet
    case rel => exact ⟨_, (3), H', ⟨by first | omega | exact Nat.le_refl _⟩, ⟨by (with_reducible repeat (first | refine blk_drewN ?_ _ | refine blk_drew ?_ | refine blk_alloc ?_ _)); refine blk_far ?_ NB42101_42108.out _; (with_reducible repeat (first | refine blk_drewN ?_ _ | refine blk_drew ?_ | refine blk_alloc ?_ _)); refine blk_far ?_ NB42101_42108.out _; (with_reducible repeat (first | refine blk_drewN ?_ _ | refine blk_drew ?_ | refine blk_alloc ?_ _)); refine blk_far ?_ NB42101_42108.out _; (with_reducible repeat (first | refine blk_drewN ?_ _ | refine blk_drew ?_ | refine blk_alloc ?_ _)); refine blk_far ?_ NB42101_42108.out _; (with_reducible repeat (first | refine blk_drewN ?_ _ | refine blk_drew ?_ | refine blk_alloc ?_ _)); refine blk_far ?_ NB42101_42108.out _; (with_reducible repeat (first | refine blk_drewN ?_ _ | refine blk_drew ?_ | refine blk_alloc ?_ _)); refine blk_far ?_ NB42101_42108.out _; (with_reducible repeat (first | refine blk_drewN ?_ _ | refine blk_drew ?_ | refine blk_alloc ?_ _)); refine blk_far ?_ NB42101_42108.out _; (with_reducible repeat (first | refine blk_drewN ?_ _ | refine blk_drew ?_ | refine blk_alloc ?_ _)); exact BK42101.out⟩, ⟨by (with_reducible repeat (first | refine blk_drewN ?_ _ | refine blk_drew ?_ | refine blk_alloc ?_ _)); refine blk_far ?_ NB42102_42108.out _; (with_reducible repeat (first | refine blk_drewN ?_ _ | refine blk_drew ?_ | refine blk_alloc ?_ _)); refine blk_far ?_ NB42102_42108.out _; (with_reducible repeat (first | refine blk_drewN ?_ _ | refine blk_drew ?_ | refine blk_alloc ?_ _)); refine blk_far ?_ NB42102_42108.out _; (with_reducible repeat (first | refine blk_drewN ?_ _ | refine blk_drew ?_ | refine blk_alloc ?_ _)); refine blk_far ?_ NB42102_42108.out _; (with_reducible repeat (first | refine blk_drewN ?_ _ | refine blk_drew ?_ | refine blk_alloc ?_ _)); refine blk_far ?_ NB42102_42108.out _; (with_reducible repeat (first | refine blk_drewN ?_ _ | refine blk_drew ?_ | refine blk_alloc ?_ _)); refine blk_far ?_ NB42102_42108.out _; (with_reducible repeat (first | refine blk_drewN ?_ _ | refine blk_drew ?_ | refine blk_alloc ?_ _)); refine blk_far ?_ NB42102_42108.out _; (with_reducible repeat (first | refine blk_drewN ?_ _ | refine blk_drew ?_ | refine blk_alloc ?_ _)); exact BK42102.out⟩, ⟨by (with_reducible repeat (first | refine blk_drewN ?_ _ | refine blk_drew ?_ | refine blk_alloc ?_ _)); refine blk_far ?_ NB42103_42108.out _; (with_reducible repeat (first | refine blk_drewN ?_ _ | refine blk_drew ?_ | refine blk_alloc ?_ _)); refine blk_far ?_ NB42103_42108.out _; (with_reducible repeat (first | refine blk_drewN ?_ _ | refine blk_drew ?_ | refine blk_alloc ?_ _)); refine blk_far ?_ NB42103_42108.out _; (with_reducible repeat (first | refine blk_drewN ?_ _ | refine blk_drew ?_ | refine blk_alloc ?_ _)); refine blk_far ?_ NB42103_42108.out _; (with_reducible repeat (first | refine blk_drewN ?_ _ | refine blk_drew ?_ | refine blk_alloc ?_ _)); refine blk_far ?_ NB42103_42108.out _; (with_reducible repeat (first | refine blk_drewN ?_ _ | refine blk_drew ?_ | refine blk_alloc ?_ _)); refine blk_far ?_ NB42103_42108.out _; (with_reducible repeat (first | refine blk_drewN ?_ _ | refine blk_drew ?_ | refine blk_alloc ?_ _)); refine blk_far ?_ NB42103_42108.out _; (with_reducible repeat (first | refine blk_drewN ?_ _ | refine blk_drew ?_ | refine blk_alloc ?_ _)); exact BK42103.out⟩, ⟨by (with_reducible repeat (first | refine blk_drewN ?_ _ | refine blk_drew ?_ | refine blk_alloc ?_ _)); refine blk_put (cs := #[.int .i64 (wrap64 (1 + t42104)), .int .i64 t42105, .int .i64 t42107, .int .i64 0, .int .i64 0, .slice none 0 0]) ?_ 0 _ rfl; (with_reducible repeat (first | refine blk_drewN ?_ _ | refine blk_drew ?_ | refine blk_alloc ?_ _)); refine blk_put (cs := #[.int .i64 (wrap64 (1 + t42104)), .int .i64 t42105, .int .i64 t42107, .int .i64 0, .int .i64 0, .slice none 0 0]) ?_ 5 _ rfl; (with_reducible repeat (first | refine blk_drewN ?_ _ | refine blk_drew ?_ | refine blk_alloc ?_ _)); refine blk_put (cs := #[.int .i64 (wrap64 (1 + t42104)), .int .i64 t42105, .int .i64 t42107, .int .i64 0, .int .i64 0, .slice none 0 0]) ?_ 4 _ rfl; (with_reducible repeat (first | refine blk_drewN ?_ _ | refine blk_drew ?_ | refine blk_alloc ?_ _)); refine blk_put (cs := #[.int .i64 (wrap64 (1 + t42104)), .int .i64 t42105, .int .i64 t42107, .int .i64 0, .int .i64 0, .slice none 0 0]) ?_ 3 _ rfl; (with_reducible repeat (first | refine blk_drewN ?_ _ | refine blk_drew ?_ | refine blk_alloc ?_ _)); refine blk_put (cs := #[.int .i64 (wrap64 (1 + t42104)), .int .i64 t42105, .int .i64 0, .int .i64 0, .int .i64 0, .slice none 0 0]) ?_ 2 _ rfl; (with_reducible repeat (first | refine blk_drewN ?_ _ | refine blk_drew ?_ | refine blk_alloc ?_ _)); refine blk_put (cs := #[.int .i64 (wrap64 (1 + t42104)), .int .i64 0, .int .i64 0, .int .i64 0, .int .i64 0, .slice none 0 0]) ?_ 1 _ rfl; (with_reducible repeat (first | refine blk_drewN ?_ _ | refine blk_drew ?_ | refine blk_alloc ?_ _)); refine blk_put (cs := #[.int .i64 0, .int .i64 0, .int .i64 0, .int .i64 0, .int .i64 0, .slice none 0 0]) ?_ 0 _ rfl; (with_reducible repeat (first | refine blk_drewN ?_ _ | refine blk_drew ?_ | refine blk_alloc ?_ _)); exact BK42108.out⟩, ⟨by repeat (first | (with_reducible first | exact HB.out | apply below_alloc | apply pw_below_drewN | apply below_drew1 | refine below_set ?_ GE42101.out | refine below_set ?_ GE42102.out | refine below_set ?_ GE42103.out | refine below_set ?_ GE42108.out) | exact HB.out)⟩⟩
  case rest =>
    clear HC8
    try clear c1
    try clear c2
    try clear p2
    try clear c3
    try clear p6
    try clear c22
    try clear c23
    try clear c24
    try clear c25
    try clear c26
    try clear c27
    try clear c29
    try clear c29b0
    try clear c30
    try clear c31
    try clear c32
    try clear hcz25_0
    try clear hcz25_1
    try clear hcz25_2
    try clear hcz25_3
    try clear hcz25_4
    try clear hcz25_5
    try clear hcz28_0
    try clear hcz28_1
    try clear hcz28_2
    try clear hcz28_3
    try clear hcz28_4
    try clear hcz28_5
    try clear hcz33_0
    try clear hcz33_1
    try clear hcz33_2
    try clear hcz33_3
    try clear hcz33_4
    try clear hcz33_5
    try clear hfz25_0
    try clear hfz25_1
    try clear hfz25_2
    try clear hfz25_3
    try clear hfz25_4
    try clear hfz25_5
    try clear hfz28_0
    try clear hfz28_1
    try clear hfz28_2
    try clear hfz28_3
    try clear hfz28_4
    try clear hfz28_5
    try clear hfz33_0
    try clear hfz33_1
    try clear hfz33_2
    try clear hfz33_3
    try clear hfz33_4
    try clear hfz33_5
    obtain ⟨kq, x42109000_7, HA, HJ7, BK42101, BK42102, BK42103, BK42108, HB⟩ := hcut
    cases kq with
    | zero => exact absurd HA.out (by simp [plaitinglaw5_Make.j0])
    | succ kj7 =>
      have H := HA.out
      clear HA
      simp only [plaitinglaw5_Make.j0] at H
      by_cases c34 : x42109000_7 = 3
      · rw [if_pos c34] at H
        have c34b0 : (x42109000_7 == 3) = true := beq_iff_eq.mpr c34
        have c34b1 : (x42109000_7 != 3) = false := bne_eq_false_iff_eq.mpr c34
        clear c34
        replace H := Option.bind_eq_some_iff.mp H
        obtain ⟨⟨t42109, t42110⟩, A350, H⟩ := H
        replace H : (plaitinglaw5_Make.l0 kj7 l2 0 a0_0 a0_1 a0_2 a0_3 a0_4 l0_5 x42109000_7 t42105 t42107 t42109 t42110 ([] : List (S26))) = some (r1, r2, r3, r4, r5, r6) := H
        have A35 := Aside0.mk A350
        clear A350
        have H' := Aside0.mk H
        clear H
        have hnb36 := NB42108_42101.out
        have hnc36 := NB42101_42108.out
        have hnb37 := NB42108_42102.out
        have hnc37 := NB42102_42108.out
        have hnb38 := NB42108_42103.out
        have hnc38 := NB42103_42108.out
        have hcz39_0 : wc.cell? ⟨gb42108, 0, none⟩ = some (.int .i64 x42109000_7) := (blk_cell BK42108.out 0).trans rfl
        have hcz39_1 : wc.cell? ⟨gb42108, 1, none⟩ = some (.int .i64 t42105) := (blk_cell BK42108.out 1).trans rfl
        have hcz39_2 : wc.cell? ⟨gb42108, 2, none⟩ = some (.int .i64 t42107) := (blk_cell BK42108.out 2).trans rfl
        have hcz39_3 : wc.cell? ⟨gb42108, 3, none⟩ = some (.int .i64 0) := (blk_cell BK42108.out 3).trans rfl
        have hcz39_4 : wc.cell? ⟨gb42108, 4, none⟩ = some (.int .i64 0) := (blk_cell BK42108.out 4).trans rfl
        have hcz39_5 : wc.cell? ⟨gb42108, 5, none⟩ = some (.slice none 0 0) := (blk_cell BK42108.out 5).trans rfl
        have hfz39_0 := blk_frozen BK42108.out 0
        have hfz39_1 := blk_frozen BK42108.out 1
        have hfz39_2 := blk_frozen BK42108.out 2
        have hfz39_3 := blk_frozen BK42108.out 3
        have hfz39_4 := blk_frozen BK42108.out 4
        have hfz39_5 := blk_frozen BK42108.out 5
        have hnb40 := NB42102_42101.out
        have hnc40 := NB42101_42102.out
        have hnb41 := NB42102_42103.out
        have hnc41 := NB42103_42102.out
        have hcz42_0 : wc.cell? ⟨gb42102, 0, none⟩ = some (.int .i64 a1_0) := (blk_cell BK42102.out 0).trans rfl
        have hcz42_1 : wc.cell? ⟨gb42102, 1, none⟩ = some (.int .i64 a1_1) := (blk_cell BK42102.out 1).trans rfl
        have hcz42_2 : wc.cell? ⟨gb42102, 2, none⟩ = some (.int .i64 a1_2) := (blk_cell BK42102.out 2).trans rfl
        have hcz42_3 : wc.cell? ⟨gb42102, 3, none⟩ = some (.int .i64 a1_3) := (blk_cell BK42102.out 3).trans rfl
        have hcz42_4 : wc.cell? ⟨gb42102, 4, none⟩ = some (.int .i64 a1_4) := (blk_cell BK42102.out 4).trans rfl
        have hcz42_5 : wc.cell? ⟨gb42102, 5, none⟩ = some (.slice A1_5 l1_5.length c1_5) := (blk_cell BK42102.out 5).trans rfl
        have hfz42_0 := blk_frozen BK42102.out 0
        have hfz42_1 := blk_frozen BK42102.out 1
        have hfz42_2 := blk_frozen BK42102.out 2
        have hfz42_3 := blk_frozen BK42102.out 3
        have hfz42_4 := blk_frozen BK42102.out 4
        have hfz42_5 := blk_frozen BK42102.out 5
        go_wp2_with (first | ((with_reducible refine gate_callee (f := 46) rfl ?_); refine goesL_ (some 36) rfl rfl Try.func46 (by kernel_rfl) rfl #[.int .i64 a1_4, .bool true] rfl (by (try simp only [List.map_toArray, List.map_cons, List.map_nil]); first | done | rfl | (simp only [List.length_drop, List.length_take]; rfl)) ?_; (with_reducible refine (plaitinglaw5_Item.calls kj7 a1_4 true t42109 t42110 _ A35.out).mono ?_); rintro e w43 ⟨rfl, hb⟩; refine ⟨_, rfl, ?_⟩; replace BK42101 := Aside0.mk (blk_below (pB_ BK42101.out) hb); replace BK42102 := Aside0.mk (blk_below (pB_ BK42102.out) hb); replace BK42103 := Aside0.mk (blk_below (pB_ BK42103.out) hb); replace BK42108 := Aside0.mk (blk_below (pB_ BK42108.out) hb); replace HB := Aside0.mk (below_step (pH_ HB.out) hb); (try clear hb); (try clear hb2); (try clear hk); (try clear hi); have hcz44_0 : w43.cell? ⟨gb42108, 0, none⟩ = some (.int .i64 x42109000_7) := (blk_cell BK42108.out 0).trans rfl; have hcz44_1 : w43.cell? ⟨gb42108, 1, none⟩ = some (.int .i64 t42105) := (blk_cell BK42108.out 1).trans rfl; have hcz44_2 : w43.cell? ⟨gb42108, 2, none⟩ = some (.int .i64 t42107) := (blk_cell BK42108.out 2).trans rfl; have hcz44_3 : w43.cell? ⟨gb42108, 3, none⟩ = some (.int .i64 0) := (blk_cell BK42108.out 3).trans rfl; have hcz44_4 : w43.cell? ⟨gb42108, 4, none⟩ = some (.int .i64 0) := (blk_cell BK42108.out 4).trans rfl; have hcz44_5 : w43.cell? ⟨gb42108, 5, none⟩ = some (.slice none 0 0) := (blk_cell BK42108.out 5).trans rfl; have hfz44_0 := blk_frozen BK42108.out 0; have hfz44_1 := blk_frozen BK42108.out 1; have hfz44_2 := blk_frozen BK42108.out 2; have hfz44_3 := blk_frozen BK42108.out 3; have hfz44_4 := blk_frozen BK42108.out 4; have hfz44_5 := blk_frozen BK42108.out 5))
        go_loopg [8] kj7 (fun kq v8 w' => ∃ (x8_2 : Int) (x42109005_2 : List (S26)) (u42109005 : Value), v8 = .int .i64 x8_2 ∧ Aside0 (plaitinglaw5_Make.l0 kq l2 x8_2 a0_0 a0_1 a0_2 a0_3 a0_4 l0_5 x42109000_7 t42105 t42107 t42109 t42110 x42109005_2 = some (r1, r2, r3, r4, r5, r6)) ∧ Aside0 (kq ≤ kj7) ∧ Aside0 (Kd.R k26 26 w' w.heap.size (fun _ => True) u42109005 x42109005_2) ∧ Aside0 (w'.heap[gb42101]? = some (.cells #[.int .i64 a0_0, .int .i64 a0_1, .int .i64 a0_2, .int .i64 a0_3, .int .i64 a0_4, (.slice A0_5 l0_5.length c0_5)] 24 (0, 0))) ∧ Aside0 (w'.heap[gb42102]? = some (.cells #[.int .i64 a1_0, .int .i64 a1_1, .int .i64 a1_2, .int .i64 a1_3, .int .i64 a1_4, (.slice A1_5 l1_5.length c1_5)] 29 (0, 0))) ∧ Aside0 (w'.heap[gb42103]? = some (.cells #[.int .i64 0, .int .i64 0, .int .i64 0, .int .i64 0, .int .i64 0, (.slice none 0 0)] 29 (0, 0))) ∧ Aside0 (w'.heap[gb42108]? = some (.cells #[.int .i64 x42109000_7, .int .i64 t42105, .int .i64 t42107, .int .i64 t42109, .int .i64 t42110, u42109005] 29 (0, 0))) ∧ Aside0 (Below w.heap.size w w'))
        case atStart => exact ⟨(0), (([] : List (S26))), (.slice none 0 0), (by first | rfl | (simp; done) | (simp [*]; done)), H', ⟨Nat.le_refl _⟩, ⟨by first | exact Kd.R_nil _ _ _ _ _ | exact Kd.N_nil _ _ _ _ _ | exact Kd.V_nil _ _ _ _ _ | exact Kd.Q_nil _ _ _ _ _ | exact Kd.S_nil _ _ _ _ _⟩, ⟨by (with_reducible repeat (first | refine blk_drewN ?_ _ | refine blk_drew ?_ | refine blk_alloc ?_ _)); refine blk_far ?_ NB42101_42108.out _; (with_reducible repeat (first | refine blk_drewN ?_ _ | refine blk_drew ?_ | refine blk_alloc ?_ _)); refine blk_far ?_ NB42101_42108.out _; (with_reducible repeat (first | refine blk_drewN ?_ _ | refine blk_drew ?_ | refine blk_alloc ?_ _)); exact BK42101.out⟩, ⟨by (with_reducible repeat (first | refine blk_drewN ?_ _ | refine blk_drew ?_ | refine blk_alloc ?_ _)); refine blk_far ?_ NB42102_42108.out _; (with_reducible repeat (first | refine blk_drewN ?_ _ | refine blk_drew ?_ | refine blk_alloc ?_ _)); refine blk_far ?_ NB42102_42108.out _; (with_reducible repeat (first | refine blk_drewN ?_ _ | refine blk_drew ?_ | refine blk_alloc ?_ _)); exact BK42102.out⟩, ⟨by (with_reducible repeat (first | refine blk_drewN ?_ _ | refine blk_drew ?_ | refine blk_alloc ?_ _)); refine blk_far ?_ NB42103_42108.out _; (with_reducible repeat (first | refine blk_drewN ?_ _ | refine blk_drew ?_ | refine blk_alloc ?_ _)); refine blk_far ?_ NB42103_42108.out _; (with_reducible repeat (first | refine blk_drewN ?_ _ | refine blk_drew ?_ | refine blk_alloc ?_ _)); exact BK42103.out⟩, ⟨by (with_reducible repeat (first | refine blk_drewN ?_ _ | refine blk_drew ?_ | refine blk_alloc ?_ _)); refine blk_put (cs := #[.int .i64 x42109000_7, .int .i64 t42105, .int .i64 t42107, .int .i64 t42109, .int .i64 0, .slice none 0 0]) ?_ 4 _ rfl; (with_reducible repeat (first | refine blk_drewN ?_ _ | refine blk_drew ?_ | refine blk_alloc ?_ _)); refine blk_put (cs := #[.int .i64 x42109000_7, .int .i64 t42105, .int .i64 t42107, .int .i64 0, .int .i64 0, .slice none 0 0]) ?_ 3 _ rfl; (with_reducible repeat (first | refine blk_drewN ?_ _ | refine blk_drew ?_ | refine blk_alloc ?_ _)); exact BK42108.out⟩, ⟨by repeat (first | (with_reducible first | exact HB.out | apply below_alloc | apply pw_below_drewN | apply below_drew1 | refine below_set ?_ GE42101.out | refine below_set ?_ GE42102.out | refine below_set ?_ GE42103.out | refine below_set ?_ GE42108.out) | exact HB.out)⟩⟩
        case round =>
          clear H'
          try clear c1
          try clear c2
          try clear p2
          try clear c3
          try clear c4
          try clear p6
          try clear c22
          try clear c23
          try clear c24
          try clear c25
          try clear c26
          try clear c27
          try clear c29
          try clear c29b0
          try clear c30
          try clear c31
          try clear c32
          try clear c34
          try clear c34b0
          try clear c34b1
          try clear c36
          try clear c37
          try clear c38
          try clear c40
          try clear c41
          try clear hcz25_0
          try clear hcz25_1
          try clear hcz25_2
          try clear hcz25_3
          try clear hcz25_4
          try clear hcz25_5
          try clear hcz28_0
          try clear hcz28_1
          try clear hcz28_2
          try clear hcz28_3
          try clear hcz28_4
          try clear hcz28_5
          try clear hcz33_0
          try clear hcz33_1
          try clear hcz33_2
          try clear hcz33_3
          try clear hcz33_4
          try clear hcz33_5
          try clear hcz39_0
          try clear hcz39_1
          try clear hcz39_2
          try clear hcz39_3
          try clear hcz39_4
          try clear hcz39_5
          try clear hcz42_0
          try clear hcz42_1
          try clear hcz42_2
          try clear hcz42_3
          try clear hcz42_4
          try clear hcz42_5
          try clear hcz44_0
          try clear hcz44_1
          try clear hcz44_2
          try clear hcz44_3
          try clear hcz44_4
          try clear hcz44_5
          try clear hfz25_0
          try clear hfz25_1
          try clear hfz25_2
          try clear hfz25_3
          try clear hfz25_4
          try clear hfz25_5
          try clear hfz28_0
          try clear hfz28_1
          try clear hfz28_2
          try clear hfz28_3
          try clear hfz28_4
          try clear hfz28_5
          try clear hfz33_0
          try clear hfz33_1
          try clear hfz33_2
          try clear hfz33_3
          try clear hfz33_4
          try clear hfz33_5
          try clear hfz39_0
          try clear hfz39_1
          try clear hfz39_2
          try clear hfz39_3
          try clear hfz39_4
          try clear hfz39_5
          try clear hfz42_0
          try clear hfz42_1
          try clear hfz42_2
          try clear hfz42_3
          try clear hfz42_4
          try clear hfz42_5
          try clear hfz44_0
          try clear hfz44_1
          try clear hfz44_2
          try clear hfz44_3
          try clear hfz44_4
          try clear hfz44_5
          try clear p2
          try clear p6
          obtain ⟨x8_2, x42109005_2, u42109005, rfl, HA, HK2, HO_42109005, BK42101, BK42102, BK42103, BK42108, HB⟩ := hrel
          cases gk with
          | zero => exact absurd HA.out (by simp [plaitinglaw5_Make.l0])
          | succ k2 =>
            have H := HA.out
            clear HA
            simp only [plaitinglaw5_Make.l0] at H
            have HC45 := Aside0.mk H
            clear H
            go_upto_region 8 with (fail)
            go_cut [48] (fun v48 wc => ∃ (kq : Nat) (x48_44 : Bool), v48 = .bool x48_44 ∧ Aside0 (plaitinglaw5_Make.j2 kq l2 x8_2 x48_44 a0_0 a0_1 a0_2 a0_3 a0_4 l0_5 x42109000_7 t42105 t42107 t42109 t42110 x42109005_2 = some (r1, r2, r3, r4, r5, r6)) ∧ Aside0 (kq ≤ k2) ∧ Aside0 (Kd.R k26 26 wc w.heap.size (fun _ => True) u42109005 x42109005_2) ∧ Aside0 (wc.heap[gb42101]? = some (.cells #[.int .i64 a0_0, .int .i64 a0_1, .int .i64 a0_2, .int .i64 a0_3, .int .i64 a0_4, (.slice A0_5 l0_5.length c0_5)] 24 (0, 0))) ∧ Aside0 (wc.heap[gb42102]? = some (.cells #[.int .i64 a1_0, .int .i64 a1_1, .int .i64 a1_2, .int .i64 a1_3, .int .i64 a1_4, (.slice A1_5 l1_5.length c1_5)] 29 (0, 0))) ∧ Aside0 (wc.heap[gb42103]? = some (.cells #[.int .i64 0, .int .i64 0, .int .i64 0, .int .i64 0, .int .i64 0, (.slice none 0 0)] 29 (0, 0))) ∧ Aside0 (wc.heap[gb42108]? = some (.cells #[.int .i64 x42109000_7, .int .i64 t42105, .int .i64 t42107, .int .i64 t42109, .int .i64 t42110, u42109005] 29 (0, 0))) ∧ Aside0 (Below w.heap.size w wc))
            case first =>
              have H := HC45.out
              clear HC45
              replace H := Option.bind_eq_some_iff.mp H
              obtain ⟨t42111, A460, H⟩ := H
              replace H : (if x8_2 < t42111 then (plaitinglaw5_Make.j2 k2 l2 x8_2 (decide (t42107 < a0_0)) a0_0 a0_1 a0_2 a0_3 a0_4 l0_5 x42109000_7 t42105 t42107 t42109 t42110 x42109005_2) else (plaitinglaw5_Make.j2 k2 l2 x8_2 false a0_0 a0_1 a0_2 a0_3 a0_4 l0_5 x42109000_7 t42105 t42107 t42109 t42110 x42109005_2)) = some (r1, r2, r3, r4, r5, r6) := H
              have A46 := Aside0.mk A460
              clear A460
              by_cases c47 : x8_2 < t42111
              · rw [if_pos c47] at H
                have c47b0 : decide (x8_2 < t42111) = true := decide_eq_true c47
                clear c47
                (first | rw [c47b0] | (simp only [i64_w, i32_w]; rw [c47b0]) | skip)
                have H' := Aside0.mk H
                clear H
                have hnb48 := NB42101_42102.out
                have hnc48 := NB42102_42101.out
                have hnb49 := NB42101_42103.out
                have hnc49 := NB42103_42101.out
                have hnb50 := NB42101_42108.out
                have hnc50 := NB42108_42101.out
                have hcz51_0 : wr.cell? ⟨gb42101, 0, none⟩ = some (.int .i64 a0_0) := (blk_cell BK42101.out 0).trans rfl
                have hcz51_1 : wr.cell? ⟨gb42101, 1, none⟩ = some (.int .i64 a0_1) := (blk_cell BK42101.out 1).trans rfl
                have hcz51_2 : wr.cell? ⟨gb42101, 2, none⟩ = some (.int .i64 a0_2) := (blk_cell BK42101.out 2).trans rfl
                have hcz51_3 : wr.cell? ⟨gb42101, 3, none⟩ = some (.int .i64 a0_3) := (blk_cell BK42101.out 3).trans rfl
                have hcz51_4 : wr.cell? ⟨gb42101, 4, none⟩ = some (.int .i64 a0_4) := (blk_cell BK42101.out 4).trans rfl
                have hcz51_5 : wr.cell? ⟨gb42101, 5, none⟩ = some (.slice A0_5 l0_5.length c0_5) := (blk_cell BK42101.out 5).trans rfl
                have hfz51_0 := blk_frozen BK42101.out 0
                have hfz51_1 := blk_frozen BK42101.out 1
                have hfz51_2 := blk_frozen BK42101.out 2
                have hfz51_3 := blk_frozen BK42101.out 3
                have hfz51_4 := blk_frozen BK42101.out 4
                have hfz51_5 := blk_frozen BK42101.out 5
                go_wp2_with (first | ((with_reducible refine gate_callee (f := 25) rfl ?_); refine goesL_ (some 40) rfl rfl Try.func25 (by kernel_rfl) rfl #[.agg #[.int .i64 a0_0, .int .i64 a0_1, .int .i64 a0_2, .int .i64 a0_3, .int .i64 a0_4, .slice A0_5 l0_5.length c0_5]] rfl (by (try simp only [List.map_toArray, List.map_cons, List.map_nil]); first | done | rfl | (simp only [List.length_drop, List.length_take]; rfl)) ?_; (with_reducible refine (plaitingref3_Slots.calls a0_0 a0_1 a0_2 a0_3 a0_4 _ _ l0_5 t42111 _ ?side1 ?side2 A46.out).mono ?_); (case side1 => repeat (first | exact (Kd.C_below HR0_5.out HB.out) | (with_reducible refine Kd.C_alloc ?_ _) | (with_reducible refine Kd.C_drewN ?_ _) | (with_reducible refine Kd.C_drew ?_))); (case side2 => exact HC0_5.out); rintro e w52 ⟨rfl, hb⟩; refine ⟨_, rfl, ?_⟩; replace HO_42109005 := Aside0.mk (Kd.R_below (pR_ HO_42109005.out) hb); replace BK42101 := Aside0.mk (blk_below (pB_ BK42101.out) hb); replace BK42102 := Aside0.mk (blk_below (pB_ BK42102.out) hb); replace BK42103 := Aside0.mk (blk_below (pB_ BK42103.out) hb); replace BK42108 := Aside0.mk (blk_below (pB_ BK42108.out) hb); replace HB := Aside0.mk (below_step (pH_ HB.out) hb); (try clear hb); (try clear hb2); (try clear hk); (try clear hi); have hnb53 := NB42108_42102.out; have hnc53 := NB42102_42108.out; have hnb54 := NB42108_42103.out; have hnc54 := NB42103_42108.out; have hcz55_0 : w52.cell? ⟨gb42108, 0, none⟩ = some (.int .i64 x42109000_7) := (blk_cell BK42108.out 0).trans rfl; have hcz55_1 : w52.cell? ⟨gb42108, 1, none⟩ = some (.int .i64 t42105) := (blk_cell BK42108.out 1).trans rfl; have hcz55_2 : w52.cell? ⟨gb42108, 2, none⟩ = some (.int .i64 t42107) := (blk_cell BK42108.out 2).trans rfl; have hcz55_3 : w52.cell? ⟨gb42108, 3, none⟩ = some (.int .i64 t42109) := (blk_cell BK42108.out 3).trans rfl; have hcz55_4 : w52.cell? ⟨gb42108, 4, none⟩ = some (.int .i64 t42110) := (blk_cell BK42108.out 4).trans rfl; have hcz55_5 : w52.cell? ⟨gb42108, 5, none⟩ = some (u42109005) := (blk_cell BK42108.out 5).trans rfl; have hfz55_0 := blk_frozen BK42108.out 0; have hfz55_1 := blk_frozen BK42108.out 1; have hfz55_2 := blk_frozen BK42108.out 2; have hfz55_3 := blk_frozen BK42108.out 3; have hfz55_4 := blk_frozen BK42108.out 4; have hfz55_5 := blk_frozen BK42108.out 5; have hcz56_0 : w52.cell? ⟨gb42101, 0, none⟩ = some (.int .i64 a0_0) := (blk_cell BK42101.out 0).trans rfl; have hcz56_1 : w52.cell? ⟨gb42101, 1, none⟩ = some (.int .i64 a0_1) := (blk_cell BK42101.out 1).trans rfl; have hcz56_2 : w52.cell? ⟨gb42101, 2, none⟩ = some (.int .i64 a0_2) := (blk_cell BK42101.out 2).trans rfl; have hcz56_3 : w52.cell? ⟨gb42101, 3, none⟩ = some (.int .i64 a0_3) := (blk_cell BK42101.out 3).trans rfl; have hcz56_4 : w52.cell? ⟨gb42101, 4, none⟩ = some (.int .i64 a0_4) := (blk_cell BK42101.out 4).trans rfl; have hcz56_5 : w52.cell? ⟨gb42101, 5, none⟩ = some (.slice A0_5 l0_5.length c0_5) := (blk_cell BK42101.out 5).trans rfl; have hfz56_0 := blk_frozen BK42101.out 0; have hfz56_1 := blk_frozen BK42101.out 1; have hfz56_2 := blk_frozen BK42101.out 2; have hfz56_3 := blk_frozen BK42101.out 3; have hfz56_4 := blk_frozen BK42101.out 4; have hfz56_5 := blk_frozen BK42101.out 5))
                go_meet
                case rel => exact ⟨_, (decide (t42107 < a0_0)), (by first | rfl | (simp; done) | (simp [*]; done)), H', ⟨by have := HJ7.out; have := HK2.out; first | omega | exact Nat.le_refl _⟩, ⟨by (with_reducible repeat (first | apply Kd.R_alloc | apply Kd.R_drewN | apply Kd.R_drew)); exact HO_42109005.out⟩, ⟨by (with_reducible repeat (first | refine blk_drewN ?_ _ | refine blk_drew ?_ | refine blk_alloc ?_ _)); exact BK42101.out⟩, ⟨by (with_reducible repeat (first | refine blk_drewN ?_ _ | refine blk_drew ?_ | refine blk_alloc ?_ _)); exact BK42102.out⟩, ⟨by (with_reducible repeat (first | refine blk_drewN ?_ _ | refine blk_drew ?_ | refine blk_alloc ?_ _)); exact BK42103.out⟩, ⟨by (with_reducible repeat (first | refine blk_drewN ?_ _ | refine blk_drew ?_ | refine blk_alloc ?_ _)); exact BK42108.out⟩, ⟨by repeat (first | (with_reducible first | exact HB.out | apply below_alloc | apply pw_below_drewN | apply below_drew1 | refine below_set ?_ GE42101.out | refine below_set ?_ GE42102.out | refine below_set ?_ GE42103.out | refine below_set ?_ GE42108.out) | exact HB.out)⟩⟩
              rw [if_neg c47] at H
              have c47b0 : decide (x8_2 < t42111) = false := decide_eq_false c47
              clear c47
              (first | rw [c47b0] | (simp only [i64_w, i32_w]; rw [c47b0]) | skip)
              have H' := Aside0.mk H
              clear H
              have hnb57 := NB42101_42102.out
              have hnc57 := NB42102_42101.out
              have hnb58 := NB42101_42103.out
              have hnc58 := NB42103_42101.out
              have hnb59 := NB42101_42108.out
              have hnc59 := NB42108_42101.out
              have hcz60_0 : wr.cell? ⟨gb42101, 0, none⟩ = some (.int .i64 a0_0) := (blk_cell BK42101.out 0).trans rfl
              have hcz60_1 : wr.cell? ⟨gb42101, 1, none⟩ = some (.int .i64 a0_1) := (blk_cell BK42101.out 1).trans rfl
              have hcz60_2 : wr.cell? ⟨gb42101, 2, none⟩ = some (.int .i64 a0_2) := (blk_cell BK42101.out 2).trans rfl
              have hcz60_3 : wr.cell? ⟨gb42101, 3, none⟩ = some (.int .i64 a0_3) := (blk_cell BK42101.out 3).trans rfl
              have hcz60_4 : wr.cell? ⟨gb42101, 4, none⟩ = some (.int .i64 a0_4) := (blk_cell BK42101.out 4).trans rfl
              have hcz60_5 : wr.cell? ⟨gb42101, 5, none⟩ = some (.slice A0_5 l0_5.length c0_5) := (blk_cell BK42101.out 5).trans rfl
              have hfz60_0 := blk_frozen BK42101.out 0
              have hfz60_1 := blk_frozen BK42101.out 1
              have hfz60_2 := blk_frozen BK42101.out 2
              have hfz60_3 := blk_frozen BK42101.out 3
              have hfz60_4 := blk_frozen BK42101.out 4
              have hfz60_5 := blk_frozen BK42101.out 5
              go_wp2_with (first | ((with_reducible refine gate_callee (f := 25) rfl ?_); refine goesL_ (some 40) rfl rfl Try.func25 (by kernel_rfl) rfl #[.agg #[.int .i64 a0_0, .int .i64 a0_1, .int .i64 a0_2, .int .i64 a0_3, .int .i64 a0_4, .slice A0_5 l0_5.length c0_5]] rfl (by (try simp only [List.map_toArray, List.map_cons, List.map_nil]); first | done | rfl | (simp only [List.length_drop, List.length_take]; rfl)) ?_; (with_reducible refine (plaitingref3_Slots.calls a0_0 a0_1 a0_2 a0_3 a0_4 _ _ l0_5 t42111 _ ?side1 ?side2 A46.out).mono ?_); (case side1 => repeat (first | exact (Kd.C_below HR0_5.out HB.out) | (with_reducible refine Kd.C_alloc ?_ _) | (with_reducible refine Kd.C_drewN ?_ _) | (with_reducible refine Kd.C_drew ?_))); (case side2 => exact HC0_5.out); rintro e w61 ⟨rfl, hb⟩; refine ⟨_, rfl, ?_⟩; replace HO_42109005 := Aside0.mk (Kd.R_below (pR_ HO_42109005.out) hb); replace BK42101 := Aside0.mk (blk_below (pB_ BK42101.out) hb); replace BK42102 := Aside0.mk (blk_below (pB_ BK42102.out) hb); replace BK42103 := Aside0.mk (blk_below (pB_ BK42103.out) hb); replace BK42108 := Aside0.mk (blk_below (pB_ BK42108.out) hb); replace HB := Aside0.mk (below_step (pH_ HB.out) hb); (try clear hb); (try clear hb2); (try clear hk); (try clear hi)))
              go_meet
              case rel => exact ⟨_, (false), (by first | rfl | (simp; done) | (simp [*]; done)), H', ⟨by have := HJ7.out; have := HK2.out; first | omega | exact Nat.le_refl _⟩, ⟨by (with_reducible repeat (first | apply Kd.R_alloc | apply Kd.R_drewN | apply Kd.R_drew)); exact HO_42109005.out⟩, ⟨by (with_reducible repeat (first | refine blk_drewN ?_ _ | refine blk_drew ?_ | refine blk_alloc ?_ _)); exact BK42101.out⟩, ⟨by (with_reducible repeat (first | refine blk_drewN ?_ _ | refine blk_drew ?_ | refine blk_alloc ?_ _)); exact BK42102.out⟩, ⟨by (with_reducible repeat (first | refine blk_drewN ?_ _ | refine blk_drew ?_ | refine blk_alloc ?_ _)); exact BK42103.out⟩, ⟨by (with_reducible repeat (first | refine blk_drewN ?_ _ | refine blk_drew ?_ | refine blk_alloc ?_ _)); exact BK42108.out⟩, ⟨by repeat (first | (with_reducible first | exact HB.out | apply below_alloc | apply pw_below_drewN | apply below_drew1 | refine below_set ?_ GE42101.out | refine below_set ?_ GE42102.out | refine below_set ?_ GE42103.out | refine below_set ?_ GE42108.out) | exact HB.out)⟩⟩
            case rest =>
              clear HC45
              try clear c1
              try clear c2
              try clear p2
              try clear c3
              try clear c4
              try clear c5
              try clear p6
              try clear c22
              try clear c23
              try clear c24
              try clear c25
              try clear c26
              try clear c27
              try clear c29
              try clear c29b0
              try clear c30
              try clear c31
              try clear c32
              try clear c34
              try clear c34b0
              try clear c34b1
              try clear c36
              try clear c37
              try clear c38
              try clear c40
              try clear c41
              try clear c46
              try clear c47
              try clear c47b0
              try clear c48
              try clear c49
              try clear c50
              try clear c53
              try clear c54
              try clear c57
              try clear c58
              try clear c59
              try clear hcz25_0
              try clear hcz25_1
              try clear hcz25_2
              try clear hcz25_3
              try clear hcz25_4
              try clear hcz25_5
              try clear hcz28_0
              try clear hcz28_1
              try clear hcz28_2
              try clear hcz28_3
              try clear hcz28_4
              try clear hcz28_5
              try clear hcz33_0
              try clear hcz33_1
              try clear hcz33_2
              try clear hcz33_3
              try clear hcz33_4
              try clear hcz33_5
              try clear hcz39_0
              try clear hcz39_1
              try clear hcz39_2
              try clear hcz39_3
              try clear hcz39_4
              try clear hcz39_5
              try clear hcz42_0
              try clear hcz42_1
              try clear hcz42_2
              try clear hcz42_3
              try clear hcz42_4
              try clear hcz42_5
              try clear hcz44_0
              try clear hcz44_1
              try clear hcz44_2
              try clear hcz44_3
              try clear hcz44_4
              try clear hcz44_5
              try clear hcz51_0
              try clear hcz51_1
              try clear hcz51_2
              try clear hcz51_3
              try clear hcz51_4
              try clear hcz51_5
              try clear hcz55_0
              try clear hcz55_1
              try clear hcz55_2
              try clear hcz55_3
              try clear hcz55_4
              try clear hcz55_5
              try clear hcz56_0
              try clear hcz56_1
              try clear hcz56_2
              try clear hcz56_3
              try clear hcz56_4
              try clear hcz56_5
              try clear hcz60_0
              try clear hcz60_1
              try clear hcz60_2
              try clear hcz60_3
              try clear hcz60_4
              try clear hcz60_5
              try clear hfz25_0
              try clear hfz25_1
              try clear hfz25_2
              try clear hfz25_3
              try clear hfz25_4
              try clear hfz25_5
              try clear hfz28_0
              try clear hfz28_1
              try clear hfz28_2
              try clear hfz28_3
              try clear hfz28_4
              try clear hfz28_5
              try clear hfz33_0
              try clear hfz33_1
              try clear hfz33_2
              try clear hfz33_3
              try clear hfz33_4
              try clear hfz33_5
              try clear hfz39_0
              try clear hfz39_1
              try clear hfz39_2
              try clear hfz39_3
              try clear hfz39_4
              try clear hfz39_5
              try clear hfz42_0
              try clear hfz42_1
              try clear hfz42_2
              try clear hfz42_3
              try clear hfz42_4
              try clear hfz42_5
              try clear hfz44_0
              try clear hfz44_1
              try clear hfz44_2
              try clear hfz44_3
              try clear hfz44_4
              try clear hfz44_5
              try clear hfz51_0
              try clear hfz51_1
              try clear hfz51_2
              try clear hfz51_3
              try clear hfz51_4
              try clear hfz51_5
              try clear hfz55_0
              try clear hfz55_1
              try clear hfz55_2
              try clear hfz55_3
              try clear hfz55_4
              try clear hfz55_5
              try clear hfz56_0
              try clear hfz56_1
              try clear hfz56_2
              try clear hfz56_3
              try clear hfz56_4
              try clear hfz56_5
              try clear hfz60_0
              try clear hfz60_1
              try clear hfz60_2
              try clear hfz60_3
              try clear hfz60_4
              try clear hfz60_5
              try clear p2
              try clear p6
              obtain ⟨kq, x48_44, rfl, HA, HJ44, HO_42109005, BK42101, BK42102, BK42103, BK42108, HB⟩ := hcut
              cases kq with
              | zero => exact absurd HA.out (by simp [plaitinglaw5_Make.j2])
              | succ kj44 =>
                have H := HA.out
                clear HA
                simp only [plaitinglaw5_Make.j2] at H
                by_cases c62 : x48_44 = true
                · subst c62
                  have H1 : (if (l2.length : Int) > 0 then (if (l2.length : Int) = 0 then (none) else (if 0 ≤ (Int.tmod x8_2 (l2.length : Int)) then (if (Int.tmod x8_2 (l2.length : Int)) < (l2.length : Int) then (if (wrap64 (1 + x8_2)) = 0 then (none) else ((plaitinglaw5_Item.f kj44 (wrap64 ((wrap64 (Int.tdiv (rd l2 (Int.tmod x8_2 (l2.length : Int))) (wrap64 (1 + x8_2)))) + x8_2)) false).bind fun bt42113 => (if x42109005_2.length < 8796093022208 then (plaitinglaw5_Make.l0 kj44 l2 (wrap64 (x8_2 + 1)) a0_0 a0_1 a0_2 a0_3 a0_4 l0_5 x42109000_7 t42105 t42107 t42109 t42110 (x42109005_2 ++ [(⟨bt42113.1, bt42113.2⟩ : S26)])) else (none)))) else (none)) else (none))) else ((plaitinglaw5_Item.f kj44 x8_2 false).bind fun bt42118 => (if x42109005_2.length < 8796093022208 then (plaitinglaw5_Make.l0 kj44 l2 (wrap64 (x8_2 + 1)) a0_0 a0_1 a0_2 a0_3 a0_4 l0_5 x42109000_7 t42105 t42107 t42109 t42110 (x42109005_2 ++ [(⟨bt42118.1, bt42118.2⟩ : S26)])) else (none)))) = some (r1, r2, r3, r4, r5, r6) := by rw [if_pos rfl] at H; exact H
                  clear H
                  have H := H1
                  clear H1
                  by_cases c63 : (l2.length : Int) > 0
                  · rw [if_pos c63] at H
                    have c63b0 : decide (0 < (l2.length : Int)) = true := decide_eq_true c63
                    have c63b1 : decide (0 < l2.length) = true := decide_eq_true (by omega)
                    clear c63
                    by_cases c64 : (l2.length : Int) = 0
                    · rw [if_pos c64] at H
                      exact absurd H (by simp)
                    rw [if_neg c64] at H
                    have c64b0 : ((l2.length : Int) == 0) = false := beq_eq_false_iff_ne.mpr c64
                    have c64b1 : ((l2.length : Int) != 0) = true := bne_iff_ne.mpr c64
                    have c64b2 : ¬ (l2 = []) := fun h_ => c64 (by rw [h_]; rfl)
                    obtain ⟨ji65, hji65⟩ : ∃ j_ : Int, (Int.tmod x8_2 (l2.length : Int)) = j_ := ⟨_, rfl⟩
                    replace H : (if 0 ≤ (ji65) then (if (ji65) < (l2.length : Int) then (if (wrap64 (1 + x8_2)) = 0 then (none) else ((plaitinglaw5_Item.f kj44 (wrap64 ((wrap64 (Int.tdiv (rd l2 (ji65)) (wrap64 (1 + x8_2)))) + x8_2)) false).bind fun bt42113 => (if x42109005_2.length < 8796093022208 then (plaitinglaw5_Make.l0 kj44 l2 (wrap64 (x8_2 + 1)) a0_0 a0_1 a0_2 a0_3 a0_4 l0_5 x42109000_7 t42105 t42107 t42109 t42110 (x42109005_2 ++ [(⟨bt42113.1, bt42113.2⟩ : S26)])) else (none)))) else (none)) else (none)) = some (r1, r2, r3, r4, r5, r6) := by first | (rw [hji65] at H; exact H) | (simp only [hji65] at H ⊢; exact H)
                    by_cases c66 : 0 ≤ (ji65)
                    rotate_left
                    · rw [if_neg c66] at H
                      exact absurd H (by simp)
                    rw [if_pos c66] at H
                    have c66b0 : decide (0 ≤ (ji65)) = true := decide_eq_true c66
                    clear c66
                    by_cases c67 : (ji65) < (l2.length : Int)
                    rotate_left
                    · rw [if_neg c67] at H
                      exact absurd H (by simp)
                    rw [if_pos c67] at H
                    have c67b0 : decide ((ji65) < (l2.length : Int)) = true := decide_eq_true c67
                    clear c67
                    by_cases c68 : (wrap64 (1 + x8_2)) = 0
                    · rw [if_pos c68] at H
                      exact absurd H (by simp)
                    rw [if_neg c68] at H
                    have c68b0 : ((wrap64 (1 + x8_2)) == 0) = false := beq_eq_false_iff_ne.mpr c68
                    have c68b1 : ((wrap64 (1 + x8_2)) != 0) = true := bne_iff_ne.mpr c68
                    replace H := Option.bind_eq_some_iff.mp H
                    obtain ⟨⟨t42113, t42114⟩, A690, H⟩ := H
                    replace H : (if x42109005_2.length < 8796093022208 then (plaitinglaw5_Make.l0 kj44 l2 (wrap64 (x8_2 + 1)) a0_0 a0_1 a0_2 a0_3 a0_4 l0_5 x42109000_7 t42105 t42107 t42109 t42110 (x42109005_2 ++ [(⟨t42113, t42114⟩ : S26)])) else (none)) = some (r1, r2, r3, r4, r5, r6) := H
                    have A69 := Aside0.mk A690
                    clear A690
                    by_cases c70 : x42109005_2.length < 8796093022208
                    rotate_left
                    · rw [if_neg c70] at H
                      exact absurd H (by simp)
                    rw [if_pos c70] at H
                    have LMc70 := Aside0.mk c70
                    clear c70
                    obtain ⟨y42115, hy42115⟩ : ∃ y_ : List (S26), y_ = (x42109005_2 ++ [(⟨t42113, t42114⟩ : S26)]) := ⟨_, rfl⟩
                    replace H : (plaitinglaw5_Make.l0 kj44 l2 (wrap64 (x8_2 + 1)) a0_0 a0_1 a0_2 a0_3 a0_4 l0_5 x42109000_7 t42105 t42107 t42109 t42110 y42115) = some (r1, r2, r3, r4, r5, r6) := by first | (rw [hy42115]; with_reducible exact H) | (have H2_ := (Option.bind_some _ _).symm.trans H; rw [hy42115]; with_reducible exact H2_) | (have H2_ := (Option.bind_some _ _).symm.trans H; with_reducible exact H2_) | with_reducible exact H | (rw [hy42115]; exact H) | exact H
                    have Ny42115 := Aside0.mk hy42115
                    clear hy42115
                    have H' := Aside0.mk H
                    clear H
                    have p42112 : 0 ≤ ((ji65) : Int) := of_decide_eq_true (by first | (with_reducible assumption) | assumption)
                    have q42112 : (ji65) < (l2.length : Int) := of_decide_eq_true (by first | (with_reducible assumption) | assumption)
                    obtain ⟨ad42112, e42112, hx42112_0⟩ := Kd.at_int HR2.out (ji65) p42112 q42112
                    cases e42112
                    replace hx42112_0 := (HB.out.cell (World.block_lt_of_cell? w _ hx42112_0)).trans hx42112_0
                    replace p42112 := eq_true p42112
                    replace q42112 := eq_true q42112
                    try go_wp2
                    replace HO_42109005 := Aside0.mk (Kd.R_drew HO_42109005.out)
                    replace BK42101 := Aside0.mk (blk_drew BK42101.out)
                    replace BK42102 := Aside0.mk (blk_drew BK42102.out)
                    replace BK42103 := Aside0.mk (blk_drew BK42103.out)
                    replace BK42108 := Aside0.mk (blk_drew BK42108.out)
                    replace HB := Aside0.mk (below_drew1 HB.out)
                    refine start_ (n := 8) (S := fun w' => w'.cell? ⟨gb42108, 0, none⟩ = some (.int .i64 x42109000_7) ∧ w'.cell? ⟨gb42108, 1, none⟩ = some (.int .i64 t42105) ∧ w'.cell? ⟨gb42108, 2, none⟩ = some (.int .i64 t42107) ∧ w'.cell? ⟨gb42108, 3, none⟩ = some (.int .i64 t42109) ∧ w'.cell? ⟨gb42108, 4, none⟩ = some (.int .i64 t42110) ∧ w'.cell? ⟨gb42108, 5, none⟩ = some (u42109005)) (ds := [7]) #[false, false, false, false, false, false, false, false] (by kernel_rfl) rfl rfl ⟨(blk_cell BK42108.out 0).trans rfl, (blk_cell BK42108.out 1).trans rfl, (blk_cell BK42108.out 2).trans rfl, (blk_cell BK42108.out 3).trans rfl, (blk_cell BK42108.out 4).trans rfl, (blk_cell BK42108.out 5).trans rfl⟩ (fun hHeld => ?_); refine with_tabW plaitinglaw5_Make.tab13 plaitinglaw5_Make.bits13 (fun HT_ HW_ => ?_)
                    generalize wc.drew = w71 at HO_42109005 BK42101 BK42102 BK42103 BK42108 HB hHeld ⊢
                    refine pure_ (i := 0) (N := some 67) (v := ?_) (a' := ?_) #[true, false, false, false, false, false, false, false] rfl rfl (any_of HT_.out (by kernel_rfl)) (fun _ _ _ h => h) (Or.inl ⟨by rfl, ?_⟩) ?_ ?_
                    rotate_left
                    · intro w'
                      go_simp
                      with_reducible rfl
                    rotate_left
                    · simp only [Act.put, List.setIfInBounds_toArray, List.set_cons_zero, List.set_cons_succ, i64_w, i32_w]
                      rfl
                    refine pure_ (i := 2) (N := some 69) (v := ?_) (a' := ?_) #[true, false, true, false, false, false, false, false] rfl rfl (any_of HT_.out (by kernel_rfl)) (fun _ _ _ h => h) (Or.inl ⟨by rfl, ?_⟩) ?_ ?_
                    rotate_left
                    · intro w'
                      go_simp
                      with_reducible rfl
                    rotate_left
                    · simp only [Act.put, List.setIfInBounds_toArray, List.set_cons_zero, List.set_cons_succ, i64_w, i32_w]
                      rfl
                    refine take_ (i := 1) (N := some 68) (v := ?_) (a' := ?_) #[true, true, true, false, false, false, false, false] rfl rfl (take_ofW HT_.out HW_.out (by kernel_rfl)) (fun _ _ _ h => h) (Or.inl ⟨by rfl, ?_⟩) hHeld ?_ ?_
                    rotate_left
                    · rintro w' ⟨s0, s1, s2, s3, s4, s5⟩
                      go_simp
                      with_reducible rfl
                    rotate_left
                    · simp only [Act.put, List.setIfInBounds_toArray, List.set_cons_zero, List.set_cons_succ, i64_w, i32_w]
                      rfl
                    refine one_ (i := 3) (N := some 70) #[true, true, true, true, false, false, false, false] rfl rfl (one_of HT_.out (by kernel_rfl)) (by decide) (fun K hK => ?_)
                    refine goes_ Try.func46 (by kernel_rfl) rfl #[.int .i64 (wrap64 ((wrap64 (Int.tdiv (rd l2 (ji65)) (wrap64 (1 + x8_2)))) + x8_2)), .bool false] (by rfl) rfl rfl (by (try simp only [List.map_toArray, List.map_cons, List.map_nil]); first | done | (simp only [hji65]; rfl) | rfl | (simp only [List.length_drop, List.length_take]; rfl)) ?_
                    with_reducible refine (plaitinglaw5_Item.calls kj44 (wrap64 ((wrap64 (Int.tdiv (rd l2 (ji65)) (wrap64 (1 + x8_2)))) + x8_2)) false t42113 t42114 _ A69.out).mono ?_
                    rintro e w72 ⟨rfl, hb⟩
                    refine ⟨_, rfl, ?_⟩
                    replace HO_42109005 := Aside0.mk (Kd.R_below (pR_ HO_42109005.out) hb)
                    replace BK42101 := Aside0.mk (blk_below (pB_ BK42101.out) hb)
                    replace BK42102 := Aside0.mk (blk_below (pB_ BK42102.out) hb)
                    replace BK42103 := Aside0.mk (blk_below (pB_ BK42103.out) hb)
                    replace BK42108 := Aside0.mk (blk_below (pB_ BK42108.out) hb)
                    replace HB := Aside0.mk (below_step (pH_ HB.out) hb)
                    (try clear hb)
                    (try clear hb2)
                    (try clear hk)
                    (try clear hi)
                    refine hK.out _ _ ⟨(blk_cell BK42108.out 0).trans rfl, (blk_cell BK42108.out 1).trans rfl, (blk_cell BK42108.out 2).trans rfl, (blk_cell BK42108.out 3).trans rfl, (blk_cell BK42108.out 4).trans rfl, (blk_cell BK42108.out 5).trans rfl⟩ (fun hHeld => ?_)
                    clear hK K
                    refine norm_ (a' := ?_) ?_ ?_
                    rotate_left
                    · show Act.put _ (some 70) _ = _
                      simp only [Act.put, List.setIfInBounds_toArray, List.set_cons_zero, List.set_cons_succ, i64_w, i32_w]
                      rfl
                    refine one_ (i := 4) (N := some 71) #[true, true, true, true, true, false, false, false] rfl rfl (one_of HT_.out (by kernel_rfl)) (by decide) (fun K hK => ?_)
                    refine value_ (w1 := ?_) (v := ?_) (by rfl) rfl ?_ ?_
                    rotate_left 2
                    · go_simp
                      constructor
                      · rfl
                      rfl
                    refine hK.out _ _ ⟨(blk_cell (blk_alloc BK42108.out _) 0).trans rfl, (blk_cell (blk_alloc BK42108.out _) 1).trans rfl, (blk_cell (blk_alloc BK42108.out _) 2).trans rfl, (blk_cell (blk_alloc BK42108.out _) 3).trans rfl, (blk_cell (blk_alloc BK42108.out _) 4).trans rfl, (blk_cell (blk_alloc BK42108.out _) 5).trans rfl⟩ (fun hHeld => ?_)
                    clear hK K
                    refine norm_ (a' := ?_) ?_ ?_
                    rotate_left
                    · show Act.put _ (some 71) _ = _
                      simp only [Act.put, List.setIfInBounds_toArray, List.set_cons_zero, List.set_cons_succ, i64_w, i32_w]
                      rfl
                    refine one_ (i := 5) (N := some 72) #[true, true, true, true, true, true, false, false] rfl rfl (one_of HT_.out (by kernel_rfl)) (by decide) (fun K hK => ?_)
                    refine Kd.R_append_step k26 (w0 := w) w.heap.size (by rfl) (.tmp 68) (.tmp 71) 27 26 (.agg #[(.int .i64 0), (.int .i64 0)]) 16 rfl Try.underlying27 info26 rfl (by decide) (by omega) u42109005 x42109005_2 (⟨t42113, t42114⟩ : S26) [.int .i64 t42113, .int .i64 t42114] (fun _ => True) (fun _ => False) rfl rfl ?aP (fun _ hk => hk.elim) ?aF ?aO ?aB ?aS ?aL ?_
                    (case aP => exact k26_mkM _ _ _ (⟨t42113, t42114⟩ : S26))
                    (case aB => exact (pH_ HB.out))
                    (case aF => exact (fun _ _ => trivial))
                    (case aO => exact (pR_ HO_42109005.out))
                    (case aS => exact (below_size (pH_ HB.out)))
                    (case aL => have := LMc70.out; omega)
                    intro v42116 w73 ho hb hg hat
                    rw [← Ny42115.out] at ho
                    have n0_ := Aside0.mk (blk_grown (g := gb42101) (o := .cells #[.int .i64 a0_0, .int .i64 a0_1, .int .i64 a0_2, .int .i64 a0_3, .int .i64 a0_4, .slice A0_5 l0_5.length c0_5] 24 (0, 0)) (pB_ BK42101.out) hg (Kd.R_ne HO_42109005.out BK42101.out (by decide)))
                    have n1_ := Aside0.mk (blk_grown (g := gb42102) (o := .cells #[.int .i64 a1_0, .int .i64 a1_1, .int .i64 a1_2, .int .i64 a1_3, .int .i64 a1_4, .slice A1_5 l1_5.length c1_5] 29 (0, 0)) (pB_ BK42102.out) hg (Kd.R_ne HO_42109005.out BK42102.out (by decide)))
                    have n2_ := Aside0.mk (blk_grown (g := gb42103) (o := .cells #[.int .i64 0, .int .i64 0, .int .i64 0, .int .i64 0, .int .i64 0, .slice none 0 0] 29 (0, 0)) (pB_ BK42103.out) hg (Kd.R_ne HO_42109005.out BK42103.out (by decide)))
                    have n3_ := Aside0.mk (blk_grown (g := gb42108) (o := .cells #[.int .i64 x42109000_7, .int .i64 t42105, .int .i64 t42107, .int .i64 t42109, .int .i64 t42110, u42109005] 29 (0, 0)) (pB_ BK42108.out) hg (Kd.R_ne HO_42109005.out BK42108.out (by decide)))
                    have n4_ := Aside0.mk (hb)
                    have n5_ := Aside0.mk (ho)
                    clear BK42101
                    clear BK42102
                    clear BK42103
                    clear BK42108
                    clear HB
                    clear HO_42109005
                    have BK42101 := n0_
                    have BK42102 := n1_
                    have BK42103 := n2_
                    have BK42108 := n3_
                    have HB := n4_
                    have HO42117 := n5_
                    clear n0_ n1_ n2_ n3_ n4_ n5_
                    clear ho hb hg hat
                    obtain ⟨Ao74, co74, eo74⟩ := Kd.R_slice HO42117.out
                    (first | subst eo74 | (injection eo74 with f1_ f2_ f3_; have f4_ := f1_.symm; have f5_ := f3_.symm; clear f1_ f2_ f3_; subst f4_; subst f5_))
                    refine hK.out _ _ ⟨(blk_cell BK42108.out 0).trans rfl, (blk_cell BK42108.out 1).trans rfl, (blk_cell BK42108.out 2).trans rfl, (blk_cell BK42108.out 3).trans rfl, (blk_cell BK42108.out 4).trans rfl, (blk_cell BK42108.out 5).trans rfl⟩ (fun hHeld => ?_)
                    clear hK K
                    refine norm_ (a' := ?_) ?_ ?_
                    rotate_left
                    · show Act.put _ (some 72) _ = _
                      simp only [Act.put, List.setIfInBounds_toArray, List.set_cons_zero, List.set_cons_succ, i64_w, i32_w]
                      rfl
                    refine pure_ (i := 6) (N := some 73) (v := ?_) (a' := ?_) #[true, true, true, true, true, true, true, false] rfl rfl (any_of HT_.out (by kernel_rfl)) (fun _ _ _ h => h) (Or.inl ⟨by rfl, ?_⟩) ?_ ?_
                    rotate_left
                    · intro w'
                      go_simp
                      with_reducible rfl
                    rotate_left
                    · simp only [Act.put, List.setIfInBounds_toArray, List.set_cons_zero, List.set_cons_succ, i64_w, i32_w]
                      rfl
                    refine last_ (i := 7) (N := none) #[true, true, true, true, true, true, true, true] rfl rfl (one_of HT_.out (by kernel_rfl)) (by decide) (fun K hK => ?_)
                    have hs75 : w73.cell? ⟨gb42108, 5, none⟩ = some (u42109005) := (blk_cell BK42108.out 5).trans rfl
                    have hfs75 := blk_frozen BK42108.out 5
                    have hns75_0 := NB42101_42108.out
                    have hns75_1 := NB42102_42108.out
                    have hns75_2 := NB42103_42108.out
                    have hms75_0 := NB42108_42101.out
                    have hms75_1 := NB42108_42102.out
                    have hms75_2 := NB42108_42103.out
                    refine skip_ (w1 := ?_) (by rfl) rfl ?_ ?_
                    rotate_left
                    · go_simp
                      rfl
                    refine hK.out _ _ ?_
                    clear hK K
                    refine done_ (done_of HT_.out (by kernel_rfl)) ?_
                    try go_wp2
                    go_roundg kj44
                    case measure => have := HJ7.out; have := HK2.out; have := HJ44.out; omega
                    case rel => exact ⟨(wrap64 (x8_2 + 1)), (y42115), (.slice Ao74 y42115.length co74), (by first | rfl | (simp; done) | (simp [*]; done)), H', ⟨by have := HJ7.out; have := HK2.out; have := HJ44.out; omega⟩, ⟨by (with_reducible repeat (first | apply Kd.R_alloc | apply Kd.R_drewN | apply Kd.R_drew)); exact Kd.R_mono (Kd.R_far (p := ⟨gb42108, 5, none⟩) (Kd.R_types HO42117.out BK42108.out (by decide)) (fun _ hk => hk.2) (.slice Ao74 y42115.length co74)) (fun _ hk => trivial)⟩, ⟨by (with_reducible repeat (first | refine blk_drewN ?_ _ | refine blk_drew ?_ | refine blk_alloc ?_ _)); refine blk_far ?_ NB42101_42108.out _; (with_reducible repeat (first | refine blk_drewN ?_ _ | refine blk_drew ?_ | refine blk_alloc ?_ _)); exact BK42101.out⟩, ⟨by (with_reducible repeat (first | refine blk_drewN ?_ _ | refine blk_drew ?_ | refine blk_alloc ?_ _)); refine blk_far ?_ NB42102_42108.out _; (with_reducible repeat (first | refine blk_drewN ?_ _ | refine blk_drew ?_ | refine blk_alloc ?_ _)); exact BK42102.out⟩, ⟨by (with_reducible repeat (first | refine blk_drewN ?_ _ | refine blk_drew ?_ | refine blk_alloc ?_ _)); refine blk_far ?_ NB42103_42108.out _; (with_reducible repeat (first | refine blk_drewN ?_ _ | refine blk_drew ?_ | refine blk_alloc ?_ _)); exact BK42103.out⟩, ⟨by (with_reducible repeat (first | refine blk_drewN ?_ _ | refine blk_drew ?_ | refine blk_alloc ?_ _)); refine blk_put (cs := #[.int .i64 x42109000_7, .int .i64 t42105, .int .i64 t42107, .int .i64 t42109, .int .i64 t42110, u42109005]) ?_ 5 _ rfl; (with_reducible repeat (first | refine blk_drewN ?_ _ | refine blk_drew ?_ | refine blk_alloc ?_ _)); exact BK42108.out⟩, ⟨by repeat (first | (with_reducible first | exact HB.out | apply below_alloc | apply pw_below_drewN | apply below_drew1 | refine below_set ?_ GE42101.out | refine below_set ?_ GE42102.out | refine below_set ?_ GE42103.out | refine below_set ?_ GE42108.out) | exact HB.out)⟩⟩
                  rw [if_neg c63] at H
                  have c63b0 : decide (0 < (l2.length : Int)) = false := decide_eq_false c63
                  have c63b1 : decide (0 < l2.length) = false := decide_eq_false (by omega)
                  clear c63
                  replace H := Option.bind_eq_some_iff.mp H
                  obtain ⟨⟨t42118, t42119⟩, A760, H⟩ := H
                  replace H : (if x42109005_2.length < 8796093022208 then (plaitinglaw5_Make.l0 kj44 l2 (wrap64 (x8_2 + 1)) a0_0 a0_1 a0_2 a0_3 a0_4 l0_5 x42109000_7 t42105 t42107 t42109 t42110 (x42109005_2 ++ [(⟨t42118, t42119⟩ : S26)])) else (none)) = some (r1, r2, r3, r4, r5, r6) := H
                  have A76 := Aside0.mk A760
                  clear A760
                  by_cases c77 : x42109005_2.length < 8796093022208
                  rotate_left
                  · rw [if_neg c77] at H
                    exact absurd H (by simp)
                  rw [if_pos c77] at H
                  have LMc77 := Aside0.mk c77
                  clear c77
                  obtain ⟨y42120, hy42120⟩ : ∃ y_ : List (S26), y_ = (x42109005_2 ++ [(⟨t42118, t42119⟩ : S26)]) := ⟨_, rfl⟩
                  replace H : (plaitinglaw5_Make.l0 kj44 l2 (wrap64 (x8_2 + 1)) a0_0 a0_1 a0_2 a0_3 a0_4 l0_5 x42109000_7 t42105 t42107 t42109 t42110 y42120) = some (r1, r2, r3, r4, r5, r6) := by first | (rw [hy42120]; with_reducible exact H) | (have H2_ := (Option.bind_some _ _).symm.trans H; rw [hy42120]; with_reducible exact H2_) | (have H2_ := (Option.bind_some _ _).symm.trans H; with_reducible exact H2_) | with_reducible exact H | (rw [hy42120]; exact H) | exact H
                  have Ny42120 := Aside0.mk hy42120
                  clear hy42120
                  have H' := Aside0.mk H
                  clear H
                  try go_wp2
                  replace HO_42109005 := Aside0.mk (Kd.R_drew HO_42109005.out)
                  replace BK42101 := Aside0.mk (blk_drew BK42101.out)
                  replace BK42102 := Aside0.mk (blk_drew BK42102.out)
                  replace BK42103 := Aside0.mk (blk_drew BK42103.out)
                  replace BK42108 := Aside0.mk (blk_drew BK42108.out)
                  replace HB := Aside0.mk (below_drew1 HB.out)
                  refine start_ (n := 8) (S := fun w' => w'.cell? ⟨gb42108, 0, none⟩ = some (.int .i64 x42109000_7) ∧ w'.cell? ⟨gb42108, 1, none⟩ = some (.int .i64 t42105) ∧ w'.cell? ⟨gb42108, 2, none⟩ = some (.int .i64 t42107) ∧ w'.cell? ⟨gb42108, 3, none⟩ = some (.int .i64 t42109) ∧ w'.cell? ⟨gb42108, 4, none⟩ = some (.int .i64 t42110) ∧ w'.cell? ⟨gb42108, 5, none⟩ = some (u42109005)) (ds := [7]) #[false, false, false, false, false, false, false, false] (by kernel_rfl) rfl rfl ⟨(blk_cell BK42108.out 0).trans rfl, (blk_cell BK42108.out 1).trans rfl, (blk_cell BK42108.out 2).trans rfl, (blk_cell BK42108.out 3).trans rfl, (blk_cell BK42108.out 4).trans rfl, (blk_cell BK42108.out 5).trans rfl⟩ (fun hHeld => ?_); refine with_tabW plaitinglaw5_Make.tab13 plaitinglaw5_Make.bits13 (fun HT_ HW_ => ?_)
                  generalize wc.drew = w78 at HO_42109005 BK42101 BK42102 BK42103 BK42108 HB hHeld ⊢
                  refine pure_ (i := 0) (N := some 67) (v := ?_) (a' := ?_) #[true, false, false, false, false, false, false, false] rfl rfl (any_of HT_.out (by kernel_rfl)) (fun _ _ _ h => h) (Or.inl ⟨by rfl, ?_⟩) ?_ ?_
                  rotate_left
                  · intro w'
                    go_simp
                    with_reducible rfl
                  rotate_left
                  · simp only [Act.put, List.setIfInBounds_toArray, List.set_cons_zero, List.set_cons_succ, i64_w, i32_w]
                    rfl
                  refine pure_ (i := 2) (N := some 69) (v := ?_) (a' := ?_) #[true, false, true, false, false, false, false, false] rfl rfl (any_of HT_.out (by kernel_rfl)) (fun _ _ _ h => h) (Or.inl ⟨by rfl, ?_⟩) ?_ ?_
                  rotate_left
                  · intro w'
                    go_simp
                    with_reducible rfl
                  rotate_left
                  · simp only [Act.put, List.setIfInBounds_toArray, List.set_cons_zero, List.set_cons_succ, i64_w, i32_w]
                    rfl
                  refine take_ (i := 1) (N := some 68) (v := ?_) (a' := ?_) #[true, true, true, false, false, false, false, false] rfl rfl (take_ofW HT_.out HW_.out (by kernel_rfl)) (fun _ _ _ h => h) (Or.inl ⟨by rfl, ?_⟩) hHeld ?_ ?_
                  rotate_left
                  · rintro w' ⟨s0, s1, s2, s3, s4, s5⟩
                    go_simp
                    with_reducible rfl
                  rotate_left
                  · simp only [Act.put, List.setIfInBounds_toArray, List.set_cons_zero, List.set_cons_succ, i64_w, i32_w]
                    rfl
                  refine one_ (i := 3) (N := some 70) #[true, true, true, true, false, false, false, false] rfl rfl (one_of HT_.out (by kernel_rfl)) (by decide) (fun K hK => ?_)
                  refine goes_ Try.func46 (by kernel_rfl) rfl #[.int .i64 x8_2, .bool false] (by rfl) rfl rfl (by (try simp only [List.map_toArray, List.map_cons, List.map_nil]); first | done | rfl | (simp only [List.length_drop, List.length_take]; rfl)) ?_
                  with_reducible refine (plaitinglaw5_Item.calls kj44 x8_2 false t42118 t42119 _ A76.out).mono ?_
                  rintro e w79 ⟨rfl, hb⟩
                  refine ⟨_, rfl, ?_⟩
                  replace HO_42109005 := Aside0.mk (Kd.R_below (pR_ HO_42109005.out) hb)
                  replace BK42101 := Aside0.mk (blk_below (pB_ BK42101.out) hb)
                  replace BK42102 := Aside0.mk (blk_below (pB_ BK42102.out) hb)
                  replace BK42103 := Aside0.mk (blk_below (pB_ BK42103.out) hb)
                  replace BK42108 := Aside0.mk (blk_below (pB_ BK42108.out) hb)
                  replace HB := Aside0.mk (below_step (pH_ HB.out) hb)
                  (try clear hb)
                  (try clear hb2)
                  (try clear hk)
                  (try clear hi)
                  refine hK.out _ _ ⟨(blk_cell BK42108.out 0).trans rfl, (blk_cell BK42108.out 1).trans rfl, (blk_cell BK42108.out 2).trans rfl, (blk_cell BK42108.out 3).trans rfl, (blk_cell BK42108.out 4).trans rfl, (blk_cell BK42108.out 5).trans rfl⟩ (fun hHeld => ?_)
                  clear hK K
                  refine norm_ (a' := ?_) ?_ ?_
                  rotate_left
                  · show Act.put _ (some 70) _ = _
                    simp only [Act.put, List.setIfInBounds_toArray, List.set_cons_zero, List.set_cons_succ, i64_w, i32_w]
                    rfl
                  refine one_ (i := 4) (N := some 71) #[true, true, true, true, true, false, false, false] rfl rfl (one_of HT_.out (by kernel_rfl)) (by decide) (fun K hK => ?_)
                  refine value_ (w1 := ?_) (v := ?_) (by rfl) rfl ?_ ?_
                  rotate_left 2
                  · go_simp
                    constructor
                    · rfl
                    rfl
                  refine hK.out _ _ ⟨(blk_cell (blk_alloc BK42108.out _) 0).trans rfl, (blk_cell (blk_alloc BK42108.out _) 1).trans rfl, (blk_cell (blk_alloc BK42108.out _) 2).trans rfl, (blk_cell (blk_alloc BK42108.out _) 3).trans rfl, (blk_cell (blk_alloc BK42108.out _) 4).trans rfl, (blk_cell (blk_alloc BK42108.out _) 5).trans rfl⟩ (fun hHeld => ?_)
                  clear hK K
                  refine norm_ (a' := ?_) ?_ ?_
                  rotate_left
                  · show Act.put _ (some 71) _ = _
                    simp only [Act.put, List.setIfInBounds_toArray, List.set_cons_zero, List.set_cons_succ, i64_w, i32_w]
                    rfl
                  refine one_ (i := 5) (N := some 72) #[true, true, true, true, true, true, false, false] rfl rfl (one_of HT_.out (by kernel_rfl)) (by decide) (fun K hK => ?_)
                  refine Kd.R_append_step k26 (w0 := w) w.heap.size (by rfl) (.tmp 68) (.tmp 71) 27 26 (.agg #[(.int .i64 0), (.int .i64 0)]) 16 rfl Try.underlying27 info26 rfl (by decide) (by omega) u42109005 x42109005_2 (⟨t42118, t42119⟩ : S26) [.int .i64 t42118, .int .i64 t42119] (fun _ => True) (fun _ => False) rfl rfl ?aP (fun _ hk => hk.elim) ?aF ?aO ?aB ?aS ?aL ?_
                  (case aP => exact k26_mkM _ _ _ (⟨t42118, t42119⟩ : S26))
                  (case aB => exact (pH_ HB.out))
                  (case aF => exact (fun _ _ => trivial))
                  (case aO => exact (pR_ HO_42109005.out))
                  (case aS => exact (below_size (pH_ HB.out)))
                  (case aL => have := LMc77.out; omega)
                  intro v42121 w80 ho hb hg hat
                  rw [← Ny42120.out] at ho
                  have n0_ := Aside0.mk (blk_grown (g := gb42101) (o := .cells #[.int .i64 a0_0, .int .i64 a0_1, .int .i64 a0_2, .int .i64 a0_3, .int .i64 a0_4, .slice A0_5 l0_5.length c0_5] 24 (0, 0)) (pB_ BK42101.out) hg (Kd.R_ne HO_42109005.out BK42101.out (by decide)))
                  have n1_ := Aside0.mk (blk_grown (g := gb42102) (o := .cells #[.int .i64 a1_0, .int .i64 a1_1, .int .i64 a1_2, .int .i64 a1_3, .int .i64 a1_4, .slice A1_5 l1_5.length c1_5] 29 (0, 0)) (pB_ BK42102.out) hg (Kd.R_ne HO_42109005.out BK42102.out (by decide)))
                  have n2_ := Aside0.mk (blk_grown (g := gb42103) (o := .cells #[.int .i64 0, .int .i64 0, .int .i64 0, .int .i64 0, .int .i64 0, .slice none 0 0] 29 (0, 0)) (pB_ BK42103.out) hg (Kd.R_ne HO_42109005.out BK42103.out (by decide)))
                  have n3_ := Aside0.mk (blk_grown (g := gb42108) (o := .cells #[.int .i64 x42109000_7, .int .i64 t42105, .int .i64 t42107, .int .i64 t42109, .int .i64 t42110, u42109005] 29 (0, 0)) (pB_ BK42108.out) hg (Kd.R_ne HO_42109005.out BK42108.out (by decide)))
                  have n4_ := Aside0.mk (hb)
                  have n5_ := Aside0.mk (ho)
                  clear BK42101
                  clear BK42102
                  clear BK42103
                  clear BK42108
                  clear HB
                  clear HO_42109005
                  have BK42101 := n0_
                  have BK42102 := n1_
                  have BK42103 := n2_
                  have BK42108 := n3_
                  have HB := n4_
                  have HO42122 := n5_
                  clear n0_ n1_ n2_ n3_ n4_ n5_
                  clear ho hb hg hat
                  obtain ⟨Ao81, co81, eo81⟩ := Kd.R_slice HO42122.out
                  (first | subst eo81 | (injection eo81 with f1_ f2_ f3_; have f4_ := f1_.symm; have f5_ := f3_.symm; clear f1_ f2_ f3_; subst f4_; subst f5_))
                  refine hK.out _ _ ⟨(blk_cell BK42108.out 0).trans rfl, (blk_cell BK42108.out 1).trans rfl, (blk_cell BK42108.out 2).trans rfl, (blk_cell BK42108.out 3).trans rfl, (blk_cell BK42108.out 4).trans rfl, (blk_cell BK42108.out 5).trans rfl⟩ (fun hHeld => ?_)
                  clear hK K
                  refine norm_ (a' := ?_) ?_ ?_
                  rotate_left
                  · show Act.put _ (some 72) _ = _
                    simp only [Act.put, List.setIfInBounds_toArray, List.set_cons_zero, List.set_cons_succ, i64_w, i32_w]
                    rfl
                  refine pure_ (i := 6) (N := some 73) (v := ?_) (a' := ?_) #[true, true, true, true, true, true, true, false] rfl rfl (any_of HT_.out (by kernel_rfl)) (fun _ _ _ h => h) (Or.inl ⟨by rfl, ?_⟩) ?_ ?_
                  rotate_left
                  · intro w'
                    go_simp
                    with_reducible rfl
                  rotate_left
                  · simp only [Act.put, List.setIfInBounds_toArray, List.set_cons_zero, List.set_cons_succ, i64_w, i32_w]
                    rfl
                  refine last_ (i := 7) (N := none) #[true, true, true, true, true, true, true, true] rfl rfl (one_of HT_.out (by kernel_rfl)) (by decide) (fun K hK => ?_)
                  have hs82 : w80.cell? ⟨gb42108, 5, none⟩ = some (u42109005) := (blk_cell BK42108.out 5).trans rfl
                  have hfs82 := blk_frozen BK42108.out 5
                  have hns82_0 := NB42101_42108.out
                  have hns82_1 := NB42102_42108.out
                  have hns82_2 := NB42103_42108.out
                  have hms82_0 := NB42108_42101.out
                  have hms82_1 := NB42108_42102.out
                  have hms82_2 := NB42108_42103.out
                  refine skip_ (w1 := ?_) (by rfl) rfl ?_ ?_
                  rotate_left
                  · go_simp
                    rfl
                  refine hK.out _ _ ?_
                  clear hK K
                  refine done_ (done_of HT_.out (by kernel_rfl)) ?_
                  try go_wp2
                  go_roundg kj44
                  case measure => have := HJ7.out; have := HK2.out; have := HJ44.out; omega
                  case rel => exact ⟨(wrap64 (x8_2 + 1)), (y42120), (.slice Ao81 y42120.length co81), (by first | rfl | (simp; done) | (simp [*]; done)), H', ⟨by have := HJ7.out; have := HK2.out; have := HJ44.out; omega⟩, ⟨by (with_reducible repeat (first | apply Kd.R_alloc | apply Kd.R_drewN | apply Kd.R_drew)); exact Kd.R_mono (Kd.R_far (p := ⟨gb42108, 5, none⟩) (Kd.R_types HO42122.out BK42108.out (by decide)) (fun _ hk => hk.2) (.slice Ao81 y42120.length co81)) (fun _ hk => trivial)⟩, ⟨by (with_reducible repeat (first | refine blk_drewN ?_ _ | refine blk_drew ?_ | refine blk_alloc ?_ _)); refine blk_far ?_ NB42101_42108.out _; (with_reducible repeat (first | refine blk_drewN ?_ _ | refine blk_drew ?_ | refine blk_alloc ?_ _)); exact BK42101.out⟩, ⟨by (with_reducible repeat (first | refine blk_drewN ?_ _ | refine blk_drew ?_ | refine blk_alloc ?_ _)); refine blk_far ?_ NB42102_42108.out _; (with_reducible repeat (first | refine blk_drewN ?_ _ | refine blk_drew ?_ | refine blk_alloc ?_ _)); exact BK42102.out⟩, ⟨by (with_reducible repeat (first | refine blk_drewN ?_ _ | refine blk_drew ?_ | refine blk_alloc ?_ _)); refine blk_far ?_ NB42103_42108.out _; (with_reducible repeat (first | refine blk_drewN ?_ _ | refine blk_drew ?_ | refine blk_alloc ?_ _)); exact BK42103.out⟩, ⟨by (with_reducible repeat (first | refine blk_drewN ?_ _ | refine blk_drew ?_ | refine blk_alloc ?_ _)); refine blk_put (cs := #[.int .i64 x42109000_7, .int .i64 t42105, .int .i64 t42107, .int .i64 t42109, .int .i64 t42110, u42109005]) ?_ 5 _ rfl; (with_reducible repeat (first | refine blk_drewN ?_ _ | refine blk_drew ?_ | refine blk_alloc ?_ _)); exact BK42108.out⟩, ⟨by repeat (first | (with_reducible first | exact HB.out | apply below_alloc | apply pw_below_drewN | apply below_drew1 | refine below_set ?_ GE42101.out | refine below_set ?_ GE42102.out | refine below_set ?_ GE42103.out | refine below_set ?_ GE42108.out) | exact HB.out)⟩⟩
                replace c62 := Bool.eq_false_iff.mpr c62
                subst c62
                have H1 : (some (x42109000_7, t42105, t42107, t42109, t42110, x42109005_2)) = some (r1, r2, r3, r4, r5, r6) := by rw [if_neg (show ¬ (false = true) by decide)] at H; exact H
                clear H
                have H := H1
                clear H1
                simp only [Option.some.injEq, Prod.mk.injEq] at H
                obtain ⟨rfl, rfl, rfl, rfl, rfl, rfl⟩ := H
                have hnb83 := NB42108_42101.out
                have hnc83 := NB42101_42108.out
                have hnb84 := NB42108_42102.out
                have hnc84 := NB42102_42108.out
                have hnb85 := NB42108_42103.out
                have hnc85 := NB42103_42108.out
                have hcz86_0 : wc.cell? ⟨gb42108, 0, none⟩ = some (.int .i64 x42109000_7) := (blk_cell BK42108.out 0).trans rfl
                have hcz86_1 : wc.cell? ⟨gb42108, 1, none⟩ = some (.int .i64 t42105) := (blk_cell BK42108.out 1).trans rfl
                have hcz86_2 : wc.cell? ⟨gb42108, 2, none⟩ = some (.int .i64 t42107) := (blk_cell BK42108.out 2).trans rfl
                have hcz86_3 : wc.cell? ⟨gb42108, 3, none⟩ = some (.int .i64 t42109) := (blk_cell BK42108.out 3).trans rfl
                have hcz86_4 : wc.cell? ⟨gb42108, 4, none⟩ = some (.int .i64 t42110) := (blk_cell BK42108.out 4).trans rfl
                have hcz86_5 : wc.cell? ⟨gb42108, 5, none⟩ = some (u42109005) := (blk_cell BK42108.out 5).trans rfl
                have hfz86_0 := blk_frozen BK42108.out 0
                have hfz86_1 := blk_frozen BK42108.out 1
                have hfz86_2 := blk_frozen BK42108.out 2
                have hfz86_3 := blk_frozen BK42108.out 3
                have hfz86_4 := blk_frozen BK42108.out 4
                have hfz86_5 := blk_frozen BK42108.out 5
                have hnb87 := NB42103_42101.out
                have hnc87 := NB42101_42103.out
                have hnb88 := NB42103_42102.out
                have hnc88 := NB42102_42103.out
                have hcz89_0 : wc.cell? ⟨gb42103, 0, none⟩ = some (.int .i64 0) := (blk_cell BK42103.out 0).trans rfl
                have hcz89_1 : wc.cell? ⟨gb42103, 1, none⟩ = some (.int .i64 0) := (blk_cell BK42103.out 1).trans rfl
                have hcz89_2 : wc.cell? ⟨gb42103, 2, none⟩ = some (.int .i64 0) := (blk_cell BK42103.out 2).trans rfl
                have hcz89_3 : wc.cell? ⟨gb42103, 3, none⟩ = some (.int .i64 0) := (blk_cell BK42103.out 3).trans rfl
                have hcz89_4 : wc.cell? ⟨gb42103, 4, none⟩ = some (.int .i64 0) := (blk_cell BK42103.out 4).trans rfl
                have hcz89_5 : wc.cell? ⟨gb42103, 5, none⟩ = some (.slice none 0 0) := (blk_cell BK42103.out 5).trans rfl
                have hfz89_0 := blk_frozen BK42103.out 0
                have hfz89_1 := blk_frozen BK42103.out 1
                have hfz89_2 := blk_frozen BK42103.out 2
                have hfz89_3 := blk_frozen BK42103.out 3
                have hfz89_4 := blk_frozen BK42103.out 4
                have hfz89_5 := blk_frozen BK42103.out 5
                obtain ⟨Ao90, co90, eo90⟩ := Kd.R_slice HO_42109005.out
                subst eo90
                go_wp2
                refine bodyPost_ret (results_cell_row rfl _ _ gb42103 29 #[.int .i64 x42109000_7, .int .i64 t42105, .int .i64 t42107, .int .i64 t42109, .int .i64 t42110, .slice Ao90 x42109005_2.length co90] (0, 0) _ rfl (by (with_reducible repeat (first | refine blk_drewN ?_ _ | refine blk_drew ?_ | refine blk_alloc ?_ _)); refine blk_put (cs := #[.int .i64 x42109000_7, .int .i64 t42105, .int .i64 t42107, .int .i64 t42109, .int .i64 t42110, .slice none 0 0]) ?_ 5 _ rfl; (with_reducible repeat (first | refine blk_drewN ?_ _ | refine blk_drew ?_ | refine blk_alloc ?_ _)); refine blk_put (cs := #[.int .i64 x42109000_7, .int .i64 t42105, .int .i64 t42107, .int .i64 t42109, .int .i64 0, .slice none 0 0]) ?_ 4 _ rfl; (with_reducible repeat (first | refine blk_drewN ?_ _ | refine blk_drew ?_ | refine blk_alloc ?_ _)); refine blk_put (cs := #[.int .i64 x42109000_7, .int .i64 t42105, .int .i64 t42107, .int .i64 0, .int .i64 0, .slice none 0 0]) ?_ 3 _ rfl; (with_reducible repeat (first | refine blk_drewN ?_ _ | refine blk_drew ?_ | refine blk_alloc ?_ _)); refine blk_put (cs := #[.int .i64 x42109000_7, .int .i64 t42105, .int .i64 0, .int .i64 0, .int .i64 0, .slice none 0 0]) ?_ 2 _ rfl; (with_reducible repeat (first | refine blk_drewN ?_ _ | refine blk_drew ?_ | refine blk_alloc ?_ _)); refine blk_put (cs := #[.int .i64 x42109000_7, .int .i64 0, .int .i64 0, .int .i64 0, .int .i64 0, .slice none 0 0]) ?_ 1 _ rfl; (with_reducible repeat (first | refine blk_drewN ?_ _ | refine blk_drew ?_ | refine blk_alloc ?_ _)); refine blk_put (cs := #[.int .i64 0, .int .i64 0, .int .i64 0, .int .i64 0, .int .i64 0, .slice none 0 0]) ?_ 0 _ rfl; (with_reducible repeat (first | refine blk_drewN ?_ _ | refine blk_drew ?_ | refine blk_alloc ?_ _)); exact BK42103.out) Try.underlying29 rfl (by kernel_rfl)) rfl ?_
                exact ⟨_, by first | rfl | (simp [errW_none, errW_some] <;> rfl) | (simp [*, errW_none, errW_some] <;> rfl), by (with_reducible repeat (first | apply Kd.R_alloc | apply Kd.R_drewN | apply Kd.R_drew)); exact Kd.R_mono (Kd.R_far (p := ⟨gb42103, 5, none⟩) (Kd.R_far (p := ⟨gb42103, 4, none⟩) (Kd.R_far (p := ⟨gb42103, 3, none⟩) (Kd.R_far (p := ⟨gb42103, 2, none⟩) (Kd.R_far (p := ⟨gb42103, 1, none⟩) (Kd.R_far (p := ⟨gb42103, 0, none⟩) (Kd.R_types HO_42109005.out BK42103.out (by decide)) (fun _ hk => hk.2) (.int .i64 x42109000_7)) (fun _ hk => hk.2) (.int .i64 t42105)) (fun _ hk => hk.2) (.int .i64 t42107)) (fun _ hk => hk.2) (.int .i64 t42109)) (fun _ hk => hk.2) (.int .i64 t42110)) (fun _ hk => hk.2) (.slice Ao90 x42109005_2.length co90)) (fun _ hk => trivial), by repeat (first | (with_reducible first | exact HB.out | apply below_alloc | apply pw_below_drewN | apply below_drew1 | refine below_set ?_ GE42101.out | refine below_set ?_ GE42102.out | refine below_set ?_ GE42103.out | refine below_set ?_ GE42108.out) | exact HB.out)⟩
      rw [if_neg c34] at H
      have c34b0 : (x42109000_7 == 3) = false := beq_eq_false_iff_ne.mpr c34
      have c34b1 : (x42109000_7 != 3) = true := bne_iff_ne.mpr c34
      simp only [Option.some.injEq, Prod.mk.injEq] at H
      obtain ⟨rfl, rfl, rfl, rfl, rfl, rfl⟩ := H
      have hnb91 := NB42108_42101.out
      have hnc91 := NB42101_42108.out
      have hnb92 := NB42108_42102.out
      have hnc92 := NB42102_42108.out
      have hnb93 := NB42108_42103.out
      have hnc93 := NB42103_42108.out
      have hcz94_0 : wc.cell? ⟨gb42108, 0, none⟩ = some (.int .i64 x42109000_7) := (blk_cell BK42108.out 0).trans rfl
      have hcz94_1 : wc.cell? ⟨gb42108, 1, none⟩ = some (.int .i64 t42105) := (blk_cell BK42108.out 1).trans rfl
      have hcz94_2 : wc.cell? ⟨gb42108, 2, none⟩ = some (.int .i64 t42107) := (blk_cell BK42108.out 2).trans rfl
      have hcz94_3 : wc.cell? ⟨gb42108, 3, none⟩ = some (.int .i64 0) := (blk_cell BK42108.out 3).trans rfl
      have hcz94_4 : wc.cell? ⟨gb42108, 4, none⟩ = some (.int .i64 0) := (blk_cell BK42108.out 4).trans rfl
      have hcz94_5 : wc.cell? ⟨gb42108, 5, none⟩ = some (.slice none 0 0) := (blk_cell BK42108.out 5).trans rfl
      have hfz94_0 := blk_frozen BK42108.out 0
      have hfz94_1 := blk_frozen BK42108.out 1
      have hfz94_2 := blk_frozen BK42108.out 2
      have hfz94_3 := blk_frozen BK42108.out 3
      have hfz94_4 := blk_frozen BK42108.out 4
      have hfz94_5 := blk_frozen BK42108.out 5
      have hnb95 := NB42103_42101.out
      have hnc95 := NB42101_42103.out
      have hnb96 := NB42103_42102.out
      have hnc96 := NB42102_42103.out
      have hcz97_0 : wc.cell? ⟨gb42103, 0, none⟩ = some (.int .i64 0) := (blk_cell BK42103.out 0).trans rfl
      have hcz97_1 : wc.cell? ⟨gb42103, 1, none⟩ = some (.int .i64 0) := (blk_cell BK42103.out 1).trans rfl
      have hcz97_2 : wc.cell? ⟨gb42103, 2, none⟩ = some (.int .i64 0) := (blk_cell BK42103.out 2).trans rfl
      have hcz97_3 : wc.cell? ⟨gb42103, 3, none⟩ = some (.int .i64 0) := (blk_cell BK42103.out 3).trans rfl
      have hcz97_4 : wc.cell? ⟨gb42103, 4, none⟩ = some (.int .i64 0) := (blk_cell BK42103.out 4).trans rfl
      have hcz97_5 : wc.cell? ⟨gb42103, 5, none⟩ = some (.slice none 0 0) := (blk_cell BK42103.out 5).trans rfl
      have hfz97_0 := blk_frozen BK42103.out 0
      have hfz97_1 := blk_frozen BK42103.out 1
      have hfz97_2 := blk_frozen BK42103.out 2
      have hfz97_3 := blk_frozen BK42103.out 3
      have hfz97_4 := blk_frozen BK42103.out 4
      have hfz97_5 := blk_frozen BK42103.out 5
      go_wp2
      refine bodyPost_ret (results_cell_row rfl _ _ gb42103 29 #[.int .i64 x42109000_7, .int .i64 t42105, .int .i64 t42107, .int .i64 0, .int .i64 0, .slice none 0 0] (0, 0) _ rfl (by (with_reducible repeat (first | refine blk_drewN ?_ _ | refine blk_drew ?_ | refine blk_alloc ?_ _)); refine blk_put (cs := #[.int .i64 x42109000_7, .int .i64 t42105, .int .i64 t42107, .int .i64 0, .int .i64 0, .slice none 0 0]) ?_ 5 _ rfl; (with_reducible repeat (first | refine blk_drewN ?_ _ | refine blk_drew ?_ | refine blk_alloc ?_ _)); refine blk_put (cs := #[.int .i64 x42109000_7, .int .i64 t42105, .int .i64 t42107, .int .i64 0, .int .i64 0, .slice none 0 0]) ?_ 4 _ rfl; (with_reducible repeat (first | refine blk_drewN ?_ _ | refine blk_drew ?_ | refine blk_alloc ?_ _)); refine blk_put (cs := #[.int .i64 x42109000_7, .int .i64 t42105, .int .i64 t42107, .int .i64 0, .int .i64 0, .slice none 0 0]) ?_ 3 _ rfl; (with_reducible repeat (first | refine blk_drewN ?_ _ | refine blk_drew ?_ | refine blk_alloc ?_ _)); refine blk_put (cs := #[.int .i64 x42109000_7, .int .i64 t42105, .int .i64 0, .int .i64 0, .int .i64 0, .slice none 0 0]) ?_ 2 _ rfl; (with_reducible repeat (first | refine blk_drewN ?_ _ | refine blk_drew ?_ | refine blk_alloc ?_ _)); refine blk_put (cs := #[.int .i64 x42109000_7, .int .i64 0, .int .i64 0, .int .i64 0, .int .i64 0, .slice none 0 0]) ?_ 1 _ rfl; (with_reducible repeat (first | refine blk_drewN ?_ _ | refine blk_drew ?_ | refine blk_alloc ?_ _)); refine blk_put (cs := #[.int .i64 0, .int .i64 0, .int .i64 0, .int .i64 0, .int .i64 0, .slice none 0 0]) ?_ 0 _ rfl; (with_reducible repeat (first | refine blk_drewN ?_ _ | refine blk_drew ?_ | refine blk_alloc ?_ _)); exact BK42103.out) Try.underlying29 rfl (by kernel_rfl)) rfl ?_
      exact ⟨_, by first | rfl | (simp [errW_none, errW_some] <;> rfl) | (simp [*, errW_none, errW_some] <;> rfl), by first | exact Kd.R_nil _ _ _ _ _ | exact Kd.N_nil _ _ _ _ _ | exact Kd.V_nil _ _ _ _ _ | exact Kd.Q_nil _ _ _ _ _ | exact Kd.S_nil _ _ _ _ _, by repeat (first | (with_reducible first | exact HB.out | apply below_alloc | apply pw_below_drewN | apply below_drew1 | refine below_set ?_ GE42101.out | refine below_set ?_ GE42102.out | refine below_set ?_ GE42103.out | refine below_set ?_ GE42108.out) | exact HB.out)⟩
end Go.Proofs.Ytcpohmfkmgcjkaa.P
