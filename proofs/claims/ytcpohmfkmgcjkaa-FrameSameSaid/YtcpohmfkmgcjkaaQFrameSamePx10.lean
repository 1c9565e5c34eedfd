/- Printed by a program of this session (myprint) out of the translation: the functions as plain Lean functions, and that the calls compute them. What counts is Lean's check. -/
import Derived.Test.YtcpohmfkmgcjkaaQFrameSamePx0
import Derived.Test.YtcpohmfkmgcjkaaQFrameSamePx9
namespace Go.Proofs.Ytcpohmfkmgcjkaa.P
open Go.RowKit Go.Proofs.YtcpohmfkmgcjkaaW.PrintWords Go.Proofs.YtcpohmfkmgcjkaaW.PrintLast Go.Proofs.YtcpohmfkmgcjkaaW.PrintMore
attribute [local go_sem] max2_int min2_int max_two min_two max_three min_three max_four min_four
set_option linter.unusedVariables false
set_option linter.unusedSimpArgs false
attribute [-simp] ByteArray.size_extract ByteArray.size_append ByteArray.extract_append_extract
attribute [-go_sem] ByteArray.size_append'
mutual
def plaitinglaw3_Make.j0 : Nat → Int → Int → Int → Int → Int → List Int → Int → Int → Int → Int → Int → Option (Int × Int × Int × Int × Int × List Int)
  | 0, _, _, _, _, _, _, _, _, _, _, _ => none
  | k + 1, x40102000, x40102001, x40102002, x40102003, x40102004, x40102005, x40108000, x40108001, x40108002, x40108003, x40108004 => (plaitinglaw3_within.f x40102001 100).bind fun t40110 => (plaitinglaw3_Make.l0 k 0 x40102000 x40102001 x40102002 x40102003 x40102004 x40102005 x40108000 (wrap64 ((wrap64 (4 * (wrap64 ((wrap64 (x40108002 + x40108003)) + 1)))) + t40110)) x40108002 x40108003 x40108004 ([] : List Int))
def plaitinglaw3_Make.l0 : Nat → Int → Int → Int → Int → Int → Int → List Int → Int → Int → Int → Int → Int → List Int → Option (Int × Int × Int × Int × Int × List Int)
  | 0, _, _, _, _, _, _, _, _, _, _, _, _, _ => none
  | k + 1, x4, x40102000, x40102001, x40102002, x40102003, x40102004, x40102005, x40108000, x40108001, x40108002, x40108003, x40108004, x40108005 => if x4 < (x40102005.length : Int) then (if x4 < 3 then (if 0 ≤ x4 then ((plaitinglaw3_within.f (rd x40102005 x4) (wrap64 (x40108000 + 1))).bind fun t40112 => (if x40108005.length < 17592186044416 then (plaitinglaw3_Make.l0 k (wrap64 (x4 + 1)) x40102000 x40102001 x40102002 x40102003 x40102004 x40102005 x40108000 x40108001 x40108002 x40108003 x40108004 (x40108005 ++ [wrap64 (t40112 - 1)])) else (none))) else (none)) else (some (x40108000, x40108001, x40108002, x40108003, x40108004, x40108005))) else (some (x40108000, x40108001, x40108002, x40108003, x40108004, x40108005))
end
def plaitinglaw3_Make.f (k : Nat) (a0_0 : Int) (a0_1 : Int) (a0_2 : Int) (a0_3 : Int) (a0_4 : Int) (l0_5 : List Int) : Option (Int × Int × Int × Int × Int × List Int) := (plaitinglaw3_within.f a0_0 7).bind fun t40103 => ((plaitinglaw3_within.f a0_2 21).bind fun t40104 => ((plaitinglaw3_within.f a0_3 21).bind fun t40105 => ((plaitinglaw3_within.f a0_4 65536).bind fun t40106 => ((plaitinglaw3_within.f a0_4 3).bind fun t40108 => (if t40108 = 0 then ((plaitinglaw3_within.f a0_4 40).bind fun t40109 => (plaitinglaw3_Make.j0 k a0_0 a0_1 a0_2 a0_3 a0_4 l0_5 (wrap64 (6 + t40103)) 0 t40104 t40105 (wrap64 (65535 - t40109)))) else (plaitinglaw3_Make.j0 k a0_0 a0_1 a0_2 a0_3 a0_4 l0_5 (wrap64 (6 + t40103)) 0 t40104 t40105 t40106))))))
def plaitinglaw3_Make.T1 : Bool × List (List Nat × List Nat) := (true, [([], []), ([0], [0]), ([1], [1]), ([2], [2]), ([], []), ([4], [4]), ([5, 2], [5]), ([], []), ([7], [7]), ([8, 6], [8]), ([], []), ([10], [10]), ([11, 9], [11]), ([3, 6, 9, 12], [3, 6, 9, 12]), ([], []), ([14, 13, 12, 0, 1, 2, 3, 4, 5, 6, 7, 8, 9, 10, 11, 12, 13, 14], [13, 14])])
def plaitinglaw3_Make.B1 : List Nat := [0, 1, 3, 7, 0, 16, 55, 0, 128, 503, 0, 1024, 4087, 8191, 0, 32767]
theorem plaitinglaw3_Make.tab1 : rtab .any (opsOf Try.f20 1) = plaitinglaw3_Make.T1 := by kernel_rfl
theorem plaitinglaw3_Make.bits1 : waitsOk plaitinglaw3_Make.T1.2 plaitinglaw3_Make.B1 = true := by kernel_rfl
def plaitinglaw3_Make.T4 : Bool × List (List Nat × List Nat) := (true, [([], []), ([0], [0]), ([], []), ([2], [2]), ([1, 3], [1, 3]), ([4], [4]), ([5], [5]), ([], []), ([7], [7]), ([8], [8]), ([6, 9], [6, 9]), ([0, 1, 2, 3, 4, 5, 6, 7, 8, 9, 10], []), ([11, 10, 9, 0, 1, 2, 3, 4, 5, 6, 7, 8, 9, 10], [10, 11])])
def plaitinglaw3_Make.B4 : List Nat := [0, 1, 0, 4, 15, 31, 63, 0, 128, 384, 1023, 2047, 4095]
theorem plaitinglaw3_Make.tab4 : rtab .any (opsOf Try.f20 4) = plaitinglaw3_Make.T4 := by kernel_rfl
theorem plaitinglaw3_Make.bits4 : waitsOk plaitinglaw3_Make.T4.2 plaitinglaw3_Make.B4 = true := by kernel_rfl
def plaitinglaw3_Make.T8 : Bool × List (List Nat × List Nat) := (true, [([], []), ([0], [0]), ([], []), ([2], [2]), ([], []), ([3, 4], [3, 4]), ([5], [5]), ([], []), ([7], [7]), ([8], [8]), ([6, 9], [6, 9]), ([10], [10]), ([11], [11]), ([1, 12, 10], [1, 12]), ([0, 1, 2, 3, 4, 5, 6, 7, 8, 9, 10, 11, 12, 13], []), ([14, 13, 13, 0, 1, 2, 3, 4, 5, 6, 7, 8, 9, 10, 11, 12, 13], [13, 14])])
def plaitinglaw3_Make.B8 : List Nat := [0, 1, 0, 4, 0, 28, 60, 0, 128, 384, 1020, 2044, 4092, 8191, 16383, 32767]
theorem plaitinglaw3_Make.tab8 : rtab .any (opsOf Try.f20 8) = plaitinglaw3_Make.T8 := by kernel_rfl
theorem plaitinglaw3_Make.bits8 : waitsOk plaitinglaw3_Make.T8.2 plaitinglaw3_Make.B8 = true := by kernel_rfl
set_option maxHeartbeats 8000000 in
set_option maxRecDepth 100000 in
theorem plaitinglaw3_Make.calls (k : Nat) (a0_0 : Int) (a0_1 : Int) (a0_2 : Int) (a0_3 : Int) (a0_4 : Int) (A0_5 : Option Addr) (c0_5 : Nat) (l0_5 : List Int) (r1 : Int) (r2 : Int) (r3 : Int) (r4 : Int) (r5 : Int) (r6 : List Int) (w : World) (hr0_5 : Kd.C (Kd.int .i64) w A0_5 l0_5.length l0_5) (hc0_5 : l0_5.length ≤ c0_5) (h : plaitinglaw3_Make.f k a0_0 a0_1 a0_2 a0_3 a0_4 l0_5 = some (r1, r2, r3, r4, r5, r6)) :
    Calls Try.prog 20 #[.agg #[.int .i64 a0_0, .int .i64 a0_1, .int .i64 a0_2, .int .i64 a0_3, .int .i64 a0_4, .slice A0_5 l0_5.length c0_5]] w fun e w' => ∃ v5_ : Value, e = .returned (.agg #[.int .i64 r1, .int .i64 r2, .int .i64 r3, .int .i64 r4, .int .i64 r5, v5_]) ∧ Kd.R (Kd.int .i64) 3 w' w.heap.size (fun _ => True) v5_ r6 ∧ Below w.heap.size w w' := by
  have hu24 := Try.underlying24
  have HR0_5 := Aside0.mk hr0_5
  have HC0_5 := Aside0.mk hc0_5
  clear hr0_5 hc0_5
  have HB := Aside0.mk (Below.refl w.heap.size w)
  have H : ((plaitinglaw3_within.f a0_0 7).bind fun t40103 => ((plaitinglaw3_within.f a0_2 21).bind fun t40104 => ((plaitinglaw3_within.f a0_3 21).bind fun t40105 => ((plaitinglaw3_within.f a0_4 65536).bind fun t40106 => ((plaitinglaw3_within.f a0_4 3).bind fun t40108 => (if t40108 = 0 then ((plaitinglaw3_within.f a0_4 40).bind fun t40109 => (plaitinglaw3_Make.j0 k a0_0 a0_1 a0_2 a0_3 a0_4 l0_5 (wrap64 (6 + t40103)) 0 t40104 t40105 (wrap64 (65535 - t40109)))) else (plaitinglaw3_Make.j0 k a0_0 a0_1 a0_2 a0_3 a0_4 l0_5 (wrap64 (6 + t40103)) 0 t40104 t40105 t40106))))))) = some (r1, r2, r3, r4, r5, r6) := h
  clear h
  replace H := Option.bind_eq_some_iff.mp H
  obtain ⟨t40103, A20, H⟩ := H
  replace H : ((plaitinglaw3_within.f a0_2 21).bind fun t40104 => ((plaitinglaw3_within.f a0_3 21).bind fun t40105 => ((plaitinglaw3_within.f a0_4 65536).bind fun t40106 => ((plaitinglaw3_within.f a0_4 3).bind fun t40108 => (if t40108 = 0 then ((plaitinglaw3_within.f a0_4 40).bind fun t40109 => (plaitinglaw3_Make.j0 k a0_0 a0_1 a0_2 a0_3 a0_4 l0_5 (wrap64 (6 + t40103)) 0 t40104 t40105 (wrap64 (65535 - t40109)))) else (plaitinglaw3_Make.j0 k a0_0 a0_1 a0_2 a0_3 a0_4 l0_5 (wrap64 (6 + t40103)) 0 t40104 t40105 t40106)))))) = some (r1, r2, r3, r4, r5, r6) := H
  have A2 := Aside0.mk A20
  clear A20
  replace H := Option.bind_eq_some_iff.mp H
  obtain ⟨t40104, A30, H⟩ := H
  replace H : ((plaitinglaw3_within.f a0_3 21).bind fun t40105 => ((plaitinglaw3_within.f a0_4 65536).bind fun t40106 => ((plaitinglaw3_within.f a0_4 3).bind fun t40108 => (if t40108 = 0 then ((plaitinglaw3_within.f a0_4 40).bind fun t40109 => (plaitinglaw3_Make.j0 k a0_0 a0_1 a0_2 a0_3 a0_4 l0_5 (wrap64 (6 + t40103)) 0 t40104 t40105 (wrap64 (65535 - t40109)))) else (plaitinglaw3_Make.j0 k a0_0 a0_1 a0_2 a0_3 a0_4 l0_5 (wrap64 (6 + t40103)) 0 t40104 t40105 t40106))))) = some (r1, r2, r3, r4, r5, r6) := H
  have A3 := Aside0.mk A30
  clear A30
  replace H := Option.bind_eq_some_iff.mp H
  obtain ⟨t40105, A40, H⟩ := H
  replace H : ((plaitinglaw3_within.f a0_4 65536).bind fun t40106 => ((plaitinglaw3_within.f a0_4 3).bind fun t40108 => (if t40108 = 0 then ((plaitinglaw3_within.f a0_4 40).bind fun t40109 => (plaitinglaw3_Make.j0 k a0_0 a0_1 a0_2 a0_3 a0_4 l0_5 (wrap64 (6 + t40103)) 0 t40104 t40105 (wrap64 (65535 - t40109)))) else (plaitinglaw3_Make.j0 k a0_0 a0_1 a0_2 a0_3 a0_4 l0_5 (wrap64 (6 + t40103)) 0 t40104 t40105 t40106)))) = some (r1, r2, r3, r4, r5, r6) := H
  have A4 := Aside0.mk A40
  clear A40
  replace H := Option.bind_eq_some_iff.mp H
  obtain ⟨t40106, A50, H⟩ := H
  replace H : ((plaitinglaw3_within.f a0_4 3).bind fun t40108 => (if t40108 = 0 then ((plaitinglaw3_within.f a0_4 40).bind fun t40109 => (plaitinglaw3_Make.j0 k a0_0 a0_1 a0_2 a0_3 a0_4 l0_5 (wrap64 (6 + t40103)) 0 t40104 t40105 (wrap64 (65535 - t40109)))) else (plaitinglaw3_Make.j0 k a0_0 a0_1 a0_2 a0_3 a0_4 l0_5 (wrap64 (6 + t40103)) 0 t40104 t40105 t40106))) = some (r1, r2, r3, r4, r5, r6) := H
  have A5 := Aside0.mk A50
  clear A50
  replace H := Option.bind_eq_some_iff.mp H
  obtain ⟨t40108, A60, H⟩ := H
  replace H : (if t40108 = 0 then ((plaitinglaw3_within.f a0_4 40).bind fun t40109 => (plaitinglaw3_Make.j0 k a0_0 a0_1 a0_2 a0_3 a0_4 l0_5 (wrap64 (6 + t40103)) 0 t40104 t40105 (wrap64 (65535 - t40109)))) else (plaitinglaw3_Make.j0 k a0_0 a0_1 a0_2 a0_3 a0_4 l0_5 (wrap64 (6 + t40103)) 0 t40104 t40105 t40106)) = some (r1, r2, r3, r4, r5, r6) := H
  have A6 := Aside0.mk A60
  clear A60
  have HC7 := Aside0.mk H
  clear H
  go_enter Try.func20, Try.ntmps20
  try go_wp2_with (first | ((with_reducible refine gate_dst (N := 1) rfl ?_); refine box_event ?hg (N := 1) ?hd (cs := #[.int .i64 a0_0, .int .i64 a0_1, .int .i64 a0_2, .int .i64 a0_3, .int .i64 a0_4, .slice A0_5 l0_5.length c0_5]) (t := 24) ?hr ?_; (case hd => rfl); (case hg => rfl); (case hr => first | (go_simp; done) | (go_simp; rfl)); intro gb40101 hg w8 hbox hb; have BK40101 := Aside0.mk (hbox); have GW40101 := Aside0.mk ((by rw [hg]; exact (below_size (pH_ HB.out)) : w.heap.size ≤ gb40101)); have GE40101 := Aside0.mk ((by rw [hg]; exact (below_size (pH_ HB.out)) : w.heap.size ≤ gb40101)); replace HB := Aside0.mk (below_step (pH_ HB.out) hb); clear hb hbox hg) | ((with_reducible refine gate_dst (N := 2) rfl ?_); refine box_event ?hg (N := 2) ?hd (cs := #[.int .i64 0, .int .i64 0, .int .i64 0, .int .i64 0, .int .i64 0, .slice none 0 0]) (t := 24) ?hr ?_; (case hd => rfl); (case hg => rfl); (case hr => first | (go_simp; done) | (go_simp; rfl)); intro gb40102 hg w9 hbox hb; have BK40102 := Aside0.mk (hbox); have GW40102 := Aside0.mk ((by rw [hg]; exact (below_size (pH_ HB.out)) : w.heap.size ≤ gb40102)); have GE40102 := Aside0.mk ((by rw [hg]; exact (below_size (pH_ HB.out)) : w.heap.size ≤ gb40102)); have NB40101_40102 := Aside0.mk (ltB_ hg BK40101.out); have NB40102_40101 := Aside0.mk (ltB_ hg BK40101.out).symm; replace BK40101 := Aside0.mk (blk_below (pB_ BK40101.out) hb); replace HB := Aside0.mk (below_step (pH_ HB.out) hb); clear hb hbox hg))
  replace BK40101 := Aside0.mk (blk_drew BK40101.out)
  replace BK40102 := Aside0.mk (blk_drew BK40102.out)
  replace HB := Aside0.mk (below_drew1 HB.out)
  refine start_ (n := 16) (S := fun w' => w'.cell? ⟨gb40101, 0, none⟩ = some (.int .i64 a0_0) ∧ w'.cell? ⟨gb40101, 1, none⟩ = some (.int .i64 a0_1) ∧ w'.cell? ⟨gb40101, 2, none⟩ = some (.int .i64 a0_2) ∧ w'.cell? ⟨gb40101, 3, none⟩ = some (.int .i64 a0_3) ∧ w'.cell? ⟨gb40101, 4, none⟩ = some (.int .i64 a0_4) ∧ w'.cell? ⟨gb40101, 5, none⟩ = some (.slice A0_5 l0_5.length c0_5)) (ds := []) #[false, false, false, false, false, false, false, false, false, false, false, false, false, false, false, false] (by kernel_rfl) rfl rfl ⟨(blk_cell BK40101.out 0).trans rfl, (blk_cell BK40101.out 1).trans rfl, (blk_cell BK40101.out 2).trans rfl, (blk_cell BK40101.out 3).trans rfl, (blk_cell BK40101.out 4).trans rfl, (blk_cell BK40101.out 5).trans rfl⟩ (fun hHeld => ?_); refine with_tabW plaitinglaw3_Make.tab1 plaitinglaw3_Make.bits1 (fun HT_ HW_ => ?_)
  generalize w9.drew = w10 at BK40101 BK40102 HB hHeld ⊢
  refine pure_ (i := 0) (N := some 5) (v := ?_) (a' := ?_) #[true, false, false, false, false, false, false, false, false, false, false, false, false, false, false, false] rfl rfl (any_of HT_.out (by kernel_rfl)) (fun _ _ _ h => h) (Or.inl ⟨by rfl, ?_⟩) ?_ ?_
  rotate_left
  · intro w'
    go_simp
    with_reducible rfl
  rotate_left
  · simp only [Act.put, List.setIfInBounds_toArray, List.set_cons_zero, List.set_cons_succ, i64_w, i32_w]
    rfl
  refine pure_ (i := 4) (N := some 9) (v := ?_) (a' := ?_) #[true, false, false, false, true, false, false, false, false, false, false, false, false, false, false, false] rfl rfl (any_of HT_.out (by kernel_rfl)) (fun _ _ _ h => h) (Or.inl ⟨by rfl, ?_⟩) ?_ ?_
  rotate_left
  · intro w'
    go_simp
    with_reducible rfl
  rotate_left
  · simp only [Act.put, List.setIfInBounds_toArray, List.set_cons_zero, List.set_cons_succ, i64_w, i32_w]
    rfl
  refine pure_ (i := 7) (N := some 12) (v := ?_) (a' := ?_) #[true, false, false, false, true, false, false, true, false, false, false, false, false, false, false, false] rfl rfl (any_of HT_.out (by kernel_rfl)) (fun _ _ _ h => h) (Or.inl ⟨by rfl, ?_⟩) ?_ ?_
  rotate_left
  · intro w'
    go_simp
    with_reducible rfl
  rotate_left
  · simp only [Act.put, List.setIfInBounds_toArray, List.set_cons_zero, List.set_cons_succ, i64_w, i32_w]
    rfl
  refine pure_ (i := 10) (N := some 15) (v := ?_) (a' := ?_) #[true, false, false, false, true, false, false, true, false, false, true, false, false, false, false, false] rfl rfl (any_of HT_.out (by kernel_rfl)) (fun _ _ _ h => h) (Or.inl ⟨by rfl, ?_⟩) ?_ ?_
  rotate_left
  · intro w'
    go_simp
    with_reducible rfl
  rotate_left
  · simp only [Act.put, List.setIfInBounds_toArray, List.set_cons_zero, List.set_cons_succ, i64_w, i32_w]
    rfl
  refine take_ (i := 1) (N := some 6) (v := ?_) (a' := ?_) #[true, true, false, false, true, false, false, true, false, false, true, false, false, false, false, false] rfl rfl (take_ofW HT_.out HW_.out (by kernel_rfl)) (fun _ _ _ h => h) (Or.inl ⟨by rfl, ?_⟩) hHeld ?_ ?_
  rotate_left
  · rintro w' ⟨s0, s1, s2, s3, s4, s5⟩
    go_simp
    with_reducible rfl
  rotate_left
  · simp only [Act.put, List.setIfInBounds_toArray, List.set_cons_zero, List.set_cons_succ, i64_w, i32_w]
    rfl
  refine take_ (i := 5) (N := some 10) (v := ?_) (a' := ?_) #[true, true, false, false, true, true, false, true, false, false, true, false, false, false, false, false] rfl rfl (take_ofW HT_.out HW_.out (by kernel_rfl)) (fun _ _ _ h => h) (Or.inl ⟨by rfl, ?_⟩) hHeld ?_ ?_
  rotate_left
  · rintro w' ⟨s0, s1, s2, s3, s4, s5⟩
    go_simp
    with_reducible rfl
  rotate_left
  · simp only [Act.put, List.setIfInBounds_toArray, List.set_cons_zero, List.set_cons_succ, i64_w, i32_w]
    rfl
  refine take_ (i := 8) (N := some 13) (v := ?_) (a' := ?_) #[true, true, false, false, true, true, false, true, true, false, true, false, false, false, false, false] rfl rfl (take_ofW HT_.out HW_.out (by kernel_rfl)) (fun _ _ _ h => h) (Or.inl ⟨by rfl, ?_⟩) hHeld ?_ ?_
  rotate_left
  · rintro w' ⟨s0, s1, s2, s3, s4, s5⟩
    go_simp
    with_reducible rfl
  rotate_left
  · simp only [Act.put, List.setIfInBounds_toArray, List.set_cons_zero, List.set_cons_succ, i64_w, i32_w]
    rfl
  refine take_ (i := 11) (N := some 16) (v := ?_) (a' := ?_) #[true, true, false, false, true, true, false, true, true, false, true, true, false, false, false, false] rfl rfl (take_ofW HT_.out HW_.out (by kernel_rfl)) (fun _ _ _ h => h) (Or.inl ⟨by rfl, ?_⟩) hHeld ?_ ?_
  rotate_left
  · rintro w' ⟨s0, s1, s2, s3, s4, s5⟩
    go_simp
    with_reducible rfl
  rotate_left
  · simp only [Act.put, List.setIfInBounds_toArray, List.set_cons_zero, List.set_cons_succ, i64_w, i32_w]
    rfl
  refine join_ (σ := Nat) 1 #[true, true, true, true, true, true, true, true, true, true, true, true, true, true, true, false] (fun s_ => [(7, .int .i64 t40103), (11, .int .i64 t40104), (14, .int .i64 t40105), (17, .int .i64 t40106), (3, .pointer (some ⟨s_, 0, none⟩)), (8, .int .i64 (wrap64 (6 + t40103))), (18, .agg #[.int .i64 (wrap64 (6 + t40103)), .int .i64 0, .int .i64 t40104, .int .i64 t40105, .int .i64 t40106, .slice none 0 0])]) (fun s_ w' => (w'.cell? ⟨gb40101, 0, none⟩ = some (.int .i64 a0_0) ∧ w'.cell? ⟨gb40101, 1, none⟩ = some (.int .i64 a0_1) ∧ w'.cell? ⟨gb40101, 2, none⟩ = some (.int .i64 a0_2) ∧ w'.cell? ⟨gb40101, 3, none⟩ = some (.int .i64 a0_3) ∧ w'.cell? ⟨gb40101, 4, none⟩ = some (.int .i64 a0_4) ∧ w'.cell? ⟨gb40101, 5, none⟩ = some (.slice A0_5 l0_5.length c0_5)) ∧ (w'.heap[gb40101]? = some (.cells #[.int .i64 a0_0, .int .i64 a0_1, .int .i64 a0_2, .int .i64 a0_3, .int .i64 a0_4, .slice A0_5 l0_5.length c0_5] 24 (0, 0))) ∧ (w'.heap[gb40102]? = some (.cells #[.int .i64 0, .int .i64 0, .int .i64 0, .int .i64 0, .int .i64 0, .slice none 0 0] 24 (0, 0))) ∧ (w'.heap[s_]? = some (.cells #[.int .i64 0, .int .i64 0, .int .i64 0, .int .i64 0, .int .i64 0, .slice none 0 0] 24 (0, 0))) ∧ (w.heap.size ≤ s_) ∧ (w.heap.size ≤ s_) ∧ (gb40101 ≠ s_) ∧ (s_ ≠ gb40101) ∧ (gb40102 ≠ s_) ∧ (s_ ≠ gb40102) ∧ (Below w.heap.size w w')) ?_ ?_
  rotate_left
  · intro hJ2_6_9_12_14
    refine join_ (σ := Unit) 2 #[true, true, true, true, true, true, true, true, true, true, true, true, true, true, false, false] (fun s_ => [(7, .int .i64 t40103), (11, .int .i64 t40104), (14, .int .i64 t40105), (17, .int .i64 t40106), (8, .int .i64 (wrap64 (6 + t40103))), (18, .agg #[.int .i64 (wrap64 (6 + t40103)), .int .i64 0, .int .i64 t40104, .int .i64 t40105, .int .i64 t40106, .slice none 0 0])]) (fun s_ w' => (w'.cell? ⟨gb40101, 0, none⟩ = some (.int .i64 a0_0) ∧ w'.cell? ⟨gb40101, 1, none⟩ = some (.int .i64 a0_1) ∧ w'.cell? ⟨gb40101, 2, none⟩ = some (.int .i64 a0_2) ∧ w'.cell? ⟨gb40101, 3, none⟩ = some (.int .i64 a0_3) ∧ w'.cell? ⟨gb40101, 4, none⟩ = some (.int .i64 a0_4) ∧ w'.cell? ⟨gb40101, 5, none⟩ = some (.slice A0_5 l0_5.length c0_5)) ∧ (w'.heap[gb40101]? = some (.cells #[.int .i64 a0_0, .int .i64 a0_1, .int .i64 a0_2, .int .i64 a0_3, .int .i64 a0_4, .slice A0_5 l0_5.length c0_5] 24 (0, 0))) ∧ (w'.heap[gb40102]? = some (.cells #[.int .i64 0, .int .i64 0, .int .i64 0, .int .i64 0, .int .i64 0, .slice none 0 0] 24 (0, 0))) ∧ (Below w.heap.size w w')) ?_ ?_
    rotate_left
    · intro hJ2_6_9_12
      refine join_ (σ := Nat) 3 #[true, true, true, true, true, true, true, true, true, true, true, true, false, false, true, false] (fun s_ => [(7, .int .i64 t40103), (11, .int .i64 t40104), (14, .int .i64 t40105), (3, .pointer (some ⟨s_, 0, none⟩)), (8, .int .i64 (wrap64 (6 + t40103)))]) (fun s_ w' => (w'.cell? ⟨gb40101, 0, none⟩ = some (.int .i64 a0_0) ∧ w'.cell? ⟨gb40101, 1, none⟩ = some (.int .i64 a0_1) ∧ w'.cell? ⟨gb40101, 2, none⟩ = some (.int .i64 a0_2) ∧ w'.cell? ⟨gb40101, 3, none⟩ = some (.int .i64 a0_3) ∧ w'.cell? ⟨gb40101, 4, none⟩ = some (.int .i64 a0_4) ∧ w'.cell? ⟨gb40101, 5, none⟩ = some (.slice A0_5 l0_5.length c0_5)) ∧ (w'.heap[gb40101]? = some (.cells #[.int .i64 a0_0, .int .i64 a0_1, .int .i64 a0_2, .int .i64 a0_3, .int .i64 a0_4, .slice A0_5 l0_5.length c0_5] 24 (0, 0))) ∧ (w'.heap[gb40102]? = some (.cells #[.int .i64 0, .int .i64 0, .int .i64 0, .int .i64 0, .int .i64 0, .slice none 0 0] 24 (0, 0))) ∧ (w'.heap[s_]? = some (.cells #[.int .i64 0, .int .i64 0, .int .i64 0, .int .i64 0, .int .i64 0, .slice none 0 0] 24 (0, 0))) ∧ (w.heap.size ≤ s_) ∧ (w.heap.size ≤ s_) ∧ (gb40101 ≠ s_) ∧ (s_ ≠ gb40101) ∧ (gb40102 ≠ s_) ∧ (s_ ≠ gb40102) ∧ (Below w.heap.size w w')) ?_ ?_
      rotate_left
      · intro hJ2_6_9_14
        refine join_ (σ := Unit) 4 #[true, true, true, true, true, true, true, true, true, true, true, true, false, false, false, false] (fun s_ => [(7, .int .i64 t40103), (11, .int .i64 t40104), (14, .int .i64 t40105), (8, .int .i64 (wrap64 (6 + t40103)))]) (fun s_ w' => (w'.cell? ⟨gb40101, 0, none⟩ = some (.int .i64 a0_0) ∧ w'.cell? ⟨gb40101, 1, none⟩ = some (.int .i64 a0_1) ∧ w'.cell? ⟨gb40101, 2, none⟩ = some (.int .i64 a0_2) ∧ w'.cell? ⟨gb40101, 3, none⟩ = some (.int .i64 a0_3) ∧ w'.cell? ⟨gb40101, 4, none⟩ = some (.int .i64 a0_4) ∧ w'.cell? ⟨gb40101, 5, none⟩ = some (.slice A0_5 l0_5.length c0_5)) ∧ (w'.heap[gb40101]? = some (.cells #[.int .i64 a0_0, .int .i64 a0_1, .int .i64 a0_2, .int .i64 a0_3, .int .i64 a0_4, .slice A0_5 l0_5.length c0_5] 24 (0, 0))) ∧ (w'.heap[gb40102]? = some (.cells #[.int .i64 0, .int .i64 0, .int .i64 0, .int .i64 0, .int .i64 0, .slice none 0 0] 24 (0, 0))) ∧ (Below w.heap.size w w')) ?_ ?_
        rotate_left
        · intro hJ2_6_9
          refine join_ (σ := Nat) 4 #[true, true, true, true, true, true, true, true, true, false, true, true, false, false, true, false] (fun s_ => [(7, .int .i64 t40103), (11, .int .i64 t40104), (3, .pointer (some ⟨s_, 0, none⟩)), (8, .int .i64 (wrap64 (6 + t40103)))]) (fun s_ w' => (w'.cell? ⟨gb40101, 0, none⟩ = some (.int .i64 a0_0) ∧ w'.cell? ⟨gb40101, 1, none⟩ = some (.int .i64 a0_1) ∧ w'.cell? ⟨gb40101, 2, none⟩ = some (.int .i64 a0_2) ∧ w'.cell? ⟨gb40101, 3, none⟩ = some (.int .i64 a0_3) ∧ w'.cell? ⟨gb40101, 4, none⟩ = some (.int .i64 a0_4) ∧ w'.cell? ⟨gb40101, 5, none⟩ = some (.slice A0_5 l0_5.length c0_5)) ∧ (w'.heap[gb40101]? = some (.cells #[.int .i64 a0_0, .int .i64 a0_1, .int .i64 a0_2, .int .i64 a0_3, .int .i64 a0_4, .slice A0_5 l0_5.length c0_5] 24 (0, 0))) ∧ (w'.heap[gb40102]? = some (.cells #[.int .i64 0, .int .i64 0, .int .i64 0, .int .i64 0, .int .i64 0, .slice none 0 0] 24 (0, 0))) ∧ (w'.heap[s_]? = some (.cells #[.int .i64 0, .int .i64 0, .int .i64 0, .int .i64 0, .int .i64 0, .slice none 0 0] 24 (0, 0))) ∧ (w.heap.size ≤ s_) ∧ (w.heap.size ≤ s_) ∧ (gb40101 ≠ s_) ∧ (s_ ≠ gb40101) ∧ (gb40102 ≠ s_) ∧ (s_ ≠ gb40102) ∧ (Below w.heap.size w w')) ?_ ?_
          rotate_left
          · intro hJ2_6_14
            refine join_ (σ := Unit) 5 #[true, true, true, true, true, true, true, true, true, false, true, true, false, false, false, false] (fun s_ => [(7, .int .i64 t40103), (11, .int .i64 t40104), (8, .int .i64 (wrap64 (6 + t40103)))]) (fun s_ w' => (w'.cell? ⟨gb40101, 0, none⟩ = some (.int .i64 a0_0) ∧ w'.cell? ⟨gb40101, 1, none⟩ = some (.int .i64 a0_1) ∧ w'.cell? ⟨gb40101, 2, none⟩ = some (.int .i64 a0_2) ∧ w'.cell? ⟨gb40101, 3, none⟩ = some (.int .i64 a0_3) ∧ w'.cell? ⟨gb40101, 4, none⟩ = some (.int .i64 a0_4) ∧ w'.cell? ⟨gb40101, 5, none⟩ = some (.slice A0_5 l0_5.length c0_5)) ∧ (w'.heap[gb40101]? = some (.cells #[.int .i64 a0_0, .int .i64 a0_1, .int .i64 a0_2, .int .i64 a0_3, .int .i64 a0_4, .slice A0_5 l0_5.length c0_5] 24 (0, 0))) ∧ (w'.heap[gb40102]? = some (.cells #[.int .i64 0, .int .i64 0, .int .i64 0, .int .i64 0, .int .i64 0, .slice none 0 0] 24 (0, 0))) ∧ (Below w.heap.size w w')) ?_ ?_
            rotate_left
            · intro hJ2_6
              refine join_ (σ := Nat) 5 #[true, true, true, true, true, true, false, true, true, false, true, true, false, false, true, false] (fun s_ => [(7, .int .i64 t40103), (3, .pointer (some ⟨s_, 0, none⟩)), (8, .int .i64 (wrap64 (6 + t40103)))]) (fun s_ w' => (w'.cell? ⟨gb40101, 0, none⟩ = some (.int .i64 a0_0) ∧ w'.cell? ⟨gb40101, 1, none⟩ = some (.int .i64 a0_1) ∧ w'.cell? ⟨gb40101, 2, none⟩ = some (.int .i64 a0_2) ∧ w'.cell? ⟨gb40101, 3, none⟩ = some (.int .i64 a0_3) ∧ w'.cell? ⟨gb40101, 4, none⟩ = some (.int .i64 a0_4) ∧ w'.cell? ⟨gb40101, 5, none⟩ = some (.slice A0_5 l0_5.length c0_5)) ∧ (w'.heap[gb40101]? = some (.cells #[.int .i64 a0_0, .int .i64 a0_1, .int .i64 a0_2, .int .i64 a0_3, .int .i64 a0_4, .slice A0_5 l0_5.length c0_5] 24 (0, 0))) ∧ (w'.heap[gb40102]? = some (.cells #[.int .i64 0, .int .i64 0, .int .i64 0, .int .i64 0, .int .i64 0, .slice none 0 0] 24 (0, 0))) ∧ (w'.heap[s_]? = some (.cells #[.int .i64 0, .int .i64 0, .int .i64 0, .int .i64 0, .int .i64 0, .slice none 0 0] 24 (0, 0))) ∧ (w.heap.size ≤ s_) ∧ (w.heap.size ≤ s_) ∧ (gb40101 ≠ s_) ∧ (s_ ≠ gb40101) ∧ (gb40102 ≠ s_) ∧ (s_ ≠ gb40102) ∧ (Below w.heap.size w w')) ?_ ?_
              rotate_left
              · intro hJ2_14
                refine join_ (σ := Unit) 6 #[true, true, true, true, true, true, false, true, true, false, true, true, false, false, false, false] (fun s_ => [(7, .int .i64 t40103), (8, .int .i64 (wrap64 (6 + t40103)))]) (fun s_ w' => (w'.cell? ⟨gb40101, 0, none⟩ = some (.int .i64 a0_0) ∧ w'.cell? ⟨gb40101, 1, none⟩ = some (.int .i64 a0_1) ∧ w'.cell? ⟨gb40101, 2, none⟩ = some (.int .i64 a0_2) ∧ w'.cell? ⟨gb40101, 3, none⟩ = some (.int .i64 a0_3) ∧ w'.cell? ⟨gb40101, 4, none⟩ = some (.int .i64 a0_4) ∧ w'.cell? ⟨gb40101, 5, none⟩ = some (.slice A0_5 l0_5.length c0_5)) ∧ (w'.heap[gb40101]? = some (.cells #[.int .i64 a0_0, .int .i64 a0_1, .int .i64 a0_2, .int .i64 a0_3, .int .i64 a0_4, .slice A0_5 l0_5.length c0_5] 24 (0, 0))) ∧ (w'.heap[gb40102]? = some (.cells #[.int .i64 0, .int .i64 0, .int .i64 0, .int .i64 0, .int .i64 0, .slice none 0 0] 24 (0, 0))) ∧ (Below w.heap.size w w')) ?_ ?_
                rotate_left
                · intro hJ2
                  refine join_ (σ := Nat) 7 #[true, true, false, false, true, true, false, true, true, false, true, true, false, false, true, false] (fun s_ => [(3, .pointer (some ⟨s_, 0, none⟩))]) (fun s_ w' => (w'.cell? ⟨gb40101, 0, none⟩ = some (.int .i64 a0_0) ∧ w'.cell? ⟨gb40101, 1, none⟩ = some (.int .i64 a0_1) ∧ w'.cell? ⟨gb40101, 2, none⟩ = some (.int .i64 a0_2) ∧ w'.cell? ⟨gb40101, 3, none⟩ = some (.int .i64 a0_3) ∧ w'.cell? ⟨gb40101, 4, none⟩ = some (.int .i64 a0_4) ∧ w'.cell? ⟨gb40101, 5, none⟩ = some (.slice A0_5 l0_5.length c0_5)) ∧ (w'.heap[gb40101]? = some (.cells #[.int .i64 a0_0, .int .i64 a0_1, .int .i64 a0_2, .int .i64 a0_3, .int .i64 a0_4, .slice A0_5 l0_5.length c0_5] 24 (0, 0))) ∧ (w'.heap[gb40102]? = some (.cells #[.int .i64 0, .int .i64 0, .int .i64 0, .int .i64 0, .int .i64 0, .slice none 0 0] 24 (0, 0))) ∧ (w'.heap[s_]? = some (.cells #[.int .i64 0, .int .i64 0, .int .i64 0, .int .i64 0, .int .i64 0, .slice none 0 0] 24 (0, 0))) ∧ (w.heap.size ≤ s_) ∧ (w.heap.size ≤ s_) ∧ (gb40101 ≠ s_) ∧ (s_ ≠ gb40101) ∧ (gb40102 ≠ s_) ∧ (s_ ≠ gb40102) ∧ (Below w.heap.size w w')) ?_ ?_
                  rotate_left
                  · intro hJ14
                    refine two_ (i := 2) (j := 14) (Ni := some 7) (Nj := some 3) #[true, true, true, false, true, true, false, true, true, false, true, true, false, false, false, false] #[true, true, false, false, true, true, false, true, true, false, true, true, false, false, true, false] rfl rfl rfl rfl (two_of HT_.out (by kernel_rfl)) (by decide) (by decide) (fun K hK => ?_) (fun K hK => ?_)
                    · skip
                      refine goes_ Try.func45 (by kernel_rfl) rfl #[.int .i64 a0_0, .int .i64 7] (by rfl) rfl rfl (by (try simp only [List.map_toArray, List.map_cons, List.map_nil]); first | done | rfl | (simp only [List.length_drop, List.length_take]; rfl)) ?_
                      with_reducible refine (plaitinglaw3_within.calls a0_0 7 t40103 _ A2.out).mono ?_
                      rintro e w' ⟨rfl, ⟨nd, rfl⟩⟩
                      refine ⟨_, rfl, ?_⟩
                      refine hK.out _ _ ⟨(blk_cell BK40101.out 0).trans rfl, (blk_cell BK40101.out 1).trans rfl, (blk_cell BK40101.out 2).trans rfl, (blk_cell BK40101.out 3).trans rfl, (blk_cell BK40101.out 4).trans rfl, (blk_cell BK40101.out 5).trans rfl⟩ (fun hHeld => ?_)
                      clear hK K
                      refine norm_ (a' := ?_) ?_ ?_
                      rotate_left
                      · show Act.put _ (some 7) _ = _
                        simp only [Act.put, List.setIfInBounds_toArray, List.set_cons_zero, List.set_cons_succ, i64_w, i32_w]
                        rfl
                      refine pure_ (i := 3) (N := some 8) (v := ?_) (a' := ?_) #[true, true, true, true, true, true, false, true, true, false, true, true, false, false, false, false] rfl rfl (any_of HT_.out (by kernel_rfl)) (fun _ _ _ h => h) (Or.inl ⟨by rfl, ?_⟩) ?_ ?_
                      rotate_left
                      · intro w'
                        go_simp
                        with_reducible rfl
                      rotate_left
                      · simp only [Act.put, List.setIfInBounds_toArray, List.set_cons_zero, List.set_cons_succ, i64_w, i32_w]
                        rfl
                      exact norm2_ (hJ2 () _ ⟨hHeld, (pB_ BK40101.out), (pB_ BK40102.out), (pH_ HB.out)⟩)
                    skip
                    refine box_step ?hg (N := 3) ?hd (cs := #[.int .i64 0, .int .i64 0, .int .i64 0, .int .i64 0, .int .i64 0, .slice none 0 0]) (t := 24) ?hr ?_; (case hd => rfl); (case hg => rfl); (case hr => first | (go_simp; done) | (go_simp; rfl))
                    intro gb40107 hg w11 hbox hb
                    have BK40107 := Aside0.mk (hbox)
                    have GW40107 := Aside0.mk ((by rw [hg]; exact (below_size (pH_ HB.out)) : w.heap.size ≤ gb40107))
                    have GE40107 := Aside0.mk ((by rw [hg]; exact (below_size (pH_ HB.out)) : w.heap.size ≤ gb40107))
                    have NB40101_40107 := Aside0.mk (ltB_ hg BK40101.out)
                    have NB40107_40101 := Aside0.mk (ltB_ hg BK40101.out).symm
                    have NB40102_40107 := Aside0.mk (ltB_ hg BK40102.out)
                    have NB40107_40102 := Aside0.mk (ltB_ hg BK40102.out).symm
                    replace BK40101 := Aside0.mk (blk_below (pB_ BK40101.out) hb)
                    replace BK40102 := Aside0.mk (blk_below (pB_ BK40102.out) hb)
                    replace HB := Aside0.mk (below_step (pH_ HB.out) hb)
                    clear hb hbox hg
                    refine hK.out _ _ ⟨(blk_cell BK40101.out 0).trans rfl, (blk_cell BK40101.out 1).trans rfl, (blk_cell BK40101.out 2).trans rfl, (blk_cell BK40101.out 3).trans rfl, (blk_cell BK40101.out 4).trans rfl, (blk_cell BK40101.out 5).trans rfl⟩ (fun hHeld => ?_)
                    clear hK K
                    refine norm_ (a' := ?_) ?_ ?_
                    rotate_left
                    · show Act.put _ (some 3) _ = _
                      simp only [Act.put, List.setIfInBounds_toArray, List.set_cons_zero, List.set_cons_succ, i64_w, i32_w]
                      rfl
                    exact norm2_ (hJ14 (gb40107) _ ⟨hHeld, (pB_ BK40101.out), (pB_ BK40102.out), (pB_ BK40107.out), GW40107.out, GE40107.out, NB40101_40107.out, NB40107_40101.out, NB40102_40107.out, NB40107_40102.out, (pH_ HB.out)⟩)
                  skip
                  rintro gb40107 w12 ⟨hS_, h0_, h1_, h2_, h3_, h4_, h5_, h6_, h7_, h8_, h9_⟩
                  have n0_ : Aside0 (w12.heap[gb40101]? = some (.cells #[.int .i64 a0_0, .int .i64 a0_1, .int .i64 a0_2, .int .i64 a0_3, .int .i64 a0_4, .slice A0_5 l0_5.length c0_5] 24 (0, 0))) := ⟨h0_⟩
                  have n1_ : Aside0 (w12.heap[gb40102]? = some (.cells #[.int .i64 0, .int .i64 0, .int .i64 0, .int .i64 0, .int .i64 0, .slice none 0 0] 24 (0, 0))) := ⟨h1_⟩
                  have n2_ : Aside0 (w12.heap[gb40107]? = some (.cells #[.int .i64 0, .int .i64 0, .int .i64 0, .int .i64 0, .int .i64 0, .slice none 0 0] 24 (0, 0))) := ⟨h2_⟩
                  have n3_ : Aside0 (w.heap.size ≤ gb40107) := ⟨h3_⟩
                  have n4_ : Aside0 (w.heap.size ≤ gb40107) := ⟨h4_⟩
                  have n5_ : Aside0 (gb40101 ≠ gb40107) := ⟨h5_⟩
                  have n6_ : Aside0 (gb40107 ≠ gb40101) := ⟨h6_⟩
                  have n7_ : Aside0 (gb40102 ≠ gb40107) := ⟨h7_⟩
                  have n8_ : Aside0 (gb40107 ≠ gb40102) := ⟨h8_⟩
                  have n9_ : Aside0 (Below w.heap.size w w12) := ⟨h9_⟩
                  clear BK40101
                  clear BK40102
                  clear HB
                  clear h0_ h1_ h2_ h3_ h4_ h5_ h6_ h7_ h8_ h9_
                  have BK40101 := n0_
                  have BK40102 := n1_
                  have BK40107 := n2_
                  have GW40107 := n3_
                  have GE40107 := n4_
                  have NB40101_40107 := n5_
                  have NB40107_40101 := n6_
                  have NB40102_40107 := n7_
                  have NB40107_40102 := n8_
                  have HB := n9_
                  clear n0_ n1_ n2_ n3_ n4_ n5_ n6_ n7_ n8_ n9_
                  have hHeld : w12.cell? ⟨gb40101, 0, none⟩ = some (.int .i64 a0_0) ∧ w12.cell? ⟨gb40101, 1, none⟩ = some (.int .i64 a0_1) ∧ w12.cell? ⟨gb40101, 2, none⟩ = some (.int .i64 a0_2) ∧ w12.cell? ⟨gb40101, 3, none⟩ = some (.int .i64 a0_3) ∧ w12.cell? ⟨gb40101, 4, none⟩ = some (.int .i64 a0_4) ∧ w12.cell? ⟨gb40101, 5, none⟩ = some (.slice A0_5 l0_5.length c0_5) := hS_
                  refine norm_ (a' := ?_) ?_ ?_
                  rotate_left
                  · simp only [putAll, Act.put, List.setIfInBounds_toArray, List.set_cons_zero, List.set_cons_succ]
                    rfl
                  refine one_ (i := 2) (N := some 7) #[true, true, true, false, true, true, false, true, true, false, true, true, false, false, true, false] rfl rfl (one_of HT_.out (by kernel_rfl)) (by decide) (fun K hK => ?_)
                  refine goes_ Try.func45 (by kernel_rfl) rfl #[.int .i64 a0_0, .int .i64 7] (by rfl) rfl rfl (by (try simp only [List.map_toArray, List.map_cons, List.map_nil]); first | done | rfl | (simp only [List.length_drop, List.length_take]; rfl)) ?_
                  with_reducible refine (plaitinglaw3_within.calls a0_0 7 t40103 _ A2.out).mono ?_
                  rintro e w' ⟨rfl, ⟨nd, rfl⟩⟩
                  refine ⟨_, rfl, ?_⟩
                  refine hK.out _ _ ⟨(blk_cell BK40101.out 0).trans rfl, (blk_cell BK40101.out 1).trans rfl, (blk_cell BK40101.out 2).trans rfl, (blk_cell BK40101.out 3).trans rfl, (blk_cell BK40101.out 4).trans rfl, (blk_cell BK40101.out 5).trans rfl⟩ (fun hHeld => ?_)
                  clear hK K
                  refine norm_ (a' := ?_) ?_ ?_
                  rotate_left
                  · show Act.put _ (some 7) _ = _
                    simp only [Act.put, List.setIfInBounds_toArray, List.set_cons_zero, List.set_cons_succ, i64_w, i32_w]
                    rfl
                  refine pure_ (i := 3) (N := some 8) (v := ?_) (a' := ?_) #[true, true, true, true, true, true, false, true, true, false, true, true, false, false, true, false] rfl rfl (any_of HT_.out (by kernel_rfl)) (fun _ _ _ h => h) (Or.inl ⟨by rfl, ?_⟩) ?_ ?_
                  rotate_left
                  · intro w'
                    go_simp
                    with_reducible rfl
                  rotate_left
                  · simp only [Act.put, List.setIfInBounds_toArray, List.set_cons_zero, List.set_cons_succ, i64_w, i32_w]
                    rfl
                  exact norm2_ (hJ2_14 (gb40107) _ ⟨hHeld, (pB_ BK40101.out), (pB_ BK40102.out), (pB_ BK40107.out), GW40107.out, GE40107.out, NB40101_40107.out, NB40107_40101.out, NB40102_40107.out, NB40107_40102.out, (pH_ HB.out)⟩)
                skip
                rintro _ w11 ⟨hS_, h0_, h1_, h2_⟩
                have n0_ : Aside0 (w11.heap[gb40101]? = some (.cells #[.int .i64 a0_0, .int .i64 a0_1, .int .i64 a0_2, .int .i64 a0_3, .int .i64 a0_4, .slice A0_5 l0_5.length c0_5] 24 (0, 0))) := ⟨h0_⟩
                have n1_ : Aside0 (w11.heap[gb40102]? = some (.cells #[.int .i64 0, .int .i64 0, .int .i64 0, .int .i64 0, .int .i64 0, .slice none 0 0] 24 (0, 0))) := ⟨h1_⟩
                have n2_ : Aside0 (Below w.heap.size w w11) := ⟨h2_⟩
                clear BK40101
                clear BK40102
                clear HB
                clear h0_ h1_ h2_
                have BK40101 := n0_
                have BK40102 := n1_
                have HB := n2_
                clear n0_ n1_ n2_
                have hHeld : w11.cell? ⟨gb40101, 0, none⟩ = some (.int .i64 a0_0) ∧ w11.cell? ⟨gb40101, 1, none⟩ = some (.int .i64 a0_1) ∧ w11.cell? ⟨gb40101, 2, none⟩ = some (.int .i64 a0_2) ∧ w11.cell? ⟨gb40101, 3, none⟩ = some (.int .i64 a0_3) ∧ w11.cell? ⟨gb40101, 4, none⟩ = some (.int .i64 a0_4) ∧ w11.cell? ⟨gb40101, 5, none⟩ = some (.slice A0_5 l0_5.length c0_5) := hS_
                refine norm_ (a' := ?_) ?_ ?_
                rotate_left
                · simp only [putAll, Act.put, List.setIfInBounds_toArray, List.set_cons_zero, List.set_cons_succ]
                  rfl
                refine two_ (i := 6) (j := 14) (Ni := some 11) (Nj := some 3) #[true, true, true, true, true, true, true, true, true, false, true, true, false, false, false, false] #[true, true, true, true, true, true, false, true, true, false, true, true, false, false, true, false] rfl rfl rfl rfl (two_of HT_.out (by kernel_rfl)) (by decide) (by decide) (fun K hK => ?_) (fun K hK => ?_)
                · skip
                  refine goes_ Try.func45 (by kernel_rfl) rfl #[.int .i64 a0_2, .int .i64 21] (by rfl) rfl rfl (by (try simp only [List.map_toArray, List.map_cons, List.map_nil]); first | done | rfl | (simp only [List.length_drop, List.length_take]; rfl)) ?_
                  with_reducible refine (plaitinglaw3_within.calls a0_2 21 t40104 _ A3.out).mono ?_
                  rintro e w' ⟨rfl, ⟨nd, rfl⟩⟩
                  refine ⟨_, rfl, ?_⟩
                  refine hK.out _ _ ⟨(blk_cell BK40101.out 0).trans rfl, (blk_cell BK40101.out 1).trans rfl, (blk_cell BK40101.out 2).trans rfl, (blk_cell BK40101.out 3).trans rfl, (blk_cell BK40101.out 4).trans rfl, (blk_cell BK40101.out 5).trans rfl⟩ (fun hHeld => ?_)
                  clear hK K
                  refine norm_ (a' := ?_) ?_ ?_
                  rotate_left
                  · show Act.put _ (some 11) _ = _
                    simp only [Act.put, List.setIfInBounds_toArray, List.set_cons_zero, List.set_cons_succ, i64_w, i32_w]
                    rfl
                  exact norm2_ (hJ2_6 () _ ⟨hHeld, (pB_ BK40101.out), (pB_ BK40102.out), (pH_ HB.out)⟩)
                skip
                refine box_step ?hg (N := 3) ?hd (cs := #[.int .i64 0, .int .i64 0, .int .i64 0, .int .i64 0, .int .i64 0, .slice none 0 0]) (t := 24) ?hr ?_; (case hd => rfl); (case hg => rfl); (case hr => first | (go_simp; done) | (go_simp; rfl))
                intro gb40107 hg w12 hbox hb
                have BK40107 := Aside0.mk (hbox)
                have GW40107 := Aside0.mk ((by rw [hg]; exact (below_size (pH_ HB.out)) : w.heap.size ≤ gb40107))
                have GE40107 := Aside0.mk ((by rw [hg]; exact (below_size (pH_ HB.out)) : w.heap.size ≤ gb40107))
                have NB40101_40107 := Aside0.mk (ltB_ hg BK40101.out)
                have NB40107_40101 := Aside0.mk (ltB_ hg BK40101.out).symm
                have NB40102_40107 := Aside0.mk (ltB_ hg BK40102.out)
                have NB40107_40102 := Aside0.mk (ltB_ hg BK40102.out).symm
                replace BK40101 := Aside0.mk (blk_below (pB_ BK40101.out) hb)
                replace BK40102 := Aside0.mk (blk_below (pB_ BK40102.out) hb)
                replace HB := Aside0.mk (below_step (pH_ HB.out) hb)
                clear hb hbox hg
                refine hK.out _ _ ⟨(blk_cell BK40101.out 0).trans rfl, (blk_cell BK40101.out 1).trans rfl, (blk_cell BK40101.out 2).trans rfl, (blk_cell BK40101.out 3).trans rfl, (blk_cell BK40101.out 4).trans rfl, (blk_cell BK40101.out 5).trans rfl⟩ (fun hHeld => ?_)
                clear hK K
                refine norm_ (a' := ?_) ?_ ?_
                rotate_left
                · show Act.put _ (some 3) _ = _
                  simp only [Act.put, List.setIfInBounds_toArray, List.set_cons_zero, List.set_cons_succ, i64_w, i32_w]
                  rfl
                exact norm2_ (hJ2_14 (gb40107) _ ⟨hHeld, (pB_ BK40101.out), (pB_ BK40102.out), (pB_ BK40107.out), GW40107.out, GE40107.out, NB40101_40107.out, NB40107_40101.out, NB40102_40107.out, NB40107_40102.out, (pH_ HB.out)⟩)
              skip
              rintro gb40107 w12 ⟨hS_, h0_, h1_, h2_, h3_, h4_, h5_, h6_, h7_, h8_, h9_⟩
              have n0_ : Aside0 (w12.heap[gb40101]? = some (.cells #[.int .i64 a0_0, .int .i64 a0_1, .int .i64 a0_2, .int .i64 a0_3, .int .i64 a0_4, .slice A0_5 l0_5.length c0_5] 24 (0, 0))) := ⟨h0_⟩
              have n1_ : Aside0 (w12.heap[gb40102]? = some (.cells #[.int .i64 0, .int .i64 0, .int .i64 0, .int .i64 0, .int .i64 0, .slice none 0 0] 24 (0, 0))) := ⟨h1_⟩
              have n2_ : Aside0 (w12.heap[gb40107]? = some (.cells #[.int .i64 0, .int .i64 0, .int .i64 0, .int .i64 0, .int .i64 0, .slice none 0 0] 24 (0, 0))) := ⟨h2_⟩
              have n3_ : Aside0 (w.heap.size ≤ gb40107) := ⟨h3_⟩
              have n4_ : Aside0 (w.heap.size ≤ gb40107) := ⟨h4_⟩
              have n5_ : Aside0 (gb40101 ≠ gb40107) := ⟨h5_⟩
              have n6_ : Aside0 (gb40107 ≠ gb40101) := ⟨h6_⟩
              have n7_ : Aside0 (gb40102 ≠ gb40107) := ⟨h7_⟩
              have n8_ : Aside0 (gb40107 ≠ gb40102) := ⟨h8_⟩
              have n9_ : Aside0 (Below w.heap.size w w12) := ⟨h9_⟩
              clear BK40101
              clear BK40102
              clear HB
              clear h0_ h1_ h2_ h3_ h4_ h5_ h6_ h7_ h8_ h9_
              have BK40101 := n0_
              have BK40102 := n1_
              have BK40107 := n2_
              have GW40107 := n3_
              have GE40107 := n4_
              have NB40101_40107 := n5_
              have NB40107_40101 := n6_
              have NB40102_40107 := n7_
              have NB40107_40102 := n8_
              have HB := n9_
              clear n0_ n1_ n2_ n3_ n4_ n5_ n6_ n7_ n8_ n9_
              have hHeld : w12.cell? ⟨gb40101, 0, none⟩ = some (.int .i64 a0_0) ∧ w12.cell? ⟨gb40101, 1, none⟩ = some (.int .i64 a0_1) ∧ w12.cell? ⟨gb40101, 2, none⟩ = some (.int .i64 a0_2) ∧ w12.cell? ⟨gb40101, 3, none⟩ = some (.int .i64 a0_3) ∧ w12.cell? ⟨gb40101, 4, none⟩ = some (.int .i64 a0_4) ∧ w12.cell? ⟨gb40101, 5, none⟩ = some (.slice A0_5 l0_5.length c0_5) := hS_
              refine norm_ (a' := ?_) ?_ ?_
              rotate_left
              · simp only [putAll, Act.put, List.setIfInBounds_toArray, List.set_cons_zero, List.set_cons_succ]
                rfl
              refine one_ (i := 6) (N := some 11) #[true, true, true, true, true, true, true, true, true, false, true, true, false, false, true, false] rfl rfl (one_of HT_.out (by kernel_rfl)) (by decide) (fun K hK => ?_)
              refine goes_ Try.func45 (by kernel_rfl) rfl #[.int .i64 a0_2, .int .i64 21] (by rfl) rfl rfl (by (try simp only [List.map_toArray, List.map_cons, List.map_nil]); first | done | rfl | (simp only [List.length_drop, List.length_take]; rfl)) ?_
              with_reducible refine (plaitinglaw3_within.calls a0_2 21 t40104 _ A3.out).mono ?_
              rintro e w' ⟨rfl, ⟨nd, rfl⟩⟩
              refine ⟨_, rfl, ?_⟩
              refine hK.out _ _ ⟨(blk_cell BK40101.out 0).trans rfl, (blk_cell BK40101.out 1).trans rfl, (blk_cell BK40101.out 2).trans rfl, (blk_cell BK40101.out 3).trans rfl, (blk_cell BK40101.out 4).trans rfl, (blk_cell BK40101.out 5).trans rfl⟩ (fun hHeld => ?_)
              clear hK K
              refine norm_ (a' := ?_) ?_ ?_
              rotate_left
              · show Act.put _ (some 11) _ = _
                simp only [Act.put, List.setIfInBounds_toArray, List.set_cons_zero, List.set_cons_succ, i64_w, i32_w]
                rfl
              exact norm2_ (hJ2_6_14 (gb40107) _ ⟨hHeld, (pB_ BK40101.out), (pB_ BK40102.out), (pB_ BK40107.out), GW40107.out, GE40107.out, NB40101_40107.out, NB40107_40101.out, NB40102_40107.out, NB40107_40102.out, (pH_ HB.out)⟩)
            skip
            rintro _ w11 ⟨hS_, h0_, h1_, h2_⟩
            have n0_ : Aside0 (w11.heap[gb40101]? = some (.cells #[.int .i64 a0_0, .int .i64 a0_1, .int .i64 a0_2, .int .i64 a0_3, .int .i64 a0_4, .slice A0_5 l0_5.length c0_5] 24 (0, 0))) := ⟨h0_⟩
            have n1_ : Aside0 (w11.heap[gb40102]? = some (.cells #[.int .i64 0, .int .i64 0, .int .i64 0, .int .i64 0, .int .i64 0, .slice none 0 0] 24 (0, 0))) := ⟨h1_⟩
            have n2_ : Aside0 (Below w.heap.size w w11) := ⟨h2_⟩
            clear BK40101
            clear BK40102
            clear HB
            clear h0_ h1_ h2_
            have BK40101 := n0_
            have BK40102 := n1_
            have HB := n2_
            clear n0_ n1_ n2_
            have hHeld : w11.cell? ⟨gb40101, 0, none⟩ = some (.int .i64 a0_0) ∧ w11.cell? ⟨gb40101, 1, none⟩ = some (.int .i64 a0_1) ∧ w11.cell? ⟨gb40101, 2, none⟩ = some (.int .i64 a0_2) ∧ w11.cell? ⟨gb40101, 3, none⟩ = some (.int .i64 a0_3) ∧ w11.cell? ⟨gb40101, 4, none⟩ = some (.int .i64 a0_4) ∧ w11.cell? ⟨gb40101, 5, none⟩ = some (.slice A0_5 l0_5.length c0_5) := hS_
            refine norm_ (a' := ?_) ?_ ?_
            rotate_left
            · simp only [putAll, Act.put, List.setIfInBounds_toArray, List.set_cons_zero, List.set_cons_succ]
              rfl
            refine two_ (i := 9) (j := 14) (Ni := some 14) (Nj := some 3) #[true, true, true, true, true, true, true, true, true, true, true, true, false, false, false, false] #[true, true, true, true, true, true, true, true, true, false, true, true, false, false, true, false] rfl rfl rfl rfl (two_of HT_.out (by kernel_rfl)) (by decide) (by decide) (fun K hK => ?_) (fun K hK => ?_)
            · skip
              refine goes_ Try.func45 (by kernel_rfl) rfl #[.int .i64 a0_3, .int .i64 21] (by rfl) rfl rfl (by (try simp only [List.map_toArray, List.map_cons, List.map_nil]); first | done | rfl | (simp only [List.length_drop, List.length_take]; rfl)) ?_
              with_reducible refine (plaitinglaw3_within.calls a0_3 21 t40105 _ A4.out).mono ?_
              rintro e w' ⟨rfl, ⟨nd, rfl⟩⟩
              refine ⟨_, rfl, ?_⟩
              refine hK.out _ _ ⟨(blk_cell BK40101.out 0).trans rfl, (blk_cell BK40101.out 1).trans rfl, (blk_cell BK40101.out 2).trans rfl, (blk_cell BK40101.out 3).trans rfl, (blk_cell BK40101.out 4).trans rfl, (blk_cell BK40101.out 5).trans rfl⟩ (fun hHeld => ?_)
              clear hK K
              refine norm_ (a' := ?_) ?_ ?_
              rotate_left
              · show Act.put _ (some 14) _ = _
                simp only [Act.put, List.setIfInBounds_toArray, List.set_cons_zero, List.set_cons_succ, i64_w, i32_w]
                rfl
              exact norm2_ (hJ2_6_9 () _ ⟨hHeld, (pB_ BK40101.out), (pB_ BK40102.out), (pH_ HB.out)⟩)
            skip
            refine box_step ?hg (N := 3) ?hd (cs := #[.int .i64 0, .int .i64 0, .int .i64 0, .int .i64 0, .int .i64 0, .slice none 0 0]) (t := 24) ?hr ?_; (case hd => rfl); (case hg => rfl); (case hr => first | (go_simp; done) | (go_simp; rfl))
            intro gb40107 hg w12 hbox hb
            have BK40107 := Aside0.mk (hbox)
            have GW40107 := Aside0.mk ((by rw [hg]; exact (below_size (pH_ HB.out)) : w.heap.size ≤ gb40107))
            have GE40107 := Aside0.mk ((by rw [hg]; exact (below_size (pH_ HB.out)) : w.heap.size ≤ gb40107))
            have NB40101_40107 := Aside0.mk (ltB_ hg BK40101.out)
            have NB40107_40101 := Aside0.mk (ltB_ hg BK40101.out).symm
            have NB40102_40107 := Aside0.mk (ltB_ hg BK40102.out)
            have NB40107_40102 := Aside0.mk (ltB_ hg BK40102.out).symm
            replace BK40101 := Aside0.mk (blk_below (pB_ BK40101.out) hb)
            replace BK40102 := Aside0.mk (blk_below (pB_ BK40102.out) hb)
            replace HB := Aside0.mk (below_step (pH_ HB.out) hb)
            clear hb hbox hg
            refine hK.out _ _ ⟨(blk_cell BK40101.out 0).trans rfl, (blk_cell BK40101.out 1).trans rfl, (blk_cell BK40101.out 2).trans rfl, (blk_cell BK40101.out 3).trans rfl, (blk_cell BK40101.out 4).trans rfl, (blk_cell BK40101.out 5).trans rfl⟩ (fun hHeld => ?_)
            clear hK K
            refine norm_ (a' := ?_) ?_ ?_
            rotate_left
            · show Act.put _ (some 3) _ = _
              simp only [Act.put, List.setIfInBounds_toArray, List.set_cons_zero, List.set_cons_succ, i64_w, i32_w]
              rfl
            exact norm2_ (hJ2_6_14 (gb40107) _ ⟨hHeld, (pB_ BK40101.out), (pB_ BK40102.out), (pB_ BK40107.out), GW40107.out, GE40107.out, NB40101_40107.out, NB40107_40101.out, NB40102_40107.out, NB40107_40102.out, (pH_ HB.out)⟩)
          skip
          rintro gb40107 w12 ⟨hS_, h0_, h1_, h2_, h3_, h4_, h5_, h6_, h7_, h8_, h9_⟩
          have n0_ : Aside0 (w12.heap[gb40101]? = some (.cells #[.int .i64 a0_0, .int .i64 a0_1, .int .i64 a0_2, .int .i64 a0_3, .int .i64 a0_4, .slice A0_5 l0_5.length c0_5] 24 (0, 0))) := ⟨h0_⟩
          have n1_ : Aside0 (w12.heap[gb40102]? = some (.cells #[.int .i64 0, .int .i64 0, .int .i64 0, .int .i64 0, .int .i64 0, .slice none 0 0] 24 (0, 0))) := ⟨h1_⟩
          have n2_ : Aside0 (w12.heap[gb40107]? = some (.cells #[.int .i64 0, .int .i64 0, .int .i64 0, .int .i64 0, .int .i64 0, .slice none 0 0] 24 (0, 0))) := ⟨h2_⟩
          have n3_ : Aside0 (w.heap.size ≤ gb40107) := ⟨h3_⟩
          have n4_ : Aside0 (w.heap.size ≤ gb40107) := ⟨h4_⟩
          have n5_ : Aside0 (gb40101 ≠ gb40107) := ⟨h5_⟩
          have n6_ : Aside0 (gb40107 ≠ gb40101) := ⟨h6_⟩
          have n7_ : Aside0 (gb40102 ≠ gb40107) := ⟨h7_⟩
          have n8_ : Aside0 (gb40107 ≠ gb40102) := ⟨h8_⟩
          have n9_ : Aside0 (Below w.heap.size w w12) := ⟨h9_⟩
          clear BK40101
          clear BK40102
          clear HB
          clear h0_ h1_ h2_ h3_ h4_ h5_ h6_ h7_ h8_ h9_
          have BK40101 := n0_
          have BK40102 := n1_
          have BK40107 := n2_
          have GW40107 := n3_
          have GE40107 := n4_
          have NB40101_40107 := n5_
          have NB40107_40101 := n6_
          have NB40102_40107 := n7_
          have NB40107_40102 := n8_
          have HB := n9_
          clear n0_ n1_ n2_ n3_ n4_ n5_ n6_ n7_ n8_ n9_
          have hHeld : w12.cell? ⟨gb40101, 0, none⟩ = some (.int .i64 a0_0) ∧ w12.cell? ⟨gb40101, 1, none⟩ = some (.int .i64 a0_1) ∧ w12.cell? ⟨gb40101, 2, none⟩ = some (.int .i64 a0_2) ∧ w12.cell? ⟨gb40101, 3, none⟩ = some (.int .i64 a0_3) ∧ w12.cell? ⟨gb40101, 4, none⟩ = some (.int .i64 a0_4) ∧ w12.cell? ⟨gb40101, 5, none⟩ = some (.slice A0_5 l0_5.length c0_5) := hS_
          refine norm_ (a' := ?_) ?_ ?_
          rotate_left
          · simp only [putAll, Act.put, List.setIfInBounds_toArray, List.set_cons_zero, List.set_cons_succ]
            rfl
          refine one_ (i := 9) (N := some 14) #[true, true, true, true, true, true, true, true, true, true, true, true, false, false, true, false] rfl rfl (one_of HT_.out (by kernel_rfl)) (by decide) (fun K hK => ?_)
          refine goes_ Try.func45 (by kernel_rfl) rfl #[.int .i64 a0_3, .int .i64 21] (by rfl) rfl rfl (by (try simp only [List.map_toArray, List.map_cons, List.map_nil]); first | done | rfl | (simp only [List.length_drop, List.length_take]; rfl)) ?_
          with_reducible refine (plaitinglaw3_within.calls a0_3 21 t40105 _ A4.out).mono ?_
          rintro e w' ⟨rfl, ⟨nd, rfl⟩⟩
          refine ⟨_, rfl, ?_⟩
          refine hK.out _ _ ⟨(blk_cell BK40101.out 0).trans rfl, (blk_cell BK40101.out 1).trans rfl, (blk_cell BK40101.out 2).trans rfl, (blk_cell BK40101.out 3).trans rfl, (blk_cell BK40101.out 4).trans rfl, (blk_cell BK40101.out 5).trans rfl⟩ (fun hHeld => ?_)
          clear hK K
          refine norm_ (a' := ?_) ?_ ?_
          rotate_left
          · show Act.put _ (some 14) _ = _
            simp only [Act.put, List.setIfInBounds_toArray, List.set_cons_zero, List.set_cons_succ, i64_w, i32_w]
            rfl
          exact norm2_ (hJ2_6_9_14 (gb40107) _ ⟨hHeld, (pB_ BK40101.out), (pB_ BK40102.out), (pB_ BK40107.out), GW40107.out, GE40107.out, NB40101_40107.out, NB40107_40101.out, NB40102_40107.out, NB40107_40102.out, (pH_ HB.out)⟩)
        skip
        rintro _ w11 ⟨hS_, h0_, h1_, h2_⟩
        have n0_ : Aside0 (w11.heap[gb40101]? = some (.cells #[.int .i64 a0_0, .int .i64 a0_1, .int .i64 a0_2, .int .i64 a0_3, .int .i64 a0_4, .slice A0_5 l0_5.length c0_5] 24 (0, 0))) := ⟨h0_⟩
        have n1_ : Aside0 (w11.heap[gb40102]? = some (.cells #[.int .i64 0, .int .i64 0, .int .i64 0, .int .i64 0, .int .i64 0, .slice none 0 0] 24 (0, 0))) := ⟨h1_⟩
        have n2_ : Aside0 (Below w.heap.size w w11) := ⟨h2_⟩
        clear BK40101
        clear BK40102
        clear HB
        clear h0_ h1_ h2_
        have BK40101 := n0_
        have BK40102 := n1_
        have HB := n2_
        clear n0_ n1_ n2_
        have hHeld : w11.cell? ⟨gb40101, 0, none⟩ = some (.int .i64 a0_0) ∧ w11.cell? ⟨gb40101, 1, none⟩ = some (.int .i64 a0_1) ∧ w11.cell? ⟨gb40101, 2, none⟩ = some (.int .i64 a0_2) ∧ w11.cell? ⟨gb40101, 3, none⟩ = some (.int .i64 a0_3) ∧ w11.cell? ⟨gb40101, 4, none⟩ = some (.int .i64 a0_4) ∧ w11.cell? ⟨gb40101, 5, none⟩ = some (.slice A0_5 l0_5.length c0_5) := hS_
        refine norm_ (a' := ?_) ?_ ?_
        rotate_left
        · simp only [putAll, Act.put, List.setIfInBounds_toArray, List.set_cons_zero, List.set_cons_succ]
          rfl
        refine two_ (i := 12) (j := 14) (Ni := some 17) (Nj := some 3) #[true, true, true, true, true, true, true, true, true, true, true, true, true, false, false, false] #[true, true, true, true, true, true, true, true, true, true, true, true, false, false, true, false] rfl rfl rfl rfl (two_of HT_.out (by kernel_rfl)) (by decide) (by decide) (fun K hK => ?_) (fun K hK => ?_)
        · skip
          refine goes_ Try.func45 (by kernel_rfl) rfl #[.int .i64 a0_4, .int .i64 65536] (by rfl) rfl rfl (by (try simp only [List.map_toArray, List.map_cons, List.map_nil]); first | done | rfl | (simp only [List.length_drop, List.length_take]; rfl)) ?_
          with_reducible refine (plaitinglaw3_within.calls a0_4 65536 t40106 _ A5.out).mono ?_
          rintro e w' ⟨rfl, ⟨nd, rfl⟩⟩
          refine ⟨_, rfl, ?_⟩
          refine hK.out _ _ ⟨(blk_cell BK40101.out 0).trans rfl, (blk_cell BK40101.out 1).trans rfl, (blk_cell BK40101.out 2).trans rfl, (blk_cell BK40101.out 3).trans rfl, (blk_cell BK40101.out 4).trans rfl, (blk_cell BK40101.out 5).trans rfl⟩ (fun hHeld => ?_)
          clear hK K
          refine norm_ (a' := ?_) ?_ ?_
          rotate_left
          · show Act.put _ (some 17) _ = _
            simp only [Act.put, List.setIfInBounds_toArray, List.set_cons_zero, List.set_cons_succ, i64_w, i32_w]
            rfl
          refine pure_ (i := 13) (N := some 18) (v := ?_) (a' := ?_) #[true, true, true, true, true, true, true, true, true, true, true, true, true, true, false, false] rfl rfl (any_of HT_.out (by kernel_rfl)) (fun _ _ _ h => h) (Or.inl ⟨by rfl, ?_⟩) ?_ ?_
          rotate_left
          · intro w'
            go_simp
            with_reducible rfl
          rotate_left
          · simp only [Act.put, List.setIfInBounds_toArray, List.set_cons_zero, List.set_cons_succ, i64_w, i32_w]
            rfl
          exact norm2_ (hJ2_6_9_12 () _ ⟨hHeld, (pB_ BK40101.out), (pB_ BK40102.out), (pH_ HB.out)⟩)
        skip
        refine box_step ?hg (N := 3) ?hd (cs := #[.int .i64 0, .int .i64 0, .int .i64 0, .int .i64 0, .int .i64 0, .slice none 0 0]) (t := 24) ?hr ?_; (case hd => rfl); (case hg => rfl); (case hr => first | (go_simp; done) | (go_simp; rfl))
        intro gb40107 hg w12 hbox hb
        have BK40107 := Aside0.mk (hbox)
        have GW40107 := Aside0.mk ((by rw [hg]; exact (below_size (pH_ HB.out)) : w.heap.size ≤ gb40107))
        have GE40107 := Aside0.mk ((by rw [hg]; exact (below_size (pH_ HB.out)) : w.heap.size ≤ gb40107))
        have NB40101_40107 := Aside0.mk (ltB_ hg BK40101.out)
        have NB40107_40101 := Aside0.mk (ltB_ hg BK40101.out).symm
        have NB40102_40107 := Aside0.mk (ltB_ hg BK40102.out)
        have NB40107_40102 := Aside0.mk (ltB_ hg BK40102.out).symm
        replace BK40101 := Aside0.mk (blk_below (pB_ BK40101.out) hb)
        replace BK40102 := Aside0.mk (blk_below (pB_ BK40102.out) hb)
        replace HB := Aside0.mk (below_step (pH_ HB.out) hb)
        clear hb hbox hg
        refine hK.out _ _ ⟨(blk_cell BK40101.out 0).trans rfl, (blk_cell BK40101.out 1).trans rfl, (blk_cell BK40101.out 2).trans rfl, (blk_cell BK40101.out 3).trans rfl, (blk_cell BK40101.out 4).trans rfl, (blk_cell BK40101.out 5).trans rfl⟩ (fun hHeld => ?_)
        clear hK K
        refine norm_ (a' := ?_) ?_ ?_
        rotate_left
        · show Act.put _ (some 3) _ = _
          simp only [Act.put, List.setIfInBounds_toArray, List.set_cons_zero, List.set_cons_succ, i64_w, i32_w]
          rfl
        exact norm2_ (hJ2_6_9_14 (gb40107) _ ⟨hHeld, (pB_ BK40101.out), (pB_ BK40102.out), (pB_ BK40107.out), GW40107.out, GE40107.out, NB40101_40107.out, NB40107_40101.out, NB40102_40107.out, NB40107_40102.out, (pH_ HB.out)⟩)
      skip
      rintro gb40107 w12 ⟨hS_, h0_, h1_, h2_, h3_, h4_, h5_, h6_, h7_, h8_, h9_⟩
      have n0_ : Aside0 (w12.heap[gb40101]? = some (.cells #[.int .i64 a0_0, .int .i64 a0_1, .int .i64 a0_2, .int .i64 a0_3, .int .i64 a0_4, .slice A0_5 l0_5.length c0_5] 24 (0, 0))) := ⟨h0_⟩
      have n1_ : Aside0 (w12.heap[gb40102]? = some (.cells #[.int .i64 0, .int .i64 0, .int .i64 0, .int .i64 0, .int .i64 0, .slice none 0 0] 24 (0, 0))) := ⟨h1_⟩
      have n2_ : Aside0 (w12.heap[gb40107]? = some (.cells #[.int .i64 0, .int .i64 0, .int .i64 0, .int .i64 0, .int .i64 0, .slice none 0 0] 24 (0, 0))) := ⟨h2_⟩
      have n3_ : Aside0 (w.heap.size ≤ gb40107) := ⟨h3_⟩
      have n4_ : Aside0 (w.heap.size ≤ gb40107) := ⟨h4_⟩
      have n5_ : Aside0 (gb40101 ≠ gb40107) := ⟨h5_⟩
      have n6_ : Aside0 (gb40107 ≠ gb40101) := ⟨h6_⟩
      have n7_ : Aside0 (gb40102 ≠ gb40107) := ⟨h7_⟩
      have n8_ : Aside0 (gb40107 ≠ gb40102) := ⟨h8_⟩
      have n9_ : Aside0 (Below w.heap.size w w12) := ⟨h9_⟩
      clear BK40101
      clear BK40102
      clear HB
      clear h0_ h1_ h2_ h3_ h4_ h5_ h6_ h7_ h8_ h9_
      have BK40101 := n0_
      have BK40102 := n1_
      have BK40107 := n2_
      have GW40107 := n3_
      have GE40107 := n4_
      have NB40101_40107 := n5_
      have NB40107_40101 := n6_
      have NB40102_40107 := n7_
      have NB40107_40102 := n8_
      have HB := n9_
      clear n0_ n1_ n2_ n3_ n4_ n5_ n6_ n7_ n8_ n9_
      have hHeld : w12.cell? ⟨gb40101, 0, none⟩ = some (.int .i64 a0_0) ∧ w12.cell? ⟨gb40101, 1, none⟩ = some (.int .i64 a0_1) ∧ w12.cell? ⟨gb40101, 2, none⟩ = some (.int .i64 a0_2) ∧ w12.cell? ⟨gb40101, 3, none⟩ = some (.int .i64 a0_3) ∧ w12.cell? ⟨gb40101, 4, none⟩ = some (.int .i64 a0_4) ∧ w12.cell? ⟨gb40101, 5, none⟩ = some (.slice A0_5 l0_5.length c0_5) := hS_
      refine norm_ (a' := ?_) ?_ ?_
      rotate_left
      · simp only [putAll, Act.put, List.setIfInBounds_toArray, List.set_cons_zero, List.set_cons_succ]
        rfl
      refine one_ (i := 12) (N := some 17) #[true, true, true, true, true, true, true, true, true, true, true, true, true, false, true, false] rfl rfl (one_of HT_.out (by kernel_rfl)) (by decide) (fun K hK => ?_)
      refine goes_ Try.func45 (by kernel_rfl) rfl #[.int .i64 a0_4, .int .i64 65536] (by rfl) rfl rfl (by (try simp only [List.map_toArray, List.map_cons, List.map_nil]); first | done | rfl | (simp only [List.length_drop, List.length_take]; rfl)) ?_
      with_reducible refine (plaitinglaw3_within.calls a0_4 65536 t40106 _ A5.out).mono ?_
      rintro e w' ⟨rfl, ⟨nd, rfl⟩⟩
      refine ⟨_, rfl, ?_⟩
      refine hK.out _ _ ⟨(blk_cell BK40101.out 0).trans rfl, (blk_cell BK40101.out 1).trans rfl, (blk_cell BK40101.out 2).trans rfl, (blk_cell BK40101.out 3).trans rfl, (blk_cell BK40101.out 4).trans rfl, (blk_cell BK40101.out 5).trans rfl⟩ (fun hHeld => ?_)
      clear hK K
      refine norm_ (a' := ?_) ?_ ?_
      rotate_left
      · show Act.put _ (some 17) _ = _
        simp only [Act.put, List.setIfInBounds_toArray, List.set_cons_zero, List.set_cons_succ, i64_w, i32_w]
        rfl
      refine pure_ (i := 13) (N := some 18) (v := ?_) (a' := ?_) #[true, true, true, true, true, true, true, true, true, true, true, true, true, true, true, false] rfl rfl (any_of HT_.out (by kernel_rfl)) (fun _ _ _ h => h) (Or.inl ⟨by rfl, ?_⟩) ?_ ?_
      rotate_left
      · intro w'
        go_simp
        with_reducible rfl
      rotate_left
      · simp only [Act.put, List.setIfInBounds_toArray, List.set_cons_zero, List.set_cons_succ, i64_w, i32_w]
        rfl
      exact norm2_ (hJ2_6_9_12_14 (gb40107) _ ⟨hHeld, (pB_ BK40101.out), (pB_ BK40102.out), (pB_ BK40107.out), GW40107.out, GE40107.out, NB40101_40107.out, NB40107_40101.out, NB40102_40107.out, NB40107_40102.out, (pH_ HB.out)⟩)
    skip
    rintro _ w11 ⟨hS_, h0_, h1_, h2_⟩
    have n0_ : Aside0 (w11.heap[gb40101]? = some (.cells #[.int .i64 a0_0, .int .i64 a0_1, .int .i64 a0_2, .int .i64 a0_3, .int .i64 a0_4, .slice A0_5 l0_5.length c0_5] 24 (0, 0))) := ⟨h0_⟩
    have n1_ : Aside0 (w11.heap[gb40102]? = some (.cells #[.int .i64 0, .int .i64 0, .int .i64 0, .int .i64 0, .int .i64 0, .slice none 0 0] 24 (0, 0))) := ⟨h1_⟩
    have n2_ : Aside0 (Below w.heap.size w w11) := ⟨h2_⟩
    clear BK40101
    clear BK40102
    clear HB
    clear h0_ h1_ h2_
    have BK40101 := n0_
    have BK40102 := n1_
    have HB := n2_
    clear n0_ n1_ n2_
    have hHeld : w11.cell? ⟨gb40101, 0, none⟩ = some (.int .i64 a0_0) ∧ w11.cell? ⟨gb40101, 1, none⟩ = some (.int .i64 a0_1) ∧ w11.cell? ⟨gb40101, 2, none⟩ = some (.int .i64 a0_2) ∧ w11.cell? ⟨gb40101, 3, none⟩ = some (.int .i64 a0_3) ∧ w11.cell? ⟨gb40101, 4, none⟩ = some (.int .i64 a0_4) ∧ w11.cell? ⟨gb40101, 5, none⟩ = some (.slice A0_5 l0_5.length c0_5) := hS_
    refine norm_ (a' := ?_) ?_ ?_
    rotate_left
    · simp only [putAll, Act.put, List.setIfInBounds_toArray, List.set_cons_zero, List.set_cons_succ]
      rfl
    refine one_ (i := 14) (N := some 3) #[true, true, true, true, true, true, true, true, true, true, true, true, true, true, true, false] rfl rfl (one_of HT_.out (by kernel_rfl)) (by decide) (fun K hK => ?_)
    refine box_step ?hg (N := 3) ?hd (cs := #[.int .i64 0, .int .i64 0, .int .i64 0, .int .i64 0, .int .i64 0, .slice none 0 0]) (t := 24) ?hr ?_; (case hd => rfl); (case hg => rfl); (case hr => first | (go_simp; done) | (go_simp; rfl))
    intro gb40107 hg w12 hbox hb
    have BK40107 := Aside0.mk (hbox)
    have GW40107 := Aside0.mk ((by rw [hg]; exact (below_size (pH_ HB.out)) : w.heap.size ≤ gb40107))
    have GE40107 := Aside0.mk ((by rw [hg]; exact (below_size (pH_ HB.out)) : w.heap.size ≤ gb40107))
    have NB40101_40107 := Aside0.mk (ltB_ hg BK40101.out)
    have NB40107_40101 := Aside0.mk (ltB_ hg BK40101.out).symm
    have NB40102_40107 := Aside0.mk (ltB_ hg BK40102.out)
    have NB40107_40102 := Aside0.mk (ltB_ hg BK40102.out).symm
    replace BK40101 := Aside0.mk (blk_below (pB_ BK40101.out) hb)
    replace BK40102 := Aside0.mk (blk_below (pB_ BK40102.out) hb)
    replace HB := Aside0.mk (below_step (pH_ HB.out) hb)
    clear hb hbox hg
    refine hK.out _ _ ⟨(blk_cell BK40101.out 0).trans rfl, (blk_cell BK40101.out 1).trans rfl, (blk_cell BK40101.out 2).trans rfl, (blk_cell BK40101.out 3).trans rfl, (blk_cell BK40101.out 4).trans rfl, (blk_cell BK40101.out 5).trans rfl⟩ (fun hHeld => ?_)
    clear hK K
    refine norm_ (a' := ?_) ?_ ?_
    rotate_left
    · show Act.put _ (some 3) _ = _
      simp only [Act.put, List.setIfInBounds_toArray, List.set_cons_zero, List.set_cons_succ, i64_w, i32_w]
      rfl
    exact norm2_ (hJ2_6_9_12_14 (gb40107) _ ⟨hHeld, (pB_ BK40101.out), (pB_ BK40102.out), (pB_ BK40107.out), GW40107.out, GE40107.out, NB40101_40107.out, NB40107_40101.out, NB40102_40107.out, NB40107_40102.out, (pH_ HB.out)⟩)
  rintro gb40107 w12 ⟨hS_, h0_, h1_, h2_, h3_, h4_, h5_, h6_, h7_, h8_, h9_⟩
  have n0_ : Aside0 (w12.heap[gb40101]? = some (.cells #[.int .i64 a0_0, .int .i64 a0_1, .int .i64 a0_2, .int .i64 a0_3, .int .i64 a0_4, .slice A0_5 l0_5.length c0_5] 24 (0, 0))) := ⟨h0_⟩
  have n1_ : Aside0 (w12.heap[gb40102]? = some (.cells #[.int .i64 0, .int .i64 0, .int .i64 0, .int .i64 0, .int .i64 0, .slice none 0 0] 24 (0, 0))) := ⟨h1_⟩
  have n2_ : Aside0 (w12.heap[gb40107]? = some (.cells #[.int .i64 0, .int .i64 0, .int .i64 0, .int .i64 0, .int .i64 0, .slice none 0 0] 24 (0, 0))) := ⟨h2_⟩
  have n3_ : Aside0 (w.heap.size ≤ gb40107) := ⟨h3_⟩
  have n4_ : Aside0 (w.heap.size ≤ gb40107) := ⟨h4_⟩
  have n5_ : Aside0 (gb40101 ≠ gb40107) := ⟨h5_⟩
  have n6_ : Aside0 (gb40107 ≠ gb40101) := ⟨h6_⟩
  have n7_ : Aside0 (gb40102 ≠ gb40107) := ⟨h7_⟩
  have n8_ : Aside0 (gb40107 ≠ gb40102) := ⟨h8_⟩
  have n9_ : Aside0 (Below w.heap.size w w12) := ⟨h9_⟩
  clear BK40101
  clear BK40102
  clear HB
  clear h0_ h1_ h2_ h3_ h4_ h5_ h6_ h7_ h8_ h9_
  have BK40101 := n0_
  have BK40102 := n1_
  have BK40107 := n2_
  have GW40107 := n3_
  have GE40107 := n4_
  have NB40101_40107 := n5_
  have NB40107_40101 := n6_
  have NB40102_40107 := n7_
  have NB40107_40102 := n8_
  have HB := n9_
  clear n0_ n1_ n2_ n3_ n4_ n5_ n6_ n7_ n8_ n9_
  have hHeld : w12.cell? ⟨gb40101, 0, none⟩ = some (.int .i64 a0_0) ∧ w12.cell? ⟨gb40101, 1, none⟩ = some (.int .i64 a0_1) ∧ w12.cell? ⟨gb40101, 2, none⟩ = some (.int .i64 a0_2) ∧ w12.cell? ⟨gb40101, 3, none⟩ = some (.int .i64 a0_3) ∧ w12.cell? ⟨gb40101, 4, none⟩ = some (.int .i64 a0_4) ∧ w12.cell? ⟨gb40101, 5, none⟩ = some (.slice A0_5 l0_5.length c0_5) := hS_
  refine norm_ (a' := ?_) ?_ ?_
  rotate_left
  · simp only [putAll, Act.put, List.setIfInBounds_toArray, List.set_cons_zero, List.set_cons_succ]
    rfl
  refine one_ (i := 15) (N := none) #[true, true, true, true, true, true, true, true, true, true, true, true, true, true, true, true] rfl rfl (one_of HT_.out (by kernel_rfl)) (by decide) (fun K hK => ?_)
  have hs13 : w12.cell? ⟨gb40107, 0, none⟩ = some (.int .i64 0) := (blk_cell BK40107.out 0).trans rfl
  have hfs13 := blk_frozen BK40107.out 0
  have hns13_0 := NB40101_40107.out
  have hns13_1 := NB40102_40107.out
  have hms13_0 := NB40107_40101.out
  have hms13_1 := NB40107_40102.out
  have hs14 : w12.cell? ⟨gb40107, 1, none⟩ = some (.int .i64 0) := (blk_cell BK40107.out 1).trans rfl
  have hfs14 := blk_frozen BK40107.out 1
  have hns14_0 := NB40101_40107.out
  have hns14_1 := NB40102_40107.out
  have hms14_0 := NB40107_40101.out
  have hms14_1 := NB40107_40102.out
  have hs15 : w12.cell? ⟨gb40107, 2, none⟩ = some (.int .i64 0) := (blk_cell BK40107.out 2).trans rfl
  have hfs15 := blk_frozen BK40107.out 2
  have hns15_0 := NB40101_40107.out
  have hns15_1 := NB40102_40107.out
  have hms15_0 := NB40107_40101.out
  have hms15_1 := NB40107_40102.out
  have hs16 : w12.cell? ⟨gb40107, 3, none⟩ = some (.int .i64 0) := (blk_cell BK40107.out 3).trans rfl
  have hfs16 := blk_frozen BK40107.out 3
  have hns16_0 := NB40101_40107.out
  have hns16_1 := NB40102_40107.out
  have hms16_0 := NB40107_40101.out
  have hms16_1 := NB40107_40102.out
  have hs17 : w12.cell? ⟨gb40107, 4, none⟩ = some (.int .i64 0) := (blk_cell BK40107.out 4).trans rfl
  have hfs17 := blk_frozen BK40107.out 4
  have hns17_0 := NB40101_40107.out
  have hns17_1 := NB40102_40107.out
  have hms17_0 := NB40107_40101.out
  have hms17_1 := NB40107_40102.out
  have hs18 : w12.cell? ⟨gb40107, 5, none⟩ = some (.slice none 0 0) := (blk_cell BK40107.out 5).trans rfl
  have hfs18 := blk_frozen BK40107.out 5
  have hns18_0 := NB40101_40107.out
  have hns18_1 := NB40102_40107.out
  have hms18_0 := NB40107_40101.out
  have hms18_1 := NB40107_40102.out
  refine skip_ (w1 := ?_) (by rfl) rfl ?_ ?_
  rotate_left
  · go_simp
    rfl
  refine hK.out _ _ ⟨((cell_far (p := ⟨gb40107, _, none⟩) NB40101_40107.out _).trans (((cell_far (p := ⟨gb40107, _, none⟩) NB40101_40107.out _).trans (((cell_far (p := ⟨gb40107, _, none⟩) NB40101_40107.out _).trans (((cell_far (p := ⟨gb40107, _, none⟩) NB40101_40107.out _).trans (((cell_far (p := ⟨gb40107, _, none⟩) NB40101_40107.out _).trans (((cell_far (p := ⟨gb40107, _, none⟩) NB40101_40107.out _).trans (hHeld.1)))))))))))), ((cell_far (p := ⟨gb40107, _, none⟩) NB40101_40107.out _).trans (((cell_far (p := ⟨gb40107, _, none⟩) NB40101_40107.out _).trans (((cell_far (p := ⟨gb40107, _, none⟩) NB40101_40107.out _).trans (((cell_far (p := ⟨gb40107, _, none⟩) NB40101_40107.out _).trans (((cell_far (p := ⟨gb40107, _, none⟩) NB40101_40107.out _).trans (((cell_far (p := ⟨gb40107, _, none⟩) NB40101_40107.out _).trans (hHeld.2.1)))))))))))), ((cell_far (p := ⟨gb40107, _, none⟩) NB40101_40107.out _).trans (((cell_far (p := ⟨gb40107, _, none⟩) NB40101_40107.out _).trans (((cell_far (p := ⟨gb40107, _, none⟩) NB40101_40107.out _).trans (((cell_far (p := ⟨gb40107, _, none⟩) NB40101_40107.out _).trans (((cell_far (p := ⟨gb40107, _, none⟩) NB40101_40107.out _).trans (((cell_far (p := ⟨gb40107, _, none⟩) NB40101_40107.out _).trans (hHeld.2.2.1)))))))))))), ((cell_far (p := ⟨gb40107, _, none⟩) NB40101_40107.out _).trans (((cell_far (p := ⟨gb40107, _, none⟩) NB40101_40107.out _).trans (((cell_far (p := ⟨gb40107, _, none⟩) NB40101_40107.out _).trans (((cell_far (p := ⟨gb40107, _, none⟩) NB40101_40107.out _).trans (((cell_far (p := ⟨gb40107, _, none⟩) NB40101_40107.out _).trans (((cell_far (p := ⟨gb40107, _, none⟩) NB40101_40107.out _).trans (hHeld.2.2.2.1)))))))))))), ((cell_far (p := ⟨gb40107, _, none⟩) NB40101_40107.out _).trans (((cell_far (p := ⟨gb40107, _, none⟩) NB40101_40107.out _).trans (((cell_far (p := ⟨gb40107, _, none⟩) NB40101_40107.out _).trans (((cell_far (p := ⟨gb40107, _, none⟩) NB40101_40107.out _).trans (((cell_far (p := ⟨gb40107, _, none⟩) NB40101_40107.out _).trans (((cell_far (p := ⟨gb40107, _, none⟩) NB40101_40107.out _).trans (hHeld.2.2.2.2.1)))))))))))), ((cell_far (p := ⟨gb40107, _, none⟩) NB40101_40107.out _).trans (((cell_far (p := ⟨gb40107, _, none⟩) NB40101_40107.out _).trans (((cell_far (p := ⟨gb40107, _, none⟩) NB40101_40107.out _).trans (((cell_far (p := ⟨gb40107, _, none⟩) NB40101_40107.out _).trans (((cell_far (p := ⟨gb40107, _, none⟩) NB40101_40107.out _).trans (((cell_far (p := ⟨gb40107, _, none⟩) NB40101_40107.out _).trans (hHeld.2.2.2.2.2))))))))))))⟩ (fun hHeld => ?_)
  clear hK K
  refine done_ (done_of HT_.out (by kernel_rfl)) ?_
  have hnb19 := NB40101_40102.out
  have hnc19 := NB40102_40101.out
  have hnb20 := NB40101_40107.out
  have hnc20 := NB40107_40101.out
  have hcz21_0 : w12.cell? ⟨gb40101, 0, none⟩ = some (.int .i64 a0_0) := (blk_cell BK40101.out 0).trans rfl
  have hcz21_1 : w12.cell? ⟨gb40101, 1, none⟩ = some (.int .i64 a0_1) := (blk_cell BK40101.out 1).trans rfl
  have hcz21_2 : w12.cell? ⟨gb40101, 2, none⟩ = some (.int .i64 a0_2) := (blk_cell BK40101.out 2).trans rfl
  have hcz21_3 : w12.cell? ⟨gb40101, 3, none⟩ = some (.int .i64 a0_3) := (blk_cell BK40101.out 3).trans rfl
  have hcz21_4 : w12.cell? ⟨gb40101, 4, none⟩ = some (.int .i64 a0_4) := (blk_cell BK40101.out 4).trans rfl
  have hcz21_5 : w12.cell? ⟨gb40101, 5, none⟩ = some (.slice A0_5 l0_5.length c0_5) := (blk_cell BK40101.out 5).trans rfl
  have hfz21_0 := blk_frozen BK40101.out 0
  have hfz21_1 := blk_frozen BK40101.out 1
  have hfz21_2 := blk_frozen BK40101.out 2
  have hfz21_3 := blk_frozen BK40101.out 3
  have hfz21_4 := blk_frozen BK40101.out 4
  have hfz21_5 := blk_frozen BK40101.out 5
  go_upto_if 22 with (first | ((with_reducible refine gate_callee (f := 45) rfl ?_); refine goesL_ (some 21) rfl rfl Try.func45 (by kernel_rfl) rfl #[.int .i64 a0_4, .int .i64 3] rfl (by (try simp only [List.map_toArray, List.map_cons, List.map_nil]); first | done | rfl | (simp only [List.length_drop, List.length_take]; rfl)) ?_; (with_reducible refine (plaitinglaw3_within.calls a0_4 3 t40108 _ A6.out).mono ?_); rintro e w' ⟨rfl, ⟨nd, rfl⟩⟩; refine ⟨_, rfl, ?_⟩))
  (try simp only [Act.put, List.setIfInBounds_toArray, List.set_cons_zero, List.set_cons_succ])
  go_cut [] (fun wc => ∃ (kq : Nat) (x40108004_6 : Int), Aside0 (plaitinglaw3_Make.j0 kq a0_0 a0_1 a0_2 a0_3 a0_4 l0_5 (wrap64 (6 + t40103)) 0 t40104 t40105 x40108004_6 = some (r1, r2, r3, r4, r5, r6)) ∧ Aside0 (kq ≤ k) ∧ Aside0 (wc.heap[gb40101]? = some (.cells #[.int .i64 a0_0, .int .i64 a0_1, .int .i64 a0_2, .int .i64 a0_3, .int .i64 a0_4, (.slice A0_5 l0_5.length c0_5)] 24 (0, 0))) ∧ Aside0 (wc.heap[gb40102]? = some (.cells #[.int .i64 0, .int .i64 0, .int .i64 0, .int .i64 0, .int .i64 0, (.slice none 0 0)] 24 (0, 0))) ∧ Aside0 (wc.heap[gb40107]? = some (.cells #[.int .i64 (wrap64 (6 + t40103)), .int .i64 0, .int .i64 t40104, .int .i64 t40105, .int .i64 x40108004_6, (.slice none 0 0)] 24 (0, 0))) ∧ Aside0 (Below w.heap.size w wc))
  case first =>
    have H := HC7.out
    clear HC7
    by_cases c22 : t40108 = 0
    rotate_left
    · rw [if_neg c22] at H
      have c22b0 : (t40108 == 0) = false := beq_eq_false_iff_ne.mpr c22
      have c22b1 : (t40108 != 0) = true := bne_iff_ne.mpr c22
      (first | rw [c22b0] | (simp only [i64_w, i32_w]; rw [c22b0]) | skip)
      have H' := Aside0.mk H
      clear H
      go_wp2
      go_meet
      case rel => exact ⟨_, (t40106), H', ⟨by first | omega | exact Nat.le_refl _⟩, ⟨by (with_reducible repeat (first | refine blk_drewN ?_ _ | refine blk_drew ?_ | refine blk_alloc ?_ _)); refine blk_far ?_ NB40101_40107.out _; (with_reducible repeat (first | refine blk_drewN ?_ _ | refine blk_drew ?_ | refine blk_alloc ?_ _)); refine blk_far ?_ NB40101_40107.out _; (with_reducible repeat (first | refine blk_drewN ?_ _ | refine blk_drew ?_ | refine blk_alloc ?_ _)); refine blk_far ?_ NB40101_40107.out _; (with_reducible repeat (first | refine blk_drewN ?_ _ | refine blk_drew ?_ | refine blk_alloc ?_ _)); refine blk_far ?_ NB40101_40107.out _; (with_reducible repeat (first | refine blk_drewN ?_ _ | refine blk_drew ?_ | refine blk_alloc ?_ _)); refine blk_far ?_ NB40101_40107.out _; (with_reducible repeat (first | refine blk_drewN ?_ _ | refine blk_drew ?_ | refine blk_alloc ?_ _)); refine blk_far ?_ NB40101_40107.out _; (with_reducible repeat (first | refine blk_drewN ?_ _ | refine blk_drew ?_ | refine blk_alloc ?_ _)); exact BK40101.out⟩, ⟨by (with_reducible repeat (first | refine blk_drewN ?_ _ | refine blk_drew ?_ | refine blk_alloc ?_ _)); refine blk_far ?_ NB40102_40107.out _; (with_reducible repeat (first | refine blk_drewN ?_ _ | refine blk_drew ?_ | refine blk_alloc ?_ _)); refine blk_far ?_ NB40102_40107.out _; (with_reducible repeat (first | refine blk_drewN ?_ _ | refine blk_drew ?_ | refine blk_alloc ?_ _)); refine blk_far ?_ NB40102_40107.out _; (with_reducible repeat (first | refine blk_drewN ?_ _ | refine blk_drew ?_ | refine blk_alloc ?_ _)); refine blk_far ?_ NB40102_40107.out _; (with_reducible repeat (first | refine blk_drewN ?_ _ | refine blk_drew ?_ | refine blk_alloc ?_ _)); refine blk_far ?_ NB40102_40107.out _; (with_reducible repeat (first | refine blk_drewN ?_ _ | refine blk_drew ?_ | refine blk_alloc ?_ _)); refine blk_far ?_ NB40102_40107.out _; (with_reducible repeat (first | refine blk_drewN ?_ _ | refine blk_drew ?_ | refine blk_alloc ?_ _)); exact BK40102.out⟩, ⟨by (with_reducible repeat (first | refine blk_drewN ?_ _ | refine blk_drew ?_ | refine blk_alloc ?_ _)); refine blk_put (cs := #[.int .i64 (wrap64 (6 + t40103)), .int .i64 0, .int .i64 t40104, .int .i64 t40105, .int .i64 t40106, .slice none 0 0]) ?_ 5 _ rfl; (with_reducible repeat (first | refine blk_drewN ?_ _ | refine blk_drew ?_ | refine blk_alloc ?_ _)); refine blk_put (cs := #[.int .i64 (wrap64 (6 + t40103)), .int .i64 0, .int .i64 t40104, .int .i64 t40105, .int .i64 0, .slice none 0 0]) ?_ 4 _ rfl; (with_reducible repeat (first | refine blk_drewN ?_ _ | refine blk_drew ?_ | refine blk_alloc ?_ _)); refine blk_put (cs := #[.int .i64 (wrap64 (6 + t40103)), .int .i64 0, .int .i64 t40104, .int .i64 0, .int .i64 0, .slice none 0 0]) ?_ 3 _ rfl; (with_reducible repeat (first | refine blk_drewN ?_ _ | refine blk_drew ?_ | refine blk_alloc ?_ _)); refine blk_put (cs := #[.int .i64 (wrap64 (6 + t40103)), .int .i64 0, .int .i64 0, .int .i64 0, .int .i64 0, .slice none 0 0]) ?_ 2 _ rfl; (with_reducible repeat (first | refine blk_drewN ?_ _ | refine blk_drew ?_ | refine blk_alloc ?_ _)); refine blk_put (cs := #[.int .i64 (wrap64 (6 + t40103)), .int .i64 0, .int .i64 0, .int .i64 0, .int .i64 0, .slice none 0 0]) ?_ 1 _ rfl; (with_reducible repeat (first | refine blk_drewN ?_ _ | refine blk_drew ?_ | refine blk_alloc ?_ _)); refine blk_put (cs := #[.int .i64 0, .int .i64 0, .int .i64 0, .int .i64 0, .int .i64 0, .slice none 0 0]) ?_ 0 _ rfl; (with_reducible repeat (first | refine blk_drewN ?_ _ | refine blk_drew ?_ | refine blk_alloc ?_ _)); exact BK40107.out⟩, ⟨by repeat (first | (with_reducible first | exact HB.out | apply below_alloc | apply pw_below_drewN | apply below_drew1 | refine below_set ?_ GE40101.out | refine below_set ?_ GE40102.out | refine below_set ?_ GE40107.out) | exact HB.out)⟩⟩
    rw [if_pos c22] at H
    have c22b0 : (t40108 == 0) = true := beq_iff_eq.mpr c22
    have c22b1 : (t40108 != 0) = false := bne_eq_false_iff_eq.mpr c22
    clear c22
    (first | rw [c22b0] | (simp only [i64_w, i32_w]; rw [c22b0]) | skip)
    replace H := Option.bind_eq_some_iff.mp H
    obtain ⟨t40109, A230, H⟩ := H
    replace H : (plaitinglaw3_Make.j0 k a0_0 a0_1 a0_2 a0_3 a0_4 l0_5 (wrap64 (6 + t40103)) 0 t40104 t40105 (wrap64 (65535 - t40109))) = some (r1, r2, r3, r4, r5, r6) := H
    have A23 := Aside0.mk A230
    clear A230
    have H' := Aside0.mk H
    clear H
    have hnb24 := NB40101_40102.out
    have hnc24 := NB40102_40101.out
    have hnb25 := NB40101_40107.out
    have hnc25 := NB40107_40101.out
    have hcz26_0 : w12.cell? ⟨gb40101, 0, none⟩ = some (.int .i64 a0_0) := (blk_cell BK40101.out 0).trans rfl
    have hcz26_1 : w12.cell? ⟨gb40101, 1, none⟩ = some (.int .i64 a0_1) := (blk_cell BK40101.out 1).trans rfl
    have hcz26_2 : w12.cell? ⟨gb40101, 2, none⟩ = some (.int .i64 a0_2) := (blk_cell BK40101.out 2).trans rfl
    have hcz26_3 : w12.cell? ⟨gb40101, 3, none⟩ = some (.int .i64 a0_3) := (blk_cell BK40101.out 3).trans rfl
    have hcz26_4 : w12.cell? ⟨gb40101, 4, none⟩ = some (.int .i64 a0_4) := (blk_cell BK40101.out 4).trans rfl
    have hcz26_5 : w12.cell? ⟨gb40101, 5, none⟩ = some (.slice A0_5 l0_5.length c0_5) := (blk_cell BK40101.out 5).trans rfl
    have hfz26_0 := blk_frozen BK40101.out 0
    have hfz26_1 := blk_frozen BK40101.out 1
    have hfz26_2 := blk_frozen BK40101.out 2
    have hfz26_3 := blk_frozen BK40101.out 3
    have hfz26_4 := blk_frozen BK40101.out 4
    have hfz26_5 := blk_frozen BK40101.out 5
    go_wp2_with (first | ((with_reducible refine gate_callee (f := 45) rfl ?_); refine goesL_ (some 25) rfl rfl Try.func45 (by kernel_rfl) rfl #[.int .i64 a0_4, .int .i64 40] rfl (by (try simp only [List.map_toArray, List.map_cons, List.map_nil]); first | done | rfl | (simp only [List.length_drop, List.length_take]; rfl)) ?_; (with_reducible refine (plaitinglaw3_within.calls a0_4 40 t40109 _ A23.out).mono ?_); rintro e w' ⟨rfl, ⟨nd, rfl⟩⟩; refine ⟨_, rfl, ?_⟩; have hnb27 := NB40107_40102.out; have hnc27 := NB40102_40107.out; have hcz28_0 : w12.cell? ⟨gb40107, 0, none⟩ = some (.int .i64 0) := (blk_cell BK40107.out 0).trans rfl; have hcz28_1 : w12.cell? ⟨gb40107, 1, none⟩ = some (.int .i64 0) := (blk_cell BK40107.out 1).trans rfl; have hcz28_2 : w12.cell? ⟨gb40107, 2, none⟩ = some (.int .i64 0) := (blk_cell BK40107.out 2).trans rfl; have hcz28_3 : w12.cell? ⟨gb40107, 3, none⟩ = some (.int .i64 0) := (blk_cell BK40107.out 3).trans rfl; have hcz28_4 : w12.cell? ⟨gb40107, 4, none⟩ = some (.int .i64 0) := (blk_cell BK40107.out 4).trans rfl; have hcz28_5 : w12.cell? ⟨gb40107, 5, none⟩ = some (.slice none 0 0) := (blk_cell BK40107.out 5).trans rfl; have hfz28_0 := blk_frozen BK40107.out 0; have hfz28_1 := blk_frozen BK40107.out 1; have hfz28_2 := blk_frozen BK40107.out 2; have hfz28_3 := blk_frozen BK40107.out 3; have hfz28_4 := blk_frozen BK40107.out 4; have hfz28_5 := blk_frozen BK40107.out 5))
    go_meet
    case rel => exact ⟨_, (wrap64 (65535 - t40109)), H', ⟨by first | omega | exact Nat.le_refl _⟩, ⟨by (with_reducible repeat (first | refine blk_drewN ?_ _ | refine blk_drew ?_ | refine blk_alloc ?_ _)); refine blk_far ?_ NB40101_40107.out _; (with_reducible repeat (first | refine blk_drewN ?_ _ | refine blk_drew ?_ | refine blk_alloc ?_ _)); refine blk_far ?_ NB40101_40107.out _; (with_reducible repeat (first | refine blk_drewN ?_ _ | refine blk_drew ?_ | refine blk_alloc ?_ _)); refine blk_far ?_ NB40101_40107.out _; (with_reducible repeat (first | refine blk_drewN ?_ _ | refine blk_drew ?_ | refine blk_alloc ?_ _)); refine blk_far ?_ NB40101_40107.out _; (with_reducible repeat (first | refine blk_drewN ?_ _ | refine blk_drew ?_ | refine blk_alloc ?_ _)); refine blk_far ?_ NB40101_40107.out _; (with_reducible repeat (first | refine blk_drewN ?_ _ | refine blk_drew ?_ | refine blk_alloc ?_ _)); refine blk_far ?_ NB40101_40107.out _; (with_reducible repeat (first | refine blk_drewN ?_ _ | refine blk_drew ?_ | refine blk_alloc ?_ _)); refine blk_far ?_ NB40101_40107.out _; (with_reducible repeat (first | refine blk_drewN ?_ _ | refine blk_drew ?_ | refine blk_alloc ?_ _)); exact BK40101.out⟩, ⟨by (with_reducible repeat (first | refine blk_drewN ?_ _ | refine blk_drew ?_ | refine blk_alloc ?_ _)); refine blk_far ?_ NB40102_40107.out _; (with_reducible repeat (first | refine blk_drewN ?_ _ | refine blk_drew ?_ | refine blk_alloc ?_ _)); refine blk_far ?_ NB40102_40107.out _; (with_reducible repeat (first | refine blk_drewN ?_ _ | refine blk_drew ?_ | refine blk_alloc ?_ _)); refine blk_far ?_ NB40102_40107.out _; (with_reducible repeat (first | refine blk_drewN ?_ _ | refine blk_drew ?_ | refine blk_alloc ?_ _)); refine blk_far ?_ NB40102_40107.out _; (with_reducible repeat (first | refine blk_drewN ?_ _ | refine blk_drew ?_ | refine blk_alloc ?_ _)); refine blk_far ?_ NB40102_40107.out _; (with_reducible repeat (first | refine blk_drewN ?_ _ | refine blk_drew ?_ | refine blk_alloc ?_ _)); refine blk_far ?_ NB40102_40107.out _; (with_reducible repeat (first | refine blk_drewN ?_ _ | refine blk_drew ?_ | refine blk_alloc ?_ _)); refine blk_far ?_ NB40102_40107.out _; (with_reducible repeat (first | refine blk_drewN ?_ _ | refine blk_drew ?_ | refine blk_alloc ?_ _)); exact BK40102.out⟩, ⟨by (with_reducible repeat (first | refine blk_drewN ?_ _ | refine blk_drew ?_ | refine blk_alloc ?_ _)); refine blk_put (cs := #[.int .i64 (wrap64 (6 + t40103)), .int .i64 0, .int .i64 t40104, .int .i64 t40105, .int .i64 t40106, .slice none 0 0]) ?_ 4 _ rfl; (with_reducible repeat (first | refine blk_drewN ?_ _ | refine blk_drew ?_ | refine blk_alloc ?_ _)); refine blk_put (cs := #[.int .i64 (wrap64 (6 + t40103)), .int .i64 0, .int .i64 t40104, .int .i64 t40105, .int .i64 t40106, .slice none 0 0]) ?_ 5 _ rfl; (with_reducible repeat (first | refine blk_drewN ?_ _ | refine blk_drew ?_ | refine blk_alloc ?_ _)); refine blk_put (cs := #[.int .i64 (wrap64 (6 + t40103)), .int .i64 0, .int .i64 t40104, .int .i64 t40105, .int .i64 0, .slice none 0 0]) ?_ 4 _ rfl; (with_reducible repeat (first | refine blk_drewN ?_ _ | refine blk_drew ?_ | refine blk_alloc ?_ _)); refine blk_put (cs := #[.int .i64 (wrap64 (6 + t40103)), .int .i64 0, .int .i64 t40104, .int .i64 0, .int .i64 0, .slice none 0 0]) ?_ 3 _ rfl; (with_reducible repeat (first | refine blk_drewN ?_ _ | refine blk_drew ?_ | refine blk_alloc ?_ _)); refine blk_put (cs := #[.int .i64 (wrap64 (6 + t40103)), .int .i64 0, .int .i64 0, .int .i64 0, .int .i64 0, .slice none 0 0]) ?_ 2 _ rfl; (with_reducible repeat (first | refine blk_drewN ?_ _ | refine blk_drew ?_ | refine blk_alloc ?_ _)); refine blk_put (cs := #[.int .i64 (wrap64 (6 + t40103)), .int .i64 0, .int .i64 0, .int .i64 0, .int .i64 0, .slice none 0 0]) ?_ 1 _ rfl; (with_reducible repeat (first | refine blk_drewN ?_ _ | refine blk_drew ?_ | refine blk_alloc ?_ _)); refine blk_put (cs := #[.int .i64 0, .int .i64 0, .int .i64 0, .int .i64 0, .int .i64 0, .slice none 0 0]) ?_ 0 _ rfl; (with_reducible repeat (first | refine blk_drewN ?_ _ | refine blk_drew ?_ | refine blk_alloc ?_ _)); exact BK40107.out⟩, ⟨by repeat (first | (with_reducible first | exact HB.out | apply below_alloc | apply pw_below_drewN | apply below_drew1 | refine below_set ?_ GE40101.out | refine below_set ?_ GE40102.out | refine below_set ?_ GE40107.out) | exact HB.out)⟩⟩
  case rest =>
    clear HC7
    try clear c1
    try clear c2
    try clear p2
    try clear c4
    try clear p6
    try clear c19
    try clear c20
    try clear c22
    try clear c22b0
    try clear c22b1
    try clear c24
    try clear c25
    try clear c27
    try clear hcz21_0
    try clear hcz21_1
    try clear hcz21_2
    try clear hcz21_3
    try clear hcz21_4
    try clear hcz21_5
    try clear hcz26_0
    try clear hcz26_1
    try clear hcz26_2
    try clear hcz26_3
    try clear hcz26_4
    try clear hcz26_5
    try clear hcz28_0
    try clear hcz28_1
    try clear hcz28_2
    try clear hcz28_3
    try clear hcz28_4
    try clear hcz28_5
    try clear hfz21_0
    try clear hfz21_1
    try clear hfz21_2
    try clear hfz21_3
    try clear hfz21_4
    try clear hfz21_5
    try clear hfz26_0
    try clear hfz26_1
    try clear hfz26_2
    try clear hfz26_3
    try clear hfz26_4
    try clear hfz26_5
    try clear hfz28_0
    try clear hfz28_1
    try clear hfz28_2
    try clear hfz28_3
    try clear hfz28_4
    try clear hfz28_5
    obtain ⟨kq, x40108004_6, HA, HJ6, BK40101, BK40102, BK40107, HB⟩ := hcut
    cases kq with
    | zero => exact absurd HA.out (by simp [plaitinglaw3_Make.j0])
    | succ kj6 =>
      have H := HA.out
      clear HA
      simp only [plaitinglaw3_Make.j0] at H
      replace H := Option.bind_eq_some_iff.mp H
      obtain ⟨t40110, A290, H⟩ := H
      replace H : (plaitinglaw3_Make.l0 kj6 0 a0_0 a0_1 a0_2 a0_3 a0_4 l0_5 (wrap64 (6 + t40103)) (wrap64 ((wrap64 (4 * (wrap64 ((wrap64 (t40104 + t40105)) + 1)))) + t40110)) t40104 t40105 x40108004_6 ([] : List Int)) = some (r1, r2, r3, r4, r5, r6) := H
      have A29 := Aside0.mk A290
      clear A290
      have H' := Aside0.mk H
      clear H
      try go_wp2
      replace BK40101 := Aside0.mk (blk_drew BK40101.out)
      replace BK40102 := Aside0.mk (blk_drew BK40102.out)
      replace BK40107 := Aside0.mk (blk_drew BK40107.out)
      replace HB := Aside0.mk (below_drew1 HB.out)
      refine start_ (n := 13) (S := fun w' => w'.cell? ⟨gb40107, 0, none⟩ = some (.int .i64 (wrap64 (6 + t40103))) ∧ w'.cell? ⟨gb40107, 1, none⟩ = some (.int .i64 0) ∧ w'.cell? ⟨gb40107, 2, none⟩ = some (.int .i64 t40104) ∧ w'.cell? ⟨gb40107, 3, none⟩ = some (.int .i64 t40105) ∧ w'.cell? ⟨gb40107, 4, none⟩ = some (.int .i64 x40108004_6) ∧ w'.cell? ⟨gb40107, 5, none⟩ = some (.slice none 0 0) ∧ w'.cell? ⟨gb40101, 0, none⟩ = some (.int .i64 a0_0) ∧ w'.cell? ⟨gb40101, 1, none⟩ = some (.int .i64 a0_1) ∧ w'.cell? ⟨gb40101, 2, none⟩ = some (.int .i64 a0_2) ∧ w'.cell? ⟨gb40101, 3, none⟩ = some (.int .i64 a0_3) ∧ w'.cell? ⟨gb40101, 4, none⟩ = some (.int .i64 a0_4) ∧ w'.cell? ⟨gb40101, 5, none⟩ = some (.slice A0_5 l0_5.length c0_5)) (ds := [12]) #[false, false, false, false, false, false, false, false, false, false, false, false, false] (by kernel_rfl) rfl rfl ⟨(blk_cell BK40107.out 0).trans rfl, (blk_cell BK40107.out 1).trans rfl, (blk_cell BK40107.out 2).trans rfl, (blk_cell BK40107.out 3).trans rfl, (blk_cell BK40107.out 4).trans rfl, (blk_cell BK40107.out 5).trans rfl, (blk_cell BK40101.out 0).trans rfl, (blk_cell BK40101.out 1).trans rfl, (blk_cell BK40101.out 2).trans rfl, (blk_cell BK40101.out 3).trans rfl, (blk_cell BK40101.out 4).trans rfl, (blk_cell BK40101.out 5).trans rfl⟩ (fun hHeld => ?_); refine with_tabW plaitinglaw3_Make.tab4 plaitinglaw3_Make.bits4 (fun HT_ HW_ => ?_)
      generalize wc.drew = w30 at BK40101 BK40102 BK40107 HB hHeld ⊢
      refine pure_ (i := 0) (N := some 28) (v := ?_) (a' := ?_) #[true, false, false, false, false, false, false, false, false, false, false, false, false] rfl rfl (any_of HT_.out (by kernel_rfl)) (fun _ _ _ h => h) (Or.inl ⟨by rfl, ?_⟩) ?_ ?_
      rotate_left
      · intro w'
        go_simp
        with_reducible rfl
      rotate_left
      · simp only [Act.put, List.setIfInBounds_toArray, List.set_cons_zero, List.set_cons_succ, i64_w, i32_w]
        rfl
      refine pure_ (i := 2) (N := some 30) (v := ?_) (a' := ?_) #[true, false, true, false, false, false, false, false, false, false, false, false, false] rfl rfl (any_of HT_.out (by kernel_rfl)) (fun _ _ _ h => h) (Or.inl ⟨by rfl, ?_⟩) ?_ ?_
      rotate_left
      · intro w'
        go_simp
        with_reducible rfl
      rotate_left
      · simp only [Act.put, List.setIfInBounds_toArray, List.set_cons_zero, List.set_cons_succ, i64_w, i32_w]
        rfl
      refine pure_ (i := 7) (N := some 35) (v := ?_) (a' := ?_) #[true, false, true, false, false, false, false, true, false, false, false, false, false] rfl rfl (any_of HT_.out (by kernel_rfl)) (fun _ _ _ h => h) (Or.inl ⟨by rfl, ?_⟩) ?_ ?_
      rotate_left
      · intro w'
        go_simp
        with_reducible rfl
      rotate_left
      · simp only [Act.put, List.setIfInBounds_toArray, List.set_cons_zero, List.set_cons_succ, i64_w, i32_w]
        rfl
      refine take_ (i := 1) (N := some 29) (v := ?_) (a' := ?_) #[true, true, true, false, false, false, false, true, false, false, false, false, false] rfl rfl (take_ofW HT_.out HW_.out (by kernel_rfl)) (fun _ _ _ h => h) (Or.inl ⟨by rfl, ?_⟩) hHeld ?_ ?_
      rotate_left
      · rintro w' ⟨s0, s1, s2, s3, s4, s5, s6, s7, s8, s9, s10, s11⟩
        go_simp
        with_reducible rfl
      rotate_left
      · simp only [Act.put, List.setIfInBounds_toArray, List.set_cons_zero, List.set_cons_succ, i64_w, i32_w]
        rfl
      refine take_ (i := 3) (N := some 31) (v := ?_) (a' := ?_) #[true, true, true, true, false, false, false, true, false, false, false, false, false] rfl rfl (take_ofW HT_.out HW_.out (by kernel_rfl)) (fun _ _ _ h => h) (Or.inl ⟨by rfl, ?_⟩) hHeld ?_ ?_
      rotate_left
      · rintro w' ⟨s0, s1, s2, s3, s4, s5, s6, s7, s8, s9, s10, s11⟩
        go_simp
        with_reducible rfl
      rotate_left
      · simp only [Act.put, List.setIfInBounds_toArray, List.set_cons_zero, List.set_cons_succ, i64_w, i32_w]
        rfl
      refine pure_ (i := 4) (N := some 32) (v := ?_) (a' := ?_) #[true, true, true, true, true, false, false, true, false, false, false, false, false] rfl rfl (any_of HT_.out (by kernel_rfl)) (fun _ _ _ h => h) (Or.inl ⟨by rfl, ?_⟩) ?_ ?_
      rotate_left
      · intro w'
        go_simp
        with_reducible rfl
      rotate_left
      · simp only [Act.put, List.setIfInBounds_toArray, List.set_cons_zero, List.set_cons_succ, i64_w, i32_w]
        rfl
      refine pure_ (i := 5) (N := some 33) (v := ?_) (a' := ?_) #[true, true, true, true, true, true, false, true, false, false, false, false, false] rfl rfl (any_of HT_.out (by kernel_rfl)) (fun _ _ _ h => h) (Or.inl ⟨by rfl, ?_⟩) ?_ ?_
      rotate_left
      · intro w'
        go_simp
        with_reducible rfl
      rotate_left
      · simp only [Act.put, List.setIfInBounds_toArray, List.set_cons_zero, List.set_cons_succ, i64_w, i32_w]
        rfl
      refine pure_ (i := 6) (N := some 34) (v := ?_) (a' := ?_) #[true, true, true, true, true, true, true, true, false, false, false, false, false] rfl rfl (any_of HT_.out (by kernel_rfl)) (fun _ _ _ h => h) (Or.inl ⟨by rfl, ?_⟩) ?_ ?_
      rotate_left
      · intro w'
        go_simp
        with_reducible rfl
      rotate_left
      · simp only [Act.put, List.setIfInBounds_toArray, List.set_cons_zero, List.set_cons_succ, i64_w, i32_w]
        rfl
      refine take_ (i := 8) (N := some 36) (v := ?_) (a' := ?_) #[true, true, true, true, true, true, true, true, true, false, false, false, false] rfl rfl (take_ofW HT_.out HW_.out (by kernel_rfl)) (fun _ _ _ h => h) (Or.inl ⟨by rfl, ?_⟩) hHeld ?_ ?_
      rotate_left
      · rintro w' ⟨s0, s1, s2, s3, s4, s5, s6, s7, s8, s9, s10, s11⟩
        go_simp
        with_reducible rfl
      rotate_left
      · simp only [Act.put, List.setIfInBounds_toArray, List.set_cons_zero, List.set_cons_succ, i64_w, i32_w]
        rfl
      refine one_ (i := 9) (N := some 37) #[true, true, true, true, true, true, true, true, true, true, false, false, false] rfl rfl (one_of HT_.out (by kernel_rfl)) (by decide) (fun K hK => ?_)
      refine goes_ Try.func45 (by kernel_rfl) rfl #[.int .i64 a0_1, .int .i64 100] (by rfl) rfl rfl (by (try simp only [List.map_toArray, List.map_cons, List.map_nil]); first | done | rfl | (simp only [List.length_drop, List.length_take]; rfl)) ?_
      with_reducible refine (plaitinglaw3_within.calls a0_1 100 t40110 _ A29.out).mono ?_
      rintro e w' ⟨rfl, ⟨nd, rfl⟩⟩
      refine ⟨_, rfl, ?_⟩
      refine hK.out _ _ ⟨(blk_cell BK40107.out 0).trans rfl, (blk_cell BK40107.out 1).trans rfl, (blk_cell BK40107.out 2).trans rfl, (blk_cell BK40107.out 3).trans rfl, (blk_cell BK40107.out 4).trans rfl, (blk_cell BK40107.out 5).trans rfl, (blk_cell BK40101.out 0).trans rfl, (blk_cell BK40101.out 1).trans rfl, (blk_cell BK40101.out 2).trans rfl, (blk_cell BK40101.out 3).trans rfl, (blk_cell BK40101.out 4).trans rfl, (blk_cell BK40101.out 5).trans rfl⟩ (fun hHeld => ?_)
      clear hK K
      refine norm_ (a' := ?_) ?_ ?_
      rotate_left
      · show Act.put _ (some 37) _ = _
        simp only [Act.put, List.setIfInBounds_toArray, List.set_cons_zero, List.set_cons_succ, i64_w, i32_w]
        rfl
      refine pure_ (i := 10) (N := some 38) (v := ?_) (a' := ?_) #[true, true, true, true, true, true, true, true, true, true, true, false, false] rfl rfl (any_of HT_.out (by kernel_rfl)) (fun _ _ _ h => h) (Or.inl ⟨by rfl, ?_⟩) ?_ ?_
      rotate_left
      · intro w'
        go_simp
        with_reducible rfl
      rotate_left
      · simp only [Act.put, List.setIfInBounds_toArray, List.set_cons_zero, List.set_cons_succ, i64_w, i32_w]
        rfl
      refine pure_ (i := 11) (N := some 39) (v := ?_) (a' := ?_) #[true, true, true, true, true, true, true, true, true, true, true, true, false] rfl rfl (any_of HT_.out (by kernel_rfl)) (fun _ _ _ h => h) (Or.inl ⟨by rfl, ?_⟩) ?_ ?_
      rotate_left
      · intro w'
        go_simp
        with_reducible rfl
      rotate_left
      · simp only [Act.put, List.setIfInBounds_toArray, List.set_cons_zero, List.set_cons_succ, i64_w, i32_w]
        rfl
      refine last_ (i := 12) (N := none) #[true, true, true, true, true, true, true, true, true, true, true, true, true] rfl rfl (one_of HT_.out (by kernel_rfl)) (by decide) (fun K hK => ?_)
      have hs31 : w30.cell? ⟨gb40107, 1, none⟩ = some (.int .i64 0) := (blk_cell BK40107.out 1).trans rfl
      have hfs31 := blk_frozen BK40107.out 1
      have hns31_0 := NB40101_40107.out
      have hns31_1 := NB40102_40107.out
      have hms31_0 := NB40107_40101.out
      have hms31_1 := NB40107_40102.out
      refine skip_ (w1 := ?_) (by rfl) rfl ?_ ?_
      rotate_left
      · go_simp
        rfl
      refine hK.out _ _ ?_
      clear hK K
      refine done_ (done_of HT_.out (by kernel_rfl)) ?_
      try go_wp2
      go_loopg [4] kj6 (fun kq v4 w' => ∃ (x4_2 : Int) (x40108005_2 : List Int) (u40108005 : Value), v4 = .int .i64 x4_2 ∧ Aside0 (plaitinglaw3_Make.l0 kq x4_2 a0_0 a0_1 a0_2 a0_3 a0_4 l0_5 (wrap64 (6 + t40103)) (wrap64 ((wrap64 (4 * (wrap64 ((wrap64 (t40104 + t40105)) + 1)))) + t40110)) t40104 t40105 x40108004_6 x40108005_2 = some (r1, r2, r3, r4, r5, r6)) ∧ Aside0 (kq ≤ kj6) ∧ Aside0 (Kd.R (Kd.int .i64) 3 w' w.heap.size (fun _ => True) u40108005 x40108005_2) ∧ Aside0 (w'.heap[gb40101]? = some (.cells #[.int .i64 a0_0, .int .i64 a0_1, .int .i64 a0_2, .int .i64 a0_3, .int .i64 a0_4, (.slice A0_5 l0_5.length c0_5)] 24 (0, 0))) ∧ Aside0 (w'.heap[gb40102]? = some (.cells #[.int .i64 0, .int .i64 0, .int .i64 0, .int .i64 0, .int .i64 0, (.slice none 0 0)] 24 (0, 0))) ∧ Aside0 (w'.heap[gb40107]? = some (.cells #[.int .i64 (wrap64 (6 + t40103)), .int .i64 (wrap64 ((wrap64 (4 * (wrap64 ((wrap64 (t40104 + t40105)) + 1)))) + t40110)), .int .i64 t40104, .int .i64 t40105, .int .i64 x40108004_6, u40108005] 24 (0, 0))) ∧ Aside0 (Below w.heap.size w w'))
      case atStart => exact ⟨(0), (([] : List Int)), (.slice none 0 0), (by first | rfl | (simp; done) | (simp [*]; done)), H', ⟨Nat.le_refl _⟩, ⟨by first | exact Kd.R_nil _ _ _ _ _ | exact Kd.N_nil _ _ _ _ _ | exact Kd.V_nil _ _ _ _ _ | exact Kd.Q_nil _ _ _ _ _ | exact Kd.S_nil _ _ _ _ _⟩, ⟨by (with_reducible repeat (first | refine blk_drewN ?_ _ | refine blk_drew ?_ | refine blk_alloc ?_ _)); refine blk_far ?_ NB40101_40107.out _; (with_reducible repeat (first | refine blk_drewN ?_ _ | refine blk_drew ?_ | refine blk_alloc ?_ _)); exact BK40101.out⟩, ⟨by (with_reducible repeat (first | refine blk_drewN ?_ _ | refine blk_drew ?_ | refine blk_alloc ?_ _)); refine blk_far ?_ NB40102_40107.out _; (with_reducible repeat (first | refine blk_drewN ?_ _ | refine blk_drew ?_ | refine blk_alloc ?_ _)); exact BK40102.out⟩, ⟨by (with_reducible repeat (first | refine blk_drewN ?_ _ | refine blk_drew ?_ | refine blk_alloc ?_ _)); refine blk_put (cs := #[.int .i64 (wrap64 (6 + t40103)), .int .i64 0, .int .i64 t40104, .int .i64 t40105, .int .i64 x40108004_6, .slice none 0 0]) ?_ 1 _ rfl; (with_reducible repeat (first | refine blk_drewN ?_ _ | refine blk_drew ?_ | refine blk_alloc ?_ _)); exact BK40107.out⟩, ⟨by repeat (first | (with_reducible first | exact HB.out | apply below_alloc | apply pw_below_drewN | apply below_drew1 | refine below_set ?_ GE40101.out | refine below_set ?_ GE40102.out | refine below_set ?_ GE40107.out) | exact HB.out)⟩⟩
      case round =>
        clear H'
        try clear c1
        try clear c2
        try clear p2
        try clear c4
        try clear p6
        try clear c19
        try clear c20
        try clear c22
        try clear c22b0
        try clear c22b1
        try clear c24
        try clear c25
        try clear c27
        try clear hcz21_0
        try clear hcz21_1
        try clear hcz21_2
        try clear hcz21_3
        try clear hcz21_4
        try clear hcz21_5
        try clear hcz26_0
        try clear hcz26_1
        try clear hcz26_2
        try clear hcz26_3
        try clear hcz26_4
        try clear hcz26_5
        try clear hcz28_0
        try clear hcz28_1
        try clear hcz28_2
        try clear hcz28_3
        try clear hcz28_4
        try clear hcz28_5
        try clear hfz21_0
        try clear hfz21_1
        try clear hfz21_2
        try clear hfz21_3
        try clear hfz21_4
        try clear hfz21_5
        try clear hfz26_0
        try clear hfz26_1
        try clear hfz26_2
        try clear hfz26_3
        try clear hfz26_4
        try clear hfz26_5
        try clear hfz28_0
        try clear hfz28_1
        try clear hfz28_2
        try clear hfz28_3
        try clear hfz28_4
        try clear hfz28_5
        try clear p2
        try clear p6
        obtain ⟨x4_2, x40108005_2, u40108005, rfl, HA, HK2, HO_40108005, BK40101, BK40102, BK40107, HB⟩ := hrel
        cases gk with
        | zero => exact absurd HA.out (by simp [plaitinglaw3_Make.l0])
        | succ k2 =>
          have H := HA.out
          clear HA
          simp only [plaitinglaw3_Make.l0] at H
          by_cases c32 : x4_2 < (l0_5.length : Int)
          · rw [if_pos c32] at H
            have c32b0 : decide (x4_2 < (l0_5.length : Int)) = true := decide_eq_true c32
            clear c32
            by_cases c33 : x4_2 < 3
            · rw [if_pos c33] at H
              have c33b0 : decide (x4_2 < 3) = true := decide_eq_true c33
              clear c33
              by_cases c34 : 0 ≤ x4_2
              rotate_left
              · rw [if_neg c34] at H
                exact absurd H (by simp)
              rw [if_pos c34] at H
              have c34b0 : decide (0 ≤ x4_2) = true := decide_eq_true c34
              clear c34
              replace H := Option.bind_eq_some_iff.mp H
              obtain ⟨t40112, A350, H⟩ := H
              replace H : (if x40108005_2.length < 17592186044416 then (plaitinglaw3_Make.l0 k2 (wrap64 (x4_2 + 1)) a0_0 a0_1 a0_2 a0_3 a0_4 l0_5 (wrap64 (6 + t40103)) (wrap64 ((wrap64 (4 * (wrap64 ((wrap64 (t40104 + t40105)) + 1)))) + t40110)) t40104 t40105 x40108004_6 (x40108005_2 ++ [wrap64 (t40112 - 1)])) else (none)) = some (r1, r2, r3, r4, r5, r6) := H
              have A35 := Aside0.mk A350
              clear A350
              by_cases c36 : x40108005_2.length < 17592186044416
              rotate_left
              · rw [if_neg c36] at H
                exact absurd H (by simp)
              rw [if_pos c36] at H
              have LMc36 := Aside0.mk c36
              clear c36
              obtain ⟨y40113, hy40113⟩ : ∃ y_ : List Int, y_ = (x40108005_2 ++ [wrap64 (t40112 - 1)]) := ⟨_, rfl⟩
              replace H : (plaitinglaw3_Make.l0 k2 (wrap64 (x4_2 + 1)) a0_0 a0_1 a0_2 a0_3 a0_4 l0_5 (wrap64 (6 + t40103)) (wrap64 ((wrap64 (4 * (wrap64 ((wrap64 (t40104 + t40105)) + 1)))) + t40110)) t40104 t40105 x40108004_6 y40113) = some (r1, r2, r3, r4, r5, r6) := by first | (rw [hy40113]; with_reducible exact H) | (have H2_ := (Option.bind_some _ _).symm.trans H; rw [hy40113]; with_reducible exact H2_) | (have H2_ := (Option.bind_some _ _).symm.trans H; with_reducible exact H2_) | with_reducible exact H | (rw [hy40113]; exact H) | exact H
              have Ny40113 := Aside0.mk hy40113
              clear hy40113
              have H' := Aside0.mk H
              clear H
              have hnb37 := NB40101_40102.out
              have hnc37 := NB40102_40101.out
              have hnb38 := NB40101_40107.out
              have hnc38 := NB40107_40101.out
              have hcz39_0 : wr.cell? ⟨gb40101, 0, none⟩ = some (.int .i64 a0_0) := (blk_cell BK40101.out 0).trans rfl
              have hcz39_1 : wr.cell? ⟨gb40101, 1, none⟩ = some (.int .i64 a0_1) := (blk_cell BK40101.out 1).trans rfl
              have hcz39_2 : wr.cell? ⟨gb40101, 2, none⟩ = some (.int .i64 a0_2) := (blk_cell BK40101.out 2).trans rfl
              have hcz39_3 : wr.cell? ⟨gb40101, 3, none⟩ = some (.int .i64 a0_3) := (blk_cell BK40101.out 3).trans rfl
              have hcz39_4 : wr.cell? ⟨gb40101, 4, none⟩ = some (.int .i64 a0_4) := (blk_cell BK40101.out 4).trans rfl
              have hcz39_5 : wr.cell? ⟨gb40101, 5, none⟩ = some (.slice A0_5 l0_5.length c0_5) := (blk_cell BK40101.out 5).trans rfl
              have hfz39_0 := blk_frozen BK40101.out 0
              have hfz39_1 := blk_frozen BK40101.out 1
              have hfz39_2 := blk_frozen BK40101.out 2
              have hfz39_3 := blk_frozen BK40101.out 3
              have hfz39_4 := blk_frozen BK40101.out 4
              have hfz39_5 := blk_frozen BK40101.out 5
              try go_wp2
              replace HO_40108005 := Aside0.mk (Kd.R_drew HO_40108005.out)
              replace BK40101 := Aside0.mk (blk_drew BK40101.out)
              replace BK40102 := Aside0.mk (blk_drew BK40102.out)
              replace BK40107 := Aside0.mk (blk_drew BK40107.out)
              replace HB := Aside0.mk (below_drew1 HB.out)
              have p40111 : 0 ≤ (x4_2 : Int) := of_decide_eq_true (by first | (with_reducible assumption) | assumption)
              have q40111 : x4_2 < (l0_5.length : Int) := of_decide_eq_true (by first | (with_reducible assumption) | assumption)
              obtain ⟨ad40111, e40111, hx40111_0⟩ := Kd.at_int HR0_5.out x4_2 p40111 q40111
              have hw40111_0 := hx40111_0
              cases e40111
              replace hx40111_0 := (HB.out.cell (World.block_lt_of_cell? w _ hx40111_0)).trans hx40111_0
              replace p40111 := eq_true p40111
              replace q40111 := eq_true q40111
              refine start_ (n := 16) (S := fun w' => w'.cell? ⟨gb40107, 0, none⟩ = some (.int .i64 (wrap64 (6 + t40103))) ∧ w'.cell? ⟨gb40107, 1, none⟩ = some (.int .i64 (wrap64 ((wrap64 (4 * (wrap64 ((wrap64 (t40104 + t40105)) + 1)))) + t40110))) ∧ w'.cell? ⟨gb40107, 2, none⟩ = some (.int .i64 t40104) ∧ w'.cell? ⟨gb40107, 3, none⟩ = some (.int .i64 t40105) ∧ w'.cell? ⟨gb40107, 4, none⟩ = some (.int .i64 x40108004_6) ∧ w'.cell? ⟨gb40107, 5, none⟩ = some (u40108005) ∧ w'.cell? ⟨gb40101, 0, none⟩ = some (.int .i64 a0_0) ∧ w'.cell? ⟨gb40101, 1, none⟩ = some (.int .i64 a0_1) ∧ w'.cell? ⟨gb40101, 2, none⟩ = some (.int .i64 a0_2) ∧ w'.cell? ⟨gb40101, 3, none⟩ = some (.int .i64 a0_3) ∧ w'.cell? ⟨gb40101, 4, none⟩ = some (.int .i64 a0_4) ∧ w'.cell? ⟨gb40101, 5, none⟩ = some (.slice (some ad40111) l0_5.length c0_5) ∧ w'.cell? (ad40111.add (x4_2).toNat) = some (.int .i64 (rd l0_5 x4_2))) (ds := [15]) #[false, false, false, false, false, false, false, false, false, false, false, false, false, false, false, false] (by kernel_rfl) rfl rfl ⟨(blk_cell BK40107.out 0).trans rfl, (blk_cell BK40107.out 1).trans rfl, (blk_cell BK40107.out 2).trans rfl, (blk_cell BK40107.out 3).trans rfl, (blk_cell BK40107.out 4).trans rfl, (blk_cell BK40107.out 5).trans rfl, (blk_cell BK40101.out 0).trans rfl, (blk_cell BK40101.out 1).trans rfl, (blk_cell BK40101.out 2).trans rfl, (blk_cell BK40101.out 3).trans rfl, (blk_cell BK40101.out 4).trans rfl, (blk_cell BK40101.out 5).trans rfl, ((HB.out.cell (World.block_lt_of_cell? w _ hw40111_0)).trans hw40111_0)⟩ (fun hHeld => ?_); refine with_tabW plaitinglaw3_Make.tab8 plaitinglaw3_Make.bits8 (fun HT_ HW_ => ?_)
              generalize wr.drew = w40 at HO_40108005 BK40101 BK40102 BK40107 HB hx40111_0 hHeld ⊢
              refine pure_ (i := 0) (N := some 51) (v := ?_) (a' := ?_) #[true, false, false, false, false, false, false, false, false, false, false, false, false, false, false, false] rfl rfl (any_of HT_.out (by kernel_rfl)) (fun _ _ _ h => h) (Or.inl ⟨by rfl, ?_⟩) ?_ ?_
              rotate_left
              · intro w'
                go_simp
                with_reducible rfl
              rotate_left
              · simp only [Act.put, List.setIfInBounds_toArray, List.set_cons_zero, List.set_cons_succ, i64_w, i32_w]
                rfl
              refine pure_ (i := 2) (N := some 53) (v := ?_) (a' := ?_) #[true, false, true, false, false, false, false, false, false, false, false, false, false, false, false, false] rfl rfl (any_of HT_.out (by kernel_rfl)) (fun _ _ _ h => h) (Or.inl ⟨by rfl, ?_⟩) ?_ ?_
              rotate_left
              · intro w'
                go_simp
                with_reducible rfl
              rotate_left
              · simp only [Act.put, List.setIfInBounds_toArray, List.set_cons_zero, List.set_cons_succ, i64_w, i32_w]
                rfl
              refine pure_ (i := 4) (N := some 55) (v := ?_) (a' := ?_) #[true, false, true, false, true, false, false, false, false, false, false, false, false, false, false, false] rfl rfl (any_of HT_.out (by kernel_rfl)) (fun _ _ _ h => h) (Or.inl ⟨by rfl, ?_⟩) ?_ ?_
              rotate_left
              · intro w'
                go_simp
                with_reducible rfl
              rotate_left
              · simp only [Act.put, List.setIfInBounds_toArray, List.set_cons_zero, List.set_cons_succ, i64_w, i32_w]
                rfl
              refine pure_ (i := 7) (N := some 58) (v := ?_) (a' := ?_) #[true, false, true, false, true, false, false, true, false, false, false, false, false, false, false, false] rfl rfl (any_of HT_.out (by kernel_rfl)) (fun _ _ _ h => h) (Or.inl ⟨by rfl, ?_⟩) ?_ ?_
              rotate_left
              · intro w'
                go_simp
                with_reducible rfl
              rotate_left
              · simp only [Act.put, List.setIfInBounds_toArray, List.set_cons_zero, List.set_cons_succ, i64_w, i32_w]
                rfl
              refine take_ (i := 1) (N := some 52) (v := ?_) (a' := ?_) #[true, true, true, false, true, false, false, true, false, false, false, false, false, false, false, false] rfl rfl (take_ofW HT_.out HW_.out (by kernel_rfl)) (fun _ _ _ h => h) (Or.inl ⟨by rfl, ?_⟩) hHeld ?_ ?_
              rotate_left
              · rintro w' ⟨s0, s1, s2, s3, s4, s5, s6, s7, s8, s9, s10, s11, s12⟩
                go_simp
                with_reducible rfl
              rotate_left
              · simp only [Act.put, List.setIfInBounds_toArray, List.set_cons_zero, List.set_cons_succ, i64_w, i32_w]
                rfl
              refine take_ (i := 3) (N := some 54) (v := ?_) (a' := ?_) #[true, true, true, true, true, false, false, true, false, false, false, false, false, false, false, false] rfl rfl (take_ofW HT_.out HW_.out (by kernel_rfl)) (fun _ _ _ h => h) (Or.inl ⟨by rfl, ?_⟩) hHeld ?_ ?_
              rotate_left
              · rintro w' ⟨s0, s1, s2, s3, s4, s5, s6, s7, s8, s9, s10, s11, s12⟩
                go_simp
                with_reducible rfl
              rotate_left
              · simp only [Act.put, List.setIfInBounds_toArray, List.set_cons_zero, List.set_cons_succ, i64_w, i32_w]
                rfl
              refine pure_ (i := 5) (N := some 56) (v := ?_) (a' := ?_) #[true, true, true, true, true, true, false, true, false, false, false, false, false, false, false, false] rfl rfl (any_of HT_.out (by kernel_rfl)) (fun _ _ _ h => h) (Or.inl ⟨by rfl, ?_⟩) ?_ ?_
              rotate_left
              · intro w'
                go_simp
                with_reducible rfl
              rotate_left
              · simp only [Act.put, List.setIfInBounds_toArray, List.set_cons_zero, List.set_cons_succ, i64_w, i32_w]
                rfl
              refine take_ (i := 6) (N := some 57) (v := ?_) (a' := ?_) #[true, true, true, true, true, true, true, true, false, false, false, false, false, false, false, false] rfl rfl (take_ofW HT_.out HW_.out (by kernel_rfl)) (fun _ _ _ h => h) (Or.inl ⟨by rfl, ?_⟩) hHeld ?_ ?_
              rotate_left
              · rintro w' ⟨s0, s1, s2, s3, s4, s5, s6, s7, s8, s9, s10, s11, s12⟩
                go_simp
                with_reducible rfl
              rotate_left
              · simp only [Act.put, List.setIfInBounds_toArray, List.set_cons_zero, List.set_cons_succ, i64_w, i32_w]
                rfl
              refine take_ (i := 8) (N := some 59) (v := ?_) (a' := ?_) #[true, true, true, true, true, true, true, true, true, false, false, false, false, false, false, false] rfl rfl (take_ofW HT_.out HW_.out (by kernel_rfl)) (fun _ _ _ h => h) (Or.inl ⟨by rfl, ?_⟩) hHeld ?_ ?_
              rotate_left
              · rintro w' ⟨s0, s1, s2, s3, s4, s5, s6, s7, s8, s9, s10, s11, s12⟩
                go_simp
                with_reducible rfl
              rotate_left
              · simp only [Act.put, List.setIfInBounds_toArray, List.set_cons_zero, List.set_cons_succ, i64_w, i32_w]
                rfl
              refine pure_ (i := 9) (N := some 60) (v := ?_) (a' := ?_) #[true, true, true, true, true, true, true, true, true, true, false, false, false, false, false, false] rfl rfl (any_of HT_.out (by kernel_rfl)) (fun _ _ _ h => h) (Or.inl ⟨by rfl, ?_⟩) ?_ ?_
              rotate_left
              · intro w'
                go_simp
                with_reducible rfl
              rotate_left
              · simp only [Act.put, List.setIfInBounds_toArray, List.set_cons_zero, List.set_cons_succ, i64_w, i32_w]
                rfl
              refine one_ (i := 10) (N := some 61) #[true, true, true, true, true, true, true, true, true, true, true, false, false, false, false, false] rfl rfl (one_of HT_.out (by kernel_rfl)) (by decide) (fun K hK => ?_)
              refine goes_ Try.func45 (by kernel_rfl) rfl #[.int .i64 (rd l0_5 x4_2), .int .i64 (wrap64 ((wrap64 (6 + t40103)) + 1))] (by rfl) rfl rfl (by (try simp only [List.map_toArray, List.map_cons, List.map_nil]); first | done | rfl | (simp only [List.length_drop, List.length_take]; rfl)) ?_
              with_reducible refine (plaitinglaw3_within.calls (rd l0_5 x4_2) (wrap64 ((wrap64 (6 + t40103)) + 1)) t40112 _ A35.out).mono ?_
              rintro e w' ⟨rfl, ⟨nd, rfl⟩⟩
              refine ⟨_, rfl, ?_⟩
              refine hK.out _ _ ⟨(blk_cell BK40107.out 0).trans rfl, (blk_cell BK40107.out 1).trans rfl, (blk_cell BK40107.out 2).trans rfl, (blk_cell BK40107.out 3).trans rfl, (blk_cell BK40107.out 4).trans rfl, (blk_cell BK40107.out 5).trans rfl, (blk_cell BK40101.out 0).trans rfl, (blk_cell BK40101.out 1).trans rfl, (blk_cell BK40101.out 2).trans rfl, (blk_cell BK40101.out 3).trans rfl, (blk_cell BK40101.out 4).trans rfl, (blk_cell BK40101.out 5).trans rfl, ((HB.out.cell (World.block_lt_of_cell? w _ hw40111_0)).trans hw40111_0)⟩ (fun hHeld => ?_)
              clear hK K
              refine norm_ (a' := ?_) ?_ ?_
              rotate_left
              · show Act.put _ (some 61) _ = _
                simp only [Act.put, List.setIfInBounds_toArray, List.set_cons_zero, List.set_cons_succ, i64_w, i32_w]
                rfl
              refine pure_ (i := 11) (N := some 62) (v := ?_) (a' := ?_) #[true, true, true, true, true, true, true, true, true, true, true, true, false, false, false, false] rfl rfl (any_of HT_.out (by kernel_rfl)) (fun _ _ _ h => h) (Or.inl ⟨by rfl, ?_⟩) ?_ ?_
              rotate_left
              · intro w'
                go_simp
                with_reducible rfl
              rotate_left
              · simp only [Act.put, List.setIfInBounds_toArray, List.set_cons_zero, List.set_cons_succ, i64_w, i32_w]
                rfl
              refine one_ (i := 12) (N := some 63) #[true, true, true, true, true, true, true, true, true, true, true, true, true, false, false, false] rfl rfl (one_of HT_.out (by kernel_rfl)) (by decide) (fun K hK => ?_)
              refine value_ (w1 := ?_) (v := ?_) (by rfl) rfl ?_ ?_
              rotate_left 2
              · go_simp
                constructor
                · rfl
                rfl
              refine hK.out _ _ ⟨(blk_cell (blk_alloc BK40107.out _) 0).trans rfl, (blk_cell (blk_alloc BK40107.out _) 1).trans rfl, (blk_cell (blk_alloc BK40107.out _) 2).trans rfl, (blk_cell (blk_alloc BK40107.out _) 3).trans rfl, (blk_cell (blk_alloc BK40107.out _) 4).trans rfl, (blk_cell (blk_alloc BK40107.out _) 5).trans rfl, (blk_cell (blk_alloc BK40101.out _) 0).trans rfl, (blk_cell (blk_alloc BK40101.out _) 1).trans rfl, (blk_cell (blk_alloc BK40101.out _) 2).trans rfl, (blk_cell (blk_alloc BK40101.out _) 3).trans rfl, (blk_cell (blk_alloc BK40101.out _) 4).trans rfl, (blk_cell (blk_alloc BK40101.out _) 5).trans rfl, (World.cell?_alloc_lt _ _ _ (World.block_lt_of_cell? _ _ (((HB.out.cell (World.block_lt_of_cell? w _ hw40111_0)).trans hw40111_0)))).trans (((HB.out.cell (World.block_lt_of_cell? w _ hw40111_0)).trans hw40111_0))⟩ (fun hHeld => ?_)
              clear hK K
              refine norm_ (a' := ?_) ?_ ?_
              rotate_left
              · show Act.put _ (some 63) _ = _
                simp only [Act.put, List.setIfInBounds_toArray, List.set_cons_zero, List.set_cons_succ, i64_w, i32_w]
                rfl
              refine one_ (i := 13) (N := some 64) #[true, true, true, true, true, true, true, true, true, true, true, true, true, true, false, false] rfl rfl (one_of HT_.out (by kernel_rfl)) (by decide) (fun K hK => ?_)
              refine Kd.R_append_step (Kd.int .i64) (w0 := w) w.heap.size (by rfl) (.tmp 52) (.tmp 63) 22 3 (.int .i64 0) 8 rfl Try.underlying22 info3 rfl (by decide) (by omega) u40108005 x40108005_2 (wrap64 (t40112 - 1)) [.int .i64 (wrap64 (t40112 - 1))] (fun _ => True) (fun _ => False) rfl rfl ?aP (fun _ hk => hk.elim) ?aF ?aO ?aB ?aS ?aL ?_
              (case aP => exact rfl)
              (case aB => exact (pH_ HB.out))
              (case aF => exact (fun _ _ => trivial))
              (case aO => exact (pR_ HO_40108005.out))
              (case aS => exact (below_size (pH_ HB.out)))
              (case aL => have := LMc36.out; omega)
              intro v40114 w41 ho hb hg hat
              rw [← Ny40113.out] at ho
              have n0_ := Aside0.mk (blk_grown (g := gb40101) (o := .cells #[.int .i64 a0_0, .int .i64 a0_1, .int .i64 a0_2, .int .i64 a0_3, .int .i64 a0_4, .slice (some ad40111) l0_5.length c0_5] 24 (0, 0)) (pB_ BK40101.out) hg (Kd.R_ne HO_40108005.out BK40101.out (by decide)))
              have n1_ := Aside0.mk (blk_grown (g := gb40102) (o := .cells #[.int .i64 0, .int .i64 0, .int .i64 0, .int .i64 0, .int .i64 0, .slice none 0 0] 24 (0, 0)) (pB_ BK40102.out) hg (Kd.R_ne HO_40108005.out BK40102.out (by decide)))
              have n2_ := Aside0.mk (blk_grown (g := gb40107) (o := .cells #[.int .i64 (wrap64 (6 + t40103)), .int .i64 (wrap64 ((wrap64 (4 * (wrap64 ((wrap64 (t40104 + t40105)) + 1)))) + t40110)), .int .i64 t40104, .int .i64 t40105, .int .i64 x40108004_6, u40108005] 24 (0, 0)) (pB_ BK40107.out) hg (Kd.R_ne HO_40108005.out BK40107.out (by decide)))
              have n3_ := Aside0.mk (hb)
              have n4_ := Aside0.mk (ho)
              clear BK40101
              clear BK40102
              clear BK40107
              clear HB
              clear HO_40108005
              have BK40101 := n0_
              have BK40102 := n1_
              have BK40107 := n2_
              have HB := n3_
              have HO40115 := n4_
              clear n0_ n1_ n2_ n3_ n4_
              clear ho hb hg hat
              obtain ⟨Ao42, co42, eo42⟩ := Kd.R_slice HO40115.out
              (first | subst eo42 | (injection eo42 with f1_ f2_ f3_; have f4_ := f1_.symm; have f5_ := f3_.symm; clear f1_ f2_ f3_; subst f4_; subst f5_))
              refine hK.out _ _ ⟨(blk_cell BK40107.out 0).trans rfl, (blk_cell BK40107.out 1).trans rfl, (blk_cell BK40107.out 2).trans rfl, (blk_cell BK40107.out 3).trans rfl, (blk_cell BK40107.out 4).trans rfl, (blk_cell BK40107.out 5).trans rfl, (blk_cell BK40101.out 0).trans rfl, (blk_cell BK40101.out 1).trans rfl, (blk_cell BK40101.out 2).trans rfl, (blk_cell BK40101.out 3).trans rfl, (blk_cell BK40101.out 4).trans rfl, (blk_cell BK40101.out 5).trans rfl, ((HB.out.cell (World.block_lt_of_cell? w _ hw40111_0)).trans hw40111_0)⟩ (fun hHeld => ?_)
              clear hK K
              refine norm_ (a' := ?_) ?_ ?_
              rotate_left
              · show Act.put _ (some 64) _ = _
                simp only [Act.put, List.setIfInBounds_toArray, List.set_cons_zero, List.set_cons_succ, i64_w, i32_w]
                rfl
              refine pure_ (i := 14) (N := some 65) (v := ?_) (a' := ?_) #[true, true, true, true, true, true, true, true, true, true, true, true, true, true, true, false] rfl rfl (any_of HT_.out (by kernel_rfl)) (fun _ _ _ h => h) (Or.inl ⟨by rfl, ?_⟩) ?_ ?_
              rotate_left
              · intro w'
                go_simp
                with_reducible rfl
              rotate_left
              · simp only [Act.put, List.setIfInBounds_toArray, List.set_cons_zero, List.set_cons_succ, i64_w, i32_w]
                rfl
              refine last_ (i := 15) (N := none) #[true, true, true, true, true, true, true, true, true, true, true, true, true, true, true, true] rfl rfl (one_of HT_.out (by kernel_rfl)) (by decide) (fun K hK => ?_)
              have hs43 : w41.cell? ⟨gb40107, 5, none⟩ = some (u40108005) := (blk_cell BK40107.out 5).trans rfl
              have hfs43 := blk_frozen BK40107.out 5
              have hns43_0 := NB40101_40107.out
              have hns43_1 := NB40102_40107.out
              have hms43_0 := NB40107_40101.out
              have hms43_1 := NB40107_40102.out
              refine skip_ (w1 := ?_) (by rfl) rfl ?_ ?_
              rotate_left
              · go_simp
                rfl
              refine hK.out _ _ ?_
              clear hK K
              refine done_ (done_of HT_.out (by kernel_rfl)) ?_
              try go_wp2
              go_roundg k2
              case measure => have := HJ6.out; have := HK2.out; omega
              case rel => exact ⟨(wrap64 (x4_2 + 1)), (y40113), (.slice Ao42 y40113.length co42), (by first | rfl | (simp; done) | (simp [*]; done)), H', ⟨by have := HJ6.out; have := HK2.out; omega⟩, ⟨by (with_reducible repeat (first | apply Kd.R_alloc | apply Kd.R_drewN | apply Kd.R_drew)); exact Kd.R_mono (Kd.R_far (p := ⟨gb40107, 5, none⟩) (Kd.R_types HO40115.out BK40107.out (by decide)) (fun _ hk => hk.2) (.slice Ao42 y40113.length co42)) (fun _ hk => trivial)⟩, ⟨by (with_reducible repeat (first | refine blk_drewN ?_ _ | refine blk_drew ?_ | refine blk_alloc ?_ _)); refine blk_far ?_ NB40101_40107.out _; (with_reducible repeat (first | refine blk_drewN ?_ _ | refine blk_drew ?_ | refine blk_alloc ?_ _)); exact BK40101.out⟩, ⟨by (with_reducible repeat (first | refine blk_drewN ?_ _ | refine blk_drew ?_ | refine blk_alloc ?_ _)); refine blk_far ?_ NB40102_40107.out _; (with_reducible repeat (first | refine blk_drewN ?_ _ | refine blk_drew ?_ | refine blk_alloc ?_ _)); exact BK40102.out⟩, ⟨by (with_reducible repeat (first | refine blk_drewN ?_ _ | refine blk_drew ?_ | refine blk_alloc ?_ _)); refine blk_put (cs := #[.int .i64 (wrap64 (6 + t40103)), .int .i64 (wrap64 ((wrap64 (4 * (wrap64 ((wrap64 (t40104 + t40105)) + 1)))) + t40110)), .int .i64 t40104, .int .i64 t40105, .int .i64 x40108004_6, u40108005]) ?_ 5 _ rfl; (with_reducible repeat (first | refine blk_drewN ?_ _ | refine blk_drew ?_ | refine blk_alloc ?_ _)); exact BK40107.out⟩, ⟨by repeat (first | (with_reducible first | exact HB.out | apply below_alloc | apply pw_below_drewN | apply below_drew1 | refine below_set ?_ GE40101.out | refine below_set ?_ GE40102.out | refine below_set ?_ GE40107.out) | exact HB.out)⟩⟩
            rw [if_neg c33] at H
            have c33b0 : decide (x4_2 < 3) = false := decide_eq_false c33
            clear c33
            simp only [Option.some.injEq, Prod.mk.injEq] at H
            obtain ⟨rfl, rfl, rfl, rfl, rfl, rfl⟩ := H
            have hnb44 := NB40101_40102.out
            have hnc44 := NB40102_40101.out
            have hnb45 := NB40101_40107.out
            have hnc45 := NB40107_40101.out
            have hcz46_0 : wr.cell? ⟨gb40101, 0, none⟩ = some (.int .i64 a0_0) := (blk_cell BK40101.out 0).trans rfl
            have hcz46_1 : wr.cell? ⟨gb40101, 1, none⟩ = some (.int .i64 a0_1) := (blk_cell BK40101.out 1).trans rfl
            have hcz46_2 : wr.cell? ⟨gb40101, 2, none⟩ = some (.int .i64 a0_2) := (blk_cell BK40101.out 2).trans rfl
            have hcz46_3 : wr.cell? ⟨gb40101, 3, none⟩ = some (.int .i64 a0_3) := (blk_cell BK40101.out 3).trans rfl
            have hcz46_4 : wr.cell? ⟨gb40101, 4, none⟩ = some (.int .i64 a0_4) := (blk_cell BK40101.out 4).trans rfl
            have hcz46_5 : wr.cell? ⟨gb40101, 5, none⟩ = some (.slice A0_5 l0_5.length c0_5) := (blk_cell BK40101.out 5).trans rfl
            have hfz46_0 := blk_frozen BK40101.out 0
            have hfz46_1 := blk_frozen BK40101.out 1
            have hfz46_2 := blk_frozen BK40101.out 2
            have hfz46_3 := blk_frozen BK40101.out 3
            have hfz46_4 := blk_frozen BK40101.out 4
            have hfz46_5 := blk_frozen BK40101.out 5
            have hnb47 := NB40107_40102.out
            have hnc47 := NB40102_40107.out
            have hcz48_0 : wr.cell? ⟨gb40107, 0, none⟩ = some (.int .i64 (wrap64 (6 + t40103))) := (blk_cell BK40107.out 0).trans rfl
            have hcz48_1 : wr.cell? ⟨gb40107, 1, none⟩ = some (.int .i64 (wrap64 ((wrap64 (4 * (wrap64 ((wrap64 (t40104 + t40105)) + 1)))) + t40110))) := (blk_cell BK40107.out 1).trans rfl
            have hcz48_2 : wr.cell? ⟨gb40107, 2, none⟩ = some (.int .i64 t40104) := (blk_cell BK40107.out 2).trans rfl
            have hcz48_3 : wr.cell? ⟨gb40107, 3, none⟩ = some (.int .i64 t40105) := (blk_cell BK40107.out 3).trans rfl
            have hcz48_4 : wr.cell? ⟨gb40107, 4, none⟩ = some (.int .i64 x40108004_6) := (blk_cell BK40107.out 4).trans rfl
            have hcz48_5 : wr.cell? ⟨gb40107, 5, none⟩ = some (u40108005) := (blk_cell BK40107.out 5).trans rfl
            have hfz48_0 := blk_frozen BK40107.out 0
            have hfz48_1 := blk_frozen BK40107.out 1
            have hfz48_2 := blk_frozen BK40107.out 2
            have hfz48_3 := blk_frozen BK40107.out 3
            have hfz48_4 := blk_frozen BK40107.out 4
            have hfz48_5 := blk_frozen BK40107.out 5
            have hcz49_0 : wr.cell? ⟨gb40102, 0, none⟩ = some (.int .i64 0) := (blk_cell BK40102.out 0).trans rfl
            have hcz49_1 : wr.cell? ⟨gb40102, 1, none⟩ = some (.int .i64 0) := (blk_cell BK40102.out 1).trans rfl
            have hcz49_2 : wr.cell? ⟨gb40102, 2, none⟩ = some (.int .i64 0) := (blk_cell BK40102.out 2).trans rfl
            have hcz49_3 : wr.cell? ⟨gb40102, 3, none⟩ = some (.int .i64 0) := (blk_cell BK40102.out 3).trans rfl
            have hcz49_4 : wr.cell? ⟨gb40102, 4, none⟩ = some (.int .i64 0) := (blk_cell BK40102.out 4).trans rfl
            have hcz49_5 : wr.cell? ⟨gb40102, 5, none⟩ = some (.slice none 0 0) := (blk_cell BK40102.out 5).trans rfl
            have hfz49_0 := blk_frozen BK40102.out 0
            have hfz49_1 := blk_frozen BK40102.out 1
            have hfz49_2 := blk_frozen BK40102.out 2
            have hfz49_3 := blk_frozen BK40102.out 3
            have hfz49_4 := blk_frozen BK40102.out 4
            have hfz49_5 := blk_frozen BK40102.out 5
            obtain ⟨Ao50, co50, eo50⟩ := Kd.R_slice HO_40108005.out
            subst eo50
            go_wp2
            refine bodyPost_ret (results_cell_row rfl _ _ gb40102 24 #[.int .i64 (wrap64 (6 + t40103)), .int .i64 (wrap64 ((wrap64 (4 * (wrap64 ((wrap64 (t40104 + t40105)) + 1)))) + t40110)), .int .i64 t40104, .int .i64 t40105, .int .i64 x40108004_6, .slice Ao50 x40108005_2.length co50] (0, 0) _ rfl (by (with_reducible repeat (first | refine blk_drewN ?_ _ | refine blk_drew ?_ | refine blk_alloc ?_ _)); refine blk_put (cs := #[.int .i64 (wrap64 (6 + t40103)), .int .i64 (wrap64 ((wrap64 (4 * (wrap64 ((wrap64 (t40104 + t40105)) + 1)))) + t40110)), .int .i64 t40104, .int .i64 t40105, .int .i64 x40108004_6, .slice none 0 0]) ?_ 5 _ rfl; (with_reducible repeat (first | refine blk_drewN ?_ _ | refine blk_drew ?_ | refine blk_alloc ?_ _)); refine blk_put (cs := #[.int .i64 (wrap64 (6 + t40103)), .int .i64 (wrap64 ((wrap64 (4 * (wrap64 ((wrap64 (t40104 + t40105)) + 1)))) + t40110)), .int .i64 t40104, .int .i64 t40105, .int .i64 0, .slice none 0 0]) ?_ 4 _ rfl; (with_reducible repeat (first | refine blk_drewN ?_ _ | refine blk_drew ?_ | refine blk_alloc ?_ _)); refine blk_put (cs := #[.int .i64 (wrap64 (6 + t40103)), .int .i64 (wrap64 ((wrap64 (4 * (wrap64 ((wrap64 (t40104 + t40105)) + 1)))) + t40110)), .int .i64 t40104, .int .i64 0, .int .i64 0, .slice none 0 0]) ?_ 3 _ rfl; (with_reducible repeat (first | refine blk_drewN ?_ _ | refine blk_drew ?_ | refine blk_alloc ?_ _)); refine blk_put (cs := #[.int .i64 (wrap64 (6 + t40103)), .int .i64 (wrap64 ((wrap64 (4 * (wrap64 ((wrap64 (t40104 + t40105)) + 1)))) + t40110)), .int .i64 0, .int .i64 0, .int .i64 0, .slice none 0 0]) ?_ 2 _ rfl; (with_reducible repeat (first | refine blk_drewN ?_ _ | refine blk_drew ?_ | refine blk_alloc ?_ _)); refine blk_put (cs := #[.int .i64 (wrap64 (6 + t40103)), .int .i64 0, .int .i64 0, .int .i64 0, .int .i64 0, .slice none 0 0]) ?_ 1 _ rfl; (with_reducible repeat (first | refine blk_drewN ?_ _ | refine blk_drew ?_ | refine blk_alloc ?_ _)); refine blk_put (cs := #[.int .i64 0, .int .i64 0, .int .i64 0, .int .i64 0, .int .i64 0, .slice none 0 0]) ?_ 0 _ rfl; (with_reducible repeat (first | refine blk_drewN ?_ _ | refine blk_drew ?_ | refine blk_alloc ?_ _)); exact BK40102.out) Try.underlying24 rfl (by kernel_rfl)) rfl ?_
            exact ⟨_, by first | rfl | (simp [errW_none, errW_some] <;> rfl) | (simp [*, errW_none, errW_some] <;> rfl), by (with_reducible repeat (first | apply Kd.R_alloc | apply Kd.R_drewN | apply Kd.R_drew)); exact Kd.R_mono (Kd.R_far (p := ⟨gb40102, 5, none⟩) (Kd.R_far (p := ⟨gb40102, 4, none⟩) (Kd.R_far (p := ⟨gb40102, 3, none⟩) (Kd.R_far (p := ⟨gb40102, 2, none⟩) (Kd.R_far (p := ⟨gb40102, 1, none⟩) (Kd.R_far (p := ⟨gb40102, 0, none⟩) (Kd.R_types HO_40108005.out BK40102.out (by decide)) (fun _ hk => hk.2) (.int .i64 (wrap64 (6 + t40103)))) (fun _ hk => hk.2) (.int .i64 (wrap64 ((wrap64 (4 * (wrap64 ((wrap64 (t40104 + t40105)) + 1)))) + t40110)))) (fun _ hk => hk.2) (.int .i64 t40104)) (fun _ hk => hk.2) (.int .i64 t40105)) (fun _ hk => hk.2) (.int .i64 x40108004_6)) (fun _ hk => hk.2) (.slice Ao50 x40108005_2.length co50)) (fun _ hk => trivial), by repeat (first | (with_reducible first | exact HB.out | apply below_alloc | apply pw_below_drewN | apply below_drew1 | refine below_set ?_ GE40101.out | refine below_set ?_ GE40102.out | refine below_set ?_ GE40107.out) | exact HB.out)⟩
          rw [if_neg c32] at H
          have c32b0 : decide (x4_2 < (l0_5.length : Int)) = false := decide_eq_false c32
          clear c32
          simp only [Option.some.injEq, Prod.mk.injEq] at H
          obtain ⟨rfl, rfl, rfl, rfl, rfl, rfl⟩ := H
          have hnb51 := NB40101_40102.out
          have hnc51 := NB40102_40101.out
          have hnb52 := NB40101_40107.out
          have hnc52 := NB40107_40101.out
          have hcz53_0 : wr.cell? ⟨gb40101, 0, none⟩ = some (.int .i64 a0_0) := (blk_cell BK40101.out 0).trans rfl
          have hcz53_1 : wr.cell? ⟨gb40101, 1, none⟩ = some (.int .i64 a0_1) := (blk_cell BK40101.out 1).trans rfl
          have hcz53_2 : wr.cell? ⟨gb40101, 2, none⟩ = some (.int .i64 a0_2) := (blk_cell BK40101.out 2).trans rfl
          have hcz53_3 : wr.cell? ⟨gb40101, 3, none⟩ = some (.int .i64 a0_3) := (blk_cell BK40101.out 3).trans rfl
          have hcz53_4 : wr.cell? ⟨gb40101, 4, none⟩ = some (.int .i64 a0_4) := (blk_cell BK40101.out 4).trans rfl
          have hcz53_5 : wr.cell? ⟨gb40101, 5, none⟩ = some (.slice A0_5 l0_5.length c0_5) := (blk_cell BK40101.out 5).trans rfl
          have hfz53_0 := blk_frozen BK40101.out 0
          have hfz53_1 := blk_frozen BK40101.out 1
          have hfz53_2 := blk_frozen BK40101.out 2
          have hfz53_3 := blk_frozen BK40101.out 3
          have hfz53_4 := blk_frozen BK40101.out 4
          have hfz53_5 := blk_frozen BK40101.out 5
          have hnb54 := NB40107_40102.out
          have hnc54 := NB40102_40107.out
          have hcz55_0 : wr.cell? ⟨gb40107, 0, none⟩ = some (.int .i64 (wrap64 (6 + t40103))) := (blk_cell BK40107.out 0).trans rfl
          have hcz55_1 : wr.cell? ⟨gb40107, 1, none⟩ = some (.int .i64 (wrap64 ((wrap64 (4 * (wrap64 ((wrap64 (t40104 + t40105)) + 1)))) + t40110))) := (blk_cell BK40107.out 1).trans rfl
          have hcz55_2 : wr.cell? ⟨gb40107, 2, none⟩ = some (.int .i64 t40104) := (blk_cell BK40107.out 2).trans rfl
          have hcz55_3 : wr.cell? ⟨gb40107, 3, none⟩ = some (.int .i64 t40105) := (blk_cell BK40107.out 3).trans rfl
          have hcz55_4 : wr.cell? ⟨gb40107, 4, none⟩ = some (.int .i64 x40108004_6) := (blk_cell BK40107.out 4).trans rfl
          have hcz55_5 : wr.cell? ⟨gb40107, 5, none⟩ = some (u40108005) := (blk_cell BK40107.out 5).trans rfl
          have hfz55_0 := blk_frozen BK40107.out 0
          have hfz55_1 := blk_frozen BK40107.out 1
          have hfz55_2 := blk_frozen BK40107.out 2
          have hfz55_3 := blk_frozen BK40107.out 3
          have hfz55_4 := blk_frozen BK40107.out 4
          have hfz55_5 := blk_frozen BK40107.out 5
          have hcz56_0 : wr.cell? ⟨gb40102, 0, none⟩ = some (.int .i64 0) := (blk_cell BK40102.out 0).trans rfl
          have hcz56_1 : wr.cell? ⟨gb40102, 1, none⟩ = some (.int .i64 0) := (blk_cell BK40102.out 1).trans rfl
          have hcz56_2 : wr.cell? ⟨gb40102, 2, none⟩ = some (.int .i64 0) := (blk_cell BK40102.out 2).trans rfl
          have hcz56_3 : wr.cell? ⟨gb40102, 3, none⟩ = some (.int .i64 0) := (blk_cell BK40102.out 3).trans rfl
          have hcz56_4 : wr.cell? ⟨gb40102, 4, none⟩ = some (.int .i64 0) := (blk_cell BK40102.out 4).trans rfl
          have hcz56_5 : wr.cell? ⟨gb40102, 5, none⟩ = some (.slice none 0 0) := (blk_cell BK40102.out 5).trans rfl
          have hfz56_0 := blk_frozen BK40102.out 0
          have hfz56_1 := blk_frozen BK40102.out 1
          have hfz56_2 := blk_frozen BK40102.out 2
          have hfz56_3 := blk_frozen BK40102.out 3
          have hfz56_4 := blk_frozen BK40102.out 4
          have hfz56_5 := blk_frozen BK40102.out 5
          obtain ⟨Ao57, co57, eo57⟩ := Kd.R_slice HO_40108005.out
          subst eo57
          go_wp2
          refine bodyPost_ret (results_cell_row rfl _ _ gb40102 24 #[.int .i64 (wrap64 (6 + t40103)), .int .i64 (wrap64 ((wrap64 (4 * (wrap64 ((wrap64 (t40104 + t40105)) + 1)))) + t40110)), .int .i64 t40104, .int .i64 t40105, .int .i64 x40108004_6, .slice Ao57 x40108005_2.length co57] (0, 0) _ rfl (by (with_reducible repeat (first | refine blk_drewN ?_ _ | refine blk_drew ?_ | refine blk_alloc ?_ _)); refine blk_put (cs := #[.int .i64 (wrap64 (6 + t40103)), .int .i64 (wrap64 ((wrap64 (4 * (wrap64 ((wrap64 (t40104 + t40105)) + 1)))) + t40110)), .int .i64 t40104, .int .i64 t40105, .int .i64 x40108004_6, .slice none 0 0]) ?_ 5 _ rfl; (with_reducible repeat (first | refine blk_drewN ?_ _ | refine blk_drew ?_ | refine blk_alloc ?_ _)); refine blk_put (cs := #[.int .i64 (wrap64 (6 + t40103)), .int .i64 (wrap64 ((wrap64 (4 * (wrap64 ((wrap64 (t40104 + t40105)) + 1)))) + t40110)), .int .i64 t40104, .int .i64 t40105, .int .i64 0, .slice none 0 0]) ?_ 4 _ rfl; (with_reducible repeat (first | refine blk_drewN ?_ _ | refine blk_drew ?_ | refine blk_alloc ?_ _)); refine blk_put (cs := #[.int .i64 (wrap64 (6 + t40103)), .int .i64 (wrap64 ((wrap64 (4 * (wrap64 ((wrap64 (t40104 + t40105)) + 1)))) + t40110)), .int .i64 t40104, .int .i64 0, .int .i64 0, .slice none 0 0]) ?_ 3 _ rfl; (with_reducible repeat (first | refine blk_drewN ?_ _ | refine blk_drew ?_ | refine blk_alloc ?_ _)); refine blk_put (cs := #[.int .i64 (wrap64 (6 + t40103)), .int .i64 (wrap64 ((wrap64 (4 * (wrap64 ((wrap64 (t40104 + t40105)) + 1)))) + t40110)), .int .i64 0, .int .i64 0, .int .i64 0, .slice none 0 0]) ?_ 2 _ rfl; (with_reducible repeat (first | refine blk_drewN ?_ _ | refine blk_drew ?_ | refine blk_alloc ?_ _)); refine blk_put (cs := #[.int .i64 (wrap64 (6 + t40103)), .int .i64 0, .int .i64 0, .int .i64 0, .int .i64 0, .slice none 0 0]) ?_ 1 _ rfl; (with_reducible repeat (first | refine blk_drewN ?_ _ | refine blk_drew ?_ | refine blk_alloc ?_ _)); refine blk_put (cs := #[.int .i64 0, .int .i64 0, .int .i64 0, .int .i64 0, .int .i64 0, .slice none 0 0]) ?_ 0 _ rfl; (with_reducible repeat (first | refine blk_drewN ?_ _ | refine blk_drew ?_ | refine blk_alloc ?_ _)); exact BK40102.out) Try.underlying24 rfl (by kernel_rfl)) rfl ?_
          exact ⟨_, by first | rfl | (simp [errW_none, errW_some] <;> rfl) | (simp [*, errW_none, errW_some] <;> rfl), by (with_reducible repeat (first | apply Kd.R_alloc | apply Kd.R_drewN | apply Kd.R_drew)); exact Kd.R_mono (Kd.R_far (p := ⟨gb40102, 5, none⟩) (Kd.R_far (p := ⟨gb40102, 4, none⟩) (Kd.R_far (p := ⟨gb40102, 3, none⟩) (Kd.R_far (p := ⟨gb40102, 2, none⟩) (Kd.R_far (p := ⟨gb40102, 1, none⟩) (Kd.R_far (p := ⟨gb40102, 0, none⟩) (Kd.R_types HO_40108005.out BK40102.out (by decide)) (fun _ hk => hk.2) (.int .i64 (wrap64 (6 + t40103)))) (fun _ hk => hk.2) (.int .i64 (wrap64 ((wrap64 (4 * (wrap64 ((wrap64 (t40104 + t40105)) + 1)))) + t40110)))) (fun _ hk => hk.2) (.int .i64 t40104)) (fun _ hk => hk.2) (.int .i64 t40105)) (fun _ hk => hk.2) (.int .i64 x40108004_6)) (fun _ hk => hk.2) (.slice Ao57 x40108005_2.length co57)) (fun _ hk => trivial), by repeat (first | (with_reducible first | exact HB.out | apply below_alloc | apply pw_below_drewN | apply below_drew1 | refine below_set ?_ GE40101.out | refine below_set ?_ GE40102.out | refine below_set ?_ GE40107.out) | exact HB.out)⟩
end Go.Proofs.Ytcpohmfkmgcjkaa.P
