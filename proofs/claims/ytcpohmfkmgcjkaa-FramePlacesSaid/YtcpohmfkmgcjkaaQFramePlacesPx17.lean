/- Printed by a program of this session (myprint) out of the translation: the functions as plain Lean functions, and that the calls compute them. What counts is Lean's check. -/
import Derived.Test.YtcpohmfkmgcjkaaQFramePlacesOks
import Derived.Test.YtcpohmfkmgcjkaaQFramePlacesPx0
import Derived.Test.YtcpohmfkmgcjkaaQFramePlacesPx1
import Derived.Test.YtcpohmfkmgcjkaaQFramePlacesPx8
import Derived.Test.YtcpohmfkmgcjkaaQFramePlacesPx10
import Derived.Test.YtcpohmfkmgcjkaaQFramePlacesPx12
import Derived.Test.YtcpohmfkmgcjkaaQFramePlacesPx15
import Derived.Test.YtcpohmfkmgcjkaaQFramePlacesShort
namespace Go.Proofs.Ytcpohmfkmgcjkaa.P
open Go.RowKit Go.Proofs.YtcpohmfkmgcjkaaW.PrintWords Go.Proofs.YtcpohmfkmgcjkaaW.PrintLast Go.Proofs.YtcpohmfkmgcjkaaW.PrintMore
attribute [local go_sem] max2_int min2_int max_two min_two max_three min_three max_four min_four
set_option linter.unusedVariables false
set_option linter.unusedSimpArgs false
attribute [-simp] ByteArray.size_extract ByteArray.size_append ByteArray.extract_append_extract
attribute [-go_sem] ByteArray.size_append'
mutual
def plaitinglaw5_FramePlaces.j0 : Nat → ByteArray → Bool → Int → Int → Int → Int → Int → List (S26) → Option (Bool)
 | 0, _, _, _, _, _, _, _, _ => none
 | k + 1, x9, x76, xAc000, xAc001, xAc002, xAc003, xAc004, xAc005 => if x76 = true then (some false) else (plaitinglaw5_FramePlaces.l0 k x9 0 xAc000 xAc001 xAc002 xAc003 xAc004 xAc005)
def plaitinglaw5_FramePlaces.l0 : Nat → ByteArray → Int → Int → Int → Int → Int → Int → List (S26) → Option (Bool)
 | 0, _, _, _, _, _, _, _, _ => none
 | k + 1, x9, x10, xAc000, xAc001, xAc002, xAc003, xAc004, xAc005 => if x10 < (xAc005.length : Int) then (if 0 ≤ (wrap64 (34 + (wrap64 (10 * x10)))) then (if (wrap64 (34 + (wrap64 (10 * x10)))) ≤ (wrap64 (36 + (wrap64 (10 * x10)))) then (if (wrap64 (36 + (wrap64 (10 * x10)))) ≤ (x9.size : Int) then (if 0 ≤ x10 then ((plaitingref1_Bits.f k ((rd_T26 xAc005 x10).f0) 2).bind fun tBd => (if (x9.extract ((wrap64 (34 + (wrap64 (10 * x10)))) : Int).toNat ((wrap64 (36 + (wrap64 (10 * x10)))) : Int).toNat).toList = tBd.toList then (if 0 ≤ (wrap64 (36 + (wrap64 (10 * x10)))) then (if (wrap64 (36 + (wrap64 (10 * x10)))) ≤ (wrap64 (44 + (wrap64 (10 * x10)))) then (if (wrap64 (44 + (wrap64 (10 * x10)))) ≤ (x9.size : Int) then ((plaitingref1_Bits.f k ((rd_T26 xAc005 x10).f1) 8).bind fun tBc => (if (x9.extract ((wrap64 (36 + (wrap64 (10 * x10)))) : Int).toNat ((wrap64 (44 + (wrap64 (10 * x10)))) : Int).toNat).toList = tBc.toList then (plaitinglaw5_FramePlaces.l0 k x9 (wrap64 (x10 + 1)) xAc000 xAc001 xAc002 xAc003 xAc004 xAc005) else (some false))) else (none)) else (none)) else (none)) else (some false))) else (none)) else (none)) else (none)) else (none)) else (some true)
end
def plaitinglaw5_FramePlaces.f (k : Nat) (a0_0 : Int) (a0_1 : Int) (a0_2 : Int) (a0_3 : Int) (a0_4 : Int) (l0_5 : List Int) (a1_0 : Int) (a1_1 : Int) (a1_2 : Int) (a1_3 : Int) (a1_4 : Int) (l1_5 : List (S26)) (l2 : List Int) : Option (Bool) := (plaitinglaw5_known.f).bind fun tBe => (if tBe = true then ((plaitinglaw3_Make.f k a0_0 a0_1 a0_2 a0_3 a0_4 l0_5).bind fun btAk => ((plaitinglaw5_Make.f k btAk.1 btAk.2.1 btAk.2.2.1 btAk.2.2.2.1 btAk.2.2.2.2.1 btAk.2.2.2.2.2 a1_0 a1_1 a1_2 a1_3 a1_4 l1_5 l2).bind fun btAb => ((frame_Text.f btAk.1 btAk.2.1 btAk.2.2.1 btAk.2.2.2.1 btAk.2.2.2.2.1 btAk.2.2.2.2.2 btAb.1 btAb.2.1 btAb.2.2.1 btAb.2.2.2.1 btAb.2.2.2.2.1 btAb.2.2.2.2.2).bind fun tAc => (if (tAc.size : Int) < 51 then (plaitinglaw5_FramePlaces.j0 k tAc true btAb.1 btAb.2.1 btAb.2.2.1 btAb.2.2.2.1 btAb.2.2.2.2.1 btAb.2.2.2.2.2) else (if 0 ≤ 2 then (if 2 ≤ (tAc.size : Int) then ((plaitingref1_Bits.f k btAb.1 2).bind fun tAu => (if (tAc.extract 0 2).toList = tAu.toList then (if 2 ≤ 18 then (if 18 ≤ (tAc.size : Int) then ((plaitingref1_Bits.f k btAb.2.1 16).bind fun tAt => (if (tAc.extract 2 18).toList = tAt.toList then (if 18 ≤ 24 then (if 24 ≤ (tAc.size : Int) then ((plaitingref1_Bits.f k btAb.2.2.1 6).bind fun tAs => (if (tAc.extract 18 24).toList = tAs.toList then (if 24 ≤ 26 then (if 26 ≤ (tAc.size : Int) then ((plaitingref1_Bits.f k btAb.2.2.2.1 2).bind fun tAr => (if (tAc.extract 24 26).toList = tAr.toList then (if 26 ≤ 34 then (if 34 ≤ (tAc.size : Int) then ((plaitingref1_Bits.f k btAb.2.2.2.2.1 8).bind fun tAq => (if (tAc.extract 26 34).toList = tAq.toList then (plaitinglaw5_FramePlaces.j0 k tAc ((tAc.size : Int) != (wrap64 (51 + (wrap64 (10 * (btAb.2.2.2.2.2.length : Int)))))) btAb.1 btAb.2.1 btAb.2.2.1 btAb.2.2.2.1 btAb.2.2.2.2.1 btAb.2.2.2.2.2) else (plaitinglaw5_FramePlaces.j0 k tAc true btAb.1 btAb.2.1 btAb.2.2.1 btAb.2.2.2.1 btAb.2.2.2.2.1 btAb.2.2.2.2.2))) else (none)) else (none)) else (plaitinglaw5_FramePlaces.j0 k tAc true btAb.1 btAb.2.1 btAb.2.2.1 btAb.2.2.2.1 btAb.2.2.2.2.1 btAb.2.2.2.2.2))) else (none)) else (none)) else (plaitinglaw5_FramePlaces.j0 k tAc true btAb.1 btAb.2.1 btAb.2.2.1 btAb.2.2.2.1 btAb.2.2.2.2.1 btAb.2.2.2.2.2))) else (none)) else (none)) else (plaitinglaw5_FramePlaces.j0 k tAc true btAb.1 btAb.2.1 btAb.2.2.1 btAb.2.2.2.1 btAb.2.2.2.2.1 btAb.2.2.2.2.2))) else (none)) else (none)) else (plaitinglaw5_FramePlaces.j0 k tAc true btAb.1 btAb.2.1 btAb.2.2.1 btAb.2.2.2.1 btAb.2.2.2.2.1 btAb.2.2.2.2.2))) else (none)) else (none)))))) else (some false))
def plaitinglaw5_FramePlaces.T6 : Bool × List (List Nat × List Nat) := (true, [([], []), ([0], [0]), ([1], [1]), ([2], [2]), ([3], [3]), ([4, 3], [3, 4]), ([3], [3]), ([6, 3], [3, 6]), ([7, 3, 3], [3, 7]), ([5, 8, 3], [3, 5, 8]), ([3, 9], [3, 9]), ([10, 8], [10]), ([11], [11]), ([12, 11], [11, 12]), ([11], [11]), ([14, 11], [11, 14]), ([15, 11, 11], [11, 15]), ([13, 16, 11], [11, 13, 16]), ([11, 17], [11, 17]), ([18, 16], [18]), ([19], [19]), ([20, 19], [19, 20]), ([19], [19]), ([22, 19], [19, 22]), ([23, 19, 19], [19, 23]), ([21, 24, 19], [19, 21, 24]), ([19, 25], [19, 25]), ([26, 24], [26]), ([27], [27]), ([28, 27], [27, 28]), ([27], [27]), ([30, 27], [27, 30]), ([31, 27], [27, 31]), ([32, 27, 27], [27, 32]), ([29, 33, 27], [27, 29, 33]), ([27, 34], [27, 34]), ([35, 33], [35]), ([36], [36]), ([37, 36], [36, 37]), ([36], [36]), ([39, 36], [36, 39]), ([40, 36], [36, 40]), ([41, 36, 36], [36, 41]), ([38, 42, 36], [36, 38, 42]), ([36, 43], [36, 43]), ([44, 42], [44]), ([45], [45]), ([46, 45], [45, 46]), ([45], [45]), ([48, 45], [45, 48]), ([49, 45], [45, 49]), ([50, 45], [45, 50]), ([51, 45], [45, 51]), ([47, 52, 45], [45, 47, 52]), ([45, 53], [45, 53])])
def plaitinglaw5_FramePlaces.B6 : List Nat := [0, 1, 3, 7, 15, 31, 15, 79, 207, 511, 1023, 2047, 4095, 8191, 4095, 20479, 53247, 131071, 262143, 524287, 1048575, 2097151, 1048575, 5242879, 13631487, 33554431, 67108863, 134217727, 268435455, 536870911, 268435455, 1342177279, 3489660927, 7784628223, 17179869183, 34359738367, 68719476735, 137438953471, 274877906943, 137438953471, 687194767359, 1786706395135, 3985729650687, 8796093022207, 17592186044415, 35184372088831, 70368744177663, 140737488355327, 70368744177663, 351843720888319, 914793674309631, 2040693581152255, 4292493394837503, 9007199254740991, 18014398509481983]
theorem plaitinglaw5_FramePlaces.tab6 : rtab .any (opsOf Try.f5 6) = plaitinglaw5_FramePlaces.T6 := by kernel_rfl
theorem plaitinglaw5_FramePlaces.bits6 : waitsOk plaitinglaw5_FramePlaces.T6.2 plaitinglaw5_FramePlaces.B6 = true := by kernel_rfl
def plaitinglaw5_FramePlaces.T11 : Bool × List (List Nat × List Nat) := (true, [([], []), ([], []), ([1], [1]), ([2], [2]), ([], []), ([4], [4]), ([5], [5]), ([0, 3, 6], [0, 3, 6]), ([], []), ([8], [8]), ([], []), ([9, 10], [9, 10]), ([11], [11]), ([12], [12]), ([13], [13]), ([7, 14], [7, 14]), ([15, 14], [15]), ([16], [16]), ([16], [16]), ([18, 16], [16, 18]), ([19, 16], [16, 19]), ([16], [16]), ([21, 16], [16, 21]), ([22, 16], [16, 22]), ([17, 20, 23, 16], [16, 17, 20, 23]), ([16], [16]), ([25, 16], [16, 25]), ([16], [16]), ([26, 27, 16], [16, 26, 27]), ([28, 16], [16, 28]), ([29, 16], [16, 29]), ([30, 16, 16], [16, 30]), ([24, 31, 16], [16, 24, 31]), ([16, 32], [16, 32])])
def plaitinglaw5_FramePlaces.B11 : List Nat := [0, 0, 2, 6, 0, 16, 48, 127, 0, 256, 0, 1792, 3840, 7936, 16128, 32767, 65535, 131071, 131071, 393215, 917503, 131071, 2228223, 6422527, 16777215, 131071, 33685503, 131071, 235012095, 503447551, 1040318463, 2114060287, 4294967295, 8589934591]
theorem plaitinglaw5_FramePlaces.tab11 : rtab .any (opsOf Try.f5 11) = plaitinglaw5_FramePlaces.T11 := by kernel_rfl
theorem plaitinglaw5_FramePlaces.bits11 : waitsOk plaitinglaw5_FramePlaces.T11.2 plaitinglaw5_FramePlaces.B11 = true := by kernel_rfl
set_option maxHeartbeats 8000000 in
set_option maxRecDepth 100000 in
theorem plaitinglaw5_FramePlaces.calls (k : Nat) (a0_0 : Int) (a0_1 : Int) (a0_2 : Int) (a0_3 : Int) (a0_4 : Int) (A0_5 : Option Addr) (c0_5 : Nat) (l0_5 : List Int) (a1_0 : Int) (a1_1 : Int) (a1_2 : Int) (a1_3 : Int) (a1_4 : Int) (A1_5 : Option Addr) (c1_5 : Nat) (l1_5 : List (S26)) (A2 : Option Addr) (c2 : Nat) (l2 : List Int) (r : Bool) (w : World) (hr0_5 : Kd.C (Kd.int .i64) w A0_5 l0_5.length l0_5) (hc0_5 : l0_5.length ≤ c0_5) (hr1_5 : Kd.C k26 w A1_5 l1_5.length l1_5) (hc1_5 : l1_5.length ≤ c1_5) (hr2 : Kd.C (Kd.int .i64) w A2 l2.length l2) (hc2 : l2.length ≤ c2) (hrt : r = true) (h : plaitinglaw5_FramePlaces.f k a0_0 a0_1 a0_2 a0_3 a0_4 l0_5 a1_0 a1_1 a1_2 a1_3 a1_4 l1_5 l2 = some r) :
  Calls Try.prog 5 #[.agg #[.int .i64 a0_0, .int .i64 a0_1, .int .i64 a0_2, .int .i64 a0_3, .int .i64 a0_4, .slice A0_5 l0_5.length c0_5], .agg #[.int .i64 a1_0, .int .i64 a1_1, .int .i64 a1_2, .int .i64 a1_3, .int .i64 a1_4, .slice A1_5 l1_5.length c1_5], .slice A2 l2.length c2] w fun e w' => e = .returned (.bool r) ∧ Below w.heap.size w w' := by
 have HRT := Aside0.mk hrt
 clear hrt
 have hu24 := Try.underlying24
 have hu29 := Try.underlying29
 have HR0_5 := Aside0.mk hr0_5
 have HC0_5 := Aside0.mk hc0_5
 clear hr0_5 hc0_5
 have HR1_5 := Aside0.mk hr1_5
 have HC1_5 := Aside0.mk hc1_5
 clear hr1_5 hc1_5
 have HR2 := Aside0.mk hr2
 have HC2 := Aside0.mk hc2
 clear hr2 hc2
 have HB := Aside0.mk (Below.refl w.heap.size w)
 have H : ((plaitinglaw5_known.f).bind fun tBe => (if tBe = true then ((plaitinglaw3_Make.f k a0_0 a0_1 a0_2 a0_3 a0_4 l0_5).bind fun btAk => ((plaitinglaw5_Make.f k btAk.1 btAk.2.1 btAk.2.2.1 btAk.2.2.2.1 btAk.2.2.2.2.1 btAk.2.2.2.2.2 a1_0 a1_1 a1_2 a1_3 a1_4 l1_5 l2).bind fun btAb => ((frame_Text.f btAk.1 btAk.2.1 btAk.2.2.1 btAk.2.2.2.1 btAk.2.2.2.2.1 btAk.2.2.2.2.2 btAb.1 btAb.2.1 btAb.2.2.1 btAb.2.2.2.1 btAb.2.2.2.2.1 btAb.2.2.2.2.2).bind fun tAc => (if (tAc.size : Int) < 51 then (plaitinglaw5_FramePlaces.j0 k tAc true btAb.1 btAb.2.1 btAb.2.2.1 btAb.2.2.2.1 btAb.2.2.2.2.1 btAb.2.2.2.2.2) else (if 0 ≤ 2 then (if 2 ≤ (tAc.size : Int) then ((plaitingref1_Bits.f k btAb.1 2).bind fun tAu => (if (tAc.extract 0 2).toList = tAu.toList then (if 2 ≤ 18 then (if 18 ≤ (tAc.size : Int) then ((plaitingref1_Bits.f k btAb.2.1 16).bind fun tAt => (if (tAc.extract 2 18).toList = tAt.toList then (if 18 ≤ 24 then (if 24 ≤ (tAc.size : Int) then ((plaitingref1_Bits.f k btAb.2.2.1 6).bind fun tAs => (if (tAc.extract 18 24).toList = tAs.toList then (if 24 ≤ 26 then (if 26 ≤ (tAc.size : Int) then ((plaitingref1_Bits.f k btAb.2.2.2.1 2).bind fun tAr => (if (tAc.extract 24 26).toList = tAr.toList then (if 26 ≤ 34 then (if 34 ≤ (tAc.size : Int) then ((plaitingref1_Bits.f k btAb.2.2.2.2.1 8).bind fun tAq => (if (tAc.extract 26 34).toList = tAq.toList then (plaitinglaw5_FramePlaces.j0 k tAc ((tAc.size : Int) != (wrap64 (51 + (wrap64 (10 * (btAb.2.2.2.2.2.length : Int)))))) btAb.1 btAb.2.1 btAb.2.2.1 btAb.2.2.2.1 btAb.2.2.2.2.1 btAb.2.2.2.2.2) else (plaitinglaw5_FramePlaces.j0 k tAc true btAb.1 btAb.2.1 btAb.2.2.1 btAb.2.2.2.1 btAb.2.2.2.2.1 btAb.2.2.2.2.2))) else (none)) else (none)) else (plaitinglaw5_FramePlaces.j0 k tAc true btAb.1 btAb.2.1 btAb.2.2.1 btAb.2.2.2.1 btAb.2.2.2.2.1 btAb.2.2.2.2.2))) else (none)) else (none)) else (plaitinglaw5_FramePlaces.j0 k tAc true btAb.1 btAb.2.1 btAb.2.2.1 btAb.2.2.2.1 btAb.2.2.2.2.1 btAb.2.2.2.2.2))) else (none)) else (none)) else (plaitinglaw5_FramePlaces.j0 k tAc true btAb.1 btAb.2.1 btAb.2.2.1 btAb.2.2.2.1 btAb.2.2.2.2.1 btAb.2.2.2.2.2))) else (none)) else (none)) else (plaitinglaw5_FramePlaces.j0 k tAc true btAb.1 btAb.2.1 btAb.2.2.1 btAb.2.2.2.1 btAb.2.2.2.2.1 btAb.2.2.2.2.2))) else (none)) else (none)))))) else (some false))) = some r := h
 clear h
 replace H := Option.bind_eq_some_iff.mp H
 obtain ⟨tBe, A40, H⟩ := H
 replace H : (if tBe = true then ((plaitinglaw3_Make.f k a0_0 a0_1 a0_2 a0_3 a0_4 l0_5).bind fun btAk => ((plaitinglaw5_Make.f k btAk.1 btAk.2.1 btAk.2.2.1 btAk.2.2.2.1 btAk.2.2.2.2.1 btAk.2.2.2.2.2 a1_0 a1_1 a1_2 a1_3 a1_4 l1_5 l2).bind fun btAb => ((frame_Text.f btAk.1 btAk.2.1 btAk.2.2.1 btAk.2.2.2.1 btAk.2.2.2.2.1 btAk.2.2.2.2.2 btAb.1 btAb.2.1 btAb.2.2.1 btAb.2.2.2.1 btAb.2.2.2.2.1 btAb.2.2.2.2.2).bind fun tAc => (if (tAc.size : Int) < 51 then (plaitinglaw5_FramePlaces.j0 k tAc true btAb.1 btAb.2.1 btAb.2.2.1 btAb.2.2.2.1 btAb.2.2.2.2.1 btAb.2.2.2.2.2) else (if 0 ≤ 2 then (if 2 ≤ (tAc.size : Int) then ((plaitingref1_Bits.f k btAb.1 2).bind fun tAu => (if (tAc.extract 0 2).toList = tAu.toList then (if 2 ≤ 18 then (if 18 ≤ (tAc.size : Int) then ((plaitingref1_Bits.f k btAb.2.1 16).bind fun tAt => (if (tAc.extract 2 18).toList = tAt.toList then (if 18 ≤ 24 then (if 24 ≤ (tAc.size : Int) then ((plaitingref1_Bits.f k btAb.2.2.1 6).bind fun tAs => (if (tAc.extract 18 24).toList = tAs.toList then (if 24 ≤ 26 then (if 26 ≤ (tAc.size : Int) then ((plaitingref1_Bits.f k btAb.2.2.2.1 2).bind fun tAr => (if (tAc.extract 24 26).toList = tAr.toList then (if 26 ≤ 34 then (if 34 ≤ (tAc.size : Int) then ((plaitingref1_Bits.f k btAb.2.2.2.2.1 8).bind fun tAq => (if (tAc.extract 26 34).toList = tAq.toList then (plaitinglaw5_FramePlaces.j0 k tAc ((tAc.size : Int) != (wrap64 (51 + (wrap64 (10 * (btAb.2.2.2.2.2.length : Int)))))) btAb.1 btAb.2.1 btAb.2.2.1 btAb.2.2.2.1 btAb.2.2.2.2.1 btAb.2.2.2.2.2) else (plaitinglaw5_FramePlaces.j0 k tAc true btAb.1 btAb.2.1 btAb.2.2.1 btAb.2.2.2.1 btAb.2.2.2.2.1 btAb.2.2.2.2.2))) else (none)) else (none)) else (plaitinglaw5_FramePlaces.j0 k tAc true btAb.1 btAb.2.1 btAb.2.2.1 btAb.2.2.2.1 btAb.2.2.2.2.1 btAb.2.2.2.2.2))) else (none)) else (none)) else (plaitinglaw5_FramePlaces.j0 k tAc true btAb.1 btAb.2.1 btAb.2.2.1 btAb.2.2.2.1 btAb.2.2.2.2.1 btAb.2.2.2.2.2))) else (none)) else (none)) else (plaitinglaw5_FramePlaces.j0 k tAc true btAb.1 btAb.2.1 btAb.2.2.1 btAb.2.2.2.1 btAb.2.2.2.2.1 btAb.2.2.2.2.2))) else (none)) else (none)) else (plaitinglaw5_FramePlaces.j0 k tAc true btAb.1 btAb.2.1 btAb.2.2.1 btAb.2.2.2.1 btAb.2.2.2.2.1 btAb.2.2.2.2.2))) else (none)) else (none)))))) else (some false)) = some r := H
 have A4 := Aside0.mk A40
 clear A40
 by_cases c5 : tBe = true
 rotate_left
 ·
  replace c5 := Bool.eq_false_iff.mpr c5
  subst c5
  have H1 : (some false) = some r := by rw [if_neg (show ¬ (false = true) by decide)] at H; exact H
  clear H
  have H := H1
  clear H1
  exact absurd ((Option.some.inj H).trans HRT.out) (by decide)
 subst c5
 have H1 : ((plaitinglaw3_Make.f k a0_0 a0_1 a0_2 a0_3 a0_4 l0_5).bind fun btAk => ((plaitinglaw5_Make.f k btAk.1 btAk.2.1 btAk.2.2.1 btAk.2.2.2.1 btAk.2.2.2.2.1 btAk.2.2.2.2.2 a1_0 a1_1 a1_2 a1_3 a1_4 l1_5 l2).bind fun btAb => ((frame_Text.f btAk.1 btAk.2.1 btAk.2.2.1 btAk.2.2.2.1 btAk.2.2.2.2.1 btAk.2.2.2.2.2 btAb.1 btAb.2.1 btAb.2.2.1 btAb.2.2.2.1 btAb.2.2.2.2.1 btAb.2.2.2.2.2).bind fun tAc => (if (tAc.size : Int) < 51 then (plaitinglaw5_FramePlaces.j0 k tAc true btAb.1 btAb.2.1 btAb.2.2.1 btAb.2.2.2.1 btAb.2.2.2.2.1 btAb.2.2.2.2.2) else (if 0 ≤ 2 then (if 2 ≤ (tAc.size : Int) then ((plaitingref1_Bits.f k btAb.1 2).bind fun tAu => (if (tAc.extract 0 2).toList = tAu.toList then (if 2 ≤ 18 then (if 18 ≤ (tAc.size : Int) then ((plaitingref1_Bits.f k btAb.2.1 16).bind fun tAt => (if (tAc.extract 2 18).toList = tAt.toList then (if 18 ≤ 24 then (if 24 ≤ (tAc.size : Int) then ((plaitingref1_Bits.f k btAb.2.2.1 6).bind fun tAs => (if (tAc.extract 18 24).toList = tAs.toList then (if 24 ≤ 26 then (if 26 ≤ (tAc.size : Int) then ((plaitingref1_Bits.f k btAb.2.2.2.1 2).bind fun tAr => (if (tAc.extract 24 26).toList = tAr.toList then (if 26 ≤ 34 then (if 34 ≤ (tAc.size : Int) then ((plaitingref1_Bits.f k btAb.2.2.2.2.1 8).bind fun tAq => (if (tAc.extract 26 34).toList = tAq.toList then (plaitinglaw5_FramePlaces.j0 k tAc ((tAc.size : Int) != (wrap64 (51 + (wrap64 (10 * (btAb.2.2.2.2.2.length : Int)))))) btAb.1 btAb.2.1 btAb.2.2.1 btAb.2.2.2.1 btAb.2.2.2.2.1 btAb.2.2.2.2.2) else (plaitinglaw5_FramePlaces.j0 k tAc true btAb.1 btAb.2.1 btAb.2.2.1 btAb.2.2.2.1 btAb.2.2.2.2.1 btAb.2.2.2.2.2))) else (none)) else (none)) else (plaitinglaw5_FramePlaces.j0 k tAc true btAb.1 btAb.2.1 btAb.2.2.1 btAb.2.2.2.1 btAb.2.2.2.2.1 btAb.2.2.2.2.2))) else (none)) else (none)) else (plaitinglaw5_FramePlaces.j0 k tAc true btAb.1 btAb.2.1 btAb.2.2.1 btAb.2.2.2.1 btAb.2.2.2.2.1 btAb.2.2.2.2.2))) else (none)) else (none)) else (plaitinglaw5_FramePlaces.j0 k tAc true btAb.1 btAb.2.1 btAb.2.2.1 btAb.2.2.2.1 btAb.2.2.2.2.1 btAb.2.2.2.2.2))) else (none)) else (none)) else (plaitinglaw5_FramePlaces.j0 k tAc true btAb.1 btAb.2.1 btAb.2.2.1 btAb.2.2.2.1 btAb.2.2.2.2.1 btAb.2.2.2.2.2))) else (none)) else (none)))))) = some r := by rw [if_pos rfl] at H; exact H
 clear H
 have H := H1
 clear H1
 replace H := Option.bind_eq_some_iff.mp H
 obtain ⟨⟨tAk, tAx, tAy, tAz, tBb, tAw⟩, A60, H⟩ := H
 replace H : ((plaitinglaw5_Make.f k tAk tAx tAy tAz tBb tAw a1_0 a1_1 a1_2 a1_3 a1_4 l1_5 l2).bind fun btAb => ((frame_Text.f tAk tAx tAy tAz tBb tAw btAb.1 btAb.2.1 btAb.2.2.1 btAb.2.2.2.1 btAb.2.2.2.2.1 btAb.2.2.2.2.2).bind fun tAc => (if (tAc.size : Int) < 51 then (plaitinglaw5_FramePlaces.j0 k tAc true btAb.1 btAb.2.1 btAb.2.2.1 btAb.2.2.2.1 btAb.2.2.2.2.1 btAb.2.2.2.2.2) else (if 0 ≤ 2 then (if 2 ≤ (tAc.size : Int) then ((plaitingref1_Bits.f k btAb.1 2).bind fun tAu => (if (tAc.extract 0 2).toList = tAu.toList then (if 2 ≤ 18 then (if 18 ≤ (tAc.size : Int) then ((plaitingref1_Bits.f k btAb.2.1 16).bind fun tAt => (if (tAc.extract 2 18).toList = tAt.toList then (if 18 ≤ 24 then (if 24 ≤ (tAc.size : Int) then ((plaitingref1_Bits.f k btAb.2.2.1 6).bind fun tAs => (if (tAc.extract 18 24).toList = tAs.toList then (if 24 ≤ 26 then (if 26 ≤ (tAc.size : Int) then ((plaitingref1_Bits.f k btAb.2.2.2.1 2).bind fun tAr => (if (tAc.extract 24 26).toList = tAr.toList then (if 26 ≤ 34 then (if 34 ≤ (tAc.size : Int) then ((plaitingref1_Bits.f k btAb.2.2.2.2.1 8).bind fun tAq => (if (tAc.extract 26 34).toList = tAq.toList then (plaitinglaw5_FramePlaces.j0 k tAc ((tAc.size : Int) != (wrap64 (51 + (wrap64 (10 * (btAb.2.2.2.2.2.length : Int)))))) btAb.1 btAb.2.1 btAb.2.2.1 btAb.2.2.2.1 btAb.2.2.2.2.1 btAb.2.2.2.2.2) else (plaitinglaw5_FramePlaces.j0 k tAc true btAb.1 btAb.2.1 btAb.2.2.1 btAb.2.2.2.1 btAb.2.2.2.2.1 btAb.2.2.2.2.2))) else (none)) else (none)) else (plaitinglaw5_FramePlaces.j0 k tAc true btAb.1 btAb.2.1 btAb.2.2.1 btAb.2.2.2.1 btAb.2.2.2.2.1 btAb.2.2.2.2.2))) else (none)) else (none)) else (plaitinglaw5_FramePlaces.j0 k tAc true btAb.1 btAb.2.1 btAb.2.2.1 btAb.2.2.2.1 btAb.2.2.2.2.1 btAb.2.2.2.2.2))) else (none)) else (none)) else (plaitinglaw5_FramePlaces.j0 k tAc true btAb.1 btAb.2.1 btAb.2.2.1 btAb.2.2.2.1 btAb.2.2.2.2.1 btAb.2.2.2.2.2))) else (none)) else (none)) else (plaitinglaw5_FramePlaces.j0 k tAc true btAb.1 btAb.2.1 btAb.2.2.1 btAb.2.2.2.1 btAb.2.2.2.2.1 btAb.2.2.2.2.2))) else (none)) else (none))))) = some r := H
 have A6 := Aside0.mk A60
 clear A60
 replace H := Option.bind_eq_some_iff.mp H
 obtain ⟨⟨tAb, tAh, tAi, tAj, tAm, tAg⟩, A70, H⟩ := H
 replace H : ((frame_Text.f tAk tAx tAy tAz tBb tAw tAb tAh tAi tAj tAm tAg).bind fun tAc => (if (tAc.size : Int) < 51 then (plaitinglaw5_FramePlaces.j0 k tAc true tAb tAh tAi tAj tAm tAg) else (if 0 ≤ 2 then (if 2 ≤ (tAc.size : Int) then ((plaitingref1_Bits.f k tAb 2).bind fun tAu => (if (tAc.extract 0 2).toList = tAu.toList then (if 2 ≤ 18 then (if 18 ≤ (tAc.size : Int) then ((plaitingref1_Bits.f k tAh 16).bind fun tAt => (if (tAc.extract 2 18).toList = tAt.toList then (if 18 ≤ 24 then (if 24 ≤ (tAc.size : Int) then ((plaitingref1_Bits.f k tAi 6).bind fun tAs => (if (tAc.extract 18 24).toList = tAs.toList then (if 24 ≤ 26 then (if 26 ≤ (tAc.size : Int) then ((plaitingref1_Bits.f k tAj 2).bind fun tAr => (if (tAc.extract 24 26).toList = tAr.toList then (if 26 ≤ 34 then (if 34 ≤ (tAc.size : Int) then ((plaitingref1_Bits.f k tAm 8).bind fun tAq => (if (tAc.extract 26 34).toList = tAq.toList then (plaitinglaw5_FramePlaces.j0 k tAc ((tAc.size : Int) != (wrap64 (51 + (wrap64 (10 * (tAg.length : Int)))))) tAb tAh tAi tAj tAm tAg) else (plaitinglaw5_FramePlaces.j0 k tAc true tAb tAh tAi tAj tAm tAg))) else (none)) else (none)) else (plaitinglaw5_FramePlaces.j0 k tAc true tAb tAh tAi tAj tAm tAg))) else (none)) else (none)) else (plaitinglaw5_FramePlaces.j0 k tAc true tAb tAh tAi tAj tAm tAg))) else (none)) else (none)) else (plaitinglaw5_FramePlaces.j0 k tAc true tAb tAh tAi tAj tAm tAg))) else (none)) else (none)) else (plaitinglaw5_FramePlaces.j0 k tAc true tAb tAh tAi tAj tAm tAg))) else (none)) else (none)))) = some r := H
 have A7 := Aside0.mk A70
 clear A70
 replace H := Option.bind_eq_some_iff.mp H
 obtain ⟨tAc, A80, H⟩ := H
 replace H : (if (tAc.size : Int) < 51 then (plaitinglaw5_FramePlaces.j0 k tAc true tAb tAh tAi tAj tAm tAg) else (if 0 ≤ 2 then (if 2 ≤ (tAc.size : Int) then ((plaitingref1_Bits.f k tAb 2).bind fun tAu => (if (tAc.extract 0 2).toList = tAu.toList then (if 2 ≤ 18 then (if 18 ≤ (tAc.size : Int) then ((plaitingref1_Bits.f k tAh 16).bind fun tAt => (if (tAc.extract 2 18).toList = tAt.toList then (if 18 ≤ 24 then (if 24 ≤ (tAc.size : Int) then ((plaitingref1_Bits.f k tAi 6).bind fun tAs => (if (tAc.extract 18 24).toList = tAs.toList then (if 24 ≤ 26 then (if 26 ≤ (tAc.size : Int) then ((plaitingref1_Bits.f k tAj 2).bind fun tAr => (if (tAc.extract 24 26).toList = tAr.toList then (if 26 ≤ 34 then (if 34 ≤ (tAc.size : Int) then ((plaitingref1_Bits.f k tAm 8).bind fun tAq => (if (tAc.extract 26 34).toList = tAq.toList then (plaitinglaw5_FramePlaces.j0 k tAc ((tAc.size : Int) != (wrap64 (51 + (wrap64 (10 * (tAg.length : Int)))))) tAb tAh tAi tAj tAm tAg) else (plaitinglaw5_FramePlaces.j0 k tAc true tAb tAh tAi tAj tAm tAg))) else (none)) else (none)) else (plaitinglaw5_FramePlaces.j0 k tAc true tAb tAh tAi tAj tAm tAg))) else (none)) else (none)) else (plaitinglaw5_FramePlaces.j0 k tAc true tAb tAh tAi tAj tAm tAg))) else (none)) else (none)) else (plaitinglaw5_FramePlaces.j0 k tAc true tAb tAh tAi tAj tAm tAg))) else (none)) else (none)) else (plaitinglaw5_FramePlaces.j0 k tAc true tAb tAh tAi tAj tAm tAg))) else (none)) else (none))) = some r := H
 have A8 := Aside0.mk A80
 clear A80
 have HC9 := Aside0.mk H
 clear H
 go_enter Try.func5, Try.ntmps5
 go_upto_region 6 with (first | ((with_reducible refine gate_dst (N := 3) rfl ?_); (try (refine gate_guard (by rfl) ?_; dsimp only)); refine box_event ?hg (N := 3) ?hd (cs := #[.int .i64 a0_0, .int .i64 a0_1, .int .i64 a0_2, .int .i64 a0_3, .int .i64 a0_4, .slice A0_5 l0_5.length c0_5]) (t := 24) ?hr ?_; (case hd => rfl); (case hg => rfl); (case hr => first | (go_simp; done) | (go_simp; rfl)); intro gbAe hg w10 hbox hb; have BKAe := Aside0.mk (hbox); have GWAe := Aside0.mk ((by rw [hg]; exact (below_size (pH_ HB.out)) : w.heap.size ≤ gbAe)); have GEAe := Aside0.mk ((by rw [hg]; exact (below_size (pH_ HB.out)) : w.heap.size ≤ gbAe)); replace HB := Aside0.mk (below_step (pH_ HB.out) hb); clear hb hbox hg) | ((with_reducible refine gate_dst (N := 4) rfl ?_); (try (refine gate_guard (by rfl) ?_; dsimp only)); refine box_event ?hg (N := 4) ?hd (cs := #[.int .i64 a1_0, .int .i64 a1_1, .int .i64 a1_2, .int .i64 a1_3, .int .i64 a1_4, .slice A1_5 l1_5.length c1_5]) (t := 29) ?hr ?_; (case hd => rfl); (case hg => rfl); (case hr => first | (go_simp; done) | (go_simp; rfl)); intro gbAf hg w11 hbox hb; have BKAf := Aside0.mk (hbox); have GWAf := Aside0.mk ((by rw [hg]; exact (below_size (pH_ HB.out)) : w.heap.size ≤ gbAf)); have GEAf := Aside0.mk ((by rw [hg]; exact (below_size (pH_ HB.out)) : w.heap.size ≤ gbAf)); have NBAe_Af := Aside0.mk (ltB_ hg BKAe.out); have NBAf_Ae := Aside0.mk (ltB_ hg BKAe.out).symm; replace BKAe := Aside0.mk (blk_below (pB_ BKAe.out) hb); replace HB := Aside0.mk (below_step (pH_ HB.out) hb); clear hb hbox hg) | ((with_reducible refine gate_callee (f := 18) rfl ?_); refine gL_ 11 Try.func18 #[] ?_; (with_reducible refine (plaitinglaw5_known.calls  true _ A4.out).mono ?_); rintro e w12 ⟨rfl, hb⟩; refine ⟨_, rfl, ?_⟩; replace BKAe := Aside0.mk (blk_below (pB_ BKAe.out) hb); replace BKAf := Aside0.mk (blk_below (pB_ BKAf.out) hb); replace HB := Aside0.mk (below_step (pH_ HB.out) hb); (try clear hb); (try clear hb2); (try clear hk); (try clear hi); have hnb13 := NBAe_Af.out; have hnc13 := NBAf_Ae.out; have hcz14_0 : w12.cell? ⟨gbAe, 0, none⟩ = some (.int .i64 a0_0) := (blk_cell BKAe.out 0).trans rfl; have hcz14_1 : w12.cell? ⟨gbAe, 1, none⟩ = some (.int .i64 a0_1) := (blk_cell BKAe.out 1).trans rfl; have hcz14_2 : w12.cell? ⟨gbAe, 2, none⟩ = some (.int .i64 a0_2) := (blk_cell BKAe.out 2).trans rfl; have hcz14_3 : w12.cell? ⟨gbAe, 3, none⟩ = some (.int .i64 a0_3) := (blk_cell BKAe.out 3).trans rfl; have hcz14_4 : w12.cell? ⟨gbAe, 4, none⟩ = some (.int .i64 a0_4) := (blk_cell BKAe.out 4).trans rfl; have hcz14_5 : w12.cell? ⟨gbAe, 5, none⟩ = some (.slice A0_5 l0_5.length c0_5) := (blk_cell BKAe.out 5).trans rfl; have hfz14_0 := blk_frozen BKAe.out 0; have hfz14_1 := blk_frozen BKAe.out 1; have hfz14_2 := blk_frozen BKAe.out 2; have hfz14_3 := blk_frozen BKAe.out 3; have hfz14_4 := blk_frozen BKAe.out 4; have hfz14_5 := blk_frozen BKAe.out 5) | ((with_reducible refine gate_callee (f := 20) rfl ?_); refine gL_ 14 Try.func20 #[.agg #[.int .i64 a0_0, .int .i64 a0_1, .int .i64 a0_2, .int .i64 a0_3, .int .i64 a0_4, .slice A0_5 l0_5.length c0_5]] ?_; (with_reducible refine (plaitinglaw3_Make.calls k a0_0 a0_1 a0_2 a0_3 a0_4 _ _ l0_5 tAk tAx tAy tAz tBb tAw _ ?side1 ?side2 A6.out).mono ?_); (case side1 => exact cC_ (Kd.C_below HR0_5.out HB.out)); (case side2 => exact HC0_5.out); rintro e w15 ⟨vBf, rfl, ho0, hb⟩; refine ⟨_, rfl, ?_⟩; have HOAn := Aside0.mk (Kd.R_lower ho0 (below_size (pH_ HB.out))); replace BKAe := Aside0.mk (blk_below (pB_ BKAe.out) hb); replace BKAf := Aside0.mk (blk_below (pB_ BKAf.out) hb); replace HB := Aside0.mk (below_step (pH_ HB.out) hb); (try clear hb); (try clear hb2); (try clear hk); (try clear hi); (try clear ho0)) | ((with_reducible refine gate_dst (N := 7) rfl ?_); (try (refine gate_guard (by rfl) ?_; dsimp only)); refine box_event ?hg (N := 7) ?hd (cs := #[.int .i64 0, .int .i64 0, .int .i64 0, .int .i64 0, .int .i64 0, .slice none 0 0]) (t := 24) ?hr ?_; (case hd => rfl); (case hg => rfl); (case hr => first | (go_simp; done) | (go_simp; rfl)); intro gbAd hg w16 hbox hb; have BKAd := Aside0.mk (hbox); have GWAd := Aside0.mk ((by rw [hg]; exact (below_size (pH_ HB.out)) : w.heap.size ≤ gbAd)); have GEAd := Aside0.mk ((by rw [hg]; exact (below_size (pH_ HB.out)) : w.heap.size ≤ gbAd)); have NBAe_Ad := Aside0.mk (ltB_ hg BKAe.out); have NBAd_Ae := Aside0.mk (ltB_ hg BKAe.out).symm; have NBAf_Ad := Aside0.mk (ltB_ hg BKAf.out); have NBAd_Af := Aside0.mk (ltB_ hg BKAf.out).symm; replace HOAn := Aside0.mk (Kd.R_below (pR_ HOAn.out) hb); replace BKAe := Aside0.mk (blk_below (pB_ BKAe.out) hb); replace BKAf := Aside0.mk (blk_below (pB_ BKAf.out) hb); replace HB := Aside0.mk (below_step (pH_ HB.out) hb); clear hb hbox hg; have hnb17 := NBAd_Ae.out; have hnc17 := NBAe_Ad.out; have hnb18 := NBAd_Af.out; have hnc18 := NBAf_Ad.out; have hcz19_0 : w16.cell? ⟨gbAd, 0, none⟩ = some (.int .i64 0) := (blk_cell BKAd.out 0).trans rfl; have hcz19_1 : w16.cell? ⟨gbAd, 1, none⟩ = some (.int .i64 0) := (blk_cell BKAd.out 1).trans rfl; have hcz19_2 : w16.cell? ⟨gbAd, 2, none⟩ = some (.int .i64 0) := (blk_cell BKAd.out 2).trans rfl; have hcz19_3 : w16.cell? ⟨gbAd, 3, none⟩ = some (.int .i64 0) := (blk_cell BKAd.out 3).trans rfl; have hcz19_4 : w16.cell? ⟨gbAd, 4, none⟩ = some (.int .i64 0) := (blk_cell BKAd.out 4).trans rfl; have hcz19_5 : w16.cell? ⟨gbAd, 5, none⟩ = some (.slice none 0 0) := (blk_cell BKAd.out 5).trans rfl; have hfz19_0 := blk_frozen BKAd.out 0; have hfz19_1 := blk_frozen BKAd.out 1; have hfz19_2 := blk_frozen BKAd.out 2; have hfz19_3 := blk_frozen BKAd.out 3; have hfz19_4 := blk_frozen BKAd.out 4; have hfz19_5 := blk_frozen BKAd.out 5; obtain ⟨Ao20, co20, eo20⟩ := Kd.R_slice HOAn.out; subst eo20; have hcz21_0 : w16.cell? ⟨gbAf, 0, none⟩ = some (.int .i64 a1_0) := (blk_cell BKAf.out 0).trans rfl; have hcz21_1 : w16.cell? ⟨gbAf, 1, none⟩ = some (.int .i64 a1_1) := (blk_cell BKAf.out 1).trans rfl; have hcz21_2 : w16.cell? ⟨gbAf, 2, none⟩ = some (.int .i64 a1_2) := (blk_cell BKAf.out 2).trans rfl; have hcz21_3 : w16.cell? ⟨gbAf, 3, none⟩ = some (.int .i64 a1_3) := (blk_cell BKAf.out 3).trans rfl; have hcz21_4 : w16.cell? ⟨gbAf, 4, none⟩ = some (.int .i64 a1_4) := (blk_cell BKAf.out 4).trans rfl; have hcz21_5 : w16.cell? ⟨gbAf, 5, none⟩ = some (.slice A1_5 l1_5.length c1_5) := (blk_cell BKAf.out 5).trans rfl; have hfz21_0 := blk_frozen BKAf.out 0; have hfz21_1 := blk_frozen BKAf.out 1; have hfz21_2 := blk_frozen BKAf.out 2; have hfz21_3 := blk_frozen BKAf.out 3; have hfz21_4 := blk_frozen BKAf.out 4; have hfz21_5 := blk_frozen BKAf.out 5) | ((with_reducible refine gate_callee (f := 21) rfl ?_); refine gL_ 18 Try.func21 #[.agg #[.int .i64 tAk, .int .i64 tAx, .int .i64 tAy, .int .i64 tAz, .int .i64 tBb, .slice Ao20 tAw.length co20], .agg #[.int .i64 a1_0, .int .i64 a1_1, .int .i64 a1_2, .int .i64 a1_3, .int .i64 a1_4, .slice A1_5 l1_5.length c1_5], .slice A2 l2.length c2] ?_; (with_reducible refine (plaitinglaw5_Make.calls k tAk tAx tAy tAz tBb _ _ tAw a1_0 a1_1 a1_2 a1_3 a1_4 _ _ l1_5 _ _ l2 tAb tAh tAi tAj tAm tAg _ ?side1 ?side2 ?side3 ?side4 ?side5 ?side6 A7.out).mono ?_); (case side1 => refine (Kd.R_reads' (e := 3) (base := w.heap.size) (ok := fun k_ => True) (n := tAw.length) (c := co20) ?_).2.2; exact (by (with_reducible repeat (first | apply Kd.R_alloc | apply Kd.R_drewN | apply Kd.R_drew)); exact (Kd.R_mono (Kd.R_far (p := ⟨gbAd, 5, none⟩) (Kd.R_far (p := ⟨gbAd, 4, none⟩) (Kd.R_far (p := ⟨gbAd, 3, none⟩) (Kd.R_far (p := ⟨gbAd, 2, none⟩) (Kd.R_far (p := ⟨gbAd, 1, none⟩) (Kd.R_far (p := ⟨gbAd, 0, none⟩) (Kd.R_types HOAn.out BKAd.out (by decide)) (fun _ hk => hk.2) (.int .i64 tAk)) (fun _ hk => hk.2) (.int .i64 tAx)) (fun _ hk => hk.2) (.int .i64 tAy)) (fun _ hk => hk.2) (.int .i64 tAz)) (fun _ hk => hk.2) (.int .i64 tBb)) (fun _ hk => hk.2) (.slice Ao20 tAw.length co20)) (fun _ h_ => h_.1)))); (case side2 => exact (Kd.R_reads' HOAn.out).2.1); (case side3 => exact Kd.C_below HR1_5.out (pH_ HB.out)); (case side4 => exact HC1_5.out); (case side5 => exact Kd.C_below HR2.out (pH_ HB.out)); (case side6 => exact HC2.out); rintro e w22 ⟨vBg, rfl, ho0, hb⟩; refine ⟨_, rfl, ?_⟩; have HOAp := Aside0.mk (Kd.R_lower ho0 (below_size (pH_ HB.out))); replace HOAn := Aside0.mk (Kd.R_below (by (with_reducible repeat (first | apply Kd.R_alloc | apply Kd.R_drewN | apply Kd.R_drew)); exact (Kd.R_mono (Kd.R_far (p := ⟨gbAd, 5, none⟩) (Kd.R_far (p := ⟨gbAd, 4, none⟩) (Kd.R_far (p := ⟨gbAd, 3, none⟩) (Kd.R_far (p := ⟨gbAd, 2, none⟩) (Kd.R_far (p := ⟨gbAd, 1, none⟩) (Kd.R_far (p := ⟨gbAd, 0, none⟩) (Kd.R_types HOAn.out BKAd.out (by decide)) (fun _ hk => hk.2) (.int .i64 tAk)) (fun _ hk => hk.2) (.int .i64 tAx)) (fun _ hk => hk.2) (.int .i64 tAy)) (fun _ hk => hk.2) (.int .i64 tAz)) (fun _ hk => hk.2) (.int .i64 tBb)) (fun _ hk => hk.2) (.slice Ao20 tAw.length co20)) (fun _ h_ => h_.1))) hb); replace BKAe := Aside0.mk (blk_below (g := gbAe) (o := .cells #[.int .i64 a0_0, .int .i64 a0_1, .int .i64 a0_2, .int .i64 a0_3, .int .i64 a0_4, .slice A0_5 l0_5.length c0_5] 24 (0, 0)) (by (with_reducible repeat (first | refine blk_drewN ?_ _ | refine blk_drew ?_ | refine blk_alloc ?_ _)); refine blk_far ?_ NBAe_Ad.out _; refine blk_far ?_ NBAe_Ad.out _; refine blk_far ?_ NBAe_Ad.out _; refine blk_far ?_ NBAe_Ad.out _; refine blk_far ?_ NBAe_Ad.out _; refine blk_far ?_ NBAe_Ad.out _; (with_reducible repeat (first | refine blk_drewN ?_ _ | refine blk_drew ?_ | refine blk_alloc ?_ _)); exact BKAe.out) hb); replace BKAf := Aside0.mk (blk_below (g := gbAf) (o := .cells #[.int .i64 a1_0, .int .i64 a1_1, .int .i64 a1_2, .int .i64 a1_3, .int .i64 a1_4, .slice A1_5 l1_5.length c1_5] 29 (0, 0)) (by (with_reducible repeat (first | refine blk_drewN ?_ _ | refine blk_drew ?_ | refine blk_alloc ?_ _)); refine blk_far ?_ NBAf_Ad.out _; refine blk_far ?_ NBAf_Ad.out _; refine blk_far ?_ NBAf_Ad.out _; refine blk_far ?_ NBAf_Ad.out _; refine blk_far ?_ NBAf_Ad.out _; refine blk_far ?_ NBAf_Ad.out _; (with_reducible repeat (first | refine blk_drewN ?_ _ | refine blk_drew ?_ | refine blk_alloc ?_ _)); exact BKAf.out) hb); replace BKAd := Aside0.mk (blk_below (g := gbAd) (o := .cells #[.int .i64 tAk, .int .i64 tAx, .int .i64 tAy, .int .i64 tAz, .int .i64 tBb, .slice Ao20 tAw.length co20] 24 (0, 0)) (by (with_reducible repeat (first | refine blk_drewN ?_ _ | refine blk_drew ?_ | refine blk_alloc ?_ _)); refine blk_put (cs := #[.int .i64 tAk, .int .i64 tAx, .int .i64 tAy, .int .i64 tAz, .int .i64 tBb, .slice none 0 0]) ?_ 5 _ rfl; refine blk_put (cs := #[.int .i64 tAk, .int .i64 tAx, .int .i64 tAy, .int .i64 tAz, .int .i64 0, .slice none 0 0]) ?_ 4 _ rfl; refine blk_put (cs := #[.int .i64 tAk, .int .i64 tAx, .int .i64 tAy, .int .i64 0, .int .i64 0, .slice none 0 0]) ?_ 3 _ rfl; refine blk_put (cs := #[.int .i64 tAk, .int .i64 tAx, .int .i64 0, .int .i64 0, .int .i64 0, .slice none 0 0]) ?_ 2 _ rfl; refine blk_put (cs := #[.int .i64 tAk, .int .i64 0, .int .i64 0, .int .i64 0, .int .i64 0, .slice none 0 0]) ?_ 1 _ rfl; refine blk_put (cs := #[.int .i64 0, .int .i64 0, .int .i64 0, .int .i64 0, .int .i64 0, .slice none 0 0]) ?_ 0 _ rfl; (with_reducible repeat (first | refine blk_drewN ?_ _ | refine blk_drew ?_ | refine blk_alloc ?_ _)); exact BKAd.out) hb); replace HB := Aside0.mk (below_step (pH_ HB.out) hb); (try clear hb); (try clear hb2); (try clear hk); (try clear hi); (try clear ho0)) | ((with_reducible refine gate_dst (N := 8) rfl ?_); (try (refine gate_guard (by rfl) ?_; dsimp only)); refine box_event ?hg (N := 8) ?hd (cs := #[.int .i64 0, .int .i64 0, .int .i64 0, .int .i64 0, .int .i64 0, .slice none 0 0]) (t := 29) ?hr ?_; (case hd => rfl); (case hg => rfl); (case hr => first | (go_simp; done) | (go_simp; rfl)); intro gbAa hg w23 hbox hb; have BKAa := Aside0.mk (hbox); have GWAa := Aside0.mk ((by rw [hg]; exact (below_size (pH_ HB.out)) : w.heap.size ≤ gbAa)); have GEAa := Aside0.mk ((by rw [hg]; exact (below_size (pH_ HB.out)) : w.heap.size ≤ gbAa)); have NBAe_Aa := Aside0.mk (ltB_ hg BKAe.out); have NBAa_Ae := Aside0.mk (ltB_ hg BKAe.out).symm; have NBAf_Aa := Aside0.mk (ltB_ hg BKAf.out); have NBAa_Af := Aside0.mk (ltB_ hg BKAf.out).symm; have NBAd_Aa := Aside0.mk (ltB_ hg BKAd.out); have NBAa_Ad := Aside0.mk (ltB_ hg BKAd.out).symm; replace HOAn := Aside0.mk (Kd.R_below (pR_ HOAn.out) hb); replace HOAp := Aside0.mk (Kd.R_below (pR_ HOAp.out) hb); replace BKAe := Aside0.mk (blk_below (pB_ BKAe.out) hb); replace BKAf := Aside0.mk (blk_below (pB_ BKAf.out) hb); replace BKAd := Aside0.mk (blk_below (pB_ BKAd.out) hb); replace HB := Aside0.mk (below_step (pH_ HB.out) hb); clear hb hbox hg; have hnb24 := NBAa_Ae.out; have hnc24 := NBAe_Aa.out; have hnb25 := NBAa_Af.out; have hnc25 := NBAf_Aa.out; have hnb26 := NBAa_Ad.out; have hnc26 := NBAd_Aa.out; have hcz27_0 : w23.cell? ⟨gbAa, 0, none⟩ = some (.int .i64 0) := (blk_cell BKAa.out 0).trans rfl; have hcz27_1 : w23.cell? ⟨gbAa, 1, none⟩ = some (.int .i64 0) := (blk_cell BKAa.out 1).trans rfl; have hcz27_2 : w23.cell? ⟨gbAa, 2, none⟩ = some (.int .i64 0) := (blk_cell BKAa.out 2).trans rfl; have hcz27_3 : w23.cell? ⟨gbAa, 3, none⟩ = some (.int .i64 0) := (blk_cell BKAa.out 3).trans rfl; have hcz27_4 : w23.cell? ⟨gbAa, 4, none⟩ = some (.int .i64 0) := (blk_cell BKAa.out 4).trans rfl; have hcz27_5 : w23.cell? ⟨gbAa, 5, none⟩ = some (.slice none 0 0) := (blk_cell BKAa.out 5).trans rfl; have hfz27_0 := blk_frozen BKAa.out 0; have hfz27_1 := blk_frozen BKAa.out 1; have hfz27_2 := blk_frozen BKAa.out 2; have hfz27_3 := blk_frozen BKAa.out 3; have hfz27_4 := blk_frozen BKAa.out 4; have hfz27_5 := blk_frozen BKAa.out 5; obtain ⟨Ao28, co28, eo28⟩ := Kd.R_slice HOAp.out; subst eo28; have hcz29_0 : w23.cell? ⟨gbAd, 0, none⟩ = some (.int .i64 tAk) := (blk_cell BKAd.out 0).trans rfl; have hcz29_1 : w23.cell? ⟨gbAd, 1, none⟩ = some (.int .i64 tAx) := (blk_cell BKAd.out 1).trans rfl; have hcz29_2 : w23.cell? ⟨gbAd, 2, none⟩ = some (.int .i64 tAy) := (blk_cell BKAd.out 2).trans rfl; have hcz29_3 : w23.cell? ⟨gbAd, 3, none⟩ = some (.int .i64 tAz) := (blk_cell BKAd.out 3).trans rfl; have hcz29_4 : w23.cell? ⟨gbAd, 4, none⟩ = some (.int .i64 tBb) := (blk_cell BKAd.out 4).trans rfl; have hcz29_5 : w23.cell? ⟨gbAd, 5, none⟩ = some (.slice Ao20 tAw.length co20) := (blk_cell BKAd.out 5).trans rfl; have hfz29_0 := blk_frozen BKAd.out 0; have hfz29_1 := blk_frozen BKAd.out 1; have hfz29_2 := blk_frozen BKAd.out 2; have hfz29_3 := blk_frozen BKAd.out 3; have hfz29_4 := blk_frozen BKAd.out 4; have hfz29_5 := blk_frozen BKAd.out 5) | ((with_reducible refine gate_callee (f := 26) rfl ?_); refine gL_ 21 Try.func26 #[.agg #[.int .i64 tAk, .int .i64 tAx, .int .i64 tAy, .int .i64 tAz, .int .i64 tBb, .slice Ao20 tAw.length co20], .agg #[.int .i64 tAb, .int .i64 tAh, .int .i64 tAi, .int .i64 tAj, .int .i64 tAm, .slice Ao28 tAg.length co28]] ?_; (with_reducible refine (frame_Text.calls tAk tAx tAy tAz tBb _ _ tAw tAb tAh tAi tAj tAm _ _ tAg tAc _ ?side1 ?side2 ?side3 ?side4 A8.out).mono ?_); (case side1 => refine (Kd.R_reads' (e := 3) (base := w.heap.size) (ok := fun k_ => True) (n := tAw.length) (c := co20) ?_).2.2; exact (by (with_reducible repeat (first | apply Kd.R_alloc | apply Kd.R_drewN | apply Kd.R_drew)); exact (Kd.R_mono (Kd.R_far (p := ⟨gbAa, 5, none⟩) (Kd.R_far (p := ⟨gbAa, 4, none⟩) (Kd.R_far (p := ⟨gbAa, 3, none⟩) (Kd.R_far (p := ⟨gbAa, 2, none⟩) (Kd.R_far (p := ⟨gbAa, 1, none⟩) (Kd.R_far (p := ⟨gbAa, 0, none⟩) (Kd.R_types HOAn.out BKAa.out (by decide)) (fun _ hk => hk.2) (.int .i64 tAb)) (fun _ hk => hk.2) (.int .i64 tAh)) (fun _ hk => hk.2) (.int .i64 tAi)) (fun _ hk => hk.2) (.int .i64 tAj)) (fun _ hk => hk.2) (.int .i64 tAm)) (fun _ hk => hk.2) (.slice Ao28 tAg.length co28)) (fun _ h_ => h_.1)))); (case side2 => exact (Kd.R_reads' HOAn.out).2.1); (case side3 => refine (Kd.R_reads' (e := 26) (base := w.heap.size) (ok := fun k_ => True) (n := tAg.length) (c := co28) ?_).2.2; exact (by (with_reducible repeat (first | apply Kd.R_alloc | apply Kd.R_drewN | apply Kd.R_drew)); exact (Kd.R_mono (Kd.R_far (p := ⟨gbAa, 5, none⟩) (Kd.R_far (p := ⟨gbAa, 4, none⟩) (Kd.R_far (p := ⟨gbAa, 3, none⟩) (Kd.R_far (p := ⟨gbAa, 2, none⟩) (Kd.R_far (p := ⟨gbAa, 1, none⟩) (Kd.R_far (p := ⟨gbAa, 0, none⟩) (Kd.R_types HOAp.out BKAa.out (by decide)) (fun _ hk => hk.2) (.int .i64 tAb)) (fun _ hk => hk.2) (.int .i64 tAh)) (fun _ hk => hk.2) (.int .i64 tAi)) (fun _ hk => hk.2) (.int .i64 tAj)) (fun _ hk => hk.2) (.int .i64 tAm)) (fun _ hk => hk.2) (.slice Ao28 tAg.length co28)) (fun _ h_ => h_.1)))); (case side4 => exact (Kd.R_reads' HOAp.out).2.1); rintro e w30 ⟨rfl, hb⟩; refine ⟨_, rfl, ?_⟩; replace HOAn := Aside0.mk (Kd.R_below (by (with_reducible repeat (first | apply Kd.R_alloc | apply Kd.R_drewN | apply Kd.R_drew)); exact (Kd.R_mono (Kd.R_far (p := ⟨gbAa, 5, none⟩) (Kd.R_far (p := ⟨gbAa, 4, none⟩) (Kd.R_far (p := ⟨gbAa, 3, none⟩) (Kd.R_far (p := ⟨gbAa, 2, none⟩) (Kd.R_far (p := ⟨gbAa, 1, none⟩) (Kd.R_far (p := ⟨gbAa, 0, none⟩) (Kd.R_types HOAn.out BKAa.out (by decide)) (fun _ hk => hk.2) (.int .i64 tAb)) (fun _ hk => hk.2) (.int .i64 tAh)) (fun _ hk => hk.2) (.int .i64 tAi)) (fun _ hk => hk.2) (.int .i64 tAj)) (fun _ hk => hk.2) (.int .i64 tAm)) (fun _ hk => hk.2) (.slice Ao28 tAg.length co28)) (fun _ h_ => h_.1))) hb); replace HOAp := Aside0.mk (Kd.R_below (by (with_reducible repeat (first | apply Kd.R_alloc | apply Kd.R_drewN | apply Kd.R_drew)); exact (Kd.R_mono (Kd.R_far (p := ⟨gbAa, 5, none⟩) (Kd.R_far (p := ⟨gbAa, 4, none⟩) (Kd.R_far (p := ⟨gbAa, 3, none⟩) (Kd.R_far (p := ⟨gbAa, 2, none⟩) (Kd.R_far (p := ⟨gbAa, 1, none⟩) (Kd.R_far (p := ⟨gbAa, 0, none⟩) (Kd.R_types HOAp.out BKAa.out (by decide)) (fun _ hk => hk.2) (.int .i64 tAb)) (fun _ hk => hk.2) (.int .i64 tAh)) (fun _ hk => hk.2) (.int .i64 tAi)) (fun _ hk => hk.2) (.int .i64 tAj)) (fun _ hk => hk.2) (.int .i64 tAm)) (fun _ hk => hk.2) (.slice Ao28 tAg.length co28)) (fun _ h_ => h_.1))) hb); replace BKAe := Aside0.mk (blk_below (g := gbAe) (o := .cells #[.int .i64 a0_0, .int .i64 a0_1, .int .i64 a0_2, .int .i64 a0_3, .int .i64 a0_4, .slice A0_5 l0_5.length c0_5] 24 (0, 0)) (by (with_reducible repeat (first | refine blk_drewN ?_ _ | refine blk_drew ?_ | refine blk_alloc ?_ _)); refine blk_far ?_ NBAe_Aa.out _; refine blk_far ?_ NBAe_Aa.out _; refine blk_far ?_ NBAe_Aa.out _; refine blk_far ?_ NBAe_Aa.out _; refine blk_far ?_ NBAe_Aa.out _; refine blk_far ?_ NBAe_Aa.out _; (with_reducible repeat (first | refine blk_drewN ?_ _ | refine blk_drew ?_ | refine blk_alloc ?_ _)); exact BKAe.out) hb); replace BKAf := Aside0.mk (blk_below (g := gbAf) (o := .cells #[.int .i64 a1_0, .int .i64 a1_1, .int .i64 a1_2, .int .i64 a1_3, .int .i64 a1_4, .slice A1_5 l1_5.length c1_5] 29 (0, 0)) (by (with_reducible repeat (first | refine blk_drewN ?_ _ | refine blk_drew ?_ | refine blk_alloc ?_ _)); refine blk_far ?_ NBAf_Aa.out _; refine blk_far ?_ NBAf_Aa.out _; refine blk_far ?_ NBAf_Aa.out _; refine blk_far ?_ NBAf_Aa.out _; refine blk_far ?_ NBAf_Aa.out _; refine blk_far ?_ NBAf_Aa.out _; (with_reducible repeat (first | refine blk_drewN ?_ _ | refine blk_drew ?_ | refine blk_alloc ?_ _)); exact BKAf.out) hb); replace BKAd := Aside0.mk (blk_below (g := gbAd) (o := .cells #[.int .i64 tAk, .int .i64 tAx, .int .i64 tAy, .int .i64 tAz, .int .i64 tBb, .slice Ao20 tAw.length co20] 24 (0, 0)) (by (with_reducible repeat (first | refine blk_drewN ?_ _ | refine blk_drew ?_ | refine blk_alloc ?_ _)); refine blk_far ?_ NBAd_Aa.out _; refine blk_far ?_ NBAd_Aa.out _; refine blk_far ?_ NBAd_Aa.out _; refine blk_far ?_ NBAd_Aa.out _; refine blk_far ?_ NBAd_Aa.out _; refine blk_far ?_ NBAd_Aa.out _; (with_reducible repeat (first | refine blk_drewN ?_ _ | refine blk_drew ?_ | refine blk_alloc ?_ _)); exact BKAd.out) hb); replace BKAa := Aside0.mk (blk_below (g := gbAa) (o := .cells #[.int .i64 tAb, .int .i64 tAh, .int .i64 tAi, .int .i64 tAj, .int .i64 tAm, .slice Ao28 tAg.length co28] 29 (0, 0)) (by (with_reducible repeat (first | refine blk_drewN ?_ _ | refine blk_drew ?_ | refine blk_alloc ?_ _)); refine blk_put (cs := #[.int .i64 tAb, .int .i64 tAh, .int .i64 tAi, .int .i64 tAj, .int .i64 tAm, .slice none 0 0]) ?_ 5 _ rfl; refine blk_put (cs := #[.int .i64 tAb, .int .i64 tAh, .int .i64 tAi, .int .i64 tAj, .int .i64 0, .slice none 0 0]) ?_ 4 _ rfl; refine blk_put (cs := #[.int .i64 tAb, .int .i64 tAh, .int .i64 tAi, .int .i64 0, .int .i64 0, .slice none 0 0]) ?_ 3 _ rfl; refine blk_put (cs := #[.int .i64 tAb, .int .i64 tAh, .int .i64 0, .int .i64 0, .int .i64 0, .slice none 0 0]) ?_ 2 _ rfl; refine blk_put (cs := #[.int .i64 tAb, .int .i64 0, .int .i64 0, .int .i64 0, .int .i64 0, .slice none 0 0]) ?_ 1 _ rfl; refine blk_put (cs := #[.int .i64 0, .int .i64 0, .int .i64 0, .int .i64 0, .int .i64 0, .slice none 0 0]) ?_ 0 _ rfl; (with_reducible repeat (first | refine blk_drewN ?_ _ | refine blk_drew ?_ | refine blk_alloc ?_ _)); exact BKAa.out) hb); replace HB := Aside0.mk (below_step (pH_ HB.out) hb); (try clear hb); (try clear hb2); (try clear hk); (try clear hi)))
 (try simp only [Act.put, List.setIfInBounds_toArray, List.set_cons_zero, List.set_cons_succ])
 go_cut [76] (fun v76 wc => ∃ (kq : Nat) (x76_8 : Bool), v76 = .bool x76_8 ∧ Aside0 (plaitinglaw5_FramePlaces.j0 kq tAc x76_8 tAb tAh tAi tAj tAm tAg = some r) ∧ Aside0 (kq ≤ k) ∧ Aside0 (Kd.R (Kd.int .i64) 3 wc w.heap.size (fun _ => True) (.slice Ao20 tAw.length co20) tAw) ∧ Aside0 (Kd.R k26 26 wc w.heap.size (fun _ => True) (.slice Ao28 tAg.length co28) tAg) ∧ Aside0 (wc.heap[gbAe]? = some (.cells #[.int .i64 a0_0, .int .i64 a0_1, .int .i64 a0_2, .int .i64 a0_3, .int .i64 a0_4, (.slice A0_5 l0_5.length c0_5)] 24 (0, 0))) ∧ Aside0 (wc.heap[gbAf]? = some (.cells #[.int .i64 a1_0, .int .i64 a1_1, .int .i64 a1_2, .int .i64 a1_3, .int .i64 a1_4, (.slice A1_5 l1_5.length c1_5)] 29 (0, 0))) ∧ Aside0 (wc.heap[gbAd]? = some (.cells #[.int .i64 tAk, .int .i64 tAx, .int .i64 tAy, .int .i64 tAz, .int .i64 tBb, (.slice Ao20 tAw.length co20)] 24 (0, 0))) ∧ Aside0 (wc.heap[gbAa]? = some (.cells #[.int .i64 tAb, .int .i64 tAh, .int .i64 tAi, .int .i64 tAj, .int .i64 tAm, (.slice Ao28 tAg.length co28)] 29 (0, 0))) ∧ Aside0 (Below w.heap.size w wc))
 case first =>
  have H := HC9.out
  clear HC9
  by_cases c31 : (tAc.size : Int) < 51
  ·
   rw [if_pos c31] at H
   have c31b0 : decide ((tAc.size : Int) < 51) = true := decide_eq_true c31
   have c31b1 : decide (tAc.size < 51) = true := decide_eq_true (by omega)
   clear c31
   (first | rw [c31b0] | (simp only [i64_w, i32_w]; rw [c31b0]) | skip)
   have H' := Aside0.mk H
   clear H
   try go_wp2
   replace HOAn := Aside0.mk (Kd.R_drew HOAn.out)
   replace HOAp := Aside0.mk (Kd.R_drew HOAp.out)
   replace BKAe := Aside0.mk (blk_drew BKAe.out)
   replace BKAf := Aside0.mk (blk_drew BKAf.out)
   replace BKAd := Aside0.mk (blk_drew BKAd.out)
   replace BKAa := Aside0.mk (blk_drew BKAa.out)
   replace HB := Aside0.mk (below_drew1 HB.out)
   refine start_ (n := 55) (S := fun w' => True) (ds := []) #[false, false, false, false, false, false, false, false, false, false, false, false, false, false, false, false, false, false, false, false, false, false, false, false, false, false, false, false, false, false, false, false, false, false, false, false, false, false, false, false, false, false, false, false, false, false, false, false, false, false, false, false, false, false, false] (by kernel_rfl) rfl rfl trivial (fun hHeld => ?_); refine with_tabW plaitinglaw5_FramePlaces.tab6 plaitinglaw5_FramePlaces.bits6 (fun HT_ HW_ => ?_)
   generalize w30.drew = w32 at HOAn HOAp BKAe BKAf BKAd BKAa HB hHeld ⊢
   refine pq_ 0 22 HT_ ?_
   refine pq_ 1 23 HT_ ?_
   refine pq_ 2 24 HT_ ?_
   refine pq_ 3 25 HT_ ?_
   refine pu_ 4 26 HT_ ?_
   refine pu_ 5 27 HT_ ?_
   refine pu_ 6 28 HT_ ?_
   refine pu_ 7 29 HT_ ?_
   refine pu_ 8 30 HT_ ?_
   refine pu_ 9 31 HT_ ?_
   refine pq_ 10 32 HT_ ?_
   refine pq_ 11 33 HT_ ?_
   refine pu_ 12 34 HT_ ?_
   refine pu_ 13 35 HT_ ?_
   refine pu_ 14 36 HT_ ?_
   refine pu_ 15 37 HT_ ?_
   refine pu_ 16 38 HT_ ?_
   refine pu_ 17 39 HT_ ?_
   refine pq_ 18 40 HT_ ?_
   refine pq_ 19 41 HT_ ?_
   refine pu_ 20 42 HT_ ?_
   refine pu_ 21 43 HT_ ?_
   refine pu_ 22 44 HT_ ?_
   refine pu_ 23 45 HT_ ?_
   refine pu_ 24 46 HT_ ?_
   refine pu_ 25 47 HT_ ?_
   refine pq_ 26 48 HT_ ?_
   refine pq_ 27 49 HT_ ?_
   refine pu_ 28 50 HT_ ?_
   refine pu_ 29 51 HT_ ?_
   refine pu_ 30 52 HT_ ?_
   refine pu_ 31 53 HT_ ?_
   refine pu_ 32 54 HT_ ?_
   refine pu_ 33 55 HT_ ?_
   refine pu_ 34 56 HT_ ?_
   refine pq_ 35 57 HT_ ?_
   refine pq_ 36 58 HT_ ?_
   refine pu_ 37 59 HT_ ?_
   refine pu_ 38 60 HT_ ?_
   refine pu_ 39 61 HT_ ?_
   refine pu_ 40 62 HT_ ?_
   refine pu_ 41 63 HT_ ?_
   refine pu_ 42 64 HT_ ?_
   refine pu_ 43 65 HT_ ?_
   refine pq_ 44 66 HT_ ?_
   refine pq_ 45 67 HT_ ?_
   refine pu_ 46 68 HT_ ?_
   refine pu_ 47 69 HT_ ?_
   refine pu_ 48 70 HT_ ?_
   refine pu_ 49 71 HT_ ?_
   refine pu_ 50 72 HT_ ?_
   refine pu_ 51 73 HT_ ?_
   refine pu_ 52 74 HT_ ?_
   refine pu_ 53 75 HT_ ?_
   refine pq_ 54 76 HT_ ?_
   refine done_ (done_of HT_.out (by kernel_rfl)) ?_
   try go_wp2
   go_meet
   case rel => exact ⟨_, (true), (by first | rfl | (simp; done) | (simp [*]; done)), H', ⟨by first | omega | exact Nat.le_refl _⟩, ⟨by (with_reducible repeat (first | apply Kd.R_alloc | apply Kd.R_drewN | apply Kd.R_drew)); exact HOAn.out⟩, ⟨by (with_reducible repeat (first | apply Kd.R_alloc | apply Kd.R_drewN | apply Kd.R_drew)); exact HOAp.out⟩, ⟨by (with_reducible repeat (first | refine blk_drewN ?_ _ | refine blk_drew ?_ | refine blk_alloc ?_ _)); exact BKAe.out⟩, ⟨by (with_reducible repeat (first | refine blk_drewN ?_ _ | refine blk_drew ?_ | refine blk_alloc ?_ _)); exact BKAf.out⟩, ⟨by (with_reducible repeat (first | refine blk_drewN ?_ _ | refine blk_drew ?_ | refine blk_alloc ?_ _)); exact BKAd.out⟩, ⟨by (with_reducible repeat (first | refine blk_drewN ?_ _ | refine blk_drew ?_ | refine blk_alloc ?_ _)); exact BKAa.out⟩, ⟨by repeat (first | (with_reducible first | exact HB.out | apply below_alloc | apply pw_below_drewN | apply below_drew1 | refine below_set ?_ GEAe.out | refine below_set ?_ GEAf.out | refine below_set ?_ GEAd.out | refine below_set ?_ GEAa.out) | exact HB.out)⟩⟩
  rw [if_neg c31] at H
  have c31b0 : decide ((tAc.size : Int) < 51) = false := decide_eq_false c31
  have c31b1 : decide (tAc.size < 51) = false := decide_eq_false (by omega)
  clear c31
  (first | rw [c31b0] | (simp only [i64_w, i32_w]; rw [c31b0]) | skip)
  by_cases c33 : 0 ≤ 2
  rotate_left
  ·
   rw [if_neg c33] at H
   exact absurd H (by simp)
  rw [if_pos c33] at H
  have c33b0 := eq_true c33
  have c33b1 : decide (0 ≤ 2) = true := decide_eq_true c33
  clear c33
  by_cases c34 : 2 ≤ (tAc.size : Int)
  rotate_left
  ·
   rw [if_neg c34] at H
   exact absurd H (by simp)
  rw [if_pos c34] at H
  have c34b0 := eq_true c34
  have c34b1 : decide (2 ≤ (tAc.size : Int)) = true := decide_eq_true c34
  clear c34
  replace H := Option.bind_eq_some_iff.mp H
  obtain ⟨tAu, A350, H⟩ := H
  replace H : (if (tAc.extract 0 2).toList = tAu.toList then (if 2 ≤ 18 then (if 18 ≤ (tAc.size : Int) then ((plaitingref1_Bits.f k tAh 16).bind fun tAt => (if (tAc.extract 2 18).toList = tAt.toList then (if 18 ≤ 24 then (if 24 ≤ (tAc.size : Int) then ((plaitingref1_Bits.f k tAi 6).bind fun tAs => (if (tAc.extract 18 24).toList = tAs.toList then (if 24 ≤ 26 then (if 26 ≤ (tAc.size : Int) then ((plaitingref1_Bits.f k tAj 2).bind fun tAr => (if (tAc.extract 24 26).toList = tAr.toList then (if 26 ≤ 34 then (if 34 ≤ (tAc.size : Int) then ((plaitingref1_Bits.f k tAm 8).bind fun tAq => (if (tAc.extract 26 34).toList = tAq.toList then (plaitinglaw5_FramePlaces.j0 k tAc ((tAc.size : Int) != (wrap64 (51 + (wrap64 (10 * (tAg.length : Int)))))) tAb tAh tAi tAj tAm tAg) else (plaitinglaw5_FramePlaces.j0 k tAc true tAb tAh tAi tAj tAm tAg))) else (none)) else (none)) else (plaitinglaw5_FramePlaces.j0 k tAc true tAb tAh tAi tAj tAm tAg))) else (none)) else (none)) else (plaitinglaw5_FramePlaces.j0 k tAc true tAb tAh tAi tAj tAm tAg))) else (none)) else (none)) else (plaitinglaw5_FramePlaces.j0 k tAc true tAb tAh tAi tAj tAm tAg))) else (none)) else (none)) else (plaitinglaw5_FramePlaces.j0 k tAc true tAb tAh tAi tAj tAm tAg)) = some r := H
  have A35 := Aside0.mk A350
  clear A350
  by_cases c36 : (tAc.extract 0 2).toList = tAu.toList
  ·
   rw [if_pos c36] at H
   have c36b0 : ((tAc.extract 0 2).toList == tAu.toList) = true := beq_iff_eq.mpr c36
   have c36b1 : ((tAc.extract 0 2).toList != tAu.toList) = false := bne_eq_false_iff_eq.mpr c36
   clear c36
   by_cases c37 : 2 ≤ 18
   rotate_left
   ·
    rw [if_neg c37] at H
    exact absurd H (by simp)
   rw [if_pos c37] at H
   have c37b0 := eq_true c37
   have c37b1 : decide (2 ≤ 18) = true := decide_eq_true c37
   clear c37
   by_cases c38 : 18 ≤ (tAc.size : Int)
   rotate_left
   ·
    rw [if_neg c38] at H
    exact absurd H (by simp)
   rw [if_pos c38] at H
   have c38b0 := eq_true c38
   have c38b1 : decide (18 ≤ (tAc.size : Int)) = true := decide_eq_true c38
   clear c38
   replace H := Option.bind_eq_some_iff.mp H
   obtain ⟨tAt, A390, H⟩ := H
   replace H : (if (tAc.extract 2 18).toList = tAt.toList then (if 18 ≤ 24 then (if 24 ≤ (tAc.size : Int) then ((plaitingref1_Bits.f k tAi 6).bind fun tAs => (if (tAc.extract 18 24).toList = tAs.toList then (if 24 ≤ 26 then (if 26 ≤ (tAc.size : Int) then ((plaitingref1_Bits.f k tAj 2).bind fun tAr => (if (tAc.extract 24 26).toList = tAr.toList then (if 26 ≤ 34 then (if 34 ≤ (tAc.size : Int) then ((plaitingref1_Bits.f k tAm 8).bind fun tAq => (if (tAc.extract 26 34).toList = tAq.toList then (plaitinglaw5_FramePlaces.j0 k tAc ((tAc.size : Int) != (wrap64 (51 + (wrap64 (10 * (tAg.length : Int)))))) tAb tAh tAi tAj tAm tAg) else (plaitinglaw5_FramePlaces.j0 k tAc true tAb tAh tAi tAj tAm tAg))) else (none)) else (none)) else (plaitinglaw5_FramePlaces.j0 k tAc true tAb tAh tAi tAj tAm tAg))) else (none)) else (none)) else (plaitinglaw5_FramePlaces.j0 k tAc true tAb tAh tAi tAj tAm tAg))) else (none)) else (none)) else (plaitinglaw5_FramePlaces.j0 k tAc true tAb tAh tAi tAj tAm tAg)) = some r := H
   have A39 := Aside0.mk A390
   clear A390
   by_cases c40 : (tAc.extract 2 18).toList = tAt.toList
   ·
    rw [if_pos c40] at H
    have c40b0 : ((tAc.extract 2 18).toList == tAt.toList) = true := beq_iff_eq.mpr c40
    have c40b1 : ((tAc.extract 2 18).toList != tAt.toList) = false := bne_eq_false_iff_eq.mpr c40
    clear c40
    by_cases c41 : 18 ≤ 24
    rotate_left
    ·
     rw [if_neg c41] at H
     exact absurd H (by simp)
    rw [if_pos c41] at H
    have c41b0 := eq_true c41
    have c41b1 : decide (18 ≤ 24) = true := decide_eq_true c41
    clear c41
    by_cases c42 : 24 ≤ (tAc.size : Int)
    rotate_left
    ·
     rw [if_neg c42] at H
     exact absurd H (by simp)
    rw [if_pos c42] at H
    have c42b0 := eq_true c42
    have c42b1 : decide (24 ≤ (tAc.size : Int)) = true := decide_eq_true c42
    clear c42
    replace H := Option.bind_eq_some_iff.mp H
    obtain ⟨tAs, A430, H⟩ := H
    replace H : (if (tAc.extract 18 24).toList = tAs.toList then (if 24 ≤ 26 then (if 26 ≤ (tAc.size : Int) then ((plaitingref1_Bits.f k tAj 2).bind fun tAr => (if (tAc.extract 24 26).toList = tAr.toList then (if 26 ≤ 34 then (if 34 ≤ (tAc.size : Int) then ((plaitingref1_Bits.f k tAm 8).bind fun tAq => (if (tAc.extract 26 34).toList = tAq.toList then (plaitinglaw5_FramePlaces.j0 k tAc ((tAc.size : Int) != (wrap64 (51 + (wrap64 (10 * (tAg.length : Int)))))) tAb tAh tAi tAj tAm tAg) else (plaitinglaw5_FramePlaces.j0 k tAc true tAb tAh tAi tAj tAm tAg))) else (none)) else (none)) else (plaitinglaw5_FramePlaces.j0 k tAc true tAb tAh tAi tAj tAm tAg))) else (none)) else (none)) else (plaitinglaw5_FramePlaces.j0 k tAc true tAb tAh tAi tAj tAm tAg)) = some r := H
    have A43 := Aside0.mk A430
    clear A430
    by_cases c44 : (tAc.extract 18 24).toList = tAs.toList
    ·
     rw [if_pos c44] at H
     have c44b0 : ((tAc.extract 18 24).toList == tAs.toList) = true := beq_iff_eq.mpr c44
     have c44b1 : ((tAc.extract 18 24).toList != tAs.toList) = false := bne_eq_false_iff_eq.mpr c44
     clear c44
     by_cases c45 : 24 ≤ 26
     rotate_left
     ·
      rw [if_neg c45] at H
      exact absurd H (by simp)
     rw [if_pos c45] at H
     have c45b0 := eq_true c45
     have c45b1 : decide (24 ≤ 26) = true := decide_eq_true c45
     clear c45
     by_cases c46 : 26 ≤ (tAc.size : Int)
     rotate_left
     ·
      rw [if_neg c46] at H
      exact absurd H (by simp)
     rw [if_pos c46] at H
     have c46b0 := eq_true c46
     have c46b1 : decide (26 ≤ (tAc.size : Int)) = true := decide_eq_true c46
     clear c46
     replace H := Option.bind_eq_some_iff.mp H
     obtain ⟨tAr, A470, H⟩ := H
     replace H : (if (tAc.extract 24 26).toList = tAr.toList then (if 26 ≤ 34 then (if 34 ≤ (tAc.size : Int) then ((plaitingref1_Bits.f k tAm 8).bind fun tAq => (if (tAc.extract 26 34).toList = tAq.toList then (plaitinglaw5_FramePlaces.j0 k tAc ((tAc.size : Int) != (wrap64 (51 + (wrap64 (10 * (tAg.length : Int)))))) tAb tAh tAi tAj tAm tAg) else (plaitinglaw5_FramePlaces.j0 k tAc true tAb tAh tAi tAj tAm tAg))) else (none)) else (none)) else (plaitinglaw5_FramePlaces.j0 k tAc true tAb tAh tAi tAj tAm tAg)) = some r := H
     have A47 := Aside0.mk A470
     clear A470
     by_cases c48 : (tAc.extract 24 26).toList = tAr.toList
     ·
      rw [if_pos c48] at H
      have c48b0 : ((tAc.extract 24 26).toList == tAr.toList) = true := beq_iff_eq.mpr c48
      have c48b1 : ((tAc.extract 24 26).toList != tAr.toList) = false := bne_eq_false_iff_eq.mpr c48
      clear c48
      by_cases c49 : 26 ≤ 34
      rotate_left
      ·
       rw [if_neg c49] at H
       exact absurd H (by simp)
      rw [if_pos c49] at H
      have c49b0 := eq_true c49
      have c49b1 : decide (26 ≤ 34) = true := decide_eq_true c49
      clear c49
      by_cases c50 : 34 ≤ (tAc.size : Int)
      rotate_left
      ·
       rw [if_neg c50] at H
       exact absurd H (by simp)
      rw [if_pos c50] at H
      have c50b0 := eq_true c50
      have c50b1 : decide (34 ≤ (tAc.size : Int)) = true := decide_eq_true c50
      clear c50
      replace H := Option.bind_eq_some_iff.mp H
      obtain ⟨tAq, A510, H⟩ := H
      replace H : (if (tAc.extract 26 34).toList = tAq.toList then (plaitinglaw5_FramePlaces.j0 k tAc ((tAc.size : Int) != (wrap64 (51 + (wrap64 (10 * (tAg.length : Int)))))) tAb tAh tAi tAj tAm tAg) else (plaitinglaw5_FramePlaces.j0 k tAc true tAb tAh tAi tAj tAm tAg)) = some r := H
      have A51 := Aside0.mk A510
      clear A510
      by_cases c52 : (tAc.extract 26 34).toList = tAq.toList
      ·
       rw [if_pos c52] at H
       have c52b0 : ((tAc.extract 26 34).toList == tAq.toList) = true := beq_iff_eq.mpr c52
       have c52b1 : ((tAc.extract 26 34).toList != tAq.toList) = false := bne_eq_false_iff_eq.mpr c52
       clear c52
       have H' := Aside0.mk H
       clear H
       try go_wp2
       replace HOAn := Aside0.mk (Kd.R_drew HOAn.out)
       replace HOAp := Aside0.mk (Kd.R_drew HOAp.out)
       replace BKAe := Aside0.mk (blk_drew BKAe.out)
       replace BKAf := Aside0.mk (blk_drew BKAf.out)
       replace BKAd := Aside0.mk (blk_drew BKAd.out)
       replace BKAa := Aside0.mk (blk_drew BKAa.out)
       replace HB := Aside0.mk (below_drew1 HB.out)
       refine start_ (n := 55) (S := fun w' => w'.cell? ⟨gbAa, 0, none⟩ = some (.int .i64 tAb) ∧ w'.cell? ⟨gbAa, 1, none⟩ = some (.int .i64 tAh) ∧ w'.cell? ⟨gbAa, 2, none⟩ = some (.int .i64 tAi) ∧ w'.cell? ⟨gbAa, 3, none⟩ = some (.int .i64 tAj) ∧ w'.cell? ⟨gbAa, 4, none⟩ = some (.int .i64 tAm) ∧ w'.cell? ⟨gbAa, 5, none⟩ = some (.slice Ao28 tAg.length co28)) (ds := []) #[false, false, false, false, false, false, false, false, false, false, false, false, false, false, false, false, false, false, false, false, false, false, false, false, false, false, false, false, false, false, false, false, false, false, false, false, false, false, false, false, false, false, false, false, false, false, false, false, false, false, false, false, false, false, false] (by kernel_rfl) rfl rfl ⟨(blk_cell BKAa.out 0).trans rfl, (blk_cell BKAa.out 1).trans rfl, (blk_cell BKAa.out 2).trans rfl, (blk_cell BKAa.out 3).trans rfl, (blk_cell BKAa.out 4).trans rfl, (blk_cell BKAa.out 5).trans rfl⟩ (fun hHeld => ?_); refine with_tabW plaitinglaw5_FramePlaces.tab6 plaitinglaw5_FramePlaces.bits6 (fun HT_ HW_ => ?_)
       generalize w30.drew = w53 at HOAn HOAp BKAe BKAf BKAd BKAa HB hHeld ⊢
       refine pq_ 0 22 HT_ ?_
       refine pq_ 1 23 HT_ ?_
       refine pq_ 2 24 HT_ ?_
       refine pq_ 3 25 HT_ ?_
       refine pq_ 4 26 HT_ ?_
       refine pq_ 5 27 HT_ ?_
       refine pq_ 6 28 HT_ ?_
       refine tq_ 7 29 HT_ HW_ hHeld ?_
       refine oq_ 8 30 HT_ (fun K hK => ?_)
       refine gs_ Try.func28 #[.int .i64 tAb, .int .i64 2] ?_
       with_reducible refine (plaitingref1_Bits.calls k tAb 2 tAu _ A35.out).mono ?_
       rintro e w' ⟨rfl, ⟨nd, rfl⟩⟩
       refine ⟨_, rfl, ?_⟩
       refine hK.out _ _ ⟨(blk_cell BKAa.out 0).trans rfl, (blk_cell BKAa.out 1).trans rfl, (blk_cell BKAa.out 2).trans rfl, (blk_cell BKAa.out 3).trans rfl, (blk_cell BKAa.out 4).trans rfl, (blk_cell BKAa.out 5).trans rfl⟩ (fun hHeld => ?_)
       clear hK K
       refine nq_ ?_
       refine pq_ 9 31 HT_ ?_
       refine pq_ 10 32 HT_ ?_
       refine pq_ 11 33 HT_ ?_
       refine pq_ 12 34 HT_ ?_
       refine pq_ 13 35 HT_ ?_
       refine pq_ 14 36 HT_ ?_
       refine tq_ 15 37 HT_ HW_ hHeld ?_
       refine oq_ 16 38 HT_ (fun K hK => ?_)
       refine gs_ Try.func28 #[.int .i64 tAh, .int .i64 16] ?_
       with_reducible refine (plaitingref1_Bits.calls k tAh 16 tAt _ A39.out).mono ?_
       rintro e w' ⟨rfl, ⟨nd, rfl⟩⟩
       refine ⟨_, rfl, ?_⟩
       refine hK.out _ _ ⟨(blk_cell BKAa.out 0).trans rfl, (blk_cell BKAa.out 1).trans rfl, (blk_cell BKAa.out 2).trans rfl, (blk_cell BKAa.out 3).trans rfl, (blk_cell BKAa.out 4).trans rfl, (blk_cell BKAa.out 5).trans rfl⟩ (fun hHeld => ?_)
       clear hK K
       refine nq_ ?_
       refine pq_ 17 39 HT_ ?_
       refine pq_ 18 40 HT_ ?_
       refine pq_ 19 41 HT_ ?_
       refine pq_ 20 42 HT_ ?_
       refine pq_ 21 43 HT_ ?_
       refine pq_ 22 44 HT_ ?_
       refine tq_ 23 45 HT_ HW_ hHeld ?_
       refine oq_ 24 46 HT_ (fun K hK => ?_)
       refine gs_ Try.func28 #[.int .i64 tAi, .int .i64 6] ?_
       with_reducible refine (plaitingref1_Bits.calls k tAi 6 tAs _ A43.out).mono ?_
       rintro e w' ⟨rfl, ⟨nd, rfl⟩⟩
       refine ⟨_, rfl, ?_⟩
       refine hK.out _ _ ⟨(blk_cell BKAa.out 0).trans rfl, (blk_cell BKAa.out 1).trans rfl, (blk_cell BKAa.out 2).trans rfl, (blk_cell BKAa.out 3).trans rfl, (blk_cell BKAa.out 4).trans rfl, (blk_cell BKAa.out 5).trans rfl⟩ (fun hHeld => ?_)
       clear hK K
       refine nq_ ?_
       refine pq_ 25 47 HT_ ?_
       refine pq_ 26 48 HT_ ?_
       refine pq_ 27 49 HT_ ?_
       refine pq_ 28 50 HT_ ?_
       refine pq_ 29 51 HT_ ?_
       refine pq_ 30 52 HT_ ?_
       refine pq_ 31 53 HT_ ?_
       refine tq_ 32 54 HT_ HW_ hHeld ?_
       refine oq_ 33 55 HT_ (fun K hK => ?_)
       refine gs_ Try.func28 #[.int .i64 tAj, .int .i64 2] ?_
       with_reducible refine (plaitingref1_Bits.calls k tAj 2 tAr _ A47.out).mono ?_
       rintro e w' ⟨rfl, ⟨nd, rfl⟩⟩
       refine ⟨_, rfl, ?_⟩
       refine hK.out _ _ ⟨(blk_cell BKAa.out 0).trans rfl, (blk_cell BKAa.out 1).trans rfl, (blk_cell BKAa.out 2).trans rfl, (blk_cell BKAa.out 3).trans rfl, (blk_cell BKAa.out 4).trans rfl, (blk_cell BKAa.out 5).trans rfl⟩ (fun hHeld => ?_)
       clear hK K
       refine nq_ ?_
       refine pq_ 34 56 HT_ ?_
       refine pq_ 35 57 HT_ ?_
       refine pq_ 36 58 HT_ ?_
       refine pq_ 37 59 HT_ ?_
       refine pq_ 38 60 HT_ ?_
       refine pq_ 39 61 HT_ ?_
       refine pq_ 40 62 HT_ ?_
       refine tq_ 41 63 HT_ HW_ hHeld ?_
       refine oq_ 42 64 HT_ (fun K hK => ?_)
       refine gs_ Try.func28 #[.int .i64 tAm, .int .i64 8] ?_
       with_reducible refine (plaitingref1_Bits.calls k tAm 8 tAq _ A51.out).mono ?_
       rintro e w' ⟨rfl, ⟨nd, rfl⟩⟩
       refine ⟨_, rfl, ?_⟩
       refine hK.out _ _ ⟨(blk_cell BKAa.out 0).trans rfl, (blk_cell BKAa.out 1).trans rfl, (blk_cell BKAa.out 2).trans rfl, (blk_cell BKAa.out 3).trans rfl, (blk_cell BKAa.out 4).trans rfl, (blk_cell BKAa.out 5).trans rfl⟩ (fun hHeld => ?_)
       clear hK K
       refine nq_ ?_
       refine pq_ 43 65 HT_ ?_
       refine pq_ 44 66 HT_ ?_
       refine pq_ 45 67 HT_ ?_
       refine pq_ 46 68 HT_ ?_
       refine pq_ 47 69 HT_ ?_
       refine pq_ 48 70 HT_ ?_
       refine tq_ 49 71 HT_ HW_ hHeld ?_
       refine pq_ 50 72 HT_ ?_
       refine pq_ 51 73 HT_ ?_
       refine pq_ 52 74 HT_ ?_
       refine pq_ 53 75 HT_ ?_
       refine pq_ 54 76 HT_ ?_
       refine done_ (done_of HT_.out (by kernel_rfl)) ?_
       try go_wp2
       go_meet
       case rel => exact ⟨_, (((tAc.size : Int) != (wrap64 (51 + (wrap64 (10 * (tAg.length : Int))))))), (by first | rfl | (simp; done) | (simp [*]; done)), H', ⟨by first | omega | exact Nat.le_refl _⟩, ⟨by (with_reducible repeat (first | apply Kd.R_alloc | apply Kd.R_drewN | apply Kd.R_drew)); exact HOAn.out⟩, ⟨by (with_reducible repeat (first | apply Kd.R_alloc | apply Kd.R_drewN | apply Kd.R_drew)); exact HOAp.out⟩, ⟨by (with_reducible repeat (first | refine blk_drewN ?_ _ | refine blk_drew ?_ | refine blk_alloc ?_ _)); exact BKAe.out⟩, ⟨by (with_reducible repeat (first | refine blk_drewN ?_ _ | refine blk_drew ?_ | refine blk_alloc ?_ _)); exact BKAf.out⟩, ⟨by (with_reducible repeat (first | refine blk_drewN ?_ _ | refine blk_drew ?_ | refine blk_alloc ?_ _)); exact BKAd.out⟩, ⟨by (with_reducible repeat (first | refine blk_drewN ?_ _ | refine blk_drew ?_ | refine blk_alloc ?_ _)); exact BKAa.out⟩, ⟨by repeat (first | (with_reducible first | exact HB.out | apply below_alloc | apply pw_below_drewN | apply below_drew1 | refine below_set ?_ GEAe.out | refine below_set ?_ GEAf.out | refine below_set ?_ GEAd.out | refine below_set ?_ GEAa.out) | exact HB.out)⟩⟩
      rw [if_neg c52] at H
      have c52b0 : ((tAc.extract 26 34).toList == tAq.toList) = false := beq_eq_false_iff_ne.mpr c52
      have c52b1 : ((tAc.extract 26 34).toList != tAq.toList) = true := bne_iff_ne.mpr c52
      have H' := Aside0.mk H
      clear H
      try go_wp2
      replace HOAn := Aside0.mk (Kd.R_drew HOAn.out)
      replace HOAp := Aside0.mk (Kd.R_drew HOAp.out)
      replace BKAe := Aside0.mk (blk_drew BKAe.out)
      replace BKAf := Aside0.mk (blk_drew BKAf.out)
      replace BKAd := Aside0.mk (blk_drew BKAd.out)
      replace BKAa := Aside0.mk (blk_drew BKAa.out)
      replace HB := Aside0.mk (below_drew1 HB.out)
      refine start_ (n := 55) (S := fun w' => w'.cell? ⟨gbAa, 0, none⟩ = some (.int .i64 tAb) ∧ w'.cell? ⟨gbAa, 1, none⟩ = some (.int .i64 tAh) ∧ w'.cell? ⟨gbAa, 2, none⟩ = some (.int .i64 tAi) ∧ w'.cell? ⟨gbAa, 3, none⟩ = some (.int .i64 tAj) ∧ w'.cell? ⟨gbAa, 4, none⟩ = some (.int .i64 tAm) ∧ w'.cell? ⟨gbAa, 5, none⟩ = some (.slice Ao28 tAg.length co28)) (ds := []) #[false, false, false, false, false, false, false, false, false, false, false, false, false, false, false, false, false, false, false, false, false, false, false, false, false, false, false, false, false, false, false, false, false, false, false, false, false, false, false, false, false, false, false, false, false, false, false, false, false, false, false, false, false, false, false] (by kernel_rfl) rfl rfl ⟨(blk_cell BKAa.out 0).trans rfl, (blk_cell BKAa.out 1).trans rfl, (blk_cell BKAa.out 2).trans rfl, (blk_cell BKAa.out 3).trans rfl, (blk_cell BKAa.out 4).trans rfl, (blk_cell BKAa.out 5).trans rfl⟩ (fun hHeld => ?_); refine with_tabW plaitinglaw5_FramePlaces.tab6 plaitinglaw5_FramePlaces.bits6 (fun HT_ HW_ => ?_)
      generalize w30.drew = w54 at HOAn HOAp BKAe BKAf BKAd BKAa HB hHeld ⊢
      refine pq_ 0 22 HT_ ?_
      refine pq_ 1 23 HT_ ?_
      refine pq_ 2 24 HT_ ?_
      refine pq_ 3 25 HT_ ?_
      refine pq_ 4 26 HT_ ?_
      refine pq_ 5 27 HT_ ?_
      refine pq_ 6 28 HT_ ?_
      refine tq_ 7 29 HT_ HW_ hHeld ?_
      refine oq_ 8 30 HT_ (fun K hK => ?_)
      refine gs_ Try.func28 #[.int .i64 tAb, .int .i64 2] ?_
      with_reducible refine (plaitingref1_Bits.calls k tAb 2 tAu _ A35.out).mono ?_
      rintro e w' ⟨rfl, ⟨nd, rfl⟩⟩
      refine ⟨_, rfl, ?_⟩
      refine hK.out _ _ ⟨(blk_cell BKAa.out 0).trans rfl, (blk_cell BKAa.out 1).trans rfl, (blk_cell BKAa.out 2).trans rfl, (blk_cell BKAa.out 3).trans rfl, (blk_cell BKAa.out 4).trans rfl, (blk_cell BKAa.out 5).trans rfl⟩ (fun hHeld => ?_)
      clear hK K
      refine nq_ ?_
      refine pq_ 9 31 HT_ ?_
      refine pq_ 10 32 HT_ ?_
      refine pq_ 11 33 HT_ ?_
      refine pq_ 12 34 HT_ ?_
      refine pq_ 13 35 HT_ ?_
      refine pq_ 14 36 HT_ ?_
      refine tq_ 15 37 HT_ HW_ hHeld ?_
      refine oq_ 16 38 HT_ (fun K hK => ?_)
      refine gs_ Try.func28 #[.int .i64 tAh, .int .i64 16] ?_
      with_reducible refine (plaitingref1_Bits.calls k tAh 16 tAt _ A39.out).mono ?_
      rintro e w' ⟨rfl, ⟨nd, rfl⟩⟩
      refine ⟨_, rfl, ?_⟩
      refine hK.out _ _ ⟨(blk_cell BKAa.out 0).trans rfl, (blk_cell BKAa.out 1).trans rfl, (blk_cell BKAa.out 2).trans rfl, (blk_cell BKAa.out 3).trans rfl, (blk_cell BKAa.out 4).trans rfl, (blk_cell BKAa.out 5).trans rfl⟩ (fun hHeld => ?_)
      clear hK K
      refine nq_ ?_
      refine pq_ 17 39 HT_ ?_
      refine pq_ 18 40 HT_ ?_
      refine pq_ 19 41 HT_ ?_
      refine pq_ 20 42 HT_ ?_
      refine pq_ 21 43 HT_ ?_
      refine pq_ 22 44 HT_ ?_
      refine tq_ 23 45 HT_ HW_ hHeld ?_
      refine oq_ 24 46 HT_ (fun K hK => ?_)
      refine gs_ Try.func28 #[.int .i64 tAi, .int .i64 6] ?_
      with_reducible refine (plaitingref1_Bits.calls k tAi 6 tAs _ A43.out).mono ?_
      rintro e w' ⟨rfl, ⟨nd, rfl⟩⟩
      refine ⟨_, rfl, ?_⟩
      refine hK.out _ _ ⟨(blk_cell BKAa.out 0).trans rfl, (blk_cell BKAa.out 1).trans rfl, (blk_cell BKAa.out 2).trans rfl, (blk_cell BKAa.out 3).trans rfl, (blk_cell BKAa.out 4).trans rfl, (blk_cell BKAa.out 5).trans rfl⟩ (fun hHeld => ?_)
      clear hK K
      refine nq_ ?_
      refine pq_ 25 47 HT_ ?_
      refine pq_ 26 48 HT_ ?_
      refine pq_ 27 49 HT_ ?_
      refine pq_ 28 50 HT_ ?_
      refine pq_ 29 51 HT_ ?_
      refine pq_ 30 52 HT_ ?_
      refine pq_ 31 53 HT_ ?_
      refine tq_ 32 54 HT_ HW_ hHeld ?_
      refine oq_ 33 55 HT_ (fun K hK => ?_)
      refine gs_ Try.func28 #[.int .i64 tAj, .int .i64 2] ?_
      with_reducible refine (plaitingref1_Bits.calls k tAj 2 tAr _ A47.out).mono ?_
      rintro e w' ⟨rfl, ⟨nd, rfl⟩⟩
      refine ⟨_, rfl, ?_⟩
      refine hK.out _ _ ⟨(blk_cell BKAa.out 0).trans rfl, (blk_cell BKAa.out 1).trans rfl, (blk_cell BKAa.out 2).trans rfl, (blk_cell BKAa.out 3).trans rfl, (blk_cell BKAa.out 4).trans rfl, (blk_cell BKAa.out 5).trans rfl⟩ (fun hHeld => ?_)
      clear hK K
      refine nq_ ?_
      refine pq_ 34 56 HT_ ?_
      refine pq_ 35 57 HT_ ?_
      refine pq_ 36 58 HT_ ?_
      refine pq_ 37 59 HT_ ?_
      refine pq_ 38 60 HT_ ?_
      refine pq_ 39 61 HT_ ?_
      refine pq_ 40 62 HT_ ?_
      refine tq_ 41 63 HT_ HW_ hHeld ?_
      refine oq_ 42 64 HT_ (fun K hK => ?_)
      refine gs_ Try.func28 #[.int .i64 tAm, .int .i64 8] ?_
      with_reducible refine (plaitingref1_Bits.calls k tAm 8 tAq _ A51.out).mono ?_
      rintro e w' ⟨rfl, ⟨nd, rfl⟩⟩
      refine ⟨_, rfl, ?_⟩
      refine hK.out _ _ ⟨(blk_cell BKAa.out 0).trans rfl, (blk_cell BKAa.out 1).trans rfl, (blk_cell BKAa.out 2).trans rfl, (blk_cell BKAa.out 3).trans rfl, (blk_cell BKAa.out 4).trans rfl, (blk_cell BKAa.out 5).trans rfl⟩ (fun hHeld => ?_)
      clear hK K
      refine nq_ ?_
      refine pq_ 43 65 HT_ ?_
      refine pq_ 44 66 HT_ ?_
      refine pq_ 45 67 HT_ ?_
      refine pu_ 46 68 HT_ ?_
      refine pu_ 47 69 HT_ ?_
      refine pu_ 48 70 HT_ ?_
      refine pu_ 49 71 HT_ ?_
      refine pu_ 50 72 HT_ ?_
      refine pu_ 51 73 HT_ ?_
      refine pu_ 52 74 HT_ ?_
      refine pu_ 53 75 HT_ ?_
      refine pq_ 54 76 HT_ ?_
      refine done_ (done_of HT_.out (by kernel_rfl)) ?_
      try go_wp2
      go_meet
      case rel => exact ⟨_, (true), (by first | rfl | (simp; done) | (simp [*]; done)), H', ⟨by first | omega | exact Nat.le_refl _⟩, ⟨by (with_reducible repeat (first | apply Kd.R_alloc | apply Kd.R_drewN | apply Kd.R_drew)); exact HOAn.out⟩, ⟨by (with_reducible repeat (first | apply Kd.R_alloc | apply Kd.R_drewN | apply Kd.R_drew)); exact HOAp.out⟩, ⟨by (with_reducible repeat (first | refine blk_drewN ?_ _ | refine blk_drew ?_ | refine blk_alloc ?_ _)); exact BKAe.out⟩, ⟨by (with_reducible repeat (first | refine blk_drewN ?_ _ | refine blk_drew ?_ | refine blk_alloc ?_ _)); exact BKAf.out⟩, ⟨by (with_reducible repeat (first | refine blk_drewN ?_ _ | refine blk_drew ?_ | refine blk_alloc ?_ _)); exact BKAd.out⟩, ⟨by (with_reducible repeat (first | refine blk_drewN ?_ _ | refine blk_drew ?_ | refine blk_alloc ?_ _)); exact BKAa.out⟩, ⟨by repeat (first | (with_reducible first | exact HB.out | apply below_alloc | apply pw_below_drewN | apply below_drew1 | refine below_set ?_ GEAe.out | refine below_set ?_ GEAf.out | refine below_set ?_ GEAd.out | refine below_set ?_ GEAa.out) | exact HB.out)⟩⟩
     rw [if_neg c48] at H
     have c48b0 : ((tAc.extract 24 26).toList == tAr.toList) = false := beq_eq_false_iff_ne.mpr c48
     have c48b1 : ((tAc.extract 24 26).toList != tAr.toList) = true := bne_iff_ne.mpr c48
     have H' := Aside0.mk H
     clear H
     try go_wp2
     replace HOAn := Aside0.mk (Kd.R_drew HOAn.out)
     replace HOAp := Aside0.mk (Kd.R_drew HOAp.out)
     replace BKAe := Aside0.mk (blk_drew BKAe.out)
     replace BKAf := Aside0.mk (blk_drew BKAf.out)
     replace BKAd := Aside0.mk (blk_drew BKAd.out)
     replace BKAa := Aside0.mk (blk_drew BKAa.out)
     replace HB := Aside0.mk (below_drew1 HB.out)
     refine start_ (n := 55) (S := fun w' => w'.cell? ⟨gbAa, 0, none⟩ = some (.int .i64 tAb) ∧ w'.cell? ⟨gbAa, 1, none⟩ = some (.int .i64 tAh) ∧ w'.cell? ⟨gbAa, 2, none⟩ = some (.int .i64 tAi) ∧ w'.cell? ⟨gbAa, 3, none⟩ = some (.int .i64 tAj) ∧ w'.cell? ⟨gbAa, 4, none⟩ = some (.int .i64 tAm) ∧ w'.cell? ⟨gbAa, 5, none⟩ = some (.slice Ao28 tAg.length co28)) (ds := []) #[false, false, false, false, false, false, false, false, false, false, false, false, false, false, false, false, false, false, false, false, false, false, false, false, false, false, false, false, false, false, false, false, false, false, false, false, false, false, false, false, false, false, false, false, false, false, false, false, false, false, false, false, false, false, false] (by kernel_rfl) rfl rfl ⟨(blk_cell BKAa.out 0).trans rfl, (blk_cell BKAa.out 1).trans rfl, (blk_cell BKAa.out 2).trans rfl, (blk_cell BKAa.out 3).trans rfl, (blk_cell BKAa.out 4).trans rfl, (blk_cell BKAa.out 5).trans rfl⟩ (fun hHeld => ?_); refine with_tabW plaitinglaw5_FramePlaces.tab6 plaitinglaw5_FramePlaces.bits6 (fun HT_ HW_ => ?_)
     generalize w30.drew = w55 at HOAn HOAp BKAe BKAf BKAd BKAa HB hHeld ⊢
     refine pq_ 0 22 HT_ ?_
     refine pq_ 1 23 HT_ ?_
     refine pq_ 2 24 HT_ ?_
     refine pq_ 3 25 HT_ ?_
     refine pq_ 4 26 HT_ ?_
     refine pq_ 5 27 HT_ ?_
     refine pq_ 6 28 HT_ ?_
     refine tq_ 7 29 HT_ HW_ hHeld ?_
     refine oq_ 8 30 HT_ (fun K hK => ?_)
     refine gs_ Try.func28 #[.int .i64 tAb, .int .i64 2] ?_
     with_reducible refine (plaitingref1_Bits.calls k tAb 2 tAu _ A35.out).mono ?_
     rintro e w' ⟨rfl, ⟨nd, rfl⟩⟩
     refine ⟨_, rfl, ?_⟩
     refine hK.out _ _ ⟨(blk_cell BKAa.out 0).trans rfl, (blk_cell BKAa.out 1).trans rfl, (blk_cell BKAa.out 2).trans rfl, (blk_cell BKAa.out 3).trans rfl, (blk_cell BKAa.out 4).trans rfl, (blk_cell BKAa.out 5).trans rfl⟩ (fun hHeld => ?_)
     clear hK K
     refine nq_ ?_
     refine pq_ 9 31 HT_ ?_
     refine pq_ 10 32 HT_ ?_
     refine pq_ 11 33 HT_ ?_
     refine pq_ 12 34 HT_ ?_
     refine pq_ 13 35 HT_ ?_
     refine pq_ 14 36 HT_ ?_
     refine tq_ 15 37 HT_ HW_ hHeld ?_
     refine oq_ 16 38 HT_ (fun K hK => ?_)
     refine gs_ Try.func28 #[.int .i64 tAh, .int .i64 16] ?_
     with_reducible refine (plaitingref1_Bits.calls k tAh 16 tAt _ A39.out).mono ?_
     rintro e w' ⟨rfl, ⟨nd, rfl⟩⟩
     refine ⟨_, rfl, ?_⟩
     refine hK.out _ _ ⟨(blk_cell BKAa.out 0).trans rfl, (blk_cell BKAa.out 1).trans rfl, (blk_cell BKAa.out 2).trans rfl, (blk_cell BKAa.out 3).trans rfl, (blk_cell BKAa.out 4).trans rfl, (blk_cell BKAa.out 5).trans rfl⟩ (fun hHeld => ?_)
     clear hK K
     refine nq_ ?_
     refine pq_ 17 39 HT_ ?_
     refine pq_ 18 40 HT_ ?_
     refine pq_ 19 41 HT_ ?_
     refine pq_ 20 42 HT_ ?_
     refine pq_ 21 43 HT_ ?_
     refine pq_ 22 44 HT_ ?_
     refine tq_ 23 45 HT_ HW_ hHeld ?_
     refine oq_ 24 46 HT_ (fun K hK => ?_)
     refine gs_ Try.func28 #[.int .i64 tAi, .int .i64 6] ?_
     with_reducible refine (plaitingref1_Bits.calls k tAi 6 tAs _ A43.out).mono ?_
     rintro e w' ⟨rfl, ⟨nd, rfl⟩⟩
     refine ⟨_, rfl, ?_⟩
     refine hK.out _ _ ⟨(blk_cell BKAa.out 0).trans rfl, (blk_cell BKAa.out 1).trans rfl, (blk_cell BKAa.out 2).trans rfl, (blk_cell BKAa.out 3).trans rfl, (blk_cell BKAa.out 4).trans rfl, (blk_cell BKAa.out 5).trans rfl⟩ (fun hHeld => ?_)
     clear hK K
     refine nq_ ?_
     refine pq_ 25 47 HT_ ?_
     refine pq_ 26 48 HT_ ?_
     refine pq_ 27 49 HT_ ?_
     refine pq_ 28 50 HT_ ?_
     refine pq_ 29 51 HT_ ?_
     refine pq_ 30 52 HT_ ?_
     refine pq_ 31 53 HT_ ?_
     refine tq_ 32 54 HT_ HW_ hHeld ?_
     refine oq_ 33 55 HT_ (fun K hK => ?_)
     refine gs_ Try.func28 #[.int .i64 tAj, .int .i64 2] ?_
     with_reducible refine (plaitingref1_Bits.calls k tAj 2 tAr _ A47.out).mono ?_
     rintro e w' ⟨rfl, ⟨nd, rfl⟩⟩
     refine ⟨_, rfl, ?_⟩
     refine hK.out _ _ ⟨(blk_cell BKAa.out 0).trans rfl, (blk_cell BKAa.out 1).trans rfl, (blk_cell BKAa.out 2).trans rfl, (blk_cell BKAa.out 3).trans rfl, (blk_cell BKAa.out 4).trans rfl, (blk_cell BKAa.out 5).trans rfl⟩ (fun hHeld => ?_)
     clear hK K
     refine nq_ ?_
     refine pq_ 34 56 HT_ ?_
     refine pq_ 35 57 HT_ ?_
     refine pq_ 36 58 HT_ ?_
     refine pu_ 37 59 HT_ ?_
     refine pu_ 38 60 HT_ ?_
     refine pu_ 39 61 HT_ ?_
     refine pu_ 40 62 HT_ ?_
     refine pu_ 41 63 HT_ ?_
     refine pu_ 42 64 HT_ ?_
     refine pu_ 43 65 HT_ ?_
     refine pq_ 44 66 HT_ ?_
     refine pq_ 45 67 HT_ ?_
     refine pu_ 46 68 HT_ ?_
     refine pu_ 47 69 HT_ ?_
     refine pu_ 48 70 HT_ ?_
     refine pu_ 49 71 HT_ ?_
     refine pu_ 50 72 HT_ ?_
     refine pu_ 51 73 HT_ ?_
     refine pu_ 52 74 HT_ ?_
     refine pu_ 53 75 HT_ ?_
     refine pq_ 54 76 HT_ ?_
     refine done_ (done_of HT_.out (by kernel_rfl)) ?_
     try go_wp2
     go_meet
     case rel => exact ⟨_, (true), (by first | rfl | (simp; done) | (simp [*]; done)), H', ⟨by first | omega | exact Nat.le_refl _⟩, ⟨by (with_reducible repeat (first | apply Kd.R_alloc | apply Kd.R_drewN | apply Kd.R_drew)); exact HOAn.out⟩, ⟨by (with_reducible repeat (first | apply Kd.R_alloc | apply Kd.R_drewN | apply Kd.R_drew)); exact HOAp.out⟩, ⟨by (with_reducible repeat (first | refine blk_drewN ?_ _ | refine blk_drew ?_ | refine blk_alloc ?_ _)); exact BKAe.out⟩, ⟨by (with_reducible repeat (first | refine blk_drewN ?_ _ | refine blk_drew ?_ | refine blk_alloc ?_ _)); exact BKAf.out⟩, ⟨by (with_reducible repeat (first | refine blk_drewN ?_ _ | refine blk_drew ?_ | refine blk_alloc ?_ _)); exact BKAd.out⟩, ⟨by (with_reducible repeat (first | refine blk_drewN ?_ _ | refine blk_drew ?_ | refine blk_alloc ?_ _)); exact BKAa.out⟩, ⟨by repeat (first | (with_reducible first | exact HB.out | apply below_alloc | apply pw_below_drewN | apply below_drew1 | refine below_set ?_ GEAe.out | refine below_set ?_ GEAf.out | refine below_set ?_ GEAd.out | refine below_set ?_ GEAa.out) | exact HB.out)⟩⟩
    rw [if_neg c44] at H
    have c44b0 : ((tAc.extract 18 24).toList == tAs.toList) = false := beq_eq_false_iff_ne.mpr c44
    have c44b1 : ((tAc.extract 18 24).toList != tAs.toList) = true := bne_iff_ne.mpr c44
    have H' := Aside0.mk H
    clear H
    try go_wp2
    replace HOAn := Aside0.mk (Kd.R_drew HOAn.out)
    replace HOAp := Aside0.mk (Kd.R_drew HOAp.out)
    replace BKAe := Aside0.mk (blk_drew BKAe.out)
    replace BKAf := Aside0.mk (blk_drew BKAf.out)
    replace BKAd := Aside0.mk (blk_drew BKAd.out)
    replace BKAa := Aside0.mk (blk_drew BKAa.out)
    replace HB := Aside0.mk (below_drew1 HB.out)
    refine start_ (n := 55) (S := fun w' => w'.cell? ⟨gbAa, 0, none⟩ = some (.int .i64 tAb) ∧ w'.cell? ⟨gbAa, 1, none⟩ = some (.int .i64 tAh) ∧ w'.cell? ⟨gbAa, 2, none⟩ = some (.int .i64 tAi) ∧ w'.cell? ⟨gbAa, 3, none⟩ = some (.int .i64 tAj) ∧ w'.cell? ⟨gbAa, 4, none⟩ = some (.int .i64 tAm) ∧ w'.cell? ⟨gbAa, 5, none⟩ = some (.slice Ao28 tAg.length co28)) (ds := []) #[false, false, false, false, false, false, false, false, false, false, false, false, false, false, false, false, false, false, false, false, false, false, false, false, false, false, false, false, false, false, false, false, false, false, false, false, false, false, false, false, false, false, false, false, false, false, false, false, false, false, false, false, false, false, false] (by kernel_rfl) rfl rfl ⟨(blk_cell BKAa.out 0).trans rfl, (blk_cell BKAa.out 1).trans rfl, (blk_cell BKAa.out 2).trans rfl, (blk_cell BKAa.out 3).trans rfl, (blk_cell BKAa.out 4).trans rfl, (blk_cell BKAa.out 5).trans rfl⟩ (fun hHeld => ?_); refine with_tabW plaitinglaw5_FramePlaces.tab6 plaitinglaw5_FramePlaces.bits6 (fun HT_ HW_ => ?_)
    generalize w30.drew = w56 at HOAn HOAp BKAe BKAf BKAd BKAa HB hHeld ⊢
    refine pq_ 0 22 HT_ ?_
    refine pq_ 1 23 HT_ ?_
    refine pq_ 2 24 HT_ ?_
    refine pq_ 3 25 HT_ ?_
    refine pq_ 4 26 HT_ ?_
    refine pq_ 5 27 HT_ ?_
    refine pq_ 6 28 HT_ ?_
    refine tq_ 7 29 HT_ HW_ hHeld ?_
    refine oq_ 8 30 HT_ (fun K hK => ?_)
    refine gs_ Try.func28 #[.int .i64 tAb, .int .i64 2] ?_
    with_reducible refine (plaitingref1_Bits.calls k tAb 2 tAu _ A35.out).mono ?_
    rintro e w' ⟨rfl, ⟨nd, rfl⟩⟩
    refine ⟨_, rfl, ?_⟩
    refine hK.out _ _ ⟨(blk_cell BKAa.out 0).trans rfl, (blk_cell BKAa.out 1).trans rfl, (blk_cell BKAa.out 2).trans rfl, (blk_cell BKAa.out 3).trans rfl, (blk_cell BKAa.out 4).trans rfl, (blk_cell BKAa.out 5).trans rfl⟩ (fun hHeld => ?_)
    clear hK K
    refine nq_ ?_
    refine pq_ 9 31 HT_ ?_
    refine pq_ 10 32 HT_ ?_
    refine pq_ 11 33 HT_ ?_
    refine pq_ 12 34 HT_ ?_
    refine pq_ 13 35 HT_ ?_
    refine pq_ 14 36 HT_ ?_
    refine tq_ 15 37 HT_ HW_ hHeld ?_
    refine oq_ 16 38 HT_ (fun K hK => ?_)
    refine gs_ Try.func28 #[.int .i64 tAh, .int .i64 16] ?_
    with_reducible refine (plaitingref1_Bits.calls k tAh 16 tAt _ A39.out).mono ?_
    rintro e w' ⟨rfl, ⟨nd, rfl⟩⟩
    refine ⟨_, rfl, ?_⟩
    refine hK.out _ _ ⟨(blk_cell BKAa.out 0).trans rfl, (blk_cell BKAa.out 1).trans rfl, (blk_cell BKAa.out 2).trans rfl, (blk_cell BKAa.out 3).trans rfl, (blk_cell BKAa.out 4).trans rfl, (blk_cell BKAa.out 5).trans rfl⟩ (fun hHeld => ?_)
    clear hK K
    refine nq_ ?_
    refine pq_ 17 39 HT_ ?_
    refine pq_ 18 40 HT_ ?_
    refine pq_ 19 41 HT_ ?_
    refine pq_ 20 42 HT_ ?_
    refine pq_ 21 43 HT_ ?_
    refine pq_ 22 44 HT_ ?_
    refine tq_ 23 45 HT_ HW_ hHeld ?_
    refine oq_ 24 46 HT_ (fun K hK => ?_)
    refine gs_ Try.func28 #[.int .i64 tAi, .int .i64 6] ?_
    with_reducible refine (plaitingref1_Bits.calls k tAi 6 tAs _ A43.out).mono ?_
    rintro e w' ⟨rfl, ⟨nd, rfl⟩⟩
    refine ⟨_, rfl, ?_⟩
    refine hK.out _ _ ⟨(blk_cell BKAa.out 0).trans rfl, (blk_cell BKAa.out 1).trans rfl, (blk_cell BKAa.out 2).trans rfl, (blk_cell BKAa.out 3).trans rfl, (blk_cell BKAa.out 4).trans rfl, (blk_cell BKAa.out 5).trans rfl⟩ (fun hHeld => ?_)
    clear hK K
    refine nq_ ?_
    refine pq_ 25 47 HT_ ?_
    refine pq_ 26 48 HT_ ?_
    refine pq_ 27 49 HT_ ?_
    refine pu_ 28 50 HT_ ?_
    refine pu_ 29 51 HT_ ?_
    refine pu_ 30 52 HT_ ?_
    refine pu_ 31 53 HT_ ?_
    refine pu_ 32 54 HT_ ?_
    refine pu_ 33 55 HT_ ?_
    refine pu_ 34 56 HT_ ?_
    refine pq_ 35 57 HT_ ?_
    refine pq_ 36 58 HT_ ?_
    refine pu_ 37 59 HT_ ?_
    refine pu_ 38 60 HT_ ?_
    refine pu_ 39 61 HT_ ?_
    refine pu_ 40 62 HT_ ?_
    refine pu_ 41 63 HT_ ?_
    refine pu_ 42 64 HT_ ?_
    refine pu_ 43 65 HT_ ?_
    refine pq_ 44 66 HT_ ?_
    refine pq_ 45 67 HT_ ?_
    refine pu_ 46 68 HT_ ?_
    refine pu_ 47 69 HT_ ?_
    refine pu_ 48 70 HT_ ?_
    refine pu_ 49 71 HT_ ?_
    refine pu_ 50 72 HT_ ?_
    refine pu_ 51 73 HT_ ?_
    refine pu_ 52 74 HT_ ?_
    refine pu_ 53 75 HT_ ?_
    refine pq_ 54 76 HT_ ?_
    refine done_ (done_of HT_.out (by kernel_rfl)) ?_
    try go_wp2
    go_meet
    case rel => exact ⟨_, (true), (by first | rfl | (simp; done) | (simp [*]; done)), H', ⟨by first | omega | exact Nat.le_refl _⟩, ⟨by (with_reducible repeat (first | apply Kd.R_alloc | apply Kd.R_drewN | apply Kd.R_drew)); exact HOAn.out⟩, ⟨by (with_reducible repeat (first | apply Kd.R_alloc | apply Kd.R_drewN | apply Kd.R_drew)); exact HOAp.out⟩, ⟨by (with_reducible repeat (first | refine blk_drewN ?_ _ | refine blk_drew ?_ | refine blk_alloc ?_ _)); exact BKAe.out⟩, ⟨by (with_reducible repeat (first | refine blk_drewN ?_ _ | refine blk_drew ?_ | refine blk_alloc ?_ _)); exact BKAf.out⟩, ⟨by (with_reducible repeat (first | refine blk_drewN ?_ _ | refine blk_drew ?_ | refine blk_alloc ?_ _)); exact BKAd.out⟩, ⟨by (with_reducible repeat (first | refine blk_drewN ?_ _ | refine blk_drew ?_ | refine blk_alloc ?_ _)); exact BKAa.out⟩, ⟨by repeat (first | (with_reducible first | exact HB.out | apply below_alloc | apply pw_below_drewN | apply below_drew1 | refine below_set ?_ GEAe.out | refine below_set ?_ GEAf.out | refine below_set ?_ GEAd.out | refine below_set ?_ GEAa.out) | exact HB.out)⟩⟩
   rw [if_neg c40] at H
   have c40b0 : ((tAc.extract 2 18).toList == tAt.toList) = false := beq_eq_false_iff_ne.mpr c40
   have c40b1 : ((tAc.extract 2 18).toList != tAt.toList) = true := bne_iff_ne.mpr c40
   have H' := Aside0.mk H
   clear H
   try go_wp2
   replace HOAn := Aside0.mk (Kd.R_drew HOAn.out)
   replace HOAp := Aside0.mk (Kd.R_drew HOAp.out)
   replace BKAe := Aside0.mk (blk_drew BKAe.out)
   replace BKAf := Aside0.mk (blk_drew BKAf.out)
   replace BKAd := Aside0.mk (blk_drew BKAd.out)
   replace BKAa := Aside0.mk (blk_drew BKAa.out)
   replace HB := Aside0.mk (below_drew1 HB.out)
   refine start_ (n := 55) (S := fun w' => w'.cell? ⟨gbAa, 0, none⟩ = some (.int .i64 tAb) ∧ w'.cell? ⟨gbAa, 1, none⟩ = some (.int .i64 tAh) ∧ w'.cell? ⟨gbAa, 2, none⟩ = some (.int .i64 tAi) ∧ w'.cell? ⟨gbAa, 3, none⟩ = some (.int .i64 tAj) ∧ w'.cell? ⟨gbAa, 4, none⟩ = some (.int .i64 tAm) ∧ w'.cell? ⟨gbAa, 5, none⟩ = some (.slice Ao28 tAg.length co28)) (ds := []) #[false, false, false, false, false, false, false, false, false, false, false, false, false, false, false, false, false, false, false, false, false, false, false, false, false, false, false, false, false, false, false, false, false, false, false, false, false, false, false, false, false, false, false, false, false, false, false, false, false, false, false, false, false, false, false] (by kernel_rfl) rfl rfl ⟨(blk_cell BKAa.out 0).trans rfl, (blk_cell BKAa.out 1).trans rfl, (blk_cell BKAa.out 2).trans rfl, (blk_cell BKAa.out 3).trans rfl, (blk_cell BKAa.out 4).trans rfl, (blk_cell BKAa.out 5).trans rfl⟩ (fun hHeld => ?_); refine with_tabW plaitinglaw5_FramePlaces.tab6 plaitinglaw5_FramePlaces.bits6 (fun HT_ HW_ => ?_)
   generalize w30.drew = w57 at HOAn HOAp BKAe BKAf BKAd BKAa HB hHeld ⊢
   refine pq_ 0 22 HT_ ?_
   refine pq_ 1 23 HT_ ?_
   refine pq_ 2 24 HT_ ?_
   refine pq_ 3 25 HT_ ?_
   refine pq_ 4 26 HT_ ?_
   refine pq_ 5 27 HT_ ?_
   refine pq_ 6 28 HT_ ?_
   refine tq_ 7 29 HT_ HW_ hHeld ?_
   refine oq_ 8 30 HT_ (fun K hK => ?_)
   refine gs_ Try.func28 #[.int .i64 tAb, .int .i64 2] ?_
   with_reducible refine (plaitingref1_Bits.calls k tAb 2 tAu _ A35.out).mono ?_
   rintro e w' ⟨rfl, ⟨nd, rfl⟩⟩
   refine ⟨_, rfl, ?_⟩
   refine hK.out _ _ ⟨(blk_cell BKAa.out 0).trans rfl, (blk_cell BKAa.out 1).trans rfl, (blk_cell BKAa.out 2).trans rfl, (blk_cell BKAa.out 3).trans rfl, (blk_cell BKAa.out 4).trans rfl, (blk_cell BKAa.out 5).trans rfl⟩ (fun hHeld => ?_)
   clear hK K
   refine nq_ ?_
   refine pq_ 9 31 HT_ ?_
   refine pq_ 10 32 HT_ ?_
   refine pq_ 11 33 HT_ ?_
   refine pq_ 12 34 HT_ ?_
   refine pq_ 13 35 HT_ ?_
   refine pq_ 14 36 HT_ ?_
   refine tq_ 15 37 HT_ HW_ hHeld ?_
   refine oq_ 16 38 HT_ (fun K hK => ?_)
   refine gs_ Try.func28 #[.int .i64 tAh, .int .i64 16] ?_
   with_reducible refine (plaitingref1_Bits.calls k tAh 16 tAt _ A39.out).mono ?_
   rintro e w' ⟨rfl, ⟨nd, rfl⟩⟩
   refine ⟨_, rfl, ?_⟩
   refine hK.out _ _ ⟨(blk_cell BKAa.out 0).trans rfl, (blk_cell BKAa.out 1).trans rfl, (blk_cell BKAa.out 2).trans rfl, (blk_cell BKAa.out 3).trans rfl, (blk_cell BKAa.out 4).trans rfl, (blk_cell BKAa.out 5).trans rfl⟩ (fun hHeld => ?_)
   clear hK K
   refine nq_ ?_
   refine pq_ 17 39 HT_ ?_
   refine pq_ 18 40 HT_ ?_
   refine pq_ 19 41 HT_ ?_
   refine pu_ 20 42 HT_ ?_
   refine pu_ 21 43 HT_ ?_
   refine pu_ 22 44 HT_ ?_
   refine pu_ 23 45 HT_ ?_
   refine pu_ 24 46 HT_ ?_
   refine pu_ 25 47 HT_ ?_
   refine pq_ 26 48 HT_ ?_
   refine pq_ 27 49 HT_ ?_
   refine pu_ 28 50 HT_ ?_
   refine pu_ 29 51 HT_ ?_
   refine pu_ 30 52 HT_ ?_
   refine pu_ 31 53 HT_ ?_
   refine pu_ 32 54 HT_ ?_
   refine pu_ 33 55 HT_ ?_
   refine pu_ 34 56 HT_ ?_
   refine pq_ 35 57 HT_ ?_
   refine pq_ 36 58 HT_ ?_
   refine pu_ 37 59 HT_ ?_
   refine pu_ 38 60 HT_ ?_
   refine pu_ 39 61 HT_ ?_
   refine pu_ 40 62 HT_ ?_
   refine pu_ 41 63 HT_ ?_
   refine pu_ 42 64 HT_ ?_
   refine pu_ 43 65 HT_ ?_
   refine pq_ 44 66 HT_ ?_
   refine pq_ 45 67 HT_ ?_
   refine pu_ 46 68 HT_ ?_
   refine pu_ 47 69 HT_ ?_
   refine pu_ 48 70 HT_ ?_
   refine pu_ 49 71 HT_ ?_
   refine pu_ 50 72 HT_ ?_
   refine pu_ 51 73 HT_ ?_
   refine pu_ 52 74 HT_ ?_
   refine pu_ 53 75 HT_ ?_
   refine pq_ 54 76 HT_ ?_
   refine done_ (done_of HT_.out (by kernel_rfl)) ?_
   try go_wp2
   go_meet
   case rel => exact ⟨_, (true), (by first | rfl | (simp; done) | (simp [*]; done)), H', ⟨by first | omega | exact Nat.le_refl _⟩, ⟨by (with_reducible repeat (first | apply Kd.R_alloc | apply Kd.R_drewN | apply Kd.R_drew)); exact HOAn.out⟩, ⟨by (with_reducible repeat (first | apply Kd.R_alloc | apply Kd.R_drewN | apply Kd.R_drew)); exact HOAp.out⟩, ⟨by (with_reducible repeat (first | refine blk_drewN ?_ _ | refine blk_drew ?_ | refine blk_alloc ?_ _)); exact BKAe.out⟩, ⟨by (with_reducible repeat (first | refine blk_drewN ?_ _ | refine blk_drew ?_ | refine blk_alloc ?_ _)); exact BKAf.out⟩, ⟨by (with_reducible repeat (first | refine blk_drewN ?_ _ | refine blk_drew ?_ | refine blk_alloc ?_ _)); exact BKAd.out⟩, ⟨by (with_reducible repeat (first | refine blk_drewN ?_ _ | refine blk_drew ?_ | refine blk_alloc ?_ _)); exact BKAa.out⟩, ⟨by repeat (first | (with_reducible first | exact HB.out | apply below_alloc | apply pw_below_drewN | apply below_drew1 | refine below_set ?_ GEAe.out | refine below_set ?_ GEAf.out | refine below_set ?_ GEAd.out | refine below_set ?_ GEAa.out) | exact HB.out)⟩⟩
  rw [if_neg c36] at H
  have c36b0 : ((tAc.extract 0 2).toList == tAu.toList) = false := beq_eq_false_iff_ne.mpr c36
  have c36b1 : ((tAc.extract 0 2).toList != tAu.toList) = true := bne_iff_ne.mpr c36
  have H' := Aside0.mk H
  clear H
  try go_wp2
  replace HOAn := Aside0.mk (Kd.R_drew HOAn.out)
  replace HOAp := Aside0.mk (Kd.R_drew HOAp.out)
  replace BKAe := Aside0.mk (blk_drew BKAe.out)
  replace BKAf := Aside0.mk (blk_drew BKAf.out)
  replace BKAd := Aside0.mk (blk_drew BKAd.out)
  replace BKAa := Aside0.mk (blk_drew BKAa.out)
  replace HB := Aside0.mk (below_drew1 HB.out)
  refine start_ (n := 55) (S := fun w' => w'.cell? ⟨gbAa, 0, none⟩ = some (.int .i64 tAb) ∧ w'.cell? ⟨gbAa, 1, none⟩ = some (.int .i64 tAh) ∧ w'.cell? ⟨gbAa, 2, none⟩ = some (.int .i64 tAi) ∧ w'.cell? ⟨gbAa, 3, none⟩ = some (.int .i64 tAj) ∧ w'.cell? ⟨gbAa, 4, none⟩ = some (.int .i64 tAm) ∧ w'.cell? ⟨gbAa, 5, none⟩ = some (.slice Ao28 tAg.length co28)) (ds := []) #[false, false, false, false, false, false, false, false, false, false, false, false, false, false, false, false, false, false, false, false, false, false, false, false, false, false, false, false, false, false, false, false, false, false, false, false, false, false, false, false, false, false, false, false, false, false, false, false, false, false, false, false, false, false, false] (by kernel_rfl) rfl rfl ⟨(blk_cell BKAa.out 0).trans rfl, (blk_cell BKAa.out 1).trans rfl, (blk_cell BKAa.out 2).trans rfl, (blk_cell BKAa.out 3).trans rfl, (blk_cell BKAa.out 4).trans rfl, (blk_cell BKAa.out 5).trans rfl⟩ (fun hHeld => ?_); refine with_tabW plaitinglaw5_FramePlaces.tab6 plaitinglaw5_FramePlaces.bits6 (fun HT_ HW_ => ?_)
  generalize w30.drew = w58 at HOAn HOAp BKAe BKAf BKAd BKAa HB hHeld ⊢
  refine pq_ 0 22 HT_ ?_
  refine pq_ 1 23 HT_ ?_
  refine pq_ 2 24 HT_ ?_
  refine pq_ 3 25 HT_ ?_
  refine pq_ 4 26 HT_ ?_
  refine pq_ 5 27 HT_ ?_
  refine pq_ 6 28 HT_ ?_
  refine tq_ 7 29 HT_ HW_ hHeld ?_
  refine oq_ 8 30 HT_ (fun K hK => ?_)
  refine gs_ Try.func28 #[.int .i64 tAb, .int .i64 2] ?_
  with_reducible refine (plaitingref1_Bits.calls k tAb 2 tAu _ A35.out).mono ?_
  rintro e w' ⟨rfl, ⟨nd, rfl⟩⟩
  refine ⟨_, rfl, ?_⟩
  refine hK.out _ _ ⟨(blk_cell BKAa.out 0).trans rfl, (blk_cell BKAa.out 1).trans rfl, (blk_cell BKAa.out 2).trans rfl, (blk_cell BKAa.out 3).trans rfl, (blk_cell BKAa.out 4).trans rfl, (blk_cell BKAa.out 5).trans rfl⟩ (fun hHeld => ?_)
  clear hK K
  refine nq_ ?_
  refine pq_ 9 31 HT_ ?_
  refine pq_ 10 32 HT_ ?_
  refine pq_ 11 33 HT_ ?_
  refine pu_ 12 34 HT_ ?_
  refine pu_ 13 35 HT_ ?_
  refine pu_ 14 36 HT_ ?_
  refine pu_ 15 37 HT_ ?_
  refine pu_ 16 38 HT_ ?_
  refine pu_ 17 39 HT_ ?_
  refine pq_ 18 40 HT_ ?_
  refine pq_ 19 41 HT_ ?_
  refine pu_ 20 42 HT_ ?_
  refine pu_ 21 43 HT_ ?_
  refine pu_ 22 44 HT_ ?_
  refine pu_ 23 45 HT_ ?_
  refine pu_ 24 46 HT_ ?_
  refine pu_ 25 47 HT_ ?_
  refine pq_ 26 48 HT_ ?_
  refine pq_ 27 49 HT_ ?_
  refine pu_ 28 50 HT_ ?_
  refine pu_ 29 51 HT_ ?_
  refine pu_ 30 52 HT_ ?_
  refine pu_ 31 53 HT_ ?_
  refine pu_ 32 54 HT_ ?_
  refine pu_ 33 55 HT_ ?_
  refine pu_ 34 56 HT_ ?_
  refine pq_ 35 57 HT_ ?_
  refine pq_ 36 58 HT_ ?_
  refine pu_ 37 59 HT_ ?_
  refine pu_ 38 60 HT_ ?_
  refine pu_ 39 61 HT_ ?_
  refine pu_ 40 62 HT_ ?_
  refine pu_ 41 63 HT_ ?_
  refine pu_ 42 64 HT_ ?_
  refine pu_ 43 65 HT_ ?_
  refine pq_ 44 66 HT_ ?_
  refine pq_ 45 67 HT_ ?_
  refine pu_ 46 68 HT_ ?_
  refine pu_ 47 69 HT_ ?_
  refine pu_ 48 70 HT_ ?_
  refine pu_ 49 71 HT_ ?_
  refine pu_ 50 72 HT_ ?_
  refine pu_ 51 73 HT_ ?_
  refine pu_ 52 74 HT_ ?_
  refine pu_ 53 75 HT_ ?_
  refine pq_ 54 76 HT_ ?_
  refine done_ (done_of HT_.out (by kernel_rfl)) ?_
  try go_wp2
  go_meet
  case rel => exact ⟨_, (true), (by first | rfl | (simp; done) | (simp [*]; done)), H', ⟨by first | omega | exact Nat.le_refl _⟩, ⟨by (with_reducible repeat (first | apply Kd.R_alloc | apply Kd.R_drewN | apply Kd.R_drew)); exact HOAn.out⟩, ⟨by (with_reducible repeat (first | apply Kd.R_alloc | apply Kd.R_drewN | apply Kd.R_drew)); exact HOAp.out⟩, ⟨by (with_reducible repeat (first | refine blk_drewN ?_ _ | refine blk_drew ?_ | refine blk_alloc ?_ _)); exact BKAe.out⟩, ⟨by (with_reducible repeat (first | refine blk_drewN ?_ _ | refine blk_drew ?_ | refine blk_alloc ?_ _)); exact BKAf.out⟩, ⟨by (with_reducible repeat (first | refine blk_drewN ?_ _ | refine blk_drew ?_ | refine blk_alloc ?_ _)); exact BKAd.out⟩, ⟨by (with_reducible repeat (first | refine blk_drewN ?_ _ | refine blk_drew ?_ | refine blk_alloc ?_ _)); exact BKAa.out⟩, ⟨by repeat (first | (with_reducible first | exact HB.out | apply below_alloc | apply pw_below_drewN | apply below_drew1 | refine below_set ?_ GEAe.out | refine below_set ?_ GEAf.out | refine below_set ?_ GEAd.out | refine below_set ?_ GEAa.out) | exact HB.out)⟩⟩
 case rest =>
  clear HC9
  try clear c2
  try clear p2
  try clear c3
  try clear c28
  try clear c33
  try clear c34
  try clear c36
  try clear c36b0
  try clear c36b1
  try clear c37
  try clear c38
  obtain ⟨kq, x76_8, rfl, HA, HJ8, HO_Ab005, HO_Ac005, BKAe, BKAf, BKAd, BKAa, HB⟩ := hcut
  cases kq with
  | zero => exact absurd HA.out (by simp [plaitinglaw5_FramePlaces.j0])
  | succ kj8 =>
   have H := HA.out
   clear HA
   simp only [plaitinglaw5_FramePlaces.j0] at H
   by_cases c59 : x76_8 = true
   ·
    subst c59
    have H1 : (some false) = some r := by rw [if_pos rfl] at H; exact H
    clear H
    have H := H1
    clear H1
    exact absurd ((Option.some.inj H).trans HRT.out) (by decide)
   replace c59 := Bool.eq_false_iff.mpr c59
   subst c59
   have H1 : (plaitinglaw5_FramePlaces.l0 kj8 tAc 0 tAb tAh tAi tAj tAm tAg) = some r := by rw [if_neg (show ¬ (false = true) by decide)] at H; exact H
   clear H
   have H := H1
   clear H1
   have H' := Aside0.mk H
   clear H
   go_wp2
   go_loopg [10] kj8 (fun kq v10 w' => ∃ (x10_2 : Int), v10 = .int .i64 x10_2 ∧ Aside0 (plaitinglaw5_FramePlaces.l0 kq tAc x10_2 tAb tAh tAi tAj tAm tAg = some r) ∧ Aside0 (kq ≤ kj8) ∧ Aside0 (Kd.R (Kd.int .i64) 3 w' w.heap.size (fun _ => True) (.slice Ao20 tAw.length co20) tAw) ∧ Aside0 (Kd.R k26 26 w' w.heap.size (fun _ => True) (.slice Ao28 tAg.length co28) tAg) ∧ Aside0 (w'.heap[gbAe]? = some (.cells #[.int .i64 a0_0, .int .i64 a0_1, .int .i64 a0_2, .int .i64 a0_3, .int .i64 a0_4, (.slice A0_5 l0_5.length c0_5)] 24 (0, 0))) ∧ Aside0 (w'.heap[gbAf]? = some (.cells #[.int .i64 a1_0, .int .i64 a1_1, .int .i64 a1_2, .int .i64 a1_3, .int .i64 a1_4, (.slice A1_5 l1_5.length c1_5)] 29 (0, 0))) ∧ Aside0 (w'.heap[gbAd]? = some (.cells #[.int .i64 tAk, .int .i64 tAx, .int .i64 tAy, .int .i64 tAz, .int .i64 tBb, (.slice Ao20 tAw.length co20)] 24 (0, 0))) ∧ Aside0 (w'.heap[gbAa]? = some (.cells #[.int .i64 tAb, .int .i64 tAh, .int .i64 tAi, .int .i64 tAj, .int .i64 tAm, (.slice Ao28 tAg.length co28)] 29 (0, 0))) ∧ Aside0 (Below w.heap.size w w'))
   case atStart => exact ⟨(0), (by first | rfl | (simp; done) | (simp [*]; done)), H', ⟨Nat.le_refl _⟩, ⟨by (with_reducible repeat (first | apply Kd.R_alloc | apply Kd.R_drewN | apply Kd.R_drew)); exact HO_Ab005.out⟩, ⟨by (with_reducible repeat (first | apply Kd.R_alloc | apply Kd.R_drewN | apply Kd.R_drew)); exact HO_Ac005.out⟩, ⟨by (with_reducible repeat (first | refine blk_drewN ?_ _ | refine blk_drew ?_ | refine blk_alloc ?_ _)); exact BKAe.out⟩, ⟨by (with_reducible repeat (first | refine blk_drewN ?_ _ | refine blk_drew ?_ | refine blk_alloc ?_ _)); exact BKAf.out⟩, ⟨by (with_reducible repeat (first | refine blk_drewN ?_ _ | refine blk_drew ?_ | refine blk_alloc ?_ _)); exact BKAd.out⟩, ⟨by (with_reducible repeat (first | refine blk_drewN ?_ _ | refine blk_drew ?_ | refine blk_alloc ?_ _)); exact BKAa.out⟩, ⟨by repeat (first | (with_reducible first | exact HB.out | apply below_alloc | apply pw_below_drewN | apply below_drew1 | refine below_set ?_ GEAe.out | refine below_set ?_ GEAf.out | refine below_set ?_ GEAd.out | refine below_set ?_ GEAa.out) | exact HB.out)⟩⟩
   case round =>
    clear H'
    try clear c1
    try clear c2
    try clear p2
    try clear c3
    try clear c5
    try clear c28
    try clear c33
    try clear c34
    try clear c36
    try clear c36b0
    try clear c36b1
    try clear c37
    try clear c38
    try clear c59
    try clear p2
    obtain ⟨x10_2, rfl, HA, HK2, HO_Ab005, HO_Ac005, BKAe, BKAf, BKAd, BKAa, HB⟩ := hrel
    cases gk with
    | zero => exact absurd HA.out (by simp [plaitinglaw5_FramePlaces.l0])
    | succ k2 =>
     have H := HA.out
     clear HA
     simp only [plaitinglaw5_FramePlaces.l0] at H
     by_cases c60 : x10_2 < (tAg.length : Int)
     ·
      rw [if_pos c60] at H
      have c60b0 : decide (x10_2 < (tAg.length : Int)) = true := decide_eq_true c60
      clear c60
      obtain ⟨ji61, hji61⟩ : ∃ j_ : Int, (wrap64 (34 + (wrap64 (10 * x10_2)))) = j_ := ⟨_, rfl⟩
      replace H : (if 0 ≤ (ji61) then (if (ji61) ≤ (wrap64 (36 + (wrap64 (10 * x10_2)))) then (if (wrap64 (36 + (wrap64 (10 * x10_2)))) ≤ (tAc.size : Int) then (if 0 ≤ x10_2 then ((plaitingref1_Bits.f k2 ((rd_T26 tAg x10_2).f0) 2).bind fun tBd => (if (tAc.extract ((ji61) : Int).toNat ((wrap64 (36 + (wrap64 (10 * x10_2)))) : Int).toNat).toList = tBd.toList then (if 0 ≤ (wrap64 (36 + (wrap64 (10 * x10_2)))) then (if (wrap64 (36 + (wrap64 (10 * x10_2)))) ≤ (wrap64 (44 + (wrap64 (10 * x10_2)))) then (if (wrap64 (44 + (wrap64 (10 * x10_2)))) ≤ (tAc.size : Int) then ((plaitingref1_Bits.f k2 ((rd_T26 tAg x10_2).f1) 8).bind fun tBc => (if (tAc.extract ((wrap64 (36 + (wrap64 (10 * x10_2)))) : Int).toNat ((wrap64 (44 + (wrap64 (10 * x10_2)))) : Int).toNat).toList = tBc.toList then (plaitinglaw5_FramePlaces.l0 k2 tAc (wrap64 (x10_2 + 1)) tAb tAh tAi tAj tAm tAg) else (some false))) else (none)) else (none)) else (none)) else (some false))) else (none)) else (none)) else (none)) else (none)) = some r := by first | (rw [hji61] at H; exact H) | (simp only [hji61] at H ⊢; exact H)
      have hji61w : (IntKind.i64.wrap (34 + (wrap64 (10 * x10_2)))) = ji61 := (i64_w _).trans hji61
      by_cases c62 : 0 ≤ (ji61)
      rotate_left
      ·
       rw [if_neg c62] at H
       exact absurd H (by simp)
      rw [if_pos c62] at H
      have c62b0 := eq_true c62
      have c62b1 : decide (0 ≤ (ji61)) = true := decide_eq_true c62
      clear c62
      by_cases c63 : (ji61) ≤ (wrap64 (36 + (wrap64 (10 * x10_2))))
      rotate_left
      ·
       rw [if_neg c63] at H
       exact absurd H (by simp)
      rw [if_pos c63] at H
      have c63b0 := eq_true c63
      have c63b1 : decide ((ji61) ≤ (wrap64 (36 + (wrap64 (10 * x10_2))))) = true := decide_eq_true c63
      by_cases c64 : (wrap64 (36 + (wrap64 (10 * x10_2)))) ≤ (tAc.size : Int)
      rotate_left
      ·
       rw [if_neg c64] at H
       exact absurd H (by simp)
      rw [if_pos c64] at H
      have c64b0 := eq_true c64
      have c64b1 : decide ((wrap64 (36 + (wrap64 (10 * x10_2)))) ≤ (tAc.size : Int)) = true := decide_eq_true c64
      by_cases c65 : 0 ≤ x10_2
      rotate_left
      ·
       rw [if_neg c65] at H
       exact absurd H (by simp)
      rw [if_pos c65] at H
      have c65b0 : decide (0 ≤ x10_2) = true := decide_eq_true c65
      clear c65
      replace H := Option.bind_eq_some_iff.mp H
      obtain ⟨tBd, A660, H⟩ := H
      replace H : (if (tAc.extract ((ji61) : Int).toNat ((wrap64 (36 + (wrap64 (10 * x10_2)))) : Int).toNat).toList = tBd.toList then (if 0 ≤ (wrap64 (36 + (wrap64 (10 * x10_2)))) then (if (wrap64 (36 + (wrap64 (10 * x10_2)))) ≤ (wrap64 (44 + (wrap64 (10 * x10_2)))) then (if (wrap64 (44 + (wrap64 (10 * x10_2)))) ≤ (tAc.size : Int) then ((plaitingref1_Bits.f k2 ((rd_T26 tAg x10_2).f1) 8).bind fun tBc => (if (tAc.extract ((wrap64 (36 + (wrap64 (10 * x10_2)))) : Int).toNat ((wrap64 (44 + (wrap64 (10 * x10_2)))) : Int).toNat).toList = tBc.toList then (plaitinglaw5_FramePlaces.l0 k2 tAc (wrap64 (x10_2 + 1)) tAb tAh tAi tAj tAm tAg) else (some false))) else (none)) else (none)) else (none)) else (some false)) = some r := H
      have A66 := Aside0.mk A660
      clear A660
      by_cases c67 : (tAc.extract ((ji61) : Int).toNat ((wrap64 (36 + (wrap64 (10 * x10_2)))) : Int).toNat).toList = tBd.toList
      rotate_left
      ·
       rw [if_neg c67] at H
       have c67b0 : ((tAc.extract ((ji61) : Int).toNat ((wrap64 (36 + (wrap64 (10 * x10_2)))) : Int).toNat).toList == tBd.toList) = false := beq_eq_false_iff_ne.mpr c67
       have c67b1 : ((tAc.extract ((ji61) : Int).toNat ((wrap64 (36 + (wrap64 (10 * x10_2)))) : Int).toNat).toList != tBd.toList) = true := bne_iff_ne.mpr c67
       exact absurd ((Option.some.inj H).trans HRT.out) (by decide)
      rw [if_pos c67] at H
      have c67b0 : ((tAc.extract ((ji61) : Int).toNat ((wrap64 (36 + (wrap64 (10 * x10_2)))) : Int).toNat).toList == tBd.toList) = true := beq_iff_eq.mpr c67
      have c67b1 : ((tAc.extract ((ji61) : Int).toNat ((wrap64 (36 + (wrap64 (10 * x10_2)))) : Int).toNat).toList != tBd.toList) = false := bne_eq_false_iff_eq.mpr c67
      clear c67
      obtain ⟨ji68, hji68⟩ : ∃ j_ : Int, (wrap64 (36 + (wrap64 (10 * x10_2)))) = j_ := ⟨_, rfl⟩
      replace H : (if 0 ≤ (ji68) then (if (ji68) ≤ (wrap64 (44 + (wrap64 (10 * x10_2)))) then (if (wrap64 (44 + (wrap64 (10 * x10_2)))) ≤ (tAc.size : Int) then ((plaitingref1_Bits.f k2 ((rd_T26 tAg x10_2).f1) 8).bind fun tBc => (if (tAc.extract ((ji68) : Int).toNat ((wrap64 (44 + (wrap64 (10 * x10_2)))) : Int).toNat).toList = tBc.toList then (plaitinglaw5_FramePlaces.l0 k2 tAc (wrap64 (x10_2 + 1)) tAb tAh tAi tAj tAm tAg) else (some false))) else (none)) else (none)) else (none)) = some r := by first | (rw [hji68] at H; exact H) | (simp only [hji68] at H ⊢; exact H)
      (try rw [hji68] at c63b0)
      (try rw [hji68] at c63b1)
      (try rw [hji68] at c63b2)
      (try rw [hji68] at c63)
      (try rw [hji68] at c64b0)
      (try rw [hji68] at c64b1)
      (try rw [hji68] at c64b2)
      (try rw [hji68] at c64)
      (try rw [hji68] at c67b0)
      (try rw [hji68] at c67b1)
      (try rw [hji68] at c67b2)
      (try rw [hji68] at A66)
      have hji68w : (IntKind.i64.wrap (36 + (wrap64 (10 * x10_2)))) = ji68 := (i64_w _).trans hji68
      by_cases c69 : 0 ≤ (ji68)
      rotate_left
      ·
       rw [if_neg c69] at H
       exact absurd H (by simp)
      rw [if_pos c69] at H
      have c69b0 := eq_true c69
      have c69b1 : decide (0 ≤ (ji68)) = true := decide_eq_true c69
      clear c69
      by_cases c70 : (ji68) ≤ (wrap64 (44 + (wrap64 (10 * x10_2))))
      rotate_left
      ·
       rw [if_neg c70] at H
       exact absurd H (by simp)
      rw [if_pos c70] at H
      have c70b0 := eq_true c70
      have c70b1 : decide ((ji68) ≤ (wrap64 (44 + (wrap64 (10 * x10_2))))) = true := decide_eq_true c70
      by_cases c71 : (wrap64 (44 + (wrap64 (10 * x10_2)))) ≤ (tAc.size : Int)
      rotate_left
      ·
       rw [if_neg c71] at H
       exact absurd H (by simp)
      rw [if_pos c71] at H
      have c71b0 := eq_true c71
      have c71b1 : decide ((wrap64 (44 + (wrap64 (10 * x10_2)))) ≤ (tAc.size : Int)) = true := decide_eq_true c71
      replace H := Option.bind_eq_some_iff.mp H
      obtain ⟨tBc, A720, H⟩ := H
      replace H : (if (tAc.extract ((ji68) : Int).toNat ((wrap64 (44 + (wrap64 (10 * x10_2)))) : Int).toNat).toList = tBc.toList then (plaitinglaw5_FramePlaces.l0 k2 tAc (wrap64 (x10_2 + 1)) tAb tAh tAi tAj tAm tAg) else (some false)) = some r := H
      have A72 := Aside0.mk A720
      clear A720
      by_cases c73 : (tAc.extract ((ji68) : Int).toNat ((wrap64 (44 + (wrap64 (10 * x10_2)))) : Int).toNat).toList = tBc.toList
      rotate_left
      ·
       rw [if_neg c73] at H
       have c73b0 : ((tAc.extract ((ji68) : Int).toNat ((wrap64 (44 + (wrap64 (10 * x10_2)))) : Int).toNat).toList == tBc.toList) = false := beq_eq_false_iff_ne.mpr c73
       have c73b1 : ((tAc.extract ((ji68) : Int).toNat ((wrap64 (44 + (wrap64 (10 * x10_2)))) : Int).toNat).toList != tBc.toList) = true := bne_iff_ne.mpr c73
       exact absurd ((Option.some.inj H).trans HRT.out) (by decide)
      rw [if_pos c73] at H
      have c73b0 : ((tAc.extract ((ji68) : Int).toNat ((wrap64 (44 + (wrap64 (10 * x10_2)))) : Int).toNat).toList == tBc.toList) = true := beq_iff_eq.mpr c73
      have c73b1 : ((tAc.extract ((ji68) : Int).toNat ((wrap64 (44 + (wrap64 (10 * x10_2)))) : Int).toNat).toList != tBc.toList) = false := bne_eq_false_iff_eq.mpr c73
      clear c73
      have H' := Aside0.mk H
      clear H
      have hnb74 := NBAa_Ae.out
      have hnc74 := NBAe_Aa.out
      have hnb75 := NBAa_Af.out
      have hnc75 := NBAf_Aa.out
      have hnb76 := NBAa_Ad.out
      have hnc76 := NBAd_Aa.out
      have hcz77_0 : wr.cell? ⟨gbAa, 0, none⟩ = some (.int .i64 tAb) := (blk_cell BKAa.out 0).trans rfl
      have hcz77_1 : wr.cell? ⟨gbAa, 1, none⟩ = some (.int .i64 tAh) := (blk_cell BKAa.out 1).trans rfl
      have hcz77_2 : wr.cell? ⟨gbAa, 2, none⟩ = some (.int .i64 tAi) := (blk_cell BKAa.out 2).trans rfl
      have hcz77_3 : wr.cell? ⟨gbAa, 3, none⟩ = some (.int .i64 tAj) := (blk_cell BKAa.out 3).trans rfl
      have hcz77_4 : wr.cell? ⟨gbAa, 4, none⟩ = some (.int .i64 tAm) := (blk_cell BKAa.out 4).trans rfl
      have hcz77_5 : wr.cell? ⟨gbAa, 5, none⟩ = some (.slice Ao28 tAg.length co28) := (blk_cell BKAa.out 5).trans rfl
      have hfz77_0 := blk_frozen BKAa.out 0
      have hfz77_1 := blk_frozen BKAa.out 1
      have hfz77_2 := blk_frozen BKAa.out 2
      have hfz77_3 := blk_frozen BKAa.out 3
      have hfz77_4 := blk_frozen BKAa.out 4
      have hfz77_5 := blk_frozen BKAa.out 5
      try go_wp2
      replace HO_Ab005 := Aside0.mk (Kd.R_drew HO_Ab005.out)
      replace HO_Ac005 := Aside0.mk (Kd.R_drew HO_Ac005.out)
      replace BKAe := Aside0.mk (blk_drew BKAe.out)
      replace BKAf := Aside0.mk (blk_drew BKAf.out)
      replace BKAd := Aside0.mk (blk_drew BKAd.out)
      replace BKAa := Aside0.mk (blk_drew BKAa.out)
      replace HB := Aside0.mk (below_drew1 HB.out)
      have pAv : 0 ≤ (x10_2 : Int) := of_decide_eq_true (by first | (with_reducible assumption) | assumption)
      have qAv : x10_2 < (tAg.length : Int) := of_decide_eq_true (by first | (with_reducible assumption) | assumption)
      obtain ⟨adAv, eAv, hxAv_0, hxAv_1⟩ := at_T26 (Kd.R_reads' HO_Ac005.out).2.2 x10_2 pAv qAv
      cases eAv
      replace pAv := eq_true pAv
      replace qAv := eq_true qAv
      have pBa : 0 ≤ (x10_2 : Int) := of_decide_eq_true (by first | (with_reducible assumption) | assumption)
      have qBa : x10_2 < (tAg.length : Int) := of_decide_eq_true (by first | (with_reducible assumption) | assumption)
      obtain ⟨adBa, eBa, hxBa_0, hxBa_1⟩ := at_T26 (Kd.R_reads' HO_Ac005.out).2.2 x10_2 pBa qBa
      obtain rfl : adAv = adBa := (by injection eBa)
      replace pBa := eq_true pBa
      replace qBa := eq_true qBa
      refine start_ (n := 34) (S := fun w' => w'.cell? ⟨gbAa, 0, none⟩ = some (.int .i64 tAb) ∧ w'.cell? ⟨gbAa, 1, none⟩ = some (.int .i64 tAh) ∧ w'.cell? ⟨gbAa, 2, none⟩ = some (.int .i64 tAi) ∧ w'.cell? ⟨gbAa, 3, none⟩ = some (.int .i64 tAj) ∧ w'.cell? ⟨gbAa, 4, none⟩ = some (.int .i64 tAm) ∧ w'.cell? ⟨gbAa, 5, none⟩ = some (.slice (some adAv) tAg.length co28) ∧ w'.cell? (adAv.add ((x10_2).toNat * 2)) = some (.int .i64 ((rd_T26 tAg x10_2).f0)) ∧ w'.cell? ⟨(adAv.add ((x10_2).toNat * 2)).block, (adAv.add ((x10_2).toNat * 2)).off + 1, none⟩ = some (.int .i64 ((rd_T26 tAg x10_2).f1)) ∧ w'.cell? (adAv.add ((x10_2).toNat * 2)) = some (.int .i64 ((rd_T26 tAg x10_2).f0)) ∧ w'.cell? ⟨(adAv.add ((x10_2).toNat * 2)).block, (adAv.add ((x10_2).toNat * 2)).off + 1, none⟩ = some (.int .i64 ((rd_T26 tAg x10_2).f1))) (ds := []) #[false, false, false, false, false, false, false, false, false, false, false, false, false, false, false, false, false, false, false, false, false, false, false, false, false, false, false, false, false, false, false, false, false, false] (by kernel_rfl) rfl rfl ⟨(blk_cell BKAa.out 0).trans rfl, (blk_cell BKAa.out 1).trans rfl, (blk_cell BKAa.out 2).trans rfl, (blk_cell BKAa.out 3).trans rfl, (blk_cell BKAa.out 4).trans rfl, (blk_cell BKAa.out 5).trans rfl, hxAv_0, hxAv_1, hxBa_0, hxBa_1⟩ (fun hHeld => ?_); refine with_tabW plaitinglaw5_FramePlaces.tab11 plaitinglaw5_FramePlaces.bits11 (fun HT_ HW_ => ?_)
      generalize wr.drew = w78 at HO_Ab005 HO_Ac005 BKAe BKAf BKAd BKAa HB hxAv_0 hxAv_1 hxBa_0 hxBa_1 hHeld ⊢
      refine pq_ 0 84 HT_ ?_
      refine pq_ 1 85 HT_ ?_
      refine pq_ 2 86 HT_ ?_
      refine pq_ 3 87 HT_ ?_
      refine pq_ 4 88 HT_ ?_
      refine pq_ 5 89 HT_ ?_
      refine pq_ 6 90 HT_ ?_
      refine pq_ 7 91 HT_ ?_
      refine pq_ 8 92 HT_ ?_
      refine pq_ 10 94 HT_ ?_
      refine tq_ 9 93 HT_ HW_ hHeld ?_
      refine pq_ 11 95 HT_ ?_
      refine pq_ 12 96 HT_ ?_
      refine tq_ 13 97 HT_ HW_ hHeld ?_
      refine oq_ 14 98 HT_ (fun K hK => ?_)
      refine gs_ Try.func28 #[.int .i64 ((rd_T26 tAg x10_2).f0), .int .i64 2] ?_
      with_reducible refine (plaitingref1_Bits.calls k2 ((rd_T26 tAg x10_2).f0) 2 tBd _ A66.out).mono ?_
      rintro e w' ⟨rfl, ⟨nd, rfl⟩⟩
      refine ⟨_, rfl, ?_⟩
      refine hK.out _ _ ⟨(blk_cell BKAa.out 0).trans rfl, (blk_cell BKAa.out 1).trans rfl, (blk_cell BKAa.out 2).trans rfl, (blk_cell BKAa.out 3).trans rfl, (blk_cell BKAa.out 4).trans rfl, (blk_cell BKAa.out 5).trans rfl, hHeld.2.2.2.2.2.2.1, hHeld.2.2.2.2.2.2.2.1, hHeld.2.2.2.2.2.2.2.2.1, hHeld.2.2.2.2.2.2.2.2.2⟩ (fun hHeld => ?_)
      clear hK K
      refine nq_ ?_
      refine pq_ 15 99 HT_ ?_
      refine pq_ 16 100 HT_ ?_
      refine pq_ 17 101 HT_ ?_
      refine pq_ 18 102 HT_ ?_
      refine pq_ 19 103 HT_ ?_
      refine pq_ 20 104 HT_ ?_
      refine pq_ 21 105 HT_ ?_
      refine pq_ 22 106 HT_ ?_
      refine pq_ 23 107 HT_ ?_
      refine pq_ 24 108 HT_ ?_
      refine pq_ 25 109 HT_ ?_
      refine pq_ 27 111 HT_ ?_
      refine tq_ 26 110 HT_ HW_ hHeld ?_
      refine pq_ 28 112 HT_ ?_
      refine pq_ 29 113 HT_ ?_
      refine tq_ 30 114 HT_ HW_ hHeld ?_
      refine oq_ 31 115 HT_ (fun K hK => ?_)
      refine gs_ Try.func28 #[.int .i64 ((rd_T26 tAg x10_2).f1), .int .i64 8] ?_
      with_reducible refine (plaitingref1_Bits.calls k2 ((rd_T26 tAg x10_2).f1) 8 tBc _ A72.out).mono ?_
      rintro e w' ⟨rfl, ⟨nd, rfl⟩⟩
      refine ⟨_, rfl, ?_⟩
      refine hK.out _ _ ⟨(blk_cell BKAa.out 0).trans rfl, (blk_cell BKAa.out 1).trans rfl, (blk_cell BKAa.out 2).trans rfl, (blk_cell BKAa.out 3).trans rfl, (blk_cell BKAa.out 4).trans rfl, (blk_cell BKAa.out 5).trans rfl, hHeld.2.2.2.2.2.2.1, hHeld.2.2.2.2.2.2.2.1, hHeld.2.2.2.2.2.2.2.2.1, hHeld.2.2.2.2.2.2.2.2.2⟩ (fun hHeld => ?_)
      clear hK K
      refine nq_ ?_
      refine pq_ 32 116 HT_ ?_
      refine pq_ 33 117 HT_ ?_
      refine done_ (done_of HT_.out (by kernel_rfl)) ?_
      try go_wp2
      go_roundg k2
      case measure => have := HJ8.out; have := HK2.out; omega
      case rel => exact ⟨(wrap64 (x10_2 + 1)), (by first | rfl | (simp; done) | (simp [*]; done)), H', ⟨by have := HJ8.out; have := HK2.out; omega⟩, ⟨by (with_reducible repeat (first | apply Kd.R_alloc | apply Kd.R_drewN | apply Kd.R_drew)); exact HO_Ab005.out⟩, ⟨by (with_reducible repeat (first | apply Kd.R_alloc | apply Kd.R_drewN | apply Kd.R_drew)); exact HO_Ac005.out⟩, ⟨by (with_reducible repeat (first | refine blk_drewN ?_ _ | refine blk_drew ?_ | refine blk_alloc ?_ _)); exact BKAe.out⟩, ⟨by (with_reducible repeat (first | refine blk_drewN ?_ _ | refine blk_drew ?_ | refine blk_alloc ?_ _)); exact BKAf.out⟩, ⟨by (with_reducible repeat (first | refine blk_drewN ?_ _ | refine blk_drew ?_ | refine blk_alloc ?_ _)); exact BKAd.out⟩, ⟨by (with_reducible repeat (first | refine blk_drewN ?_ _ | refine blk_drew ?_ | refine blk_alloc ?_ _)); exact BKAa.out⟩, ⟨by repeat (first | (with_reducible first | exact HB.out | apply below_alloc | apply pw_below_drewN | apply below_drew1 | refine below_set ?_ GEAe.out | refine below_set ?_ GEAf.out | refine below_set ?_ GEAd.out | refine below_set ?_ GEAa.out) | exact HB.out)⟩⟩
     rw [if_neg c60] at H
     have c60b0 : decide (x10_2 < (tAg.length : Int)) = false := decide_eq_false c60
     clear c60
     obtain rfl := Option.some.inj H
     have hnb79 := NBAa_Ae.out
     have hnc79 := NBAe_Aa.out
     have hnb80 := NBAa_Af.out
     have hnc80 := NBAf_Aa.out
     have hnb81 := NBAa_Ad.out
     have hnc81 := NBAd_Aa.out
     have hcz82_0 : wr.cell? ⟨gbAa, 0, none⟩ = some (.int .i64 tAb) := (blk_cell BKAa.out 0).trans rfl
     have hcz82_1 : wr.cell? ⟨gbAa, 1, none⟩ = some (.int .i64 tAh) := (blk_cell BKAa.out 1).trans rfl
     have hcz82_2 : wr.cell? ⟨gbAa, 2, none⟩ = some (.int .i64 tAi) := (blk_cell BKAa.out 2).trans rfl
     have hcz82_3 : wr.cell? ⟨gbAa, 3, none⟩ = some (.int .i64 tAj) := (blk_cell BKAa.out 3).trans rfl
     have hcz82_4 : wr.cell? ⟨gbAa, 4, none⟩ = some (.int .i64 tAm) := (blk_cell BKAa.out 4).trans rfl
     have hcz82_5 : wr.cell? ⟨gbAa, 5, none⟩ = some (.slice Ao28 tAg.length co28) := (blk_cell BKAa.out 5).trans rfl
     have hfz82_0 := blk_frozen BKAa.out 0
     have hfz82_1 := blk_frozen BKAa.out 1
     have hfz82_2 := blk_frozen BKAa.out 2
     have hfz82_3 := blk_frozen BKAa.out 3
     have hfz82_4 := blk_frozen BKAa.out 4
     have hfz82_5 := blk_frozen BKAa.out 5
     go_wp2
     go_ret
     exact ⟨by first | rfl | (simp [errW_none, errW_some] <;> rfl) | (simp [*, errW_none, errW_some] <;> rfl), by repeat (first | (with_reducible first | exact HB.out | apply below_alloc | apply pw_below_drewN | apply below_drew1 | refine below_set ?_ GEAe.out | refine below_set ?_ GEAf.out | refine below_set ?_ GEAd.out | refine below_set ?_ GEAa.out) | exact HB.out)⟩
def plaitinglaw5_FramePlaces.Pure : Prop := ∀ (a0_0 : Int) (a0_1 : Int) (a0_2 : Int) (a0_3 : Int) (a0_4 : Int) (l0_5 : List Int) (a1_0 : Int) (a1_1 : Int) (a1_2 : Int) (a1_3 : Int) (a1_4 : Int) (l1_5 : List (S26)) (l2 : List Int), ((Lit.int .i64 a0_0).wf = true) → ((Lit.int .i64 a0_1).wf = true) → ((Lit.int .i64 a0_2).wf = true) → ((Lit.int .i64 a0_3).wf = true) → ((Lit.int .i64 a0_4).wf = true) → (l0_5.length ≤ maxLen ∧ ∀ y_ ∈ l0_5, (Lit.int .i64 y_).wf = true) → ((Lit.int .i64 a1_0).wf = true) → ((Lit.int .i64 a1_1).wf = true) → ((Lit.int .i64 a1_2).wf = true) → ((Lit.int .i64 a1_3).wf = true) → ((Lit.int .i64 a1_4).wf = true) → (l1_5.length ≤ maxLen ∧ ∀ y_ ∈ l1_5, ok26 y_) → (l2.length ≤ maxLen) → (l2.length * 8 ≤ 140737488351232) → (∀ y_ ∈ l2, (Lit.int .i64 y_).wf = true) → ∃ k, plaitinglaw5_FramePlaces.f k a0_0 a0_1 a0_2 a0_3 a0_4 l0_5 a1_0 a1_1 a1_2 a1_3 a1_4 l1_5 l2 = some true
theorem plaitinglaw5_FramePlaces.walk (P : plaitinglaw5_FramePlaces.Pure) (a0_0 : Int) (a0_1 : Int) (a0_2 : Int) (a0_3 : Int) (a0_4 : Int) (A0_5 : Option Addr) (c0_5 : Nat) (l0_5 : List Int) (a1_0 : Int) (a1_1 : Int) (a1_2 : Int) (a1_3 : Int) (a1_4 : Int) (A1_5 : Option Addr) (c1_5 : Nat) (l1_5 : List (S26)) (A2 : Option Addr) (c2 : Nat) (l2 : List Int) (w : World) (q0 : (Lit.int .i64 a0_0).wf = true) (q1 : (Lit.int .i64 a0_1).wf = true) (q2 : (Lit.int .i64 a0_2).wf = true) (q3 : (Lit.int .i64 a0_3).wf = true) (q4 : (Lit.int .i64 a0_4).wf = true) (q5 : l0_5.length ≤ maxLen ∧ ∀ y_ ∈ l0_5, (Lit.int .i64 y_).wf = true) (q6 : (Lit.int .i64 a1_0).wf = true) (q7 : (Lit.int .i64 a1_1).wf = true) (q8 : (Lit.int .i64 a1_2).wf = true) (q9 : (Lit.int .i64 a1_3).wf = true) (q10 : (Lit.int .i64 a1_4).wf = true) (q11 : l1_5.length ≤ maxLen ∧ ∀ y_ ∈ l1_5, ok26 y_) (q12 : l2.length ≤ maxLen) (q13 : l2.length * 8 ≤ 140737488351232) (q14 : ∀ y_ ∈ l2, (Lit.int .i64 y_).wf = true) (hr0_5 : Kd.C (Kd.int .i64) w A0_5 l0_5.length l0_5) (hc0_5 : l0_5.length ≤ c0_5) (hr1_5 : Kd.C k26 w A1_5 l1_5.length l1_5) (hc1_5 : l1_5.length ≤ c1_5) (hr2 : Kd.C (Kd.int .i64) w A2 l2.length l2) (hc2 : l2.length ≤ c2) :
  Calls Try.prog 5 #[.agg #[.int .i64 a0_0, .int .i64 a0_1, .int .i64 a0_2, .int .i64 a0_3, .int .i64 a0_4, .slice A0_5 l0_5.length c0_5], .agg #[.int .i64 a1_0, .int .i64 a1_1, .int .i64 a1_2, .int .i64 a1_3, .int .i64 a1_4, .slice A1_5 l1_5.length c1_5], .slice A2 l2.length c2] w fun e w' => e = .returned (.bool true) ∧ Below w.heap.size w w' := by
 obtain ⟨k, h⟩ := P a0_0 a0_1 a0_2 a0_3 a0_4 l0_5 a1_0 a1_1 a1_2 a1_3 a1_4 l1_5 l2 q0 q1 q2 q3 q4 q5 q6 q7 q8 q9 q10 q11 q12 q13 q14
 refine (plaitinglaw5_FramePlaces.calls k a0_0 a0_1 a0_2 a0_3 a0_4 A0_5 c0_5 l0_5 a1_0 a1_1 a1_2 a1_3 a1_4 A1_5 c1_5 l1_5 A2 c2 l2 true w hr0_5 hc0_5 hr1_5 hc1_5 hr2 hc2 rfl h).mono ?_
 rintro e w' ⟨rfl, hd⟩
 exact ⟨rfl, hd⟩
end Go.Proofs.Ytcpohmfkmgcjkaa.P
