/- SpreadCut: specs of its loops. -/
import Derived.Test.YtiemjcchlfbglaaBcC
import Derived.KernelRfl
namespace Go.Proofs.YtiemjcchlfbglaaE
open Go
set_option linter.unusedVariables false

def s_outI (rows : List (List AV)) (j : Int) : ByteArray := s_out2 (rows.getD j.toNat [])
def lCut1 : LW := fun vals h Q => match vals, h with
  | [.ptr 0 0, .row nw [.str, .str, .str, .int .i64] rows, .int .i64 i], [.box [.int .i64 n, .int .i64 pi, .int .i64 e, .int .i64 g, .int .i64 fi, .row nl [.int .i64] ps, .int .i64 fk, .int .i64 fa, .int .i64 ff, .int .i64 ft, .nils, .nils, .int .i64 ro, .int .i64 sl, .int .i64 dir, .sl 1 0 1, .sl 2 0 m1, .sl 3 0 m2], .arr 0 9 [.str] [[.str z]], .arr 0 3 [.int .i64] sts, .arr 0 3 [.int .i64] dvs] => Hyp (0 ≤ i ∧ i ≤ rows.length ∧ rows.length ≤ 100 ∧ ∀ j : Int, 0 ≤ j → j < rows.length → j ≠ sl → s_outI rows j = ⟨#[]⟩) ∧ Q (.exit 0) [] []
  | _, _ => False
def lCut2 : LW := fun vals h Q => match vals, h with
  | [.int .i64 dir', .ptr 0 0, .row nw [.str, .str, .str, .int .i64] rows, .int .i64 far, .int .i64 i], [.box [.int .i64 n, .int .i64 pi, .int .i64 e, .int .i64 g, .int .i64 fi, .row nl [.int .i64] ps, .int .i64 fk, .int .i64 fa, .int .i64 ff, .int .i64 ft, .nils, .nils, .int .i64 ro, .int .i64 sl, .int .i64 dir, .sl 1 0 1, .sl 2 0 m1, .sl 3 0 m2], .arr 0 9 [.str] [[.str z]], .arr 0 3 [.int .i64] sts, .arr 0 3 [.int .i64] dvs] => Hyp (dir' = dir ∧ (dir = 1 ∨ dir = -1) ∧ 0 ≤ i ∧ i ≤ rows.length ∧ (rows.length : Int) = n ∧ n ≤ 100 ∧ 0 ≤ sl ∧ sl < n ∧ ∀ j : Int, 0 ≤ j → j < n → s_outI rows j = if far < s_far n sl dir j then ⟨#[]⟩ else z) ∧ Q (.exit 2) [] []
  | _, _ => False
def W4L : Sp := ⟨V4.fn, [(4, 13, lCut1), (4, 20, lCut2)]⟩
end Go.Proofs.YtiemjcchlfbglaaE
/- What path mode says of functions, printed by a program of this session; the kernel holds each. -/
namespace Go.Proofs.YtiemjcchlfbglaaE
open Go
set_option maxRecDepth 100000
set_option linter.unusedVariables false
theorem nfCut1 (n pi e g fi fk fa ff ft ro sl dir i : Int) (nl nw : Bool) (ps rows sts dvs : List (List AV)) (m1 m2 : Nat) (z : ByteArray) (Q : Ex → List AV → List AObj → Prop) : lpBody Try.prog H0 V4 6 6 4 13 [.ptr 0 0, .row nw [.str, .str, .str, .int .i64] rows, .int .i64 i] [.box [.int .i64 n, .int .i64 pi, .int .i64 e, .int .i64 g, .int .i64 fi, .row nl [.int .i64] ps, .int .i64 fk, .int .i64 fa, .int .i64 ff, .int .i64 ft, .nils, .nils, .int .i64 ro, .int .i64 sl, .int .i64 dir, .sl 1 0 1, .sl 2 0 m1, .sl 3 0 m2], .arr 0 9 [.str] [[.str z]], .arr 0 3 [.int .i64] sts, .arr 0 3 [.int .i64] dvs] Q = (
br (decide (i < (↑rows.length : Int)))
 (br (i != sl)
  (chk ((0 : Int) ≤ i ∧ i < (↑rows.length : Int)) (br (!((rows.getD i.toNat []).getD (2 : Nat) AV.gone).toS.toList == (ByteArray.mk #[]).toList)
   (Q (Ex.ret) ([AV.bool false]) ([]))
   (Q (Ex.nrm) ([AV.ptr (0 : Nat) (0 : Nat), AV.row nw [K.str, K.str, K.str, K.int IntKind.i64] rows,
  AV.int IntKind.i64 (IntKind.i64.wrap (i + (1 : Int)))]) ([AObj.box
    [AV.int IntKind.i64 n, AV.int IntKind.i64 pi, AV.int IntKind.i64 e, AV.int IntKind.i64 g, AV.int IntKind.i64 fi,
      AV.row nl [K.int IntKind.i64] ps, AV.int IntKind.i64 fk, AV.int IntKind.i64 fa, AV.int IntKind.i64 ff,
      AV.int IntKind.i64 ft, AV.nils, AV.nils, AV.int IntKind.i64 ro, AV.int IntKind.i64 sl, AV.int IntKind.i64 dir,
      AV.sl (1 : Nat) (0 : Nat) (1 : Nat), AV.sl (2 : Nat) (0 : Nat) m1, AV.sl (3 : Nat) (0 : Nat) m2],
  AObj.arr (0 : Nat) (9 : Nat) [K.str] [[AV.str z]], AObj.arr (0 : Nat) (3 : Nat) [K.int IntKind.i64] sts,
  AObj.arr (0 : Nat) (3 : Nat) [K.int IntKind.i64] dvs]))))
  (Q (Ex.nrm) ([AV.ptr (0 : Nat) (0 : Nat), AV.row nw [K.str, K.str, K.str, K.int IntKind.i64] rows,
  AV.int IntKind.i64 (IntKind.i64.wrap (i + (1 : Int)))]) ([AObj.box
    [AV.int IntKind.i64 n, AV.int IntKind.i64 pi, AV.int IntKind.i64 e, AV.int IntKind.i64 g, AV.int IntKind.i64 fi,
      AV.row nl [K.int IntKind.i64] ps, AV.int IntKind.i64 fk, AV.int IntKind.i64 fa, AV.int IntKind.i64 ff,
      AV.int IntKind.i64 ft, AV.nils, AV.nils, AV.int IntKind.i64 ro, AV.int IntKind.i64 sl, AV.int IntKind.i64 dir,
      AV.sl (1 : Nat) (0 : Nat) (1 : Nat), AV.sl (2 : Nat) (0 : Nat) m1, AV.sl (3 : Nat) (0 : Nat) m2],
  AObj.arr (0 : Nat) (9 : Nat) [K.str] [[AV.str z]], AObj.arr (0 : Nat) (3 : Nat) [K.int IntKind.i64] sts,
  AObj.arr (0 : Nat) (3 : Nat) [K.int IntKind.i64] dvs])))
 (Q (Ex.exit (0 : Nat)) ([]) ([]))) := by kernel_rfl
theorem nfCut2 (n pi e g fi fk fa ff ft ro sl dir i : Int) (nl nw : Bool) (ps rows sts dvs : List (List AV)) (m1 m2 : Nat) (z : ByteArray) (far dir' : Int) (Q : Ex → List AV → List AObj → Prop) : lpBody Try.prog H0 V4 6 6 4 20 [.int .i64 dir', .ptr 0 0, .row nw [.str, .str, .str, .int .i64] rows, .int .i64 far, .int .i64 i] [.box [.int .i64 n, .int .i64 pi, .int .i64 e, .int .i64 g, .int .i64 fi, .row nl [.int .i64] ps, .int .i64 fk, .int .i64 fa, .int .i64 ff, .int .i64 ft, .nils, .nils, .int .i64 ro, .int .i64 sl, .int .i64 dir, .sl 1 0 1, .sl 2 0 m1, .sl 3 0 m2], .arr 0 9 [.str] [[.str z]], .arr 0 3 [.int .i64] sts, .arr 0 3 [.int .i64] dvs] Q = (
br (decide (i < (↑rows.length : Int)))
 (((Hyp ((0 : Int) < n ∧
  n ≤ (1000000 : Int) ∧ (0 : Int) ≤ sl ∧ sl < n ∧ (0 : Int) ≤ i ∧ i < n ∧ (dir' = (1 : Int) ∨ dir' = (-1 : Int)))) ∧
 (br (decide (s_far n sl dir' i > far))
  (chk ((0 : Int) ≤ i ∧ i < (↑rows.length : Int)) (br (!((rows.getD i.toNat []).getD (2 : Nat) AV.gone).toS.toList == (ByteArray.mk #[]).toList)
   (Q (Ex.ret) ([AV.bool false]) ([]))
   (Q (Ex.nrm) ([AV.int IntKind.i64 dir', AV.ptr (0 : Nat) (0 : Nat), AV.row nw [K.str, K.str, K.str, K.int IntKind.i64] rows,
  AV.int IntKind.i64 far, AV.int IntKind.i64 (IntKind.i64.wrap (i + (1 : Int)))]) ([AObj.box
    [AV.int IntKind.i64 n, AV.int IntKind.i64 pi, AV.int IntKind.i64 e, AV.int IntKind.i64 g, AV.int IntKind.i64 fi,
      AV.row nl [K.int IntKind.i64] ps, AV.int IntKind.i64 fk, AV.int IntKind.i64 fa, AV.int IntKind.i64 ff,
      AV.int IntKind.i64 ft, AV.nils, AV.nils, AV.int IntKind.i64 ro, AV.int IntKind.i64 sl, AV.int IntKind.i64 dir,
      AV.sl (1 : Nat) (0 : Nat) (1 : Nat), AV.sl (2 : Nat) (0 : Nat) m1, AV.sl (3 : Nat) (0 : Nat) m2],
  AObj.arr (0 : Nat) (9 : Nat) [K.str] [[AV.str z]], AObj.arr (0 : Nat) (3 : Nat) [K.int IntKind.i64] sts,
  AObj.arr (0 : Nat) (3 : Nat) [K.int IntKind.i64] dvs]))))
  (chk ((0 : Int) ≤ i ∧ i < (↑rows.length : Int)) (br (!((rows.getD i.toNat []).getD (2 : Nat) AV.gone).toS.toList == z.toList)
   (Q (Ex.ret) ([AV.bool false]) ([]))
   (Q (Ex.nrm) ([AV.int IntKind.i64 dir', AV.ptr (0 : Nat) (0 : Nat), AV.row nw [K.str, K.str, K.str, K.int IntKind.i64] rows,
  AV.int IntKind.i64 far, AV.int IntKind.i64 (IntKind.i64.wrap (i + (1 : Int)))]) ([AObj.box
    [AV.int IntKind.i64 n, AV.int IntKind.i64 pi, AV.int IntKind.i64 e, AV.int IntKind.i64 g, AV.int IntKind.i64 fi,
      AV.row nl [K.int IntKind.i64] ps, AV.int IntKind.i64 fk, AV.int IntKind.i64 fa, AV.int IntKind.i64 ff,
      AV.int IntKind.i64 ft, AV.nils, AV.nils, AV.int IntKind.i64 ro, AV.int IntKind.i64 sl, AV.int IntKind.i64 dir,
      AV.sl (1 : Nat) (0 : Nat) (1 : Nat), AV.sl (2 : Nat) (0 : Nat) m1, AV.sl (3 : Nat) (0 : Nat) m2],
  AObj.arr (0 : Nat) (9 : Nat) [K.str] [[AV.str z]], AObj.arr (0 : Nat) (3 : Nat) [K.int IntKind.i64] sts,
  AObj.arr (0 : Nat) (3 : Nat) [K.int IntKind.i64] dvs])))))))
 (Q (Ex.exit (2 : Nat)) ([]) ([]))) := by kernel_rfl
theorem nfCut (n pi e g fi : Int) (nl : Bool) (ps : List (List AV)) (slot at_ : Int) (k r sl pk pv : Int) (nl2 : Bool) (ec : List (List AV)) (nl3 : Bool) (ns : List (List AV)) (up : Bool) (Q : AV × List AObj → Prop) : inlW Try.prog H0 W4L 6 (InO Try.prog H0 W4L 6 6) 4 [cf n pi e g fi nl ps, .int .i64 slot, .int .i64 at_, .agg [.int .i64 k, .int .i64 r, .int .i64 sl, .int .i64 pk, .int .i64 pv, .row nl2 [.int .i64, .int .i64] ec], .row nl3 [.int .i64] ns, .bool up] [] Q = (
br (!up)
 ((∀ (n101 : Int),
 (∀ (pi102 : Int),
 (∀ (e103 : Int),
 (∀ (g104 : Int),
 (∀ (fi105 : Int),
 (∀ (nl106 : Bool),
 (∀ (qs107 : List Int),
 (∀ (m108 : Nat),
 (∀ (z109 : ByteArray),
 ((s_made n101 pi102 e103 g104 fi105 qs107 ∧
  (↑m108 : Int) = n101 ∧ s_clean z109 = z109 ∧ (0 : Nat) < z109.size ∧ z109.size ≤ (1000 : Nat)) →
 chk ((0 : Int) < n101 ∧ n101 < (9223372036854775808 : Int)) (chk ((0 : Nat) + m108 ≤ (s_rep m108 (4 : Int)).length) (chk ((0 : Nat) + m108 ≤ (s_rep m108 (0 : Int)).length) (((Hyp (s_confOk n101 pi102 e103 g104 fi105
      (List.map (fun r => (r.getD (0 : Nat) AV.gone).toI) (List.map (fun n => [AV.int IntKind.i64 n]) qs107)) =
    true ∧
  ([] : List (List AV)) = [] ∧
    s_runOk
        { n := n101, dir := (-1 : Int), kind := (1 : Int), at_ := s_rem at_ n101, fr := (0 : Int), to_ := (1000 : Int),
          ro := (0 : Int), sl := s_rem slot n101, pi := pi102,
          sts := List.take m108 (List.drop (0 : Nat) (s_rep m108 (4 : Int))),
          dvs := List.take m108 (List.drop (0 : Nat) (s_rep m108 (0 : Int))) } ∧
      z109.size ≤ (1000000 : Nat))) ∧
 ((∀ (rows115 : List (List AV)),
 ((rows115 =
  s_runS
    { n := n101, dir := (-1 : Int), kind := (1 : Int), at_ := s_rem at_ n101, fr := (0 : Int), to_ := (1000 : Int),
      ro := (0 : Int), sl := s_rem slot n101, pi := pi102,
      sts := List.take m108 (List.drop (0 : Nat) (s_rep m108 (4 : Int))),
      dvs := List.take m108 (List.drop (0 : Nat) (s_rep m108 (0 : Int))) }
    z109 (n101 - (1 : Int)).toNat) →
 br ((↑rows115.length : Int) != n101)
  (Q ((AV.bool false, [])))
  (br (s_rem at_ n101 == s_rem slot n101)
   (((Hyp ((0 : Int) ≤ (0 : Int) ∧
  (0 : Int) ≤ (↑rows115.length : Int) ∧
    rows115.length ≤ (100 : Nat) ∧
      ∀ (j : Int),
        (0 : Int) ≤ j → j < (↑rows115.length : Int) → j ≠ s_rem slot n101 → s_outI rows115 j = (ByteArray.mk #[]))) ∧
   (Q ((AV.bool true, [])))))
   (((Hyp ((0 : Int) < n101 ∧
  n101 ≤ (1000000 : Int) ∧
    (0 : Int) ≤ s_rem slot n101 ∧
      s_rem slot n101 < n101 ∧
        (0 : Int) ≤ s_rem at_ n101 ∧ s_rem at_ n101 < n101 ∧ ((-1 : Int) = (1 : Int) ∨ (-1 : Int) = (-1 : Int)))) ∧
   (((Hyp ((-1 : Int) = (-1 : Int) ∧
  ((-1 : Int) = (1 : Int) ∨ (-1 : Int) = (-1 : Int)) ∧
    (0 : Int) ≤ (0 : Int) ∧
      (0 : Int) ≤ (↑rows115.length : Int) ∧
        (↑rows115.length : Int) = n101 ∧
          n101 ≤ (100 : Int) ∧
            (0 : Int) ≤ s_rem slot n101 ∧
              s_rem slot n101 < n101 ∧
                ∀ (j : Int),
                  (0 : Int) ≤ j →
                    j < n101 →
                      s_outI rows115 j =
                        if
                            s_far n101 (s_rem slot n101) (-1 : Int) (s_rem at_ n101) <
                              s_far n101 (s_rem slot n101) (-1 : Int) j then
                          (ByteArray.mk #[])
                        else z109)) ∧
   (Q ((AV.bool true, []))))))))))))))))))))))))))
 ((∀ (n101 : Int),
 (∀ (pi102 : Int),
 (∀ (e103 : Int),
 (∀ (g104 : Int),
 (∀ (fi105 : Int),
 (∀ (nl106 : Bool),
 (∀ (qs107 : List Int),
 (∀ (m108 : Nat),
 (∀ (z109 : ByteArray),
 ((s_made n101 pi102 e103 g104 fi105 qs107 ∧
  (↑m108 : Int) = n101 ∧ s_clean z109 = z109 ∧ (0 : Nat) < z109.size ∧ z109.size ≤ (1000 : Nat)) →
 chk ((0 : Int) < n101 ∧ n101 < (9223372036854775808 : Int)) (chk ((0 : Nat) + m108 ≤ (s_rep m108 (4 : Int)).length) (chk ((0 : Nat) + m108 ≤ (s_rep m108 (0 : Int)).length) (((Hyp (s_confOk n101 pi102 e103 g104 fi105
      (List.map (fun r => (r.getD (0 : Nat) AV.gone).toI) (List.map (fun n => [AV.int IntKind.i64 n]) qs107)) =
    true ∧
  ([] : List (List AV)) = [] ∧
    s_runOk
        { n := n101, dir := (1 : Int), kind := (1 : Int), at_ := s_rem at_ n101, fr := (0 : Int), to_ := (1000 : Int),
          ro := (0 : Int), sl := s_rem slot n101, pi := pi102,
          sts := List.take m108 (List.drop (0 : Nat) (s_rep m108 (4 : Int))),
          dvs := List.take m108 (List.drop (0 : Nat) (s_rep m108 (0 : Int))) } ∧
      z109.size ≤ (1000000 : Nat))) ∧
 ((∀ (rows115 : List (List AV)),
 ((rows115 =
  s_runS
    { n := n101, dir := (1 : Int), kind := (1 : Int), at_ := s_rem at_ n101, fr := (0 : Int), to_ := (1000 : Int),
      ro := (0 : Int), sl := s_rem slot n101, pi := pi102,
      sts := List.take m108 (List.drop (0 : Nat) (s_rep m108 (4 : Int))),
      dvs := List.take m108 (List.drop (0 : Nat) (s_rep m108 (0 : Int))) }
    z109 (n101 - (1 : Int)).toNat) →
 br ((↑rows115.length : Int) != n101)
  (Q ((AV.bool false, [])))
  (br (s_rem at_ n101 == s_rem slot n101)
   (((Hyp ((0 : Int) ≤ (0 : Int) ∧
  (0 : Int) ≤ (↑rows115.length : Int) ∧
    rows115.length ≤ (100 : Nat) ∧
      ∀ (j : Int),
        (0 : Int) ≤ j → j < (↑rows115.length : Int) → j ≠ s_rem slot n101 → s_outI rows115 j = (ByteArray.mk #[]))) ∧
   (Q ((AV.bool true, [])))))
   (((Hyp ((0 : Int) < n101 ∧
  n101 ≤ (1000000 : Int) ∧
    (0 : Int) ≤ s_rem slot n101 ∧
      s_rem slot n101 < n101 ∧
        (0 : Int) ≤ s_rem at_ n101 ∧ s_rem at_ n101 < n101 ∧ ((1 : Int) = (1 : Int) ∨ (1 : Int) = (-1 : Int)))) ∧
   (((Hyp ((1 : Int) = (1 : Int) ∧
  ((1 : Int) = (1 : Int) ∨ (1 : Int) = (-1 : Int)) ∧
    (0 : Int) ≤ (0 : Int) ∧
      (0 : Int) ≤ (↑rows115.length : Int) ∧
        (↑rows115.length : Int) = n101 ∧
          n101 ≤ (100 : Int) ∧
            (0 : Int) ≤ s_rem slot n101 ∧
              s_rem slot n101 < n101 ∧
                ∀ (j : Int),
                  (0 : Int) ≤ j →
                    j < n101 →
                      s_outI rows115 j =
                        if
                            s_far n101 (s_rem slot n101) (1 : Int) (s_rem at_ n101) <
                              s_far n101 (s_rem slot n101) (1 : Int) j then
                          (ByteArray.mk #[])
                        else z109)) ∧
   (Q ((AV.bool true, []))))))))))))))))))))))))))) := by kernel_rfl
end Go.Proofs.YtiemjcchlfbglaaE
/- SpreadCut: the plain law. -/
namespace Go.Proofs.YtiemjcchlfbglaaE
open Go
set_option linter.unusedVariables false
set_option linter.unusedSimpArgs false
set_option maxRecDepth 100000

theorem ints_irow (k : IntKind) (ps : List Int) : ints (irow k ps) = ps := by
  induction ps with
  | nil => rfl
  | cons a l ih =>
    have : ints (irow k (a :: l)) = a :: ints (irow k l) := rfl
    rw [this, ih]
theorem cfMade_ok {n pi e g fi : Int} {ps : List Int} (h : s_made n pi e g fi ps) : s_confOk n pi e g fi (ints (irow .i64 ps)) = true := by
  obtain ⟨h1, h2, h3, h4, h5, h6, h7, h8, h9, h10, h11, h12⟩ := h
  rw [ints_irow]
  simp only [s_confOk, Bool.and_eq_true, decide_eq_true_eq, List.all_eq_true]
  exact ⟨⟨⟨⟨⟨⟨⟨⟨⟨⟨⟨h1, h2⟩, h3⟩, by omega⟩, h5⟩, by omega⟩, h7⟩, h8⟩, h9⟩, by omega⟩, h11⟩, h12⟩
theorem str_eq {a b : ByteArray} (h : a = b) : (!(a.toList == b.toList)) = false := by rw [h]; simp
theorem okLCut1 : OkLp Try.prog H0 4 13 lCut1 := by
  refine okLp_of (U := 6) (k := 6) okV4 lCut1 (fun vals _ => match vals with | [_, .row _ _ rows, .int _ i] => ((rows.length : Int) - i).toNat | _ => 0) fun vals h Q hl => ?_
  unfold lCut1 at hl
  split at hl
  · rename_i nw rows i n pi e g fi nl ps fk fa ff ft ro sl dir m1 m2 z sts dvs
    obtain ⟨⟨h0, h1, h2, h3⟩, hq⟩ := hyp_iff.1 hl
    refine to (nfCut1 ..) (br_intro (fun c => ?_) fun c => hq)
    have c := of_decide_eq_true c
    have wi : IntKind.i64.wrap (i + 1) = i + 1 := wr (by omega) (by omega)
    rw [wi]
    have nxt : ((rows.length : Int) - (i + 1)).toNat < ((rows.length : Int) - i).toNat := by omega
    refine br_intro (fun c1 => ?_) fun c1 => ⟨nxt, hyp_iff.2 ⟨⟨by omega, by omega, h2, h3⟩, hq⟩⟩
    have c1 : i ≠ sl := by simpa using c1
    have h4 := h3 i h0 c c1
    rw [chk_iff]
    refine ⟨⟨h0, c⟩, br_intro (fun c2 => ?_) fun _ => ⟨nxt, hyp_iff.2 ⟨⟨by omega, by omega, h2, h3⟩, hq⟩⟩⟩
    exact absurd (c2.symm.trans (str_eq h4)) (by simp)
  · exact hl.elim
theorem okLCut2 : OkLp Try.prog H0 4 20 lCut2 := by
  refine okLp_of (U := 6) (k := 6) okV4 lCut2 (fun vals _ => match vals with | [_, _, .row _ _ rows, _, .int _ i] => ((rows.length : Int) - i).toNat | _ => 0) fun vals h Q hl => ?_
  unfold lCut2 at hl
  split at hl
  · rename_i dir' nw rows far i n pi e g fi nl ps fk fa ff ft ro sl dir m1 m2 z sts dvs
    obtain ⟨⟨hd, hd2, h0, h1, hn, h2, hs1, hs2, h3⟩, hq⟩ := hyp_iff.1 hl
    subst hd
    refine to (nfCut2 ..) (br_intro (fun c => ?_) fun c => hq)
    have c := of_decide_eq_true c
    have wi : IntKind.i64.wrap (i + 1) = i + 1 := wr (by omega) (by omega)
    rw [wi]
    have nxt : ((rows.length : Int) - (i + 1)).toNat < ((rows.length : Int) - i).toNat := by omega
    have h4 := h3 i h0 (by omega)
    refine hyp_iff.2 ⟨⟨by omega, by omega, hs1, hs2, h0, by omega, hd2⟩, br_intro (fun c1 => ?_) fun c1 => ?_⟩
    · have c1 := of_decide_eq_true c1
      rw [if_pos c1] at h4
      rw [chk_iff]
      refine ⟨⟨h0, c⟩, br_intro (fun c2 => absurd (c2.symm.trans (str_eq h4)) (by simp)) fun _ => ⟨nxt, hyp_iff.2 ⟨⟨rfl, hd2, by omega, by omega, hn, h2, hs1, hs2, h3⟩, hq⟩⟩⟩
    · have c1 := of_decide_eq_false c1
      rw [if_neg (by omega)] at h4
      rw [chk_iff]
      refine ⟨⟨h0, c⟩, br_intro (fun c2 => absurd (c2.symm.trans (str_eq h4)) (by simp)) fun _ => ⟨nxt, hyp_iff.2 ⟨⟨rfl, hd2, by omega, by omega, hn, h2, hs1, hs2, h3⟩, hq⟩⟩⟩
  · exact hl.elim
theorem okW4L : OkSp Try.prog H0 W4L := ⟨okV4.fn, okLCut1, okLCut2, trivial⟩
theorem oK_cut {pass : Int → Int → Bool} {on : Int → Bool} {grd : Bool} {nd : Nat → Int} {n f : Nat} {at_ : Int} (hon : ∀ k, on (nd k) = true) (hg : grd = true) (hp : ∀ a b, pass a b = !(a == at_)) (hf : ∀ j, j < n → (nd j == at_) = decide (j = f)) :
    ∀ k, k < n → oK pass on grd nd k = decide (k ≤ f)
  | 0, _ => by simp [oK]
  | 1, h => by
    simp only [oK]
    rw [hon, hg, hp, hf 0 (by omega), Bool.eq_iff_iff]
    simp
    omega
  | k + 2, h => by
    simp only [oK]
    rw [hon, hp, hp, hf (k + 1) (by omega), hf k (by omega), oK_cut hon hg hp hf (k + 1) (by omega), oK_cut hon hg hp hf k (by omega), Bool.eq_iff_iff]
    simp
    omega
theorem rep_take (m : Nat) (v : Int) : List.take m (List.drop 0 (s_rep m v)) = s_rep m v := by
  rw [List.drop_zero, List.take_of_length_le (Nat.le_of_eq (rep_len m v))]
theorem rep_int {m : Nat} {v i : Int} (h0 : 0 ≤ i) (h1 : i < m) : s_int (s_rep m v) i = v := by
  unfold s_int s_rep
  rw [rep_get (by omega)]
  rfl
theorem calm_on {P : RP} (hok : s_runOk P) {m : Nat} (hm : (m : Int) = P.n) (hs : P.sts = s_rep m 4) (k : Nat) : onP P (s_node P.n P.sl P.dir k) = true := by
  have hl := node_lt (n := P.n) (o := P.sl) (dir := P.dir) (by have := hok.1; omega) k
  unfold onP
  rw [hs, rep_int hl.1 (by omega)]
  rfl
theorem calm_grd {P : RP} (hok : s_runOk P) {m : Nat} (hm : (m : Int) = P.n) (hs : P.dvs = s_rep m 0) : grdP P = true := by
  have hl := node_lt (n := P.n) (o := P.sl) (dir := P.dir) (by have := hok.1; omega) 1
  have hp := hok.2.2.2.2.2.2.2.1
  unfold grdP
  rw [hs, rep_int hl.1 (by omega), decide_eq_false (by omega)]
  rfl
theorem node_is {P : RP} (hok : s_runOk P) {a : Int} (h0 : 0 ≤ a) (h1 : a < P.n) (j : Nat) (hj : j < P.n.toNat) : (s_node P.n P.sl P.dir j == a) = decide (j = (s_far P.n P.sl P.dir a).toNat) := by
  have h := far_inj hok (i := a.toNat) (by omega) (m := j) (by omega)
  rw [Int.toNat_of_nonneg h0] at h
  have hl := node_lt (n := P.n) (o := P.sl) (dir := P.dir) (by omega) j
  rw [Bool.eq_iff_iff, beq_iff_eq, decide_eq_true_eq]
  constructor
  · intro e; exact (h.1 (by rw [e])).symm
  · intro e; have := h.2 e.symm; omega
theorem cut_out {P : RP} (hok : s_runOk P) {m : Nat} (hm : (m : Int) = P.n) (hs : P.sts = s_rep m 4) (hd : P.dvs = s_rep m 0) (hk : P.kind = 1) (hr : P.ro = 0) (ht : P.to_ = 1000) (h0 : 0 ≤ P.at_) (h1 : P.at_ < P.n) {z : ByteArray} (hz : s_clean z = z) {j : Int} (j0 : 0 ≤ j) (j1 : j < P.n) :
    s_outI (s_runS P z (P.n - 1).toNat) j = if s_far P.n P.sl P.dir P.at_ < s_far P.n P.sl P.dir j then ⟨#[]⟩ else z := by
  have hl := far_lt (n := P.n) (o := P.sl) (dir := P.dir) (by omega) j
  have hl2 := far_lt (n := P.n) (o := P.sl) (dir := P.dir) (by omega) P.at_
  have e := get_out hok hz (i := j.toNat) (by omega)
  rw [Int.toNat_of_nonneg j0] at e
  show s_out2 _ = _
  unfold s_out2
  rw [e]
  have hp : ∀ a b, passP P a b = !(a == P.at_) := fun a b => by
    unfold passP s_hit
    rw [hk, if_pos rfl, hr, ht]
    simp
  have hh : oP P (s_far P.n P.sl P.dir j).toNat = decide ((s_far P.n P.sl P.dir j).toNat ≤ (s_far P.n P.sl P.dir P.at_).toNat) := oK_cut (calm_on hok hm hs) (calm_grd hok hm hd) hp (node_is hok h0 h1) _ (by omega)
  rw [hh]
  by_cases h : s_far P.n P.sl P.dir P.at_ < s_far P.n P.sl P.dir j
  · rw [if_pos h, decide_eq_false (by omega)]; rfl
  · rw [if_neg h, decide_eq_true (by omega)]; rfl
theorem mades {n pi e g fi : Int} {qs : List Int} (hm : s_made n pi e g fi qs) : 0 ≤ pi ∧ pi ≤ 1000 := by
  unfold s_made at hm
  omega
theorem cut_holds (n pi e g fi : Int) (nl : Bool) (ps : List (List AV)) (slot at_ : Int) (k r sl pk pv : Int) (nl2 : Bool) (ec : List (List AV)) (nl3 : Bool) (ns : List (List AV)) (up : Bool) :
    inlW Try.prog H0 W4L 6 (InO Try.prog H0 W4L 6 6) 4 [cf n pi e g fi nl ps, .int .i64 slot, .int .i64 at_, .agg [.int .i64 k, .int .i64 r, .int .i64 sl, .int .i64 pk, .int .i64 pv, .row nl2 [.int .i64, .int .i64] ec], .row nl3 [.int .i64] ns, .bool up] [] (fun r => r.1 = .bool true) := by
  have main : ∀ dir : Int, (dir = 1 ∨ dir = -1) → ∀ (n' pi' e' g' fi' : Int) (qs : List Int) (m : Nat) (z : ByteArray), s_made n' pi' e' g' fi' qs → (m : Int) = n' → s_clean z = z → z.size ≤ 1000 →
      s_confOk n' pi' e' g' fi' (List.map (fun r => (r.getD (0 : Nat) AV.gone).toI) (List.map (fun n => [AV.int IntKind.i64 n]) qs)) = true ∧
      s_runOk ⟨n', dir, 1, s_rem at_ n', 0, 1000, 0, s_rem slot n', pi', s_rep m 4, s_rep m 0⟩ ∧ (0 ≤ s_rem at_ n' ∧ s_rem at_ n' < n') ∧ (0 ≤ s_rem slot n' ∧ s_rem slot n' < n') ∧
      (s_runS ⟨n', dir, 1, s_rem at_ n', 0, 1000, 0, s_rem slot n', pi', s_rep m 4, s_rep m 0⟩ z (n' - 1).toNat).length = n'.toNat ∧
      ∀ j : Int, 0 ≤ j → j < n' → s_outI (s_runS ⟨n', dir, 1, s_rem at_ n', 0, 1000, 0, s_rem slot n', pi', s_rep m 4, s_rep m 0⟩ z (n' - 1).toNat) j = if s_far n' (s_rem slot n') dir (s_rem at_ n') < s_far n' (s_rem slot n') dir j then ⟨#[]⟩ else z := by
    intro dir hd n' pi' e' g' fi' qs m z hm hmn hz hsz
    have hc : s_confOk n' pi' e' g' fi' (List.map (fun r => (r.getD (0 : Nat) AV.gone).toI) (List.map (fun n => [AV.int IntKind.i64 n]) qs)) = true := cfMade_ok hm
    have hp := mades hm
    have hn := hm.1
    have hn2 := hm.2.1
    have ha := rem_lt at_ (show 0 < n' by omega)
    have hs := rem_lt slot (show 0 < n' by omega)
    have hok : s_runOk ⟨n', dir, 1, s_rem at_ n', 0, 1000, 0, s_rem slot n', pi', s_rep m 4, s_rep m 0⟩ := ⟨hn, hn2, hd, hs.1, hs.2, Int.le_refl 0, (by decide : (0 : Int) ≤ 1000000), hp.1, (by show pi' ≤ 1000000; omega), (by show ((s_rep m 4).length : Int) = n'; rw [rep_len]; exact hmn), (by show ((s_rep m 0).length : Int) = n'; rw [rep_len]; exact hmn)⟩
    exact ⟨hc, hok, ha, hs, run_len hok hz, fun j j0 j1 => cut_out hok hmn rfl rfl rfl rfl rfl ha.1 ha.2 hz j0 j1⟩
  refine to (nfCut ..) (br_intro (fun _ => ?_) fun _ => ?_)
  · intro n' pi' e' g' fi' nl' qs m z hz
    obtain ⟨hm, hmn, hz, hz0, hsz⟩ := hz
    have hn := hm.1
    have hn2 := hm.2.1
    obtain ⟨hc, hok, ha, hs, hl, ho⟩ := main (-1) (.inr rfl) n' pi' e' g' fi' qs m z hm hmn hz hsz
    simp only [chk_iff, hyp_iff, rep_take, rep_len]
    refine ⟨⟨by omega, by omega⟩, by omega, by omega, ⟨hc, trivial, hok, by omega⟩, fun rows hr => br_intro (fun c => absurd c (by rw [hr, hl]; simp; omega)) fun _ => br_intro (fun c => ?_) fun c => ?_⟩
    · have c := beq_iff_eq.1 c
      refine ⟨⟨by omega, by omega, by rw [hr, hl]; omega, fun j j0 j1 j2 => ?_⟩, trivial⟩
      rw [hr, hl] at j1
      rw [hr, ho j j0 (by omega), if_pos]
      have e1 : s_far n' (s_rem slot n') (-1) (s_rem at_ n') = 0 := by rw [c, far_dn hs.1 hs.2 hs.1 hs.2, if_pos (by omega)]; omega
      rw [e1, far_dn hs.1 hs.2 j0 (by omega)]
      split <;> omega
    · exact ⟨⟨by omega, by omega, hs.1, hs.2, ha.1, ha.2, .inr trivial⟩, ⟨trivial, .inr trivial, by omega, by omega, by rw [hr, hl]; omega, by omega, hs.1, hs.2, fun j j0 j1 => by rw [hr]; exact ho j j0 j1⟩, trivial⟩
  · intro n' pi' e' g' fi' nl' qs m z hz
    obtain ⟨hm, hmn, hz, hz0, hsz⟩ := hz
    have hn := hm.1
    have hn2 := hm.2.1
    obtain ⟨hc, hok, ha, hs, hl, ho⟩ := main 1 (.inl rfl) n' pi' e' g' fi' qs m z hm hmn hz hsz
    simp only [chk_iff, hyp_iff, rep_take, rep_len]
    refine ⟨⟨by omega, by omega⟩, by omega, by omega, ⟨hc, trivial, hok, by omega⟩, fun rows hr => br_intro (fun c => absurd c (by rw [hr, hl]; simp; omega)) fun _ => br_intro (fun c => ?_) fun c => ?_⟩
    · have c := beq_iff_eq.1 c
      refine ⟨⟨by omega, by omega, by rw [hr, hl]; omega, fun j j0 j1 j2 => ?_⟩, trivial⟩
      rw [hr, hl] at j1
      rw [hr, ho j j0 (by omega), if_pos]
      have e1 : s_far n' (s_rem slot n') 1 (s_rem at_ n') = 0 := by rw [c, far_up hs.1 hs.2 hs.1 hs.2, if_pos (by omega)]; omega
      rw [e1, far_up hs.1 hs.2 j0 (by omega)]
      split <;> omega
    · exact ⟨⟨by omega, by omega, hs.1, hs.2, ha.1, ha.2, .inl trivial⟩, ⟨trivial, .inl trivial, by omega, by omega, by rw [hr, hl]; omega, by omega, hs.1, hs.2, fun j j0 j1 => by rw [hr]; exact ho j j0 j1⟩, trivial⟩
end Go.Proofs.YtiemjcchlfbglaaE
