/- What path mode says of functions, printed by a program of this session; the kernel holds each. -/
import Derived.Test.YthihinlamlamhaaG6d
import Derived.KernelRfl
namespace Go.Proofs.YthihinlamlamhaaE
open Go
set_option maxRecDepth 100000
set_option linter.unusedVariables false
theorem nf7a (i n pi e g fi k a f t z : Int) (nl b0 b1 b2 b3 b4 b5 : Bool) (ps r0 r1 r2 r3 r4 r5 : List (List AV)) (Q : Ex → List AV → List AObj → Prop) : lpBody Try.prog H0 S7 6 6 7 10 [.ptr 0 0, .ptr 1 0, .int .i64 i] [.box [.int .i64 n, .int .i64 pi, .int .i64 e, .int .i64 g, .int .i64 fi, .row nl [.int .i64] ps], .box [.row b0 [.int .i64] r0, .row b1 [.int .i64] r1, .row b2 [.int .i64] r2, .row b3 [.int .i64, .int .i64, .int .i64, .int .i64] r3, .int .i64 k, .int .i64 a, .int .i64 f, .int .i64 t, .row b4 [.int .i64, .int .i64, .str] r4, .row b5 [.int .i64] r5, .int .i64 z]] Q = (
br (decide (i < (↑r0.length : Int)))
 (chk ((0 : Int) ≤ i ∧ i < (↑r0.length : Int)) (br (decide (((r0.getD i.toNat []).getD (0 : Nat) AV.gone).toI < (0 : Int)))
  (Q (Ex.ret) ([AV.bool false]) ([]))
  (chk ((0 : Int) ≤ i ∧ i < (↑r0.length : Int)) (br (decide (((r0.getD i.toNat []).getD (0 : Nat) AV.gone).toI > (23 : Int)))
   (Q (Ex.ret) ([AV.bool false]) ([]))
   (Q (Ex.nrm) ([AV.ptr (0 : Nat) (0 : Nat), AV.ptr (1 : Nat) (0 : Nat), AV.int IntKind.i64 (IntKind.i64.wrap (i + (1 : Int)))]) ([AObj.box
    [AV.int IntKind.i64 n, AV.int IntKind.i64 pi, AV.int IntKind.i64 e, AV.int IntKind.i64 g, AV.int IntKind.i64 fi,
      AV.row nl [K.int IntKind.i64] ps],
  AObj.box
    [AV.row b0 [K.int IntKind.i64] r0, AV.row b1 [K.int IntKind.i64] r1, AV.row b2 [K.int IntKind.i64] r2,
      AV.row b3 [K.int IntKind.i64, K.int IntKind.i64, K.int IntKind.i64, K.int IntKind.i64] r3, AV.int IntKind.i64 k,
      AV.int IntKind.i64 a, AV.int IntKind.i64 f, AV.int IntKind.i64 t,
      AV.row b4 [K.int IntKind.i64, K.int IntKind.i64, K.str] r4, AV.row b5 [K.int IntKind.i64] r5,
      AV.int IntKind.i64 z]]))))))
 (Q (Ex.exit (0 : Nat)) ([AV.ptr (0 : Nat) (0 : Nat), AV.ptr (1 : Nat) (0 : Nat)]) ([AObj.box
    [AV.int IntKind.i64 n, AV.int IntKind.i64 pi, AV.int IntKind.i64 e, AV.int IntKind.i64 g, AV.int IntKind.i64 fi,
      AV.row nl [K.int IntKind.i64] ps],
  AObj.box
    [AV.row b0 [K.int IntKind.i64] r0, AV.row b1 [K.int IntKind.i64] r1, AV.row b2 [K.int IntKind.i64] r2,
      AV.row b3 [K.int IntKind.i64, K.int IntKind.i64, K.int IntKind.i64, K.int IntKind.i64] r3, AV.int IntKind.i64 k,
      AV.int IntKind.i64 a, AV.int IntKind.i64 f, AV.int IntKind.i64 t,
      AV.row b4 [K.int IntKind.i64, K.int IntKind.i64, K.str] r4, AV.row b5 [K.int IntKind.i64] r5,
      AV.int IntKind.i64 z]]))) := by kernel_rfl
theorem nf7b (i n pi e g fi k a f t z : Int) (nl b0 b1 b2 b3 b4 b5 : Bool) (ps r0 r1 r2 r3 r4 r5 : List (List AV)) (Q : Ex → List AV → List AObj → Prop) : lpBody Try.prog H0 S7 6 6 7 15 [.ptr 0 0, .ptr 1 0, .int .i64 i] [.box [.int .i64 n, .int .i64 pi, .int .i64 e, .int .i64 g, .int .i64 fi, .row nl [.int .i64] ps], .box [.row b0 [.int .i64] r0, .row b1 [.int .i64] r1, .row b2 [.int .i64] r2, .row b3 [.int .i64, .int .i64, .int .i64, .int .i64] r3, .int .i64 k, .int .i64 a, .int .i64 f, .int .i64 t, .row b4 [.int .i64, .int .i64, .str] r4, .row b5 [.int .i64] r5, .int .i64 z]] Q = (
br (decide (i < (↑r3.length : Int)))
 (chk ((0 : Int) ≤ i ∧ i < (↑r3.length : Int)) (br (decide (((r3.getD i.toNat []).getD (0 : Nat) AV.gone).toI < (0 : Int)))
  (Q (Ex.ret) ([AV.bool false]) ([]))
  (br (decide (((r3.getD i.toNat []).getD (0 : Nat) AV.gone).toI > (59 : Int)))
   (Q (Ex.ret) ([AV.bool false]) ([]))
   (br (decide (((r3.getD i.toNat []).getD (1 : Nat) AV.gone).toI < (0 : Int)))
    (Q (Ex.ret) ([AV.bool false]) ([]))
    (br (decide (((r3.getD i.toNat []).getD (1 : Nat) AV.gone).toI ≥ n))
     (Q (Ex.ret) ([AV.bool false]) ([]))
     (br (decide (((r3.getD i.toNat []).getD (2 : Nat) AV.gone).toI < (0 : Int)))
      (Q (Ex.ret) ([AV.bool false]) ([]))
      (br (decide (((r3.getD i.toNat []).getD (2 : Nat) AV.gone).toI > (↑ps.length : Int)))
       (Q (Ex.ret) ([AV.bool false]) ([]))
       (br (decide (((r3.getD i.toNat []).getD (3 : Nat) AV.gone).toI < (0 : Int)))
        (Q (Ex.ret) ([AV.bool false]) ([]))
        (br (decide (((r3.getD i.toNat []).getD (3 : Nat) AV.gone).toI > (255 : Int)))
         (Q (Ex.ret) ([AV.bool false]) ([]))
         (Q (Ex.nrm) ([AV.ptr (0 : Nat) (0 : Nat), AV.ptr (1 : Nat) (0 : Nat), AV.int IntKind.i64 (IntKind.i64.wrap (i + (1 : Int)))]) ([AObj.box
    [AV.int IntKind.i64 n, AV.int IntKind.i64 pi, AV.int IntKind.i64 e, AV.int IntKind.i64 g, AV.int IntKind.i64 fi,
      AV.row nl [K.int IntKind.i64] ps],
  AObj.box
    [AV.row b0 [K.int IntKind.i64] r0, AV.row b1 [K.int IntKind.i64] r1, AV.row b2 [K.int IntKind.i64] r2,
      AV.row b3 [K.int IntKind.i64, K.int IntKind.i64, K.int IntKind.i64, K.int IntKind.i64] r3, AV.int IntKind.i64 k,
      AV.int IntKind.i64 a, AV.int IntKind.i64 f, AV.int IntKind.i64 t,
      AV.row b4 [K.int IntKind.i64, K.int IntKind.i64, K.str] r4, AV.row b5 [K.int IntKind.i64] r5,
      AV.int IntKind.i64 z]])))))))))))
 (Q (Ex.exit (2 : Nat)) ([AV.ptr (0 : Nat) (0 : Nat)]) ([AObj.box
    [AV.row b0 [K.int IntKind.i64] r0, AV.row b1 [K.int IntKind.i64] r1, AV.row b2 [K.int IntKind.i64] r2,
      AV.row b3 [K.int IntKind.i64, K.int IntKind.i64, K.int IntKind.i64, K.int IntKind.i64] r3, AV.int IntKind.i64 k,
      AV.int IntKind.i64 a, AV.int IntKind.i64 f, AV.int IntKind.i64 t,
      AV.row b4 [K.int IntKind.i64, K.int IntKind.i64, K.str] r4, AV.row b5 [K.int IntKind.i64] r5,
      AV.int IntKind.i64 z]]))) := by kernel_rfl
theorem nf7c (i k a f t z : Int) (b0 b1 b2 b3 b4 b5 : Bool) (r0 r1 r2 r3 r4 r5 : List (List AV)) (Q : Ex → List AV → List AObj → Prop) : lpBody Try.prog H0 S7 6 6 7 21 [.ptr 0 0, .int .i64 i] [.box [.row b0 [.int .i64] r0, .row b1 [.int .i64] r1, .row b2 [.int .i64] r2, .row b3 [.int .i64, .int .i64, .int .i64, .int .i64] r3, .int .i64 k, .int .i64 a, .int .i64 f, .int .i64 t, .row b4 [.int .i64, .int .i64, .str] r4, .row b5 [.int .i64] r5, .int .i64 z]] Q = (
br (decide (i < (↑r4.length : Int)))
 (chk ((0 : Int) ≤ i ∧ i < (↑r4.length : Int)) (br (decide (((r4.getD i.toNat []).getD (0 : Nat) AV.gone).toI < (0 : Int)))
  (Q (Ex.ret) ([AV.bool false]) ([]))
  (br (decide (((r4.getD i.toNat []).getD (0 : Nat) AV.gone).toI > (6 : Int)))
   (Q (Ex.ret) ([AV.bool false]) ([]))
   (br (decide (((r4.getD i.toNat []).getD (1 : Nat) AV.gone).toI < (0 : Int)))
    (Q (Ex.ret) ([AV.bool false]) ([]))
    (br (decide (((r4.getD i.toNat []).getD (1 : Nat) AV.gone).toI > (255 : Int)))
     (Q (Ex.ret) ([AV.bool false]) ([]))
     (br (decide ((↑((r4.getD i.toNat []).getD (2 : Nat) AV.gone).toS.size : Int) > (3 : Int)))
      (Q (Ex.ret) ([AV.bool false]) ([]))
      (Q (Ex.nrm) ([AV.ptr (0 : Nat) (0 : Nat), AV.int IntKind.i64 (IntKind.i64.wrap (i + (1 : Int)))]) ([AObj.box
    [AV.row b0 [K.int IntKind.i64] r0, AV.row b1 [K.int IntKind.i64] r1, AV.row b2 [K.int IntKind.i64] r2,
      AV.row b3 [K.int IntKind.i64, K.int IntKind.i64, K.int IntKind.i64, K.int IntKind.i64] r3, AV.int IntKind.i64 k,
      AV.int IntKind.i64 a, AV.int IntKind.i64 f, AV.int IntKind.i64 t,
      AV.row b4 [K.int IntKind.i64, K.int IntKind.i64, K.str] r4, AV.row b5 [K.int IntKind.i64] r5,
      AV.int IntKind.i64 z]]))))))))
 (Q (Ex.exit (4 : Nat)) ([AV.ptr (0 : Nat) (0 : Nat)]) ([AObj.box
    [AV.row b0 [K.int IntKind.i64] r0, AV.row b1 [K.int IntKind.i64] r1, AV.row b2 [K.int IntKind.i64] r2,
      AV.row b3 [K.int IntKind.i64, K.int IntKind.i64, K.int IntKind.i64, K.int IntKind.i64] r3, AV.int IntKind.i64 k,
      AV.int IntKind.i64 a, AV.int IntKind.i64 f, AV.int IntKind.i64 t,
      AV.row b4 [K.int IntKind.i64, K.int IntKind.i64, K.str] r4, AV.row b5 [K.int IntKind.i64] r5,
      AV.int IntKind.i64 z]]))) := by kernel_rfl
theorem nf7 (n pi e g fi : Int) (nl : Bool) (ps : List (List AV)) (nl2 : Bool) (rs : List (List AV)) (Q : AV × List AObj → Prop) : inlW Try.prog H0 S7B 6 (InO Try.prog H0 S7B 6 6) 7 [cf n pi e g fi nl ps, .row nl2 [.int .u8] rs] [] Q = (
br (decide ((↑rs.length : Int) > (500 : Int)))
 (Q ((AV.bool true, [])))
 ((∀ (n'101 : Int),
 (∀ (pi'102 : Int),
 (∀ (e'103 : Int),
 (∀ (g'104 : Int),
 (∀ (fi'105 : Int),
 (∀ (nl'106 : Bool),
 (∀ (ps107 : List Int),
 ((s_made n'101 pi'102 e'103 g'104 fi'105 ps107) →
 ((Hyp (s_confOk n'101 pi'102 e'103 g'104 fi'105
      (List.map (fun r => (r.getD (0 : Nat) AV.gone).toI) (List.map (fun n => [AV.int IntKind.i64 n]) ps107)) =
    true ∧
  s_bytes rs ∧ (nl2 = true → rs = []) ∧ rs.length ≤ (100000 : Nat))) ∧
 ((∀ (nl'110 : Bool),
 br ((↑(s_rowi (s_on rs n'101.toNat)).length : Int) != n'101)
  (Q ((AV.bool false, [])))
  (br (decide ((20 : Int) + (s_at rs (s_rN n'101 rs + (0 : Nat))).tmod (40 : Int) < (20 : Int)))
   (Q ((AV.bool false, [])))
   (br (decide ((20 : Int) + (s_at rs (s_rN n'101 rs + (0 : Nat))).tmod (40 : Int) > (59 : Int)))
    (Q ((AV.bool false, [])))
    (br (decide
  ((↑(s_calls n'101 (↑(List.map (fun n => [AV.int IntKind.i64 n]) ps107).length : Int)
            (s_drop (s_rN n'101 rs + (1 : Nat) + (1 : Nat)) rs) (s_cN n'101 rs)).length :
      Int) >
    (15 : Int)))
     (Q ((AV.bool false, [])))
     (br (decide
  ((↑(s_acts (s_drop (n'101.toNat + (8 : Nat) + (8 : Nat) + (5 : Nat)) rs)
            (s_fA (s_drop (n'101.toNat + (8 : Nat) + (8 : Nat)) rs))).length :
      Int) >
    (7 : Int)))
      (Q ((AV.bool false, [])))
      (br (decide ((s_at rs (n'101.toNat + (8 : Nat) + (8 : Nat) + (2 : Nat))).tmod (60 : Int) > (59 : Int)))
       (Q ((AV.bool false, [])))
       (br (decide
  ((s_at rs (n'101.toNat + (8 : Nat) + (8 : Nat) + (2 : Nat))).tmod (60 : Int) +
      (s_at rs (n'101.toNat + (8 : Nat) + (8 : Nat) + (3 : Nat))).tmod (60 : Int) <
    (s_at rs (n'101.toNat + (8 : Nat) + (8 : Nat) + (2 : Nat))).tmod (60 : Int)))
        (Q ((AV.bool false, [])))
        (br (decide
  ((s_at rs (n'101.toNat + (8 : Nat) + (8 : Nat) + (2 : Nat))).tmod (60 : Int) +
      (s_at rs (n'101.toNat + (8 : Nat) + (8 : Nat) + (3 : Nat))).tmod (60 : Int) >
    IntKind.i64.wrap ((s_at rs (n'101.toNat + (8 : Nat) + (8 : Nat) + (2 : Nat))).tmod (60 : Int) + (59 : Int))))
         (Q ((AV.bool false, [])))
         (((Hyp ((0 : Int) ≤ (0 : Int) ∧
  (0 : Int) ≤ (↑(s_rowi (s_on rs n'101.toNat)).length : Int) ∧
    (s_rowi (s_on rs n'101.toNat)).length ≤ (1000 : Nat) ∧ s_p1 (s_rowi (s_on rs n'101.toNat)))) ∧
         (((Hyp ((0 : Int) ≤ (0 : Int) ∧
  (0 : Int) ≤
      (↑(s_calls n'101 (↑(List.map (fun n => [AV.int IntKind.i64 n]) ps107).length : Int)
              (s_drop (s_rN n'101 rs + (1 : Nat) + (1 : Nat)) rs) (s_cN n'101 rs)).length :
        Int) ∧
    (s_calls n'101 (↑(List.map (fun n => [AV.int IntKind.i64 n]) ps107).length : Int)
            (s_drop (s_rN n'101 rs + (1 : Nat) + (1 : Nat)) rs) (s_cN n'101 rs)).length ≤
        (1000 : Nat) ∧
      s_p2 n'101 (↑(List.map (fun n => [AV.int IntKind.i64 n]) ps107).length : Int)
        (s_calls n'101 (↑(List.map (fun n => [AV.int IntKind.i64 n]) ps107).length : Int)
          (s_drop (s_rN n'101 rs + (1 : Nat) + (1 : Nat)) rs) (s_cN n'101 rs)))) ∧
         (((Hyp ((0 : Int) ≤ (0 : Int) ∧
  (0 : Int) ≤
      (↑(s_acts (s_drop (n'101.toNat + (8 : Nat) + (8 : Nat) + (5 : Nat)) rs)
              (s_fA (s_drop (n'101.toNat + (8 : Nat) + (8 : Nat)) rs))).length :
        Int) ∧
    (s_acts (s_drop (n'101.toNat + (8 : Nat) + (8 : Nat) + (5 : Nat)) rs)
            (s_fA (s_drop (n'101.toNat + (8 : Nat) + (8 : Nat)) rs))).length ≤
        (1000 : Nat) ∧
      s_p3
        (s_acts (s_drop (n'101.toNat + (8 : Nat) + (8 : Nat) + (5 : Nat)) rs)
          (s_fA (s_drop (n'101.toNat + (8 : Nat) + (8 : Nat)) rs))))) ∧
         (br (decide ((s_at rs (n'101.toNat + (8 : Nat) + (8 : Nat) + (0 : Nat))).tmod (3 : Int) ≥ (0 : Int)))
          (Q ((AV.bool (decide ((s_at rs (n'101.toNat + (8 : Nat) + (8 : Nat) + (0 : Nat))).tmod (3 : Int) ≤ (2 : Int))), [])))
          (Q ((AV.bool false, [])))))))))))))))))))))))))))))) := by kernel_rfl
end Go.Proofs.YthihinlamlamhaaE
