/- ScriptFronts: script.Of, its bytes named. -/
import Derived.Test.YthihinlamlamhaaBbD
import Derived.KernelRfl
namespace Go.Proofs.YthihinlamlamhaaE
open Go
set_option linter.unusedVariables false

def sOfF : SW := fun args h Q => match args, h with
  | [.agg [.int .i64 n, .int .i64 pi, .int .i64 e, .int .i64 g, .int .i64 fi, .row nl [.int .i64] ps], .row nl2 [.int .u8] rs], [] =>
    Hyp (s_confOk n pi e g fi (ints ps) = true ∧ s_bytes rs ∧ (nl2 = true → rs = []) ∧ rs.length ≤ 100000) ∧ ∀ rs', rs' = rs → ∀ nl' : Bool, Q (.agg [.row false [.int .i64] (s_rowi (s_on rs' n.toNat)), .row false [.int .i64] (s_rowi (s_sg (s_drop n.toNat rs') 1 8)), .row false [.int .i64] (s_rowi (s_sg (s_drop (n.toNat + 8) rs') 1 8)),
      .row nl' [.int .i64, .int .i64, .int .i64, .int .i64] (s_calls n ps.length (s_drop (s_rN n rs' + 1 + 1) rs') (s_cN n rs')),
      .int .i64 ((s_at rs' (n.toNat + 8 + 8 + 0)).tmod 3), .int .i64 (s_fat n ((s_at rs' (n.toNat + 8 + 8 + 0)).tmod 3) (s_at rs' (n.toNat + 8 + 8 + 1))), .int .i64 ((s_at rs' (n.toNat + 8 + 8 + 2)).tmod 60), .int .i64 ((s_at rs' (n.toNat + 8 + 8 + 2)).tmod 60 + (s_at rs' (n.toNat + 8 + 8 + 3)).tmod 60),
      .row false [.int .i64, .int .i64, .str] (s_acts (s_drop (n.toNat + 8 + 8 + 5) rs') (s_fA (s_drop (n.toNat + 8 + 8) rs'))), .row false [.int .i64] (s_rowi (s_sg (s_drop (n.toNat + 8 + 8 + s_fN (s_drop (n.toNat + 8 + 8) rs')) rs') 8 4)),
      .int .i64 (20 + (s_at rs' (s_rN n rs' + 0)).tmod 40)], [])
  | _, _ => False
def TB : Sp := ⟨(11, sOfF) :: T8.fn, []⟩
end Go.Proofs.YthihinlamlamhaaE
/- What path mode says of functions, printed by a program of this session; the kernel holds each. -/
namespace Go.Proofs.YthihinlamlamhaaE
open Go
set_option maxRecDepth 100000
set_option linter.unusedVariables false
theorem nf5 (n pi e g fi : Int) (nl : Bool) (ps : List (List AV)) (nl2 : Bool) (rs : List (List AV)) (num : Int) (nl3 : Bool) (rs3 : List (List AV)) (Q : AV × List AObj → Prop) : inlW Try.prog H0 TB 6 (InO Try.prog H0 TB 6 6) 5 [cf n pi e g fi nl ps, .row nl2 [.int .u8] rs, .int .i64 num, .row nl3 [.int .u8] rs3] [] Q = (
br (decide ((↑rs.length : Int) > (300 : Int)))
 (Q ((AV.bool true, [])))
 (br (decide ((↑rs3.length : Int) > (100 : Int)))
  (Q ((AV.bool true, [])))
  ((∀ (n'102 : Int),
  (∀ (pi'103 : Int),
  (∀ (e'104 : Int),
  (∀ (g'105 : Int),
  (∀ (fi'106 : Int),
  (∀ (nl'107 : Bool),
  (∀ (ps108 : List Int),
  ((s_made n'102 pi'103 e'104 g'105 fi'106 ps108) →
  ((Hyp (s_confOk n'102 pi'103 e'104 g'105 fi'106
      (List.map (fun r => (r.getD (0 : Nat) AV.gone).toI) (List.map (fun n => [AV.int IntKind.i64 n]) ps108)) =
    true ∧
  s_bytes rs ∧ (nl2 = true → rs = []) ∧ rs.length ≤ (100000 : Nat))) ∧
  ((∀ (rs'111 : List (List AV)),
  ((rs'111 = rs) →
  (∀ (nl'113 : Bool),
  chk (((0 : Nat) + rs.length) * (1 : Nat) ≤ (140737488355328 : Nat)) (chk ((0 : Nat) + rs.length ≤ (9223372036854775807 : Nat)) (chk ((0 : Int) ≤ s_rem num (50 : Int)) (chk (s_rem num (50 : Int) ≤ (140737488355328 : Int)) (chk (s_rem num (50 : Int) * (1 : Int) ≤ (140737488355328 : Int)) (chk ((0 : Nat) + rs.length = ([] ++ rs).length) (chk ((([] ++ rs).length + (List.replicate (s_rem num (50 : Int)).toNat [AV.int IntKind.u8 (0 : Int)]).length) * (1 : Nat) ≤
  (140737488355328 : Nat)) (chk (([] ++ rs).length + (List.replicate (s_rem num (50 : Int)).toNat [AV.int IntKind.u8 (0 : Int)]).length ≤
  (9223372036854775807 : Nat)) (chk ((0 : Nat) + (([] ++ rs).length + (List.replicate (s_rem num (50 : Int)).toNat [AV.int IntKind.u8 (0 : Int)]).length) ≤
  ([] ++ rs ++ List.replicate (s_rem num (50 : Int)).toNat [AV.int IntKind.u8 (0 : Int)]).length) (((Hyp (s_confOk n'102 pi'103 e'104 g'105 fi'106
      (List.map (fun r => (r.getD (0 : Nat) AV.gone).toI) (List.map (fun n => [AV.int IntKind.i64 n]) ps108)) =
    true ∧
  s_bytes
      (List.take
        (([] ++ rs).length + (List.replicate (s_rem num (50 : Int)).toNat [AV.int IntKind.u8 (0 : Int)]).length)
        (List.drop (0 : Nat) ([] ++ rs ++ List.replicate (s_rem num (50 : Int)).toNat [AV.int IntKind.u8 (0 : Int)]))) ∧
    (false = true →
        List.take
            (([] ++ rs).length +
              (List.replicate (s_rem num (50 : Int)).toNat [cst (Value.int IntKind.u8 (0 : Int))]).length)
            (List.drop (0 : Nat)
              ([] ++ rs ++ List.replicate (s_rem num (50 : Int)).toNat [cst (Value.int IntKind.u8 (0 : Int))])) =
          []) ∧
      (List.take
            (([] ++ rs).length + (List.replicate (s_rem num (50 : Int)).toNat [AV.int IntKind.u8 (0 : Int)]).length)
            (List.drop (0 : Nat)
              ([] ++ rs ++ List.replicate (s_rem num (50 : Int)).toNat [AV.int IntKind.u8 (0 : Int)]))).length ≤
        (100000 : Nat))) ∧
  ((∀ (rs'124 : List (List AV)),
  ((rs'124 =
  List.take (([] ++ rs).length + (List.replicate (s_rem num (50 : Int)).toNat [AV.int IntKind.u8 (0 : Int)]).length)
    (List.drop (0 : Nat) ([] ++ rs ++ List.replicate (s_rem num (50 : Int)).toNat [AV.int IntKind.u8 (0 : Int)]))) →
  (∀ (nl'126 : Bool),
  chk (((0 : Nat) + rs.length) * (1 : Nat) ≤ (140737488355328 : Nat)) (chk ((0 : Nat) + rs.length ≤ (9223372036854775807 : Nat)) (chk ((0 : Nat) + rs.length = ([] ++ rs).length) (chk ((([] ++ rs).length + (300 : Nat)) * (1 : Nat) ≤ (140737488355328 : Nat)) (chk (([] ++ rs).length + (300 : Nat) ≤ (9223372036854775807 : Nat)) (((Hyp ((s_rowi (s_on rs'124 n'102.toNat) = s_rowi (s_on rs'111 n'102.toNat) ∧
    s_rowi (s_sg (s_drop n'102.toNat rs'124) (1 : Int) (8 : Nat)) =
        s_rowi (s_sg (s_drop n'102.toNat rs'111) (1 : Int) (8 : Nat)) ∧
      s_rowi (s_sg (s_drop (n'102.toNat + (8 : Nat)) rs'124) (1 : Int) (8 : Nat)) =
          s_rowi (s_sg (s_drop (n'102.toNat + (8 : Nat)) rs'111) (1 : Int) (8 : Nat)) ∧
        s_calls n'102 (↑(List.map (fun n => [AV.int IntKind.i64 n]) ps108).length : Int)
              (s_drop (s_rN n'102 rs'124 + (1 : Nat) + (1 : Nat)) rs'124) (s_cN n'102 rs'124) =
            s_calls n'102 (↑(List.map (fun n => [AV.int IntKind.i64 n]) ps108).length : Int)
              (s_drop (s_rN n'102 rs'111 + (1 : Nat) + (1 : Nat)) rs'111) (s_cN n'102 rs'111) ∧
          (s_at rs'124 (n'102.toNat + (8 : Nat) + (8 : Nat) + (0 : Nat))).tmod (3 : Int) =
              (s_at rs'111 (n'102.toNat + (8 : Nat) + (8 : Nat) + (0 : Nat))).tmod (3 : Int) ∧
            s_fat n'102 ((s_at rs'124 (n'102.toNat + (8 : Nat) + (8 : Nat) + (0 : Nat))).tmod (3 : Int))
                  (s_at rs'124 (n'102.toNat + (8 : Nat) + (8 : Nat) + (1 : Nat))) =
                s_fat n'102 ((s_at rs'111 (n'102.toNat + (8 : Nat) + (8 : Nat) + (0 : Nat))).tmod (3 : Int))
                  (s_at rs'111 (n'102.toNat + (8 : Nat) + (8 : Nat) + (1 : Nat))) ∧
              (s_at rs'124 (n'102.toNat + (8 : Nat) + (8 : Nat) + (2 : Nat))).tmod (60 : Int) =
                  (s_at rs'111 (n'102.toNat + (8 : Nat) + (8 : Nat) + (2 : Nat))).tmod (60 : Int) ∧
                (s_at rs'124 (n'102.toNat + (8 : Nat) + (8 : Nat) + (2 : Nat))).tmod (60 : Int) +
                      (s_at rs'124 (n'102.toNat + (8 : Nat) + (8 : Nat) + (3 : Nat))).tmod (60 : Int) =
                    (s_at rs'111 (n'102.toNat + (8 : Nat) + (8 : Nat) + (2 : Nat))).tmod (60 : Int) +
                      (s_at rs'111 (n'102.toNat + (8 : Nat) + (8 : Nat) + (3 : Nat))).tmod (60 : Int) ∧
                  s_acts (s_drop (n'102.toNat + (8 : Nat) + (8 : Nat) + (5 : Nat)) rs'124)
                        (s_fA (s_drop (n'102.toNat + (8 : Nat) + (8 : Nat)) rs'124)) =
                      s_acts (s_drop (n'102.toNat + (8 : Nat) + (8 : Nat) + (5 : Nat)) rs'111)
                        (s_fA (s_drop (n'102.toNat + (8 : Nat) + (8 : Nat)) rs'111)) ∧
                    s_rowi
                          (s_sg
                            (s_drop
                              (n'102.toNat + (8 : Nat) + (8 : Nat) +
                                s_fN (s_drop (n'102.toNat + (8 : Nat) + (8 : Nat)) rs'124))
                              rs'124)
                            (8 : Int) (4 : Nat)) =
                        s_rowi
                          (s_sg
                            (s_drop
                              (n'102.toNat + (8 : Nat) + (8 : Nat) +
                                s_fN (s_drop (n'102.toNat + (8 : Nat) + (8 : Nat)) rs'111))
                              rs'111)
                            (8 : Int) (4 : Nat)) ∧
                      (20 : Int) + (s_at rs'124 (s_rN n'102 rs'124 + (0 : Nat))).tmod (40 : Int) =
                        (20 : Int) + (s_at rs'111 (s_rN n'102 rs'111 + (0 : Nat))).tmod (40 : Int)) ∧
  (s_rowi (s_on rs'111 n'102.toNat)).length ≤ (1000000 : Nat) ∧
    (s_rowi (s_sg (s_drop n'102.toNat rs'111) (1 : Int) (8 : Nat))).length ≤ (1000000 : Nat) ∧
      (s_rowi (s_sg (s_drop (n'102.toNat + (8 : Nat)) rs'111) (1 : Int) (8 : Nat))).length ≤ (1000000 : Nat) ∧
        (s_calls n'102 (↑(List.map (fun n => [AV.int IntKind.i64 n]) ps108).length : Int)
                (s_drop (s_rN n'102 rs'111 + (1 : Nat) + (1 : Nat)) rs'111) (s_cN n'102 rs'111)).length ≤
            (1000000 : Nat) ∧
          (s_acts (s_drop (n'102.toNat + (8 : Nat) + (8 : Nat) + (5 : Nat)) rs'111)
                  (s_fA (s_drop (n'102.toNat + (8 : Nat) + (8 : Nat)) rs'111))).length ≤
              (1000000 : Nat) ∧
            (s_rowi
                  (s_sg
                    (s_drop
                      (n'102.toNat + (8 : Nat) + (8 : Nat) + s_fN (s_drop (n'102.toNat + (8 : Nat) + (8 : Nat)) rs'111))
                      rs'111)
                    (8 : Int) (4 : Nat))).length ≤
              (1000000 : Nat))) ∧
  (chk (([] ++ rs).length + (300 : Nat) =
  ([] ++ rs ++
      (List.replicate 300 [AV.int IntKind.u8 (0 : Int)])).length) (chk ((([] ++ rs ++
          (List.replicate 300 [AV.int IntKind.u8 (0 : Int)])).length +
      rs3.length) *
    (1 : Nat) ≤
  (140737488355328 : Nat)) (chk (([] ++ rs ++
        (List.replicate 300 [AV.int IntKind.u8 (0 : Int)])).length +
    rs3.length ≤
  (9223372036854775807 : Nat)) (chk ((0 : Nat) +
    (([] ++ rs ++
          (List.replicate 300 [AV.int IntKind.u8 (0 : Int)])).length +
      rs3.length) ≤
  ([] ++ rs ++
        (List.replicate 300 [AV.int IntKind.u8 (0 : Int)]) ++
      rs3).length) (chk ((0 : Nat) +
    (([] ++ rs ++
          (List.replicate 300 [AV.int IntKind.u8 (0 : Int)])).length +
      rs3.length) ≤
  ([] ++ rs ++
        (List.replicate 300 [AV.int IntKind.u8 (0 : Int)]) ++
      rs3).length) (((Hyp (s_confOk n'102 pi'103 e'104 g'105 fi'106
      (List.map (fun r => (r.getD (0 : Nat) AV.gone).toI) (List.map (fun n => [AV.int IntKind.i64 n]) ps108)) =
    true ∧
  s_bytes
      (List.take
        (([] ++ rs ++
              (List.replicate 300 [AV.int IntKind.u8 (0 : Int)])).length +
          rs3.length)
        (List.drop (0 : Nat)
          ([] ++ rs ++
              (List.replicate 300 [AV.int IntKind.u8 (0 : Int)]) ++
            rs3))) ∧
    (false = true →
        List.take
            (([] ++ rs ++ List.replicate (Int.toNat (300 : Int)) [cst (Value.int IntKind.u8 (0 : Int))]).length +
              rs3.length)
            (List.drop (0 : Nat)
              ([] ++ rs ++ List.replicate (Int.toNat (300 : Int)) [cst (Value.int IntKind.u8 (0 : Int))] ++ rs3)) =
          []) ∧
      (List.take
            (([] ++ rs ++
                  (List.replicate 300 [AV.int IntKind.u8 (0 : Int)])).length +
              rs3.length)
            (List.drop (0 : Nat)
              ([] ++ rs ++
                  (List.replicate 300 [AV.int IntKind.u8 (0 : Int)]) ++
                rs3))).length ≤
        (100000 : Nat))) ∧
  ((∀ (rs'139 : List (List AV)),
  ((rs'139 =
  List.take
    (([] ++ rs ++
          (List.replicate 300 [AV.int IntKind.u8 (0 : Int)])).length +
      rs3.length)
    (List.drop (0 : Nat)
      ([] ++ rs ++
          (List.replicate 300 [AV.int IntKind.u8 (0 : Int)]) ++
        rs3))) →
  (∀ (nl'141 : Bool),
  ((Hyp ((s_rowi (s_on rs'139 n'102.toNat) = s_rowi (s_on rs'111 n'102.toNat) ∧
    s_rowi (s_sg (s_drop n'102.toNat rs'139) (1 : Int) (8 : Nat)) =
        s_rowi (s_sg (s_drop n'102.toNat rs'111) (1 : Int) (8 : Nat)) ∧
      s_rowi (s_sg (s_drop (n'102.toNat + (8 : Nat)) rs'139) (1 : Int) (8 : Nat)) =
          s_rowi (s_sg (s_drop (n'102.toNat + (8 : Nat)) rs'111) (1 : Int) (8 : Nat)) ∧
        s_calls n'102 (↑(List.map (fun n => [AV.int IntKind.i64 n]) ps108).length : Int)
              (s_drop (s_rN n'102 rs'139 + (1 : Nat) + (1 : Nat)) rs'139) (s_cN n'102 rs'139) =
            s_calls n'102 (↑(List.map (fun n => [AV.int IntKind.i64 n]) ps108).length : Int)
              (s_drop (s_rN n'102 rs'111 + (1 : Nat) + (1 : Nat)) rs'111) (s_cN n'102 rs'111) ∧
          (s_at rs'139 (n'102.toNat + (8 : Nat) + (8 : Nat) + (0 : Nat))).tmod (3 : Int) =
              (s_at rs'111 (n'102.toNat + (8 : Nat) + (8 : Nat) + (0 : Nat))).tmod (3 : Int) ∧
            s_fat n'102 ((s_at rs'139 (n'102.toNat + (8 : Nat) + (8 : Nat) + (0 : Nat))).tmod (3 : Int))
                  (s_at rs'139 (n'102.toNat + (8 : Nat) + (8 : Nat) + (1 : Nat))) =
                s_fat n'102 ((s_at rs'111 (n'102.toNat + (8 : Nat) + (8 : Nat) + (0 : Nat))).tmod (3 : Int))
                  (s_at rs'111 (n'102.toNat + (8 : Nat) + (8 : Nat) + (1 : Nat))) ∧
              (s_at rs'139 (n'102.toNat + (8 : Nat) + (8 : Nat) + (2 : Nat))).tmod (60 : Int) =
                  (s_at rs'111 (n'102.toNat + (8 : Nat) + (8 : Nat) + (2 : Nat))).tmod (60 : Int) ∧
                (s_at rs'139 (n'102.toNat + (8 : Nat) + (8 : Nat) + (2 : Nat))).tmod (60 : Int) +
                      (s_at rs'139 (n'102.toNat + (8 : Nat) + (8 : Nat) + (3 : Nat))).tmod (60 : Int) =
                    (s_at rs'111 (n'102.toNat + (8 : Nat) + (8 : Nat) + (2 : Nat))).tmod (60 : Int) +
                      (s_at rs'111 (n'102.toNat + (8 : Nat) + (8 : Nat) + (3 : Nat))).tmod (60 : Int) ∧
                  s_acts (s_drop (n'102.toNat + (8 : Nat) + (8 : Nat) + (5 : Nat)) rs'139)
                        (s_fA (s_drop (n'102.toNat + (8 : Nat) + (8 : Nat)) rs'139)) =
                      s_acts (s_drop (n'102.toNat + (8 : Nat) + (8 : Nat) + (5 : Nat)) rs'111)
                        (s_fA (s_drop (n'102.toNat + (8 : Nat) + (8 : Nat)) rs'111)) ∧
                    s_rowi
                          (s_sg
                            (s_drop
                              (n'102.toNat + (8 : Nat) + (8 : Nat) +
                                s_fN (s_drop (n'102.toNat + (8 : Nat) + (8 : Nat)) rs'139))
                              rs'139)
                            (8 : Int) (4 : Nat)) =
                        s_rowi
                          (s_sg
                            (s_drop
                              (n'102.toNat + (8 : Nat) + (8 : Nat) +
                                s_fN (s_drop (n'102.toNat + (8 : Nat) + (8 : Nat)) rs'111))
                              rs'111)
                            (8 : Int) (4 : Nat)) ∧
                      (20 : Int) + (s_at rs'139 (s_rN n'102 rs'139 + (0 : Nat))).tmod (40 : Int) =
                        (20 : Int) + (s_at rs'111 (s_rN n'102 rs'111 + (0 : Nat))).tmod (40 : Int)) ∧
  (s_rowi (s_on rs'111 n'102.toNat)).length ≤ (1000000 : Nat) ∧
    (s_rowi (s_sg (s_drop n'102.toNat rs'111) (1 : Int) (8 : Nat))).length ≤ (1000000 : Nat) ∧
      (s_rowi (s_sg (s_drop (n'102.toNat + (8 : Nat)) rs'111) (1 : Int) (8 : Nat))).length ≤ (1000000 : Nat) ∧
        (s_calls n'102 (↑(List.map (fun n => [AV.int IntKind.i64 n]) ps108).length : Int)
                (s_drop (s_rN n'102 rs'111 + (1 : Nat) + (1 : Nat)) rs'111) (s_cN n'102 rs'111)).length ≤
            (1000000 : Nat) ∧
          (s_acts (s_drop (n'102.toNat + (8 : Nat) + (8 : Nat) + (5 : Nat)) rs'111)
                  (s_fA (s_drop (n'102.toNat + (8 : Nat) + (8 : Nat)) rs'111))).length ≤
              (1000000 : Nat) ∧
            (s_rowi
                  (s_sg
                    (s_drop
                      (n'102.toNat + (8 : Nat) + (8 : Nat) + s_fN (s_drop (n'102.toNat + (8 : Nat) + (8 : Nat)) rs'111))
                      rs'111)
                    (8 : Int) (4 : Nat))).length ≤
              (1000000 : Nat))) ∧
  (Q ((AV.bool true, []))))))))))))))))))))))))))))))))))))))))))))))))))) := by kernel_rfl
end Go.Proofs.YthihinlamlamhaaE
/- ScriptFronts: of bytes that are alike as far as they are read the script is the same. -/
namespace Go.Proofs.YthihinlamlamhaaE
open Go
set_option linter.unusedVariables false
set_option linter.unusedSimpArgs false
set_option maxRecDepth 100000

/-- Alike in the first L places. -/
def eqAt (L : Nat) (rs rs' : List (List AV)) : Prop := ∀ i, i < L → s_at rs i = s_at rs' i
theorem eqAt_drop {L k : Nat} {rs rs' : List (List AV)} (h : eqAt (L + k) rs rs') : eqAt L (s_drop k rs) (s_drop k rs') := fun i hi => by
  rw [at_drop, at_drop]; exact h _ (by omega)
theorem eqAt_le {L L' : Nat} {rs rs' : List (List AV)} (h : eqAt L rs rs') (hl : L' ≤ L) : eqAt L' rs rs' := fun i hi => h i (by omega)
theorem eq_on {L n : Nat} {rs rs' : List (List AV)} (h : eqAt L rs rs') (hn : n ≤ L) : s_on rs n = s_on rs' n := by
  unfold s_on
  refine List.map_congr_left fun i hi => ?_
  rw [h i (by have := List.mem_range.1 hi; omega)]
theorem eq_sg {L n : Nat} {t : Int} {rs rs' : List (List AV)} (h : eqAt L rs rs') (hn : n ≤ L) : s_sg rs t n = s_sg rs' t n := by
  unfold s_sg
  refine List.map_congr_left fun i hi => ?_
  rw [h i (by have := List.mem_range.1 hi; omega)]
theorem eq_text {L : Nat} {rs rs' : List (List AV)} (h : eqAt L rs rs') : ∀ (k p : Nat) (s : ByteArray), p + k ≤ L → s_text rs k p s = s_text rs' k p s
  | 0, _, _, _ => rfl
  | k + 1, p, s, hp => by
    simp only [s_text]
    rw [h p (by omega), eq_text h k (p + 1) _ (by omega)]
theorem mod4 (x : Int) : (x.tmod 4).toNat ≤ 3 := by
  have := Int.tmod_lt_of_pos x (show (0 : Int) < 4 by omega)
  omega
theorem mod8 (x : Int) : (x.tmod 8).toNat ≤ 7 := by
  have := Int.tmod_lt_of_pos x (show (0 : Int) < 8 by omega)
  omega
theorem mod16 (x : Int) : (x.tmod 16).toNat ≤ 15 := by
  have := Int.tmod_lt_of_pos x (show (0 : Int) < 16 by omega)
  omega
theorem eq_actN {L : Nat} {rs rs' : List (List AV)} (h : eqAt L rs rs') (hl : 3 ≤ L) : s_actN rs = s_actN rs' := by
  unfold s_actN
  rw [h 2 (by omega)]
theorem actN_le (rs : List (List AV)) : s_actN rs ≤ 6 := by
  have := mod4 (s_at rs 2)
  unfold s_actN
  omega
theorem eq_act {L : Nat} {rs rs' : List (List AV)} (h : eqAt L rs rs') (hl : 6 ≤ L) : s_act rs = s_act rs' := by
  unfold s_act
  have := mod4 (s_at rs' 2)
  rw [h 0 (by omega), h 1 (by omega), h 2 (by omega), eq_text h _ 3 _ (by omega)]
theorem eq_acts : ∀ (k : Nat) {L : Nat} {rs rs' : List (List AV)}, eqAt L rs rs' → 6 * k ≤ L → s_acts rs k = s_acts rs' k ∧ s_actsN rs k = s_actsN rs' k ∧ s_actsN rs' k ≤ 6 * k
  | 0, _, _, _, _, _ => ⟨rfl, rfl, Nat.le_refl _⟩
  | k + 1, L, rs, rs', h, hl => by
    simp only [s_acts, s_actsN]
    have e := eq_actN h (by omega)
    have hle := actN_le rs'
    have hd : eqAt (L - s_actN rs') (s_drop (s_actN rs') rs) (s_drop (s_actN rs') rs') := eqAt_drop (eqAt_le h (by omega))
    obtain ⟨h1, h2, h3⟩ := eq_acts k hd (by omega)
    rw [e, eq_act h (by omega), h1, h2]
    exact ⟨rfl, rfl, by omega⟩
theorem eq_call {L : Nat} {n np : Int} {rs rs' : List (List AV)} (h : eqAt L rs rs') (hl : 4 ≤ L) : s_call n np rs = s_call n np rs' := by
  unfold s_call
  rw [h 0 (by omega), h 1 (by omega), h 2 (by omega), h 3 (by omega)]
theorem eq_calls {n np : Int} : ∀ (k : Nat) {L : Nat} {rs rs' : List (List AV)}, eqAt L rs rs' → 4 * k ≤ L → s_calls n np rs k = s_calls n np rs' k
  | 0, _, _, _, _, _ => rfl
  | k + 1, L, rs, rs', h, hl => by
    simp only [s_calls]
    rw [eq_call h (by omega), eq_calls k (L := L - 4) (eqAt_drop (eqAt_le h (by omega))) (by omega)]
theorem eq_fA {L : Nat} {rs rs' : List (List AV)} (h : eqAt L rs rs') (hl : 5 ≤ L) : s_fA rs = s_fA rs' := by
  unfold s_fA
  rw [h 4 (by omega)]
theorem fA_le (rs : List (List AV)) : s_fA rs ≤ 7 := mod8 _
theorem eq_fN {L : Nat} {rs rs' : List (List AV)} (h : eqAt L rs rs') (hl : 47 ≤ L) : s_fN rs = s_fN rs' ∧ s_fN rs' ≤ 47 := by
  unfold s_fN
  have hle := fA_le rs'
  have hd : eqAt (L - 5) (s_drop 5 rs) (s_drop 5 rs') := eqAt_drop (eqAt_le h (by omega))
  obtain ⟨_, h2, h3⟩ := eq_acts (s_fA rs') hd (by omega)
  rw [eq_fA h (by omega), h2]
  exact ⟨rfl, by omega⟩
theorem eq_all {n np : Int} {rs rs' : List (List AV)} (h : eqAt 300 rs rs') (hn : n ≤ 12) :
    s_rowi (s_on rs n.toNat) = s_rowi (s_on rs' n.toNat) ∧ s_rowi (s_sg (s_drop n.toNat rs) 1 8) = s_rowi (s_sg (s_drop n.toNat rs') 1 8) ∧ s_rowi (s_sg (s_drop (n.toNat + 8) rs) 1 8) = s_rowi (s_sg (s_drop (n.toNat + 8) rs') 1 8) ∧
      s_calls n np (s_drop (s_rN n rs + 1 + 1) rs) (s_cN n rs) = s_calls n np (s_drop (s_rN n rs' + 1 + 1) rs') (s_cN n rs') ∧
      (s_at rs (n.toNat + 8 + 8 + 0)).tmod 3 = (s_at rs' (n.toNat + 8 + 8 + 0)).tmod 3 ∧
      s_fat n ((s_at rs (n.toNat + 8 + 8 + 0)).tmod 3) (s_at rs (n.toNat + 8 + 8 + 1)) = s_fat n ((s_at rs' (n.toNat + 8 + 8 + 0)).tmod 3) (s_at rs' (n.toNat + 8 + 8 + 1)) ∧
      (s_at rs (n.toNat + 8 + 8 + 2)).tmod 60 = (s_at rs' (n.toNat + 8 + 8 + 2)).tmod 60 ∧
      (s_at rs (n.toNat + 8 + 8 + 2)).tmod 60 + (s_at rs (n.toNat + 8 + 8 + 3)).tmod 60 = (s_at rs' (n.toNat + 8 + 8 + 2)).tmod 60 + (s_at rs' (n.toNat + 8 + 8 + 3)).tmod 60 ∧
      s_acts (s_drop (n.toNat + 8 + 8 + 5) rs) (s_fA (s_drop (n.toNat + 8 + 8) rs)) = s_acts (s_drop (n.toNat + 8 + 8 + 5) rs') (s_fA (s_drop (n.toNat + 8 + 8) rs')) ∧
      s_rowi (s_sg (s_drop (n.toNat + 8 + 8 + s_fN (s_drop (n.toNat + 8 + 8) rs)) rs) 8 4) = s_rowi (s_sg (s_drop (n.toNat + 8 + 8 + s_fN (s_drop (n.toNat + 8 + 8) rs')) rs') 8 4) ∧
      20 + (s_at rs (s_rN n rs + 0)).tmod 40 = 20 + (s_at rs' (s_rN n rs' + 0)).tmod 40 := by
  have hN : n.toNat ≤ 12 := by omega
  have e1 : eqAt (300 - (n.toNat + 8 + 8)) (s_drop (n.toNat + 8 + 8) rs) (s_drop (n.toNat + 8 + 8) rs') := eqAt_drop (eqAt_le h (by omega))
  obtain ⟨e2, e3⟩ := eq_fN e1 (by omega)
  have e4 : s_rN n rs = s_rN n rs' := by unfold s_rN; rw [e2]
  have e5 : s_rN n rs' ≤ 79 := by unfold s_rN; omega
  have e6 : s_cN n rs = s_cN n rs' := by unfold s_cN; rw [e4, h _ (by omega)]
  have e7 : s_cN n rs' ≤ 15 := mod16 _
  have e8 := fA_le (s_drop (n.toNat + 8 + 8) rs')
  rw [eq_on h (by omega), eq_sg (L := 8) (eqAt_drop (eqAt_le h (by omega))) (by omega), eq_sg (rs := s_drop (n.toNat + 8) rs) (L := 8) (eqAt_drop (eqAt_le h (by omega))) (by omega), e4, e6,
    eq_calls (s_cN n rs') (L := 60) (eqAt_drop (eqAt_le h (by omega))) (by omega), h (n.toNat + 8 + 8 + 0) (by omega), h (n.toNat + 8 + 8 + 1) (by omega), h (n.toNat + 8 + 8 + 2) (by omega), h (n.toNat + 8 + 8 + 3) (by omega),
    eq_fA e1 (by omega), (eq_acts (s_fA (s_drop (n.toNat + 8 + 8) rs')) (L := 42) (rs := s_drop (n.toNat + 8 + 8 + 5) rs) (eqAt_drop (eqAt_le h (by omega))) (by omega)).1, e2,
    eq_sg (rs := s_drop (n.toNat + 8 + 8 + s_fN (s_drop (n.toNat + 8 + 8) rs')) rs) (L := 4) (eqAt_drop (eqAt_le h (by omega))) (by omega), h (s_rN n rs' + 0) (by omega)]
  exact ⟨rfl, rfl, rfl, rfl, rfl, rfl, rfl, rfl, rfl, rfl, rfl⟩
/-- Noughts behind bytes. -/
theorem at_noughts (rs l : List (List AV)) (m i : Nat) (h : i < rs.length + m) : s_at (rs ++ List.replicate m [AV.int IntKind.u8 0] ++ l) i = s_at rs i := by
  unfold s_at s_hd
  by_cases hi : i < rs.length
  · rw [if_neg (by simp; omega), if_neg (by simp; omega)]
    have e : ((List.drop i (rs ++ List.replicate m [AV.int IntKind.u8 0] ++ l)).getD 0 []) = ((List.drop i rs).getD 0 []) := by
      rw [List.getD_eq_getElem?_getD, List.getD_eq_getElem?_getD, List.getElem?_drop, List.getElem?_drop, List.append_assoc, List.getElem?_append_left (by omega)]
    rw [e]
  · rw [if_neg (by simp; omega), if_pos (by simp; omega)]
    have e : ((List.drop i (rs ++ List.replicate m [AV.int IntKind.u8 0] ++ l)).getD 0 []) = [AV.int IntKind.u8 0] := by
      rw [List.getD_eq_getElem?_getD, List.getElem?_drop, List.append_assoc, List.getElem?_append_right (by omega), List.getElem?_append_left (by simp; omega), List.getElem?_replicate, if_pos (by omega)]
      rfl
    rw [e]
    decide
theorem at_end (rs : List (List AV)) (m i : Nat) : s_at (rs ++ List.replicate m [AV.int IntKind.u8 0]) i = s_at rs i := by
  by_cases h : i < rs.length + m
  · have := at_noughts rs [] m i h
    rwa [List.append_nil] at this
  · unfold s_at s_hd
    rw [if_pos (by simp; omega), if_pos (by simp; omega)]
theorem bytes_app {a b : List (List AV)} (ha : s_bytes a) (hb : s_bytes b) : s_bytes (a ++ b) := fun r hr => (List.mem_append.1 hr).elim (ha r) (hb r)
theorem bytes_rep (m : Nat) : s_bytes (List.replicate m [AV.int IntKind.u8 0]) := fun r hr => by
  rw [(List.mem_replicate.1 hr).2]; decide
theorem okF : OkS Try.prog H0 11 sOfF := fun args h Q hq => ok11 args h Q (by
  unfold sOfF at hq
  unfold sOfS
  split at hq
  · exact ⟨hq.1, hq.2 _ rfl⟩
  · exact hq.elim)
theorem okTB : OkSp Try.prog H0 TB := ⟨⟨okF, okT8.fn⟩, trivial⟩
theorem fronts_holds (n pi e g fi : Int) (nl : Bool) (ps : List (List AV)) (nl2 : Bool) (rs : List (List AV)) (hb : s_bytes rs) (hn0 : nl2 = true → rs = []) (num : Int) (nl3 : Bool) (rs3 : List (List AV)) (hb3 : s_bytes rs3) (hn3 : nl3 = true → rs3 = []) :
    inlW Try.prog H0 TB 6 (InO Try.prog H0 TB 6 6) 5 [cf n pi e g fi nl ps, .row nl2 [.int .u8] rs, .int .i64 num, .row nl3 [.int .u8] rs3] [] (fun r => r.1 = .bool true) := by
  refine to (nf5 ..) (br_intro (fun _ => rfl) fun hl => br_intro (fun _ => rfl) fun hl3 => ?_)
  have hl := of_decide_eq_false hl
  have hl3 := of_decide_eq_false hl3
  intro n' pi' e' g' fi' nl' qs hm
  have hc : s_confOk n' pi' e' g' fi' (List.map (fun r => (r.getD (0 : Nat) AV.gone).toI) (List.map (fun n => [AV.int IntKind.i64 n]) qs)) = true := cfMade_ok hm
  have hn := hm.1
  have hn2 := hm.2.1
  clear hm
  have m50 := rem_lt num (show (0 : Int) < 50 by omega)
  obtain ⟨m, hmm⟩ : ∃ m, m = s_rem num 50 := ⟨_, rfl⟩
  rw [← hmm] at m50 ⊢
  refine hyp_iff.2 ⟨⟨hc, hb, hn0, by omega⟩, fun r1 hr1 na => ?_⟩
  subst hr1
  simp only [chk_iff, hyp_iff, Nat.zero_add, List.nil_append, List.drop_zero]
  have t1 : List.take (r1.length + (List.replicate m.toNat [AV.int IntKind.u8 0]).length) (r1 ++ List.replicate m.toNat [AV.int IntKind.u8 0]) = r1 ++ List.replicate m.toNat [AV.int IntKind.u8 0] := List.take_of_length_le (by simp)
  have t2 : List.take ((r1 ++ List.replicate 300 [AV.int IntKind.u8 0]).length + rs3.length) (r1 ++ List.replicate 300 [AV.int IntKind.u8 0] ++ rs3) = r1 ++ List.replicate 300 [AV.int IntKind.u8 0] ++ rs3 := List.take_of_length_le (by simp only [List.length_append, List.length_replicate]; exact Nat.le_refl _)
  have o1 : ∀ (l : List Int), (s_rowi l).length = l.length := fun l => by unfold s_rowi; rw [irow_len]
  have o6 : s_cN n' r1 ≤ 15 := mod16 _
  have o7 := fA_le (s_drop (n'.toNat + 8 + 8) r1)
  have hlens : (s_rowi (s_on r1 n'.toNat)).length ≤ 1000000 ∧ (s_rowi (s_sg (s_drop n'.toNat r1) 1 8)).length ≤ 1000000 ∧ (s_rowi (s_sg (s_drop (n'.toNat + 8) r1) 1 8)).length ≤ 1000000 ∧
      (s_calls n' (List.map (fun n => [AV.int IntKind.i64 n]) qs).length (s_drop (s_rN n' r1 + 1 + 1) r1) (s_cN n' r1)).length ≤ 1000000 ∧ (s_acts (s_drop (n'.toNat + 8 + 8 + 5) r1) (s_fA (s_drop (n'.toNat + 8 + 8) r1))).length ≤ 1000000 ∧
      (s_rowi (s_sg (s_drop (n'.toNat + 8 + 8 + s_fN (s_drop (n'.toNat + 8 + 8) r1)) r1) 8 4)).length ≤ 1000000 := by
    rw [o1, o1, o1, o1, on_len, sg_len, sg_len, sg_len, calls_len, acts_len]
    exact ⟨by omega, by omega, by omega, by omega, by omega, by omega⟩
  rw [t1, t2]
  simp only [List.length_append, List.length_replicate]
  refine ⟨by omega, by omega, by omega, by omega, by omega, trivial, by omega, by omega, Nat.le_refl _, ⟨hc, bytes_app hb (bytes_rep _), fun h => by simp at h, by omega⟩, fun r2 hr2 nb => ?_⟩
  subst hr2
  refine ⟨by omega, by omega, trivial, by omega, by omega, ⟨eq_all (fun i _ => at_end r1 m.toNat i) hn2, hlens⟩, trivial, by omega, by omega, by omega, by omega, ⟨hc, bytes_app (bytes_app hb (bytes_rep _)) hb3, fun h => by simp at h, by omega⟩, fun r4 hr4 nc => ?_⟩
  subst hr4
  exact ⟨⟨eq_all (fun i hi => at_noughts r1 rs3 300 i (by omega)) hn2, hlens⟩, trivial⟩
end Go.Proofs.YthihinlamlamhaaE
