/- What path mode says of functions, printed by a program of this session; the kernel holds each. -/
import Derived.Test.YthihinlamlamhaaG5d
import Derived.KernelRfl
namespace Go.Proofs.YthihinlamlamhaaE
open Go
set_option maxRecDepth 100000
set_option linter.unusedVariables false
theorem nf20 (nl : Bool) (rs : List (List AV)) (Q : AV × List AObj → Prop) : inlW Try.prog H0 S5 6 (InO Try.prog H0 S5 6 6) 20 [.row nl [.int .u8] rs] [] Q = (
br (nl)
 (Q ((AV.row true [K.int IntKind.u8] [], [])))
 (chk (((0 : Nat) + rs.length) * (1 : Nat) ≤ (140737488355328 : Nat)) (chk ((0 : Nat) + rs.length ≤ (9223372036854775807 : Nat)) (chk ((0 : Nat) + ((0 : Nat) + rs.length) ≤ ([] ++ rs).length) (Q ((AV.row false [K.int IntKind.u8] (List.take ((0 : Nat) + rs.length) (List.drop (0 : Nat) ([] ++ rs))), []))))))) := by kernel_rfl
theorem nf27 (nl : Bool) (rs : List (List AV)) (Q : AV × List AObj → Prop) : inlW Try.prog H0 S5 6 (InO Try.prog H0 S5 6 6) 27 [.row nl [.int .i64, .int .i64, .int .i64, .int .i64] rs] [] Q = (
br (nl)
 (Q ((AV.row true [K.int IntKind.i64, K.int IntKind.i64, K.int IntKind.i64, K.int IntKind.i64] [], [])))
 (chk (((0 : Nat) + rs.length) * (32 : Nat) ≤ (140737488355328 : Nat)) (chk ((0 : Nat) + rs.length ≤ (9223372036854775807 : Nat)) (chk ((0 : Nat) + ((0 : Nat) + rs.length) ≤ ([] ++ rs).length) (Q ((AV.row false [K.int IntKind.i64, K.int IntKind.i64, K.int IntKind.i64, K.int IntKind.i64]
    (List.take ((0 : Nat) + rs.length) (List.drop (0 : Nat) ([] ++ rs))),
  []))))))) := by kernel_rfl
theorem nf27n (Q : AV × List AObj → Prop) : inlW Try.prog H0 S5 6 (InO Try.prog H0 S5 6 6) 27 [.nils] [] Q = (
Q ((AV.row true [K.int IntKind.i64, K.int IntKind.i64, K.int IntKind.i64, K.int IntKind.i64] [], []))) := by kernel_rfl
theorem nf11a (i m n pi e g fi k at_ fr to_ z : Int) (nl nl2 a0 a1 a2 a3 a4 : Bool) (ps rs r0 r1 r2 r3 r4 : List (List AV)) (Q : Ex → List AV → List AObj → Prop) : lpBody Try.prog H0 S6 6 6 11 13 [.ptr 0 0, .ptr 1 0, .ptr 2 0, .fn (.func 26) [.ptr 3 0] [], .int .i64 m, .int .i64 i] [.box [.int .i64 n, .int .i64 pi, .int .i64 e, .int .i64 g, .int .i64 fi, .row nl [.int .i64] ps], .box [.nils, .nils, .nils, .nils, .int .i64 0, .int .i64 0, .int .i64 0, .int .i64 0, .nils, .nils, .int .i64 0], .box [.row a0 [.int .i64] r0, .row a1 [.int .i64] r1, .row a2 [.int .i64] r2, .nils, .int .i64 k, .int .i64 at_, .int .i64 fr, .int .i64 to_, .row a3 [.int .i64, .int .i64, .str] r3, .row a4 [.int .i64] r4, .int .i64 z], .box [.row nl2 [.int .u8] rs]] Q = (
br (decide (i < m))
 (((Hyp (n ≠ (0 : Int) ∧ ps.length ≤ (100 : Nat))) ∧
 (Q (Ex.nrm) ([AV.ptr (0 : Nat) (0 : Nat), AV.ptr (1 : Nat) (0 : Nat), AV.ptr (2 : Nat) (0 : Nat),
  AV.fn (Fn.func (26 : Nat)) [AV.ptr (4 : Nat) (0 : Nat)] [], AV.int IntKind.i64 m,
  AV.int IntKind.i64 (IntKind.i64.wrap (i + (1 : Int)))]) ([AObj.box
    [AV.int IntKind.i64 n, AV.int IntKind.i64 pi, AV.int IntKind.i64 e, AV.int IntKind.i64 g, AV.int IntKind.i64 fi,
      AV.row nl [K.int IntKind.i64] ps],
  AObj.box
    [AV.nils, AV.nils, AV.nils, AV.nils, AV.int IntKind.i64 (0 : Int), AV.int IntKind.i64 (0 : Int),
      AV.int IntKind.i64 (0 : Int), AV.int IntKind.i64 (0 : Int), AV.nils, AV.nils, AV.int IntKind.i64 (0 : Int)],
  AObj.box
    [AV.row a0 [K.int IntKind.i64] r0, AV.row a1 [K.int IntKind.i64] r1, AV.row a2 [K.int IntKind.i64] r2,
      AV.sl (3 : Nat) (0 : Nat) (1 : Nat), AV.int IntKind.i64 k, AV.int IntKind.i64 at_, AV.int IntKind.i64 fr,
      AV.int IntKind.i64 to_, AV.row a3 [K.int IntKind.i64, K.int IntKind.i64, K.str] r3,
      AV.row a4 [K.int IntKind.i64] r4, AV.int IntKind.i64 z],
  AObj.arr (2 : Nat) (43 : Nat) [K.int IntKind.i64, K.int IntKind.i64, K.int IntKind.i64, K.int IntKind.i64]
    [[AV.int IntKind.i64 ((s_at rs (0 : Nat)).tmod (60 : Int)), AV.int IntKind.i64 ((s_at rs (1 : Nat)).tmod n),
        AV.int IntKind.i64 ((s_at rs (2 : Nat)).tmod ((↑ps.length : Int) + (1 : Int))),
        AV.int IntKind.i64 (s_at rs (3 : Nat))]],
  AObj.box [AV.row nl2 [K.int IntKind.u8] (s_drop (4 : Nat) rs)]]))))
 (Q (Ex.exit (0 : Nat)) ([AV.ptr (0 : Nat) (0 : Nat), AV.ptr (1 : Nat) (0 : Nat)]) ([AObj.box
    [AV.nils, AV.nils, AV.nils, AV.nils, AV.int IntKind.i64 (0 : Int), AV.int IntKind.i64 (0 : Int),
      AV.int IntKind.i64 (0 : Int), AV.int IntKind.i64 (0 : Int), AV.nils, AV.nils, AV.int IntKind.i64 (0 : Int)],
  AObj.box
    [AV.row a0 [K.int IntKind.i64] r0, AV.row a1 [K.int IntKind.i64] r1, AV.row a2 [K.int IntKind.i64] r2, AV.nils,
      AV.int IntKind.i64 k, AV.int IntKind.i64 at_, AV.int IntKind.i64 fr, AV.int IntKind.i64 to_,
      AV.row a3 [K.int IntKind.i64, K.int IntKind.i64, K.str] r3, AV.row a4 [K.int IntKind.i64] r4,
      AV.int IntKind.i64 z]]))) := by kernel_rfl
theorem nf11b (i m n pi e g fi k at_ fr to_ z : Int) (j : Nat) (nl nl2 a0 a1 a2 a3 a4 : Bool) (ps rs r0 r1 r2 r3 r4 rows : List (List AV)) (Q : Ex → List AV → List AObj → Prop) : lpBody Try.prog H0 S6 6 6 11 13 [.ptr 0 0, .ptr 1 0, .ptr 2 0, .fn (.func 26) [.ptr 4 0] [], .int .i64 m, .int .i64 i] [.box [.int .i64 n, .int .i64 pi, .int .i64 e, .int .i64 g, .int .i64 fi, .row nl [.int .i64] ps], .box [.nils, .nils, .nils, .nils, .int .i64 0, .int .i64 0, .int .i64 0, .int .i64 0, .nils, .nils, .int .i64 0], .box [.row a0 [.int .i64] r0, .row a1 [.int .i64] r1, .row a2 [.int .i64] r2, .sl 3 0 j, .int .i64 k, .int .i64 at_, .int .i64 fr, .int .i64 to_, .row a3 [.int .i64, .int .i64, .str] r3, .row a4 [.int .i64] r4, .int .i64 z], .arr 2 43 [.int .i64, .int .i64, .int .i64, .int .i64] rows, .box [.row nl2 [.int .u8] rs]] Q = (
br (decide (i < m))
 (((Hyp (n ≠ (0 : Int) ∧ ps.length ≤ (100 : Nat))) ∧
 (chk (j = rows.length) (chk ((rows.length + (1 : Nat)) * (32 : Nat) ≤ (140737488355328 : Nat)) (chk (rows.length + (1 : Nat) ≤ (9223372036854775807 : Nat)) (Q (Ex.nrm) ([AV.ptr (0 : Nat) (0 : Nat), AV.ptr (1 : Nat) (0 : Nat), AV.ptr (2 : Nat) (0 : Nat),
  AV.fn (Fn.func (26 : Nat)) [AV.ptr (4 : Nat) (0 : Nat)] [], AV.int IntKind.i64 m,
  AV.int IntKind.i64 (IntKind.i64.wrap (i + (1 : Int)))]) ([AObj.box
    [AV.int IntKind.i64 n, AV.int IntKind.i64 pi, AV.int IntKind.i64 e, AV.int IntKind.i64 g, AV.int IntKind.i64 fi,
      AV.row nl [K.int IntKind.i64] ps],
  AObj.box
    [AV.nils, AV.nils, AV.nils, AV.nils, AV.int IntKind.i64 (0 : Int), AV.int IntKind.i64 (0 : Int),
      AV.int IntKind.i64 (0 : Int), AV.int IntKind.i64 (0 : Int), AV.nils, AV.nils, AV.int IntKind.i64 (0 : Int)],
  AObj.box
    [AV.row a0 [K.int IntKind.i64] r0, AV.row a1 [K.int IntKind.i64] r1, AV.row a2 [K.int IntKind.i64] r2,
      AV.sl (3 : Nat) (0 : Nat) (rows.length + (1 : Nat)), AV.int IntKind.i64 k, AV.int IntKind.i64 at_,
      AV.int IntKind.i64 fr, AV.int IntKind.i64 to_, AV.row a3 [K.int IntKind.i64, K.int IntKind.i64, K.str] r3,
      AV.row a4 [K.int IntKind.i64] r4, AV.int IntKind.i64 z],
  AObj.arr (2 : Nat) (43 : Nat) [K.int IntKind.i64, K.int IntKind.i64, K.int IntKind.i64, K.int IntKind.i64]
    (rows ++
      [[AV.int IntKind.i64 ((s_at rs (0 : Nat)).tmod (60 : Int)), AV.int IntKind.i64 ((s_at rs (1 : Nat)).tmod n),
          AV.int IntKind.i64 ((s_at rs (2 : Nat)).tmod ((↑ps.length : Int) + (1 : Int))),
          AV.int IntKind.i64 (s_at rs (3 : Nat))]]),
  AObj.box [AV.row nl2 [K.int IntKind.u8] (s_drop (4 : Nat) rs)]])))))))
 (Q (Ex.exit (0 : Nat)) ([AV.ptr (0 : Nat) (0 : Nat), AV.ptr (1 : Nat) (0 : Nat)]) ([AObj.box
    [AV.nils, AV.nils, AV.nils, AV.nils, AV.int IntKind.i64 (0 : Int), AV.int IntKind.i64 (0 : Int),
      AV.int IntKind.i64 (0 : Int), AV.int IntKind.i64 (0 : Int), AV.nils, AV.nils, AV.int IntKind.i64 (0 : Int)],
  AObj.box
    [AV.row a0 [K.int IntKind.i64] r0, AV.row a1 [K.int IntKind.i64] r1, AV.row a2 [K.int IntKind.i64] r2,
      AV.sl (2 : Nat) (0 : Nat) j, AV.int IntKind.i64 k, AV.int IntKind.i64 at_, AV.int IntKind.i64 fr,
      AV.int IntKind.i64 to_, AV.row a3 [K.int IntKind.i64, K.int IntKind.i64, K.str] r3,
      AV.row a4 [K.int IntKind.i64] r4, AV.int IntKind.i64 z],
  AObj.arr (2 : Nat) (43 : Nat) [K.int IntKind.i64, K.int IntKind.i64, K.int IntKind.i64, K.int IntKind.i64] rows]))) := by kernel_rfl
theorem nf11 (n pi e g fi : Int) (nl nl2 : Bool) (ps rs : List (List AV)) (Q : AV × List AObj → Prop) : inlW Try.prog H0 S6L 6 (InO Try.prog H0 S6L 6 6) 11 [cf n pi e g fi nl ps, .row nl2 [.int .u8] rs] [] Q = (
((Hyp (s_confOk n pi e g fi (List.map (fun r => (r.getD (0 : Nat) AV.gone).toI) ps) = true)) ∧
(((Hyp ((nl2 = true → rs = []) ∧ rs.length ≤ (100000 : Nat))) ∧
((∀ (nl'102 : Bool),
((Hyp ((0 : Int) ≤ n ∧ n ≤ (100 : Int))) ∧
(((Hyp ((0 : Int) ≤ (8 : Int) ∧ (8 : Int) ≤ (100 : Int))) ∧
(((Hyp ((0 : Int) ≤ (8 : Int) ∧ (8 : Int) ≤ (100 : Int))) ∧
(((Hyp ((6 : Int) ≤ n ∧ n ≤ (12 : Int) ∧ s_bytes (s_drop (8 : Nat) (s_drop (8 : Nat) (s_drop n.toNat rs))))) ∧
(((Hyp ((0 : Int) = (0 : Int) ∧
  (0 : Int) ≤
      (s_hd
            (s_drop (1 : Nat)
              (s_drop (s_fN (s_drop (8 : Nat) (s_drop (8 : Nat) (s_drop n.toNat rs))) + (4 : Nat))
                (s_drop (8 : Nat) (s_drop (8 : Nat) (s_drop n.toNat rs)))))).tmod
        (16 : Int) ∧
    (s_hd
              (s_drop (1 : Nat)
                (s_drop (s_fN (s_drop (8 : Nat) (s_drop (8 : Nat) (s_drop n.toNat rs))) + (4 : Nat))
                  (s_drop (8 : Nat) (s_drop (8 : Nat) (s_drop n.toNat rs)))))).tmod
          (16 : Int) ≤
        (100 : Int) ∧
      n ≠ (0 : Int) ∧ (0 : Int) ≤ (↑ps.length : Int) ∧ (↑ps.length : Int) ≤ (100 : Int))) ∧
((((((s_hd
        (s_drop (1 : Nat)
          (s_drop (s_fN (s_drop (8 : Nat) (s_drop (8 : Nat) (s_drop n.toNat rs))) + (4 : Nat))
            (s_drop (8 : Nat) (s_drop (8 : Nat) (s_drop n.toNat rs)))))).tmod
    (16 : Int) =
  (0 : Int)) →
Q ((AV.agg
    [AV.row false [K.int IntKind.i64] (List.map (fun n => [AV.int IntKind.i64 n]) (s_on rs n.toNat)),
      AV.row false [K.int IntKind.i64]
        [[AV.int IntKind.i64
              (IntKind.i64.wrap (IntKind.i64.wrap (s_at (s_drop n.toNat rs) (0 : Nat) - (128 : Int)) * (1 : Int)))],
          [AV.int IntKind.i64
              (IntKind.i64.wrap (IntKind.i64.wrap (s_at (s_drop n.toNat rs) (1 : Nat) - (128 : Int)) * (1 : Int)))],
          [AV.int IntKind.i64
              (IntKind.i64.wrap (IntKind.i64.wrap (s_at (s_drop n.toNat rs) (2 : Nat) - (128 : Int)) * (1 : Int)))],
          [AV.int IntKind.i64
              (IntKind.i64.wrap (IntKind.i64.wrap (s_at (s_drop n.toNat rs) (3 : Nat) - (128 : Int)) * (1 : Int)))],
          [AV.int IntKind.i64
              (IntKind.i64.wrap (IntKind.i64.wrap (s_at (s_drop n.toNat rs) (4 : Nat) - (128 : Int)) * (1 : Int)))],
          [AV.int IntKind.i64
              (IntKind.i64.wrap (IntKind.i64.wrap (s_at (s_drop n.toNat rs) (5 : Nat) - (128 : Int)) * (1 : Int)))],
          [AV.int IntKind.i64
              (IntKind.i64.wrap (IntKind.i64.wrap (s_at (s_drop n.toNat rs) (6 : Nat) - (128 : Int)) * (1 : Int)))],
          [AV.int IntKind.i64
              (IntKind.i64.wrap (IntKind.i64.wrap (s_at (s_drop n.toNat rs) (7 : Nat) - (128 : Int)) * (1 : Int)))]],
      AV.row false [K.int IntKind.i64]
        [[AV.int IntKind.i64
              (IntKind.i64.wrap
                (IntKind.i64.wrap (s_at (s_drop (8 : Nat) (s_drop n.toNat rs)) (0 : Nat) - (128 : Int)) * (1 : Int)))],
          [AV.int IntKind.i64
              (IntKind.i64.wrap
                (IntKind.i64.wrap (s_at (s_drop (8 : Nat) (s_drop n.toNat rs)) (1 : Nat) - (128 : Int)) * (1 : Int)))],
          [AV.int IntKind.i64
              (IntKind.i64.wrap
                (IntKind.i64.wrap (s_at (s_drop (8 : Nat) (s_drop n.toNat rs)) (2 : Nat) - (128 : Int)) * (1 : Int)))],
          [AV.int IntKind.i64
              (IntKind.i64.wrap
                (IntKind.i64.wrap (s_at (s_drop (8 : Nat) (s_drop n.toNat rs)) (3 : Nat) - (128 : Int)) * (1 : Int)))],
          [AV.int IntKind.i64
              (IntKind.i64.wrap
                (IntKind.i64.wrap (s_at (s_drop (8 : Nat) (s_drop n.toNat rs)) (4 : Nat) - (128 : Int)) * (1 : Int)))],
          [AV.int IntKind.i64
              (IntKind.i64.wrap
                (IntKind.i64.wrap (s_at (s_drop (8 : Nat) (s_drop n.toNat rs)) (5 : Nat) - (128 : Int)) * (1 : Int)))],
          [AV.int IntKind.i64
              (IntKind.i64.wrap
                (IntKind.i64.wrap (s_at (s_drop (8 : Nat) (s_drop n.toNat rs)) (6 : Nat) - (128 : Int)) * (1 : Int)))],
          [AV.int IntKind.i64
              (IntKind.i64.wrap
                (IntKind.i64.wrap (s_at (s_drop (8 : Nat) (s_drop n.toNat rs)) (7 : Nat) - (128 : Int)) * (1 : Int)))]],
      AV.row true [K.int IntKind.i64, K.int IntKind.i64, K.int IntKind.i64, K.int IntKind.i64] [],
      AV.int IntKind.i64 ((s_at (s_drop (8 : Nat) (s_drop (8 : Nat) (s_drop n.toNat rs))) (0 : Nat)).tmod (3 : Int)),
      AV.int IntKind.i64
        (s_fat n ((s_at (s_drop (8 : Nat) (s_drop (8 : Nat) (s_drop n.toNat rs))) (0 : Nat)).tmod (3 : Int))
          (s_at (s_drop (8 : Nat) (s_drop (8 : Nat) (s_drop n.toNat rs))) (1 : Nat))),
      AV.int IntKind.i64 ((s_at (s_drop (8 : Nat) (s_drop (8 : Nat) (s_drop n.toNat rs))) (2 : Nat)).tmod (60 : Int)),
      AV.int IntKind.i64
        ((s_at (s_drop (8 : Nat) (s_drop (8 : Nat) (s_drop n.toNat rs))) (2 : Nat)).tmod (60 : Int) +
          (s_at (s_drop (8 : Nat) (s_drop (8 : Nat) (s_drop n.toNat rs))) (3 : Nat)).tmod (60 : Int)),
      AV.row false [K.int IntKind.i64, K.int IntKind.i64, K.str]
        (s_acts (s_drop (5 : Nat) (s_drop (8 : Nat) (s_drop (8 : Nat) (s_drop n.toNat rs))))
          (s_fA (s_drop (8 : Nat) (s_drop (8 : Nat) (s_drop n.toNat rs))))),
      AV.row false [K.int IntKind.i64]
        [[AV.int IntKind.i64
              (IntKind.i64.wrap
                (IntKind.i64.wrap
                    (s_at
                        (s_drop (s_fN (s_drop (8 : Nat) (s_drop (8 : Nat) (s_drop n.toNat rs))))
                          (s_drop (8 : Nat) (s_drop (8 : Nat) (s_drop n.toNat rs))))
                        (0 : Nat) -
                      (128 : Int)) *
                  (8 : Int)))],
          [AV.int IntKind.i64
              (IntKind.i64.wrap
                (IntKind.i64.wrap
                    (s_at
                        (s_drop (s_fN (s_drop (8 : Nat) (s_drop (8 : Nat) (s_drop n.toNat rs))))
                          (s_drop (8 : Nat) (s_drop (8 : Nat) (s_drop n.toNat rs))))
                        (1 : Nat) -
                      (128 : Int)) *
                  (8 : Int)))],
          [AV.int IntKind.i64
              (IntKind.i64.wrap
                (IntKind.i64.wrap
                    (s_at
                        (s_drop (s_fN (s_drop (8 : Nat) (s_drop (8 : Nat) (s_drop n.toNat rs))))
                          (s_drop (8 : Nat) (s_drop (8 : Nat) (s_drop n.toNat rs))))
                        (2 : Nat) -
                      (128 : Int)) *
                  (8 : Int)))],
          [AV.int IntKind.i64
              (IntKind.i64.wrap
                (IntKind.i64.wrap
                    (s_at
                        (s_drop (s_fN (s_drop (8 : Nat) (s_drop (8 : Nat) (s_drop n.toNat rs))))
                          (s_drop (8 : Nat) (s_drop (8 : Nat) (s_drop n.toNat rs))))
                        (3 : Nat) -
                      (128 : Int)) *
                  (8 : Int)))]],
      AV.int IntKind.i64
        (IntKind.i64.wrap
          ((20 : Int) +
            (s_hd
                  (s_drop (s_fN (s_drop (8 : Nat) (s_drop (8 : Nat) (s_drop n.toNat rs))) + (4 : Nat))
                    (s_drop (8 : Nat) (s_drop (8 : Nat) (s_drop n.toNat rs))))).tmod
              (40 : Int)))],
  [])))) ∧
((∀ (rows'109 : List (List AV)),
((rows'109 =
  s_calls n (↑ps.length : Int)
    (s_drop (1 : Nat)
      (s_drop (1 : Nat)
        (s_drop (s_fN (s_drop (8 : Nat) (s_drop (8 : Nat) (s_drop n.toNat rs))) + (4 : Nat))
          (s_drop (8 : Nat) (s_drop (8 : Nat) (s_drop n.toNat rs))))))
    ((s_hd
            (s_drop (1 : Nat)
              (s_drop (s_fN (s_drop (8 : Nat) (s_drop (8 : Nat) (s_drop n.toNat rs))) + (4 : Nat))
                (s_drop (8 : Nat) (s_drop (8 : Nat) (s_drop n.toNat rs)))))).tmod
        (16 : Int)).toNat) →
chk ((0 : Nat) +
    ((s_hd
            (s_drop (1 : Nat)
              (s_drop (s_fN (s_drop (8 : Nat) (s_drop (8 : Nat) (s_drop n.toNat rs))) + (4 : Nat))
                (s_drop (8 : Nat) (s_drop (8 : Nat) (s_drop n.toNat rs)))))).tmod
        (16 : Int)).toNat ≤
  rows'109.length) (((Hyp (false = false ∧
  (List.take
        ((s_hd
                (s_drop (1 : Nat)
                  (s_drop (s_fN (s_drop (8 : Nat) (s_drop (8 : Nat) (s_drop n.toNat rs))) + (4 : Nat))
                    (s_drop (8 : Nat) (s_drop (8 : Nat) (s_drop n.toNat rs)))))).tmod
            (16 : Int)).toNat
        (List.drop (0 : Nat) rows'109)).length ≤
    (100000 : Nat))) ∧
(Q ((AV.agg
    [AV.row false [K.int IntKind.i64] (List.map (fun n => [AV.int IntKind.i64 n]) (s_on rs n.toNat)),
      AV.row false [K.int IntKind.i64]
        [[AV.int IntKind.i64
              (IntKind.i64.wrap (IntKind.i64.wrap (s_at (s_drop n.toNat rs) (0 : Nat) - (128 : Int)) * (1 : Int)))],
          [AV.int IntKind.i64
              (IntKind.i64.wrap (IntKind.i64.wrap (s_at (s_drop n.toNat rs) (1 : Nat) - (128 : Int)) * (1 : Int)))],
          [AV.int IntKind.i64
              (IntKind.i64.wrap (IntKind.i64.wrap (s_at (s_drop n.toNat rs) (2 : Nat) - (128 : Int)) * (1 : Int)))],
          [AV.int IntKind.i64
              (IntKind.i64.wrap (IntKind.i64.wrap (s_at (s_drop n.toNat rs) (3 : Nat) - (128 : Int)) * (1 : Int)))],
          [AV.int IntKind.i64
              (IntKind.i64.wrap (IntKind.i64.wrap (s_at (s_drop n.toNat rs) (4 : Nat) - (128 : Int)) * (1 : Int)))],
          [AV.int IntKind.i64
              (IntKind.i64.wrap (IntKind.i64.wrap (s_at (s_drop n.toNat rs) (5 : Nat) - (128 : Int)) * (1 : Int)))],
          [AV.int IntKind.i64
              (IntKind.i64.wrap (IntKind.i64.wrap (s_at (s_drop n.toNat rs) (6 : Nat) - (128 : Int)) * (1 : Int)))],
          [AV.int IntKind.i64
              (IntKind.i64.wrap (IntKind.i64.wrap (s_at (s_drop n.toNat rs) (7 : Nat) - (128 : Int)) * (1 : Int)))]],
      AV.row false [K.int IntKind.i64]
        [[AV.int IntKind.i64
              (IntKind.i64.wrap
                (IntKind.i64.wrap (s_at (s_drop (8 : Nat) (s_drop n.toNat rs)) (0 : Nat) - (128 : Int)) * (1 : Int)))],
          [AV.int IntKind.i64
              (IntKind.i64.wrap
                (IntKind.i64.wrap (s_at (s_drop (8 : Nat) (s_drop n.toNat rs)) (1 : Nat) - (128 : Int)) * (1 : Int)))],
          [AV.int IntKind.i64
              (IntKind.i64.wrap
                (IntKind.i64.wrap (s_at (s_drop (8 : Nat) (s_drop n.toNat rs)) (2 : Nat) - (128 : Int)) * (1 : Int)))],
          [AV.int IntKind.i64
              (IntKind.i64.wrap
                (IntKind.i64.wrap (s_at (s_drop (8 : Nat) (s_drop n.toNat rs)) (3 : Nat) - (128 : Int)) * (1 : Int)))],
          [AV.int IntKind.i64
              (IntKind.i64.wrap
                (IntKind.i64.wrap (s_at (s_drop (8 : Nat) (s_drop n.toNat rs)) (4 : Nat) - (128 : Int)) * (1 : Int)))],
          [AV.int IntKind.i64
              (IntKind.i64.wrap
                (IntKind.i64.wrap (s_at (s_drop (8 : Nat) (s_drop n.toNat rs)) (5 : Nat) - (128 : Int)) * (1 : Int)))],
          [AV.int IntKind.i64
              (IntKind.i64.wrap
                (IntKind.i64.wrap (s_at (s_drop (8 : Nat) (s_drop n.toNat rs)) (6 : Nat) - (128 : Int)) * (1 : Int)))],
          [AV.int IntKind.i64
              (IntKind.i64.wrap
                (IntKind.i64.wrap (s_at (s_drop (8 : Nat) (s_drop n.toNat rs)) (7 : Nat) - (128 : Int)) * (1 : Int)))]],
      AV.row false [K.int IntKind.i64, K.int IntKind.i64, K.int IntKind.i64, K.int IntKind.i64]
        (List.take
          ((s_hd
                  (s_drop (1 : Nat)
                    (s_drop (s_fN (s_drop (8 : Nat) (s_drop (8 : Nat) (s_drop n.toNat rs))) + (4 : Nat))
                      (s_drop (8 : Nat) (s_drop (8 : Nat) (s_drop n.toNat rs)))))).tmod
              (16 : Int)).toNat
          (List.drop (0 : Nat) rows'109)),
      AV.int IntKind.i64 ((s_at (s_drop (8 : Nat) (s_drop (8 : Nat) (s_drop n.toNat rs))) (0 : Nat)).tmod (3 : Int)),
      AV.int IntKind.i64
        (s_fat n ((s_at (s_drop (8 : Nat) (s_drop (8 : Nat) (s_drop n.toNat rs))) (0 : Nat)).tmod (3 : Int))
          (s_at (s_drop (8 : Nat) (s_drop (8 : Nat) (s_drop n.toNat rs))) (1 : Nat))),
      AV.int IntKind.i64 ((s_at (s_drop (8 : Nat) (s_drop (8 : Nat) (s_drop n.toNat rs))) (2 : Nat)).tmod (60 : Int)),
      AV.int IntKind.i64
        ((s_at (s_drop (8 : Nat) (s_drop (8 : Nat) (s_drop n.toNat rs))) (2 : Nat)).tmod (60 : Int) +
          (s_at (s_drop (8 : Nat) (s_drop (8 : Nat) (s_drop n.toNat rs))) (3 : Nat)).tmod (60 : Int)),
      AV.row false [K.int IntKind.i64, K.int IntKind.i64, K.str]
        (s_acts (s_drop (5 : Nat) (s_drop (8 : Nat) (s_drop (8 : Nat) (s_drop n.toNat rs))))
          (s_fA (s_drop (8 : Nat) (s_drop (8 : Nat) (s_drop n.toNat rs))))),
      AV.row false [K.int IntKind.i64]
        [[AV.int IntKind.i64
              (IntKind.i64.wrap
                (IntKind.i64.wrap
                    (s_at
                        (s_drop (s_fN (s_drop (8 : Nat) (s_drop (8 : Nat) (s_drop n.toNat rs))))
                          (s_drop (8 : Nat) (s_drop (8 : Nat) (s_drop n.toNat rs))))
                        (0 : Nat) -
                      (128 : Int)) *
                  (8 : Int)))],
          [AV.int IntKind.i64
              (IntKind.i64.wrap
                (IntKind.i64.wrap
                    (s_at
                        (s_drop (s_fN (s_drop (8 : Nat) (s_drop (8 : Nat) (s_drop n.toNat rs))))
                          (s_drop (8 : Nat) (s_drop (8 : Nat) (s_drop n.toNat rs))))
                        (1 : Nat) -
                      (128 : Int)) *
                  (8 : Int)))],
          [AV.int IntKind.i64
              (IntKind.i64.wrap
                (IntKind.i64.wrap
                    (s_at
                        (s_drop (s_fN (s_drop (8 : Nat) (s_drop (8 : Nat) (s_drop n.toNat rs))))
                          (s_drop (8 : Nat) (s_drop (8 : Nat) (s_drop n.toNat rs))))
                        (2 : Nat) -
                      (128 : Int)) *
                  (8 : Int)))],
          [AV.int IntKind.i64
              (IntKind.i64.wrap
                (IntKind.i64.wrap
                    (s_at
                        (s_drop (s_fN (s_drop (8 : Nat) (s_drop (8 : Nat) (s_drop n.toNat rs))))
                          (s_drop (8 : Nat) (s_drop (8 : Nat) (s_drop n.toNat rs))))
                        (3 : Nat) -
                      (128 : Int)) *
                  (8 : Int)))]],
      AV.int IntKind.i64
        (IntKind.i64.wrap
          ((20 : Int) +
            (s_hd
                  (s_drop (s_fN (s_drop (8 : Nat) (s_drop (8 : Nat) (s_drop n.toNat rs))) + (4 : Nat))
                    (s_drop (8 : Nat) (s_drop (8 : Nat) (s_drop n.toNat rs))))).tmod
              (40 : Int)))],
  []))))))))))))))))))))))))) := by kernel_rfl
end Go.Proofs.YthihinlamlamhaaE
