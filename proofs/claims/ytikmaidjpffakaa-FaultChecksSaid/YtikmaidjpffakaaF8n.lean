/- What path mode says of functions, printed by a program of this session; the kernel holds each. -/
import Derived.Test.YtikmaidjpffakaaF7d
import Derived.KernelRfl
namespace Go.Proofs.YtikmaidjpffakaaE
open Go
set_option maxRecDepth 100000
set_option linter.unusedVariables false
theorem nf10 (n pi e g fi : Int) (nl : Bool) (rs : List (List AV)) (k a f t : Int) (nl1 nl2 : Bool) (acts ds : List (List AV)) (ro ow no de : Int) (Q : AV × List AObj → Prop) : inlW Try.prog H0 S11 6 (InO Try.prog H0 S11 6 6) 10 [cf n pi e g fi nl rs, .agg [.int .i64 k, .int .i64 a, .int .i64 f, .int .i64 t, .row nl1 [.int .i64, .int .i64, .str] acts, .row nl2 [.int .i64] ds], .int .i64 ro, .int .i64 ow, .int .i64 no, .int .i64 de] [] Q = (
((Hyp (acts.length ≤ (9223372036854775807 : Nat))) ∧
((∀ (b101 : Bool),
((b101 = true →
  acts.length ≤ (50 : Nat) ∧ ds.length ≤ (50 : Nat) ∧ ∀ (r : List AV), r ∈ acts → (actText r).size ≤ (1200 : Nat)) →
br (!b101)
 (Q ((AV.bool true, [])))
 ((∀ (n'104 : Int),
 (∀ (pi'105 : Int),
 (∀ (e'106 : Int),
 (∀ (g'107 : Int),
 (∀ (fi'108 : Int),
 (∀ (nl'109 : Bool),
 (∀ (ps110 : List Int),
 ((s_made n'104 pi'105 e'106 g'107 fi'108 ps110) →
 ((Hyp ((6 : Int) ≤ n'104 ∧ n'104 ≤ (12 : Int))) ∧
 ((∀ (k'113 : Int),
 (∀ (a'114 : Int),
 (∀ (f'115 : Int),
 (∀ (t'116 : Int),
 (∀ (nl1'117 : Bool),
 (∀ (nl2'118 : Bool),
 (∀ (acts'119 : List (List AV)),
 (∀ (ds'120 : List Int),
 ((s_fok n'104 k'113 a'114 f'115 t'116 acts'119 ds'120) →
 chk ((0 : Int) < n'104 ∧ n'104 < (9223372036854775808 : Int)) (chk ((0 : Int) < n'104 ∧ n'104 < (9223372036854775808 : Int)) (((Hyp ((0 : Int) ≤ pi'105 ∧
  pi'105 ≤ (1000000 : Int) ∧
    (0 : Int) ≤ s_rem ro (130 : Int) ∧
      s_rem ro (130 : Int) ≤ (1000000 : Int) ∧
        (0 : Int) ≤ s_rem no n'104 ∧
          s_rem no n'104 ≤ (1000000 : Int) ∧
            (List.map (fun n => [AV.int IntKind.i64 n]) ds'120).length ≤ (1000000 : Nat))) ∧
 (((Hyp ((0 : Int) ≤ pi'105 ∧
  pi'105 ≤ (1000000 : Int) ∧
    (0 : Int) ≤ s_rem ro (130 : Int) ∧
      s_rem ro (130 : Int) ≤ (1000000 : Int) ∧
        (0 : Int) ≤ s_rem no n'104 ∧
          s_rem no n'104 ≤ (1000000 : Int) ∧
            (List.map (fun n => [AV.int IntKind.i64 n]) ds'120).length ≤ (1000000 : Nat))) ∧
 (br (s_dev k'113 a'114 f'115 t'116
    (List.map (fun r => (r.getD (0 : Nat) AV.gone).toI) (List.map (fun n => [AV.int IntKind.i64 n]) ds'120)) pi'105
    (s_rem ro (130 : Int)) (s_rem ow n'104) (s_rem no n'104)
    (IntKind.i64.wrap (s_rem de (2000000 : Int) - (1000000 : Int))) ==
  s_dev k'113 a'114 f'115 t'116
    (List.map (fun r => (r.getD (0 : Nat) AV.gone).toI) (List.map (fun n => [AV.int IntKind.i64 n]) ds'120)) pi'105
    (s_rem ro (130 : Int)) (s_rem ow n'104) (s_rem no n'104)
    (IntKind.i64.wrap (s_rem de (2000000 : Int) - (1000000 : Int))))
  (br (s_dev k'113 a'114 f'115 t'116
    (List.map (fun r => (r.getD (0 : Nat) AV.gone).toI) (List.map (fun n => [AV.int IntKind.i64 n]) ds'120)) pi'105
    (s_rem ro (130 : Int)) (s_rem ow n'104) (s_rem no n'104)
    (IntKind.i64.wrap (s_rem de (2000000 : Int) - (1000000 : Int))) ==
  IntKind.i64.wrap (s_rem de (2000000 : Int) - (1000000 : Int)))
   (br (k'113 == (1 : Int))
    (br (a'114 == s_rem ow n'104)
     (Q ((AV.bool true, [])))
     (Q ((AV.bool
    (s_dev k'113 a'114 f'115 t'116
        (List.map (fun r => (r.getD (0 : Nat) AV.gone).toI) (List.map (fun n => [AV.int IntKind.i64 n]) ds'120)) pi'105
        (s_rem ro (130 : Int)) (s_rem ow n'104) (s_rem no n'104)
        (IntKind.i64.wrap (s_rem de (2000000 : Int) - (1000000 : Int))) ==
      IntKind.i64.wrap (s_rem de (2000000 : Int) - (1000000 : Int))),
  []))))
    (Q ((AV.bool
    (s_dev k'113 a'114 f'115 t'116
        (List.map (fun r => (r.getD (0 : Nat) AV.gone).toI) (List.map (fun n => [AV.int IntKind.i64 n]) ds'120)) pi'105
        (s_rem ro (130 : Int)) (s_rem ow n'104) (s_rem no n'104)
        (IntKind.i64.wrap (s_rem de (2000000 : Int) - (1000000 : Int))) ==
      IntKind.i64.wrap (s_rem de (2000000 : Int) - (1000000 : Int))),
  []))))
   (br (decide
  (s_dev k'113 a'114 f'115 t'116
      (List.map (fun r => (r.getD (0 : Nat) AV.gone).toI) (List.map (fun n => [AV.int IntKind.i64 n]) ds'120)) pi'105
      (s_rem ro (130 : Int)) (s_rem ow n'104) (s_rem no n'104)
      (IntKind.i64.wrap (s_rem de (2000000 : Int) - (1000000 : Int))) ≥
    IntKind.i64.wrap ((0 : Int) - IntKind.i64.wrap ((6 : Int) * pi'105))))
    (br (decide
  (s_dev k'113 a'114 f'115 t'116
      (List.map (fun r => (r.getD (0 : Nat) AV.gone).toI) (List.map (fun n => [AV.int IntKind.i64 n]) ds'120)) pi'105
      (s_rem ro (130 : Int)) (s_rem ow n'104) (s_rem no n'104)
      (IntKind.i64.wrap (s_rem de (2000000 : Int) - (1000000 : Int))) ≤
    IntKind.i64.wrap ((6 : Int) * pi'105)))
     (br (k'113 == (1 : Int))
      (br (a'114 == s_rem ow n'104)
       (Q ((AV.bool true, [])))
       (Q ((AV.bool
    (s_dev k'113 a'114 f'115 t'116
        (List.map (fun r => (r.getD (0 : Nat) AV.gone).toI) (List.map (fun n => [AV.int IntKind.i64 n]) ds'120)) pi'105
        (s_rem ro (130 : Int)) (s_rem ow n'104) (s_rem no n'104)
        (IntKind.i64.wrap (s_rem de (2000000 : Int) - (1000000 : Int))) ==
      IntKind.i64.wrap (s_rem de (2000000 : Int) - (1000000 : Int))),
  []))))
      (Q ((AV.bool
    (s_dev k'113 a'114 f'115 t'116
        (List.map (fun r => (r.getD (0 : Nat) AV.gone).toI) (List.map (fun n => [AV.int IntKind.i64 n]) ds'120)) pi'105
        (s_rem ro (130 : Int)) (s_rem ow n'104) (s_rem no n'104)
        (IntKind.i64.wrap (s_rem de (2000000 : Int) - (1000000 : Int))) ==
      IntKind.i64.wrap (s_rem de (2000000 : Int) - (1000000 : Int))),
  []))))
     (Q ((AV.bool false, []))))
    (Q ((AV.bool false, [])))))
  (Q ((AV.bool false, [])))))))))))))))))))))))))))))))))) := by kernel_rfl
theorem nf3 (n pi e g fi : Int) (nl : Bool) (rs : List (List AV)) (k a f t : Int) (nl1 nl2 : Bool) (acts ds : List (List AV)) (wh x : Int) (Q : AV × List AObj → Prop) : inlW Try.prog H0 S11 6 (InO Try.prog H0 S11 6 6) 3 [cf n pi e g fi nl rs, .agg [.int .i64 k, .int .i64 a, .int .i64 f, .int .i64 t, .row nl1 [.int .i64, .int .i64, .str] acts, .row nl2 [.int .i64] ds], .int .i64 wh, .int .i64 x] [] Q = (
((Hyp (acts.length ≤ (9223372036854775807 : Nat))) ∧
((∀ (b101 : Bool),
((b101 = true →
  acts.length ≤ (50 : Nat) ∧ ds.length ≤ (50 : Nat) ∧ ∀ (r : List AV), r ∈ acts → (actText r).size ≤ (1200 : Nat)) →
br (!b101)
 (Q ((AV.bool true, [])))
 ((∀ (n'104 : Int),
 (∀ (pi'105 : Int),
 (∀ (e'106 : Int),
 (∀ (g'107 : Int),
 (∀ (fi'108 : Int),
 (∀ (nl'109 : Bool),
 (∀ (ps110 : List Int),
 ((s_made n'104 pi'105 e'106 g'107 fi'108 ps110) →
 ((Hyp ((6 : Int) ≤ n'104 ∧ n'104 ≤ (12 : Int))) ∧
 ((∀ (k'113 : Int),
 (∀ (a'114 : Int),
 (∀ (f'115 : Int),
 (∀ (t'116 : Int),
 (∀ (nl1'117 : Bool),
 (∀ (nl2'118 : Bool),
 (∀ (acts'119 : List (List AV)),
 (∀ (ds'120 : List Int),
 ((s_fok n'104 k'113 a'114 f'115 t'116 acts'119 ds'120) →
 ((Hyp ((0 : Int) ≤ n'104 ∧ n'104 ≤ (1000000 : Int) ∧ acts.length ≤ (9223372036854775807 : Nat))) ∧
 (((Hyp ((0 : Int) ≤ n'104 ∧ n'104 ≤ (1000000 : Int) ∧ acts.length ≤ (9223372036854775807 : Nat))) ∧
 (br (s_fcheck n'104 k a f t acts ds != s_fcheck n'104 k a f t acts ds)
  (Q ((AV.bool false, [])))
  (((Hyp ((0 : Int) ≤ n'104 ∧ n'104 ≤ (1000000 : Int) ∧ acts'119.length ≤ (9223372036854775807 : Nat))) ∧
  (br (s_fcheck n'104 k'113 a'114 f'115 t'116 acts'119 (List.map (fun n => [AV.int IntKind.i64 n]) ds'120) != (0 : Int))
   (Q ((AV.bool false, [])))
   (br (s_rem wh (7 : Int) == (0 : Int))
    (((Hyp ((0 : Int) ≤ n'104 ∧ n'104 ≤ (1000000 : Int) ∧ acts'119.length ≤ (9223372036854775807 : Nat))) ∧
    (((Hyp ((0 : Int) ≤ n'104 ∧ n'104 ≤ (1000000 : Int) ∧ acts'119.length ≤ (9223372036854775807 : Nat))) ∧
    (Q ((AV.bool
    (s_fcheck n'104 x a'114 f'115 t'116 acts'119 (List.map (fun n => [AV.int IntKind.i64 n]) ds'120) ==
      s_fcheck n'104 x a'114 f'115 t'116 acts'119 (List.map (fun n => [AV.int IntKind.i64 n]) ds'120)),
  [])))))))
    (br (s_rem wh (7 : Int) == (1 : Int))
     (chk ((0 : Int) ≤ s_rem x (4 : Int) ∧ s_rem x (4 : Int) < (4 : Int)) (chk ((0 : Nat) + (s_rem x (4 : Int)).toNat < (4 : Nat)) (((Hyp ((0 : Int) ≤ n'104 ∧ n'104 ≤ (1000000 : Int) ∧ acts'119.length ≤ (9223372036854775807 : Nat))) ∧
     (((Hyp ((0 : Int) ≤ n'104 ∧ n'104 ≤ (1000000 : Int) ∧ acts'119.length ≤ (9223372036854775807 : Nat))) ∧
     (Q ((AV.bool
    (s_fcheck n'104 k'113
        (([[AV.int IntKind.i64 (-1 : Int)], [AV.int IntKind.i64 n'104],
                    [AV.int IntKind.i64 (IntKind.i64.wrap ((2 : Int) * n'104))], [AV.int IntKind.i64 x]].getD
                ((0 : Nat) + (s_rem x (4 : Int)).toNat) []).getD
            (0 : Nat) AV.gone).toI
        f'115 t'116 acts'119 (List.map (fun n => [AV.int IntKind.i64 n]) ds'120) ==
      s_fcheck n'104 k'113
        (([[AV.int IntKind.i64 (-1 : Int)], [AV.int IntKind.i64 n'104],
                    [AV.int IntKind.i64 (IntKind.i64.wrap ((2 : Int) * n'104))], [AV.int IntKind.i64 x]].getD
                ((0 : Nat) + (s_rem x (4 : Int)).toNat) []).getD
            (0 : Nat) AV.gone).toI
        f'115 t'116 acts'119 (List.map (fun n => [AV.int IntKind.i64 n]) ds'120)),
  [])))))))))
     (br (s_rem wh (7 : Int) == (2 : Int))
      (((Hyp ((0 : Int) ≤ n'104 ∧ n'104 ≤ (1000000 : Int) ∧ acts'119.length ≤ (9223372036854775807 : Nat))) ∧
      (((Hyp ((0 : Int) ≤ n'104 ∧ n'104 ≤ (1000000 : Int) ∧ acts'119.length ≤ (9223372036854775807 : Nat))) ∧
      (Q ((AV.bool
    (s_fcheck n'104 k'113 a'114 x t'116 acts'119 (List.map (fun n => [AV.int IntKind.i64 n]) ds'120) ==
      s_fcheck n'104 k'113 a'114 x t'116 acts'119 (List.map (fun n => [AV.int IntKind.i64 n]) ds'120)),
  [])))))))
      (br (s_rem wh (7 : Int) == (3 : Int))
       (((Hyp ((0 : Int) ≤ n'104 ∧ n'104 ≤ (1000000 : Int) ∧ acts'119.length ≤ (9223372036854775807 : Nat))) ∧
       (((Hyp ((0 : Int) ≤ n'104 ∧ n'104 ≤ (1000000 : Int) ∧ acts'119.length ≤ (9223372036854775807 : Nat))) ∧
       (Q ((AV.bool
    (s_fcheck n'104 k'113 a'114 f'115 (IntKind.i64.wrap (IntKind.i64.wrap (f'115 - (1 : Int)) + s_rem x (2 : Int)))
        acts'119 (List.map (fun n => [AV.int IntKind.i64 n]) ds'120) ==
      s_fcheck n'104 k'113 a'114 f'115 (IntKind.i64.wrap (IntKind.i64.wrap (f'115 - (1 : Int)) + s_rem x (2 : Int)))
        acts'119 (List.map (fun n => [AV.int IntKind.i64 n]) ds'120)),
  [])))))))
       (br (s_rem wh (7 : Int) == (4 : Int))
        (((Hyp ((0 : Int) ≤ n'104 ∧ n'104 ≤ (1000000 : Int) ∧ acts'119.length ≤ (9223372036854775807 : Nat))) ∧
        (((Hyp ((0 : Int) ≤ n'104 ∧ n'104 ≤ (1000000 : Int) ∧ acts'119.length ≤ (9223372036854775807 : Nat))) ∧
        (Q ((AV.bool
    (s_fcheck n'104 k'113 a'114 (1000 : Int) (IntKind.i64.wrap ((1000 : Int) + s_rem x (2 : Int))) acts'119
        (List.map (fun n => [AV.int IntKind.i64 n]) ds'120) ==
      s_fcheck n'104 k'113 a'114 (1000 : Int) (IntKind.i64.wrap ((1000 : Int) + s_rem x (2 : Int))) acts'119
        (List.map (fun n => [AV.int IntKind.i64 n]) ds'120)),
  [])))))))
        (br (s_rem wh (7 : Int) == (5 : Int))
         (chk ((0 : Int) ≤ IntKind.i64.wrap ((39 : Int) + s_rem x (3 : Int)) ∧
  IntKind.i64.wrap ((39 : Int) + s_rem x (3 : Int)) ≤ IntKind.i64.wrap ((39 : Int) + s_rem x (3 : Int)) ∧
    (32 : Int) * IntKind.i64.wrap ((39 : Int) + s_rem x (3 : Int)) ≤ (140737488355328 : Int)) (chk (IntKind.i64.wrap ((39 : Int) + s_rem x (3 : Int)) ≤ (9223372036854775807 : Int)) (chk ((0 : Nat) + (IntKind.i64.wrap ((39 : Int) + s_rem x (3 : Int))).toNat ≤
  (List.replicate (IntKind.i64.wrap ((39 : Int) + s_rem x (3 : Int))).toNat
      [AV.int IntKind.i64 (0 : Int), AV.int IntKind.i64 (0 : Int), AV.str (ByteArray.mk #[])]).length) (chk ((0 : Nat) + (IntKind.i64.wrap ((39 : Int) + s_rem x (3 : Int))).toNat ≤
  (List.replicate (IntKind.i64.wrap ((39 : Int) + s_rem x (3 : Int))).toNat
      [AV.int IntKind.i64 (0 : Int), AV.int IntKind.i64 (0 : Int), AV.str (ByteArray.mk #[])]).length) (((Hyp ((0 : Int) ≤ n'104 ∧
  n'104 ≤ (1000000 : Int) ∧
    (List.take (IntKind.i64.wrap ((39 : Int) + s_rem x (3 : Int))).toNat
          (List.drop (0 : Nat)
            (List.replicate (IntKind.i64.wrap ((39 : Int) + s_rem x (3 : Int))).toNat
              [AV.int IntKind.i64 (0 : Int), AV.int IntKind.i64 (0 : Int), AV.str (ByteArray.mk #[])]))).length ≤
      (9223372036854775807 : Nat))) ∧
         (chk ((0 : Nat) + (IntKind.i64.wrap ((39 : Int) + s_rem x (3 : Int))).toNat ≤
  (List.replicate (IntKind.i64.wrap ((39 : Int) + s_rem x (3 : Int))).toNat
      [AV.int IntKind.i64 (0 : Int), AV.int IntKind.i64 (0 : Int), AV.str (ByteArray.mk #[])]).length) (((Hyp ((0 : Int) ≤ n'104 ∧
  n'104 ≤ (1000000 : Int) ∧
    (List.take (IntKind.i64.wrap ((39 : Int) + s_rem x (3 : Int))).toNat
          (List.drop (0 : Nat)
            (List.replicate (IntKind.i64.wrap ((39 : Int) + s_rem x (3 : Int))).toNat
              [AV.int IntKind.i64 (0 : Int), AV.int IntKind.i64 (0 : Int), AV.str (ByteArray.mk #[])]))).length ≤
      (9223372036854775807 : Nat))) ∧
         (Q ((AV.bool
    (s_fcheck n'104 k'113 a'114 f'115 t'116
        (List.take (IntKind.i64.wrap ((39 : Int) + s_rem x (3 : Int))).toNat
          (List.drop (0 : Nat)
            (List.replicate (IntKind.i64.wrap ((39 : Int) + s_rem x (3 : Int))).toNat
              [AV.int IntKind.i64 (0 : Int), AV.int IntKind.i64 (0 : Int), AV.str (ByteArray.mk #[])])))
        (List.map (fun n => [AV.int IntKind.i64 n]) ds'120) ==
      s_fcheck n'104 k'113 a'114 f'115 t'116
        (List.take (IntKind.i64.wrap ((39 : Int) + s_rem x (3 : Int))).toNat
          (List.drop (0 : Nat)
            (List.replicate (IntKind.i64.wrap ((39 : Int) + s_rem x (3 : Int))).toNat
              [AV.int IntKind.i64 (0 : Int), AV.int IntKind.i64 (0 : Int), AV.str (ByteArray.mk #[])])))
        (List.map (fun n => [AV.int IntKind.i64 n]) ds'120)),
  []))))))))))))
         (br (s_rem wh (7 : Int) == (6 : Int))
          (chk ((0 : Int) ≤ IntKind.i64.wrap ((999 : Int) + s_rem x (3 : Int)) ∧
  IntKind.i64.wrap ((999 : Int) + s_rem x (3 : Int)) ≤ IntKind.i64.wrap ((999 : Int) + s_rem x (3 : Int)) ∧
    (1 : Int) * IntKind.i64.wrap ((999 : Int) + s_rem x (3 : Int)) ≤ (140737488355328 : Int)) (chk (IntKind.i64.wrap ((999 : Int) + s_rem x (3 : Int)) ≤ (9223372036854775807 : Int)) (chk ((0 : Nat) + (IntKind.i64.wrap ((999 : Int) + s_rem x (3 : Int))).toNat ≤
  (List.replicate (IntKind.i64.wrap ((999 : Int) + s_rem x (3 : Int))).toNat [AV.int IntKind.u8 (0 : Int)]).length) (((Hyp ((0 : Int) ≤ n'104 ∧ n'104 ≤ (1000000 : Int) ∧ (2 : Nat) ≤ (9223372036854775807 : Nat))) ∧
          (((Hyp ((0 : Int) ≤ n'104 ∧ n'104 ≤ (1000000 : Int) ∧ (2 : Nat) ≤ (9223372036854775807 : Nat))) ∧
          (Q ((AV.bool
    (s_fcheck n'104 k'113 a'114 f'115 t'116
        [[AV.int IntKind.i64 (0 : Int), AV.int IntKind.i64 (0 : Int), AV.str (ByteArray.mk #[])],
          [AV.int IntKind.i64 (0 : Int), AV.int IntKind.i64 (0 : Int),
            AV.str
              {
                data :=
                  (rowsBytes
                      (List.take (IntKind.i64.wrap ((999 : Int) + s_rem x (3 : Int))).toNat
                        (List.drop (0 : Nat)
                          (List.replicate (IntKind.i64.wrap ((999 : Int) + s_rem x (3 : Int))).toNat
                            [AV.int IntKind.u8 (0 : Int)])))).toArray }]]
        (List.map (fun n => [AV.int IntKind.i64 n]) ds'120) ==
      s_fcheck n'104 k'113 a'114 f'115 t'116
        [[AV.int IntKind.i64 (0 : Int), AV.int IntKind.i64 (0 : Int), AV.str (ByteArray.mk #[])],
          [AV.int IntKind.i64 (0 : Int), AV.int IntKind.i64 (0 : Int),
            AV.str
              {
                data :=
                  (rowsBytes
                      (List.take (IntKind.i64.wrap ((999 : Int) + s_rem x (3 : Int))).toNat
                        (List.drop (0 : Nat)
                          (List.replicate (IntKind.i64.wrap ((999 : Int) + s_rem x (3 : Int))).toNat
                            [AV.int IntKind.u8 (0 : Int)])))).toArray }]]
        (List.map (fun n => [AV.int IntKind.i64 n]) ds'120)),
  []))))))))))
          (((Hyp ((0 : Int) ≤ n'104 ∧ n'104 ≤ (1000000 : Int) ∧ acts'119.length ≤ (9223372036854775807 : Nat))) ∧
          (((Hyp ((0 : Int) ≤ n'104 ∧ n'104 ≤ (1000000 : Int) ∧ acts'119.length ≤ (9223372036854775807 : Nat))) ∧
          (Q ((AV.bool
    (s_fcheck n'104 k'113 a'114 f'115 t'116 acts'119 (List.map (fun n => [AV.int IntKind.i64 n]) ds'120) ==
      s_fcheck n'104 k'113 a'114 f'115 t'116 acts'119 (List.map (fun n => [AV.int IntKind.i64 n]) ds'120)),
  [])))))))))))))))))))))))))))))))))))))))))))))) := by kernel_rfl
end Go.Proofs.YtikmaidjpffakaaE
