/- Links and fronts of the document: specs. -/
import Derived.Test.YtiemjcchlfbglaaGreatBcM
import Derived.KernelRfl
namespace Go.Proofs.YtiemjcchlfbglaaGreatE
open Go
set_option linter.unusedVariables false

def sFrT : SW := fun args h Q => match args, h with
  | [.str x, .str y], [] => ∀ (b : Bool) (x' y' : ByteArray), x' = x → y' = y → (s_front x' y' → b = true) → Q (.bool b, [])
  | _, _ => False
/-- A stream with its tail. -/
def s_whole (x : ByteArray) : Prop := s_cl x ∧ 0 < x.size ∧ (bl x).getLast? = some 35
def sWhT : SW := fun args h Q => match args, h with
  | [.str x], [] => Hyp (x.size ≤ 1000000) ∧ ∀ (b : Bool) (x' : ByteArray), x' = x → (b = true → s_whole x') → Q (.bool b, [])
  | _, _ => False
def sCleanR : SW := fun args h Q => match args, h with
  | [.str s], [] => Hyp (s.size ≤ 1000000) ∧ Q (.str (s_clean s), [])
  | _, _ => False
def Z0L : Sp := ⟨Y3.fn, [(17, 2, lRefLink), (24, 2, lCleanD)]⟩
def Z0 : Sp := ⟨(24, sCleanR) :: Y3.fn, []⟩
def Z1 : Sp := ⟨(17, sRefLink) :: (19, sFrT) :: (23, sWhT) :: Z0.fn, []⟩
end Go.Proofs.YtiemjcchlfbglaaGreatE
/- What path mode says of functions, printed by a program of this session; the kernel holds each. -/
namespace Go.Proofs.YtiemjcchlfbglaaGreatE
open Go
set_option maxRecDepth 100000
set_option linter.unusedVariables false
theorem nfRLink (n a b : Int) (Q : AV × List AObj → Prop) : inlW Tryz.prog H0 Z0L 6 (InO Tryz.prog H0 Z0L 6 6) 17 [.int .i64 n, .int .i64 a, .int .i64 b] [] Q = (
((Hyp ((0 : Int) < n ∧ n ≤ (1000 : Int) ∧ (0 : Int) ≤ (0 : Int) ∧ (0 : Int) ≤ (2 : Int) * n)) ∧
(((((refL n a b ((2 : Int) * n - (0 : Int)).toNat (0 : Int) = none) →
Q ((AV.tup [AV.int IntKind.i64 (0 : Int), AV.bool false], [])))) ∧
((∀ (m102 : Int),
((refL n a b ((2 : Int) * n - (0 : Int)).toNat (0 : Int) = some m102) →
Q ((AV.tup [AV.int IntKind.i64 m102, AV.bool true], []))))))))) := by kernel_rfl
theorem nfRLinka (n a b k : Int) (Q : Ex → List AV → List AObj → Prop) : lpBody Tryz.prog H0 Y3 6 6 17 2 [.int .i64 n, .int .i64 a, .int .i64 b, .int .i64 k] [] Q = (
br (decide (k < IntKind.i64.wrap ((2 : Int) * n)))
 (br (decide (k < n))
  (chk (n ≠ (0 : Int)) (br (k == a)
   (br ((IntKind.i64.wrap (k + (1 : Int))).tmod n == b)
    (Q (Ex.ret) ([AV.int IntKind.i64 k, AV.bool true]) ([]))
    (br (k == b)
     (br ((IntKind.i64.wrap (k + (1 : Int))).tmod n == a)
      (Q (Ex.ret) ([AV.int IntKind.i64 k, AV.bool true]) ([]))
      (Q (Ex.nrm) ([AV.int IntKind.i64 n, AV.int IntKind.i64 a, AV.int IntKind.i64 b,
  AV.int IntKind.i64 (IntKind.i64.wrap (k + (1 : Int)))]) ([])))
     (Q (Ex.nrm) ([AV.int IntKind.i64 n, AV.int IntKind.i64 a, AV.int IntKind.i64 b,
  AV.int IntKind.i64 (IntKind.i64.wrap (k + (1 : Int)))]) ([]))))
   (br (k == b)
    (br ((IntKind.i64.wrap (k + (1 : Int))).tmod n == a)
     (Q (Ex.ret) ([AV.int IntKind.i64 k, AV.bool true]) ([]))
     (Q (Ex.nrm) ([AV.int IntKind.i64 n, AV.int IntKind.i64 a, AV.int IntKind.i64 b,
  AV.int IntKind.i64 (IntKind.i64.wrap (k + (1 : Int)))]) ([])))
    (Q (Ex.nrm) ([AV.int IntKind.i64 n, AV.int IntKind.i64 a, AV.int IntKind.i64 b,
  AV.int IntKind.i64 (IntKind.i64.wrap (k + (1 : Int)))]) ([])))))
  (chk (n ≠ (0 : Int)) (br (IntKind.i64.wrap (k - n) == a)
   (br ((IntKind.i64.wrap (IntKind.i64.wrap (k - n) + (2 : Int))).tmod n == b)
    (Q (Ex.ret) ([AV.int IntKind.i64 k, AV.bool true]) ([]))
    (br (IntKind.i64.wrap (k - n) == b)
     (br ((IntKind.i64.wrap (IntKind.i64.wrap (k - n) + (2 : Int))).tmod n == a)
      (Q (Ex.ret) ([AV.int IntKind.i64 k, AV.bool true]) ([]))
      (Q (Ex.nrm) ([AV.int IntKind.i64 n, AV.int IntKind.i64 a, AV.int IntKind.i64 b,
  AV.int IntKind.i64 (IntKind.i64.wrap (k + (1 : Int)))]) ([])))
     (Q (Ex.nrm) ([AV.int IntKind.i64 n, AV.int IntKind.i64 a, AV.int IntKind.i64 b,
  AV.int IntKind.i64 (IntKind.i64.wrap (k + (1 : Int)))]) ([]))))
   (br (IntKind.i64.wrap (k - n) == b)
    (br ((IntKind.i64.wrap (IntKind.i64.wrap (k - n) + (2 : Int))).tmod n == a)
     (Q (Ex.ret) ([AV.int IntKind.i64 k, AV.bool true]) ([]))
     (Q (Ex.nrm) ([AV.int IntKind.i64 n, AV.int IntKind.i64 a, AV.int IntKind.i64 b,
  AV.int IntKind.i64 (IntKind.i64.wrap (k + (1 : Int)))]) ([])))
    (Q (Ex.nrm) ([AV.int IntKind.i64 n, AV.int IntKind.i64 a, AV.int IntKind.i64 b,
  AV.int IntKind.i64 (IntKind.i64.wrap (k + (1 : Int)))]) ([]))))))
 (Q (Ex.exit (0 : Nat)) ([]) ([]))) := by kernel_rfl
theorem nfRClean (s : ByteArray) (Q : AV × List AObj → Prop) : inlW Tryz.prog H0 Z0L 6 (InO Tryz.prog H0 Z0L 6 6) 24 [.str s] [] Q = (
((Hyp ((0 : Int) ≤ (0 : Int) ∧
  (0 : Int) ≤ (↑s.size : Int) ∧
    (↑s.size : Int) ≤ (4611686018427387904 : Int) ∧
      cleanN s.data.toList = (0 : Nat) + cleanN (List.drop (Int.toNat (0 : Int)) s.data.toList))) ∧
(((((cleanN s.data.toList = s.size) →
Q ((AV.str s, [])))) ∧
(Q ((AV.str (s_clean s), []))))))) := by kernel_rfl
theorem nfRCleana (s : ByteArray) (i : Int) (Q : Ex → List AV → List AObj → Prop) : lpBody Tryz.prog H0 Y3 6 6 24 2 [.str s, .int .i64 i] [] Q = (
br (decide (i < (↑s.size : Int)))
 (chk ((0 : Int) ≤ i ∧ i < (↑s.size : Int)) (br ((↑(s.data.toList.getD i.toNat (0 : UInt8)).toNat : Int) == (48 : Int))
  (chk ((0 : Int) ≤ i ∧ i < (↑s.size : Int)) (br ((↑(s.data.toList.getD i.toNat (0 : UInt8)).toNat : Int) == (35 : Int))
   (chk ((0 : Int) ≤ IntKind.i64.wrap (i + (1 : Int)) ∧ IntKind.i64.wrap (i + (1 : Int)) ≤ (↑s.size : Int)) (Q (Ex.ret) ([AV.str (s.extract (0 : Nat) (IntKind.i64.wrap (i + (1 : Int))).toNat)]) ([])))
   (Q (Ex.nrm) ([AV.str s, AV.int IntKind.i64 (IntKind.i64.wrap (i + (1 : Int)))]) ([]))))
  (br ((↑(s.data.toList.getD i.toNat (0 : UInt8)).toNat : Int) == (49 : Int))
   (chk ((0 : Int) ≤ i ∧ i < (↑s.size : Int)) (br ((↑(s.data.toList.getD i.toNat (0 : UInt8)).toNat : Int) == (35 : Int))
    (chk ((0 : Int) ≤ IntKind.i64.wrap (i + (1 : Int)) ∧ IntKind.i64.wrap (i + (1 : Int)) ≤ (↑s.size : Int)) (Q (Ex.ret) ([AV.str (s.extract (0 : Nat) (IntKind.i64.wrap (i + (1 : Int))).toNat)]) ([])))
    (Q (Ex.nrm) ([AV.str s, AV.int IntKind.i64 (IntKind.i64.wrap (i + (1 : Int)))]) ([]))))
   (br (!(↑(s.data.toList.getD i.toNat (0 : UInt8)).toNat : Int) == (35 : Int))
    (chk ((0 : Int) ≤ i ∧ i ≤ (↑s.size : Int)) (Q (Ex.ret) ([AV.str (s.extract (0 : Nat) i.toNat)]) ([])))
    (chk ((0 : Int) ≤ i ∧ i < (↑s.size : Int)) (br ((↑(s.data.toList.getD i.toNat (0 : UInt8)).toNat : Int) == (35 : Int))
     (chk ((0 : Int) ≤ IntKind.i64.wrap (i + (1 : Int)) ∧ IntKind.i64.wrap (i + (1 : Int)) ≤ (↑s.size : Int)) (Q (Ex.ret) ([AV.str (s.extract (0 : Nat) (IntKind.i64.wrap (i + (1 : Int))).toNat)]) ([])))
     (Q (Ex.nrm) ([AV.str s, AV.int IntKind.i64 (IntKind.i64.wrap (i + (1 : Int)))]) ([]))))))))
 (Q (Ex.exit (0 : Nat)) ([AV.str s]) ([]))) := by kernel_rfl
theorem nfFrT (x y : ByteArray) (Q : AV × List AObj → Prop) : inlW Tryz.prog H0 Z0 6 (InO Tryz.prog H0 Z0 6 6) 19 [.str x, .str y] [] Q = (
br (decide ((↑x.size : Int) ≤ (↑y.size : Int)))
 (chk ((0 : Int) ≤ (↑x.size : Int) ∧ (↑x.size : Int) ≤ (↑y.size : Int)) (Q ((AV.bool ((y.extract (0 : Nat) (↑x.size : Int).toNat).toList == x.toList), []))))
 (Q ((AV.bool false, [])))) := by kernel_rfl
theorem nfWhT (x : ByteArray) (Q : AV × List AObj → Prop) : inlW Tryz.prog H0 Z0 6 (InO Tryz.prog H0 Z0 6 6) 23 [.str x] [] Q = (
br (!x.toList == (ByteArray.mk #[]).toList)
 (((Hyp (x.size ≤ (1000000 : Nat))) ∧
 (br ((s_clean x).toList == x.toList)
  (chk ((0 : Int) ≤ IntKind.i64.wrap ((↑x.size : Int) - (1 : Int)) ∧
  IntKind.i64.wrap ((↑x.size : Int) - (1 : Int)) < (↑x.size : Int)) (Q ((AV.bool
    ((↑(x.data.toList.getD (IntKind.i64.wrap ((↑x.size : Int) - (1 : Int))).toNat (0 : UInt8)).toNat : Int) ==
      (35 : Int)),
  []))))
  (Q ((AV.bool false, []))))))
 (Q ((AV.bool false, [])))) := by kernel_rfl
end Go.Proofs.YtiemjcchlfbglaaGreatE
/- Links and fronts of the document: the specs hold; what is contained. -/
namespace Go.Proofs.YtiemjcchlfbglaaGreatE
open Go
set_option linter.unusedVariables false
set_option linter.unusedSimpArgs false
set_option maxRecDepth 100000

theorem loopZ_eq (bs : ByteArray) : ∀ (k i : Nat) (r : List UInt8), bs.size - i = k → ByteArray.toList.loop bs i r = r.reverse ++ bs.data.toList.drop i
  | 0, i, r, h => by
    rw [ByteArray.toList.loop, if_neg (by omega), List.drop_eq_nil_of_le (by rw [Array.length_toList]; show bs.size ≤ i; omega), List.append_nil]
  | k + 1, i, r, h => by
    have hi : i < bs.size := by omega
    rw [ByteArray.toList.loop, if_pos hi, loopZ_eq bs k (i + 1) _ (by omega), drop_cons hi]
    have : bs.get! i = bs[i] := by
      simp only [ByteArray.get!]
      exact getElem!_pos bs.data i hi
    rw [this]
    simp
theorem toListZ (bs : ByteArray) : bs.toList = bs.data.toList := by
  unfold ByteArray.toList
  rw [loopZ_eq bs _ 0 [] rfl]
  rfl
theorem okLCleanD : OkLp Tryz.prog H0 24 2 lCleanD := by
  refine okLp_of (U := 6) (k := 6) okY3 lCleanD (fun vals _ => match vals with | [.str s, .int _ i] => ((s.size : Int) - i).toNat | _ => 0) fun vals h Q hl => ?_
  unfold lCleanD at hl
  split at hl
  · rename_i s i
    obtain ⟨⟨h0, h1, hz, he⟩, hq1, hq2⟩ := hyp_iff.1 hl
    refine to (nfRCleana ..) (br_intro (fun hc => ?_) fun hc => ?_)
    · have hc := of_decide_eq_true hc
      have w2 : IntKind.i64.wrap (i + 1) = i + 1 := wr (by omega) (by omega)
      rw [w2]
      obtain ⟨p, rfl⟩ : ∃ p : Nat, i = p := ⟨i.toNat, by omega⟩
      have hp : p < s.size := by omega
      simp only [Int.toNat_natCast] at he ⊢
      rw [getD_byte hp]
      obtain ⟨c1, c2, c3⟩ := clean_step hp he
      have hnext : s[p].toNat = 48 ∨ s[p].toNat = 49 → stepQ lCleanD (fun vals _ => match vals with | [.str s, .int _ i] => ((s.size : Int) - i).toNat | _ => 0) [.str s, .int .i64 p] [] Q .nrm [.str s, .int .i64 ((p : Int) + 1)] [] := fun hb =>
        ⟨by show ((s.size : Int) - (p + 1)).toNat < ((s.size : Int) - p).toNat; omega, hyp_iff.2 ⟨⟨by omega, by omega, hz, by rw [show ((p : Int) + 1).toNat = p + 1 by omega]; exact c2 hb⟩, hq1, hq2⟩⟩
      have e1 : ((p : Int) + 1).toNat = p + 1 := by omega
      rw [e1]
      have hc' : (0 : Int) ≤ p ∧ (p : Int) < s.size := by omega
      have hc2 : (0 : Int) ≤ p + 1 ∧ (p : Int) + 1 ≤ s.size := by omega
      refine chk_iff.2 ⟨hc', br_intro (fun h48 => chk_iff.2 ⟨hc', br_intro (fun h35 => ?_) fun h35 => hnext (.inl (by simp only [Bool.not_eq_true', Bool.not_eq_false', beq_iff_eq, beq_eq_false_iff_ne] at h48; omega))⟩) fun h48 => br_intro (fun h49 => chk_iff.2 ⟨hc', br_intro (fun h35 => ?_) fun h35 => hnext (.inr (by simp only [Bool.not_eq_true', Bool.not_eq_false', beq_iff_eq, beq_eq_false_iff_ne] at h49; omega))⟩) fun h49 => br_intro (fun h35 => ?_) fun h35 =>
        chk_iff.2 ⟨hc', br_intro (fun h35' => ?_) fun h35' => ?_⟩⟩
      · exfalso; simp only [Bool.not_eq_true', Bool.not_eq_false', beq_iff_eq, beq_eq_false_iff_ne] at h48 h35; omega
      · exfalso; simp only [Bool.not_eq_true', Bool.not_eq_false', beq_iff_eq, beq_eq_false_iff_ne] at h49 h35; omega
      · refine chk_iff.2 ⟨by omega, ?_⟩
        rw [← c3 (by simp only [Bool.not_eq_true', Bool.not_eq_false', beq_iff_eq, beq_eq_false_iff_ne] at h35; omega) (by simp only [Bool.not_eq_true', Bool.not_eq_false', beq_iff_eq, beq_eq_false_iff_ne] at h48; omega) (by simp only [Bool.not_eq_true', Bool.not_eq_false', beq_iff_eq, beq_eq_false_iff_ne] at h49; omega)]; exact hq2
      · refine chk_iff.2 ⟨hc2, ?_⟩
        rw [← c1 (by simp only [Bool.not_eq_true', Bool.not_eq_false', beq_iff_eq, beq_eq_false_iff_ne] at h35'; omega)]; exact hq2
      · exfalso; simp only [Bool.not_eq_true', Bool.not_eq_false', beq_iff_eq, beq_eq_false_iff_ne] at h35 h35'; omega
    · have hc := of_decide_eq_false hc
      refine hq1 ?_
      rw [he, List.drop_eq_nil_of_le (by simp; omega)]
      simp only [cleanN]; omega
  · exact hl.elim
theorem okLRefLink : OkLp Tryz.prog H0 17 2 lRefLink := by
  refine okLp_of (U := 6) (k := 6) okY3 lRefLink (fun vals _ => match vals with | [.int _ n, _, _, .int _ k] => (2 * n - k).toNat | _ => 0) fun vals h Q hl => ?_
  unfold lRefLink at hl
  split at hl
  · rename_i n a b k
    obtain ⟨⟨h0, h1, h2, h3⟩, hq1, hq2⟩ := hyp_iff.1 hl
    refine to (nfRLinka ..) ?_
    have w1 : IntKind.i64.wrap (2 * n) = 2 * n := wr (by omega) (by omega)
    have w2 : IntKind.i64.wrap (k + 1) = k + 1 := wr (by omega) (by omega)
    have w3 : IntKind.i64.wrap (k - n) = k - n := wr (by omega) (by omega)
    have w4 : IntKind.i64.wrap (k - n + 2) = k - n + 2 := wr (by omega) (by omega)
    rw [w1, w2, w3, w4]
    refine br_intro (fun hc => ?_) fun hc => ?_
    · have hc := of_decide_eq_true hc
      obtain ⟨u, hu⟩ : ∃ u, (2 * n - k).toNat = u + 1 := ⟨(2 * n - k).toNat - 1, by omega⟩
      have hu2 : (2 * n - (k + 1)).toNat = u := by omega
      rw [hu] at hq1 hq2
      simp only [refL] at hq1 hq2
      have t1 : ∀ x : Int, 0 ≤ x → x.tmod n = s_rem x n := fun x hx => by unfold s_rem; exact Int.tmod_eq_emod_of_nonneg hx
      rw [t1 (k + 1) (by omega)]
      have hno : ¬ (if k < n then (k = a ∧ s_rem (k + 1) n = b) ∨ (k = b ∧ s_rem (k + 1) n = a) else (k - n = a ∧ s_rem (k - n + 2) n = b) ∨ (k - n = b ∧ s_rem (k - n + 2) n = a)) →
          stepQ lRefLink (fun vals _ => match vals with | [.int _ n, _, _, .int _ k] => (2 * n - k).toNat | _ => 0) [.int .i64 n, .int .i64 a, .int .i64 b, .int .i64 k] [] Q .nrm [.int .i64 n, .int .i64 a, .int .i64 b, .int .i64 (k + 1)] [] := fun hn => by
        rw [if_neg hn] at hq1 hq2
        refine ⟨by show (2 * n - (k + 1)).toNat < (2 * n - k).toNat; omega, hyp_iff.2 ⟨⟨h0, h1, by omega, by omega⟩, ?_⟩⟩
        rw [hu2]; exact ⟨hq1, hq2⟩
      have hyes : (if k < n then (k = a ∧ s_rem (k + 1) n = b) ∨ (k = b ∧ s_rem (k + 1) n = a) else (k - n = a ∧ s_rem (k - n + 2) n = b) ∨ (k - n = b ∧ s_rem (k - n + 2) n = a)) →
          Q .ret [.int .i64 k, .bool true] [] := fun hn => hq2 k (by rw [if_pos hn])
      refine br_intro (fun hk => ?_) fun hk => ?_
      · have hk := of_decide_eq_true hk
        rw [if_pos hk] at hno hyes
        refine chk_iff.2 ⟨by omega, ?_⟩
        refine br_intro (fun c1 => br_intro (fun c2 => ?_) fun c2 => br_intro (fun c3 => br_intro (fun c4 => ?_) fun c4 => ?_) fun c3 => ?_) fun c1 => br_intro (fun c3 => br_intro (fun c4 => ?_) fun c4 => ?_) fun c3 => ?_
        all_goals simp only [beq_iff_eq, beq_eq_false_iff_ne] at *
        all_goals first | exact hyes (.inl ⟨c1, c2⟩) | exact hyes (.inr ⟨c3, c4⟩) | exact hno (by omega)
      · have hk := of_decide_eq_false hk
        rw [if_neg hk] at hno hyes
        rw [t1 (k - n + 2) (by omega)]
        refine chk_iff.2 ⟨by omega, ?_⟩
        refine br_intro (fun c1 => br_intro (fun c2 => ?_) fun c2 => br_intro (fun c3 => br_intro (fun c4 => ?_) fun c4 => ?_) fun c3 => ?_) fun c1 => br_intro (fun c3 => br_intro (fun c4 => ?_) fun c4 => ?_) fun c3 => ?_
        all_goals simp only [beq_iff_eq, beq_eq_false_iff_ne] at *
        all_goals first | exact hyes (.inl ⟨c1, c2⟩) | exact hyes (.inr ⟨c3, c4⟩) | exact hno (by omega)
    · have hc := of_decide_eq_false hc
      refine hq1 ?_
      rw [show (2 * n - k).toNat = 0 by omega]; rfl
  · exact hl.elim
theorem okZ0L : OkSp Tryz.prog H0 Z0L := ⟨okY3.fn, okLRefLink, okLCleanD, trivial⟩
theorem ref_link {n : Int} (h1 : 6 ≤ n) (h2 : n ≤ 12) {a b : Int} (ha : 0 ≤ a) (ha2 : a < n) (hb : 0 ≤ b) (hb2 : b < n) : refL n a b (2 * n - 0).toNat 0 = s_linkO n a b := by
  have key : ((List.range 7).all fun m => (List.range 12).all fun x => (List.range 12).all fun y => !(decide (x < m + 6) && decide (y < m + 6)) || decide (refL ((m + 6 : Nat) : Int) x y (2 * ((m + 6 : Nat) : Int) - 0).toNat 0 = s_linkO ((m + 6 : Nat) : Int) x y)) = true := by decide +kernel
  have := List.all_eq_true.1 (List.all_eq_true.1 (List.all_eq_true.1 key (n - 6).toNat (by simp; omega)) a.toNat (by simp; omega)) b.toNat (by simp; omega)
  have d1 : decide (a.toNat < (n - 6).toNat + 6) = true := decide_eq_true (by omega)
  have d2 : decide (b.toNat < (n - 6).toNat + 6) = true := decide_eq_true (by omega)
  rw [d1, d2] at this
  have := of_decide_eq_true this
  rwa [show (((n - 6).toNat + 6 : Nat) : Int) = n by omega, show (a.toNat : Int) = a by omega, show (b.toNat : Int) = b by omega] at this
theorem okRLink : OkS Tryz.prog H0 17 sRefLink := by
  intro args h Q hq
  unfold sRefLink at hq
  split at hq
  · rename_i n a b
    obtain ⟨⟨h1, h2, h3, h4, h5, h6⟩, hq⟩ := hyp_iff.1 hq
    have e := ref_link h1 h2 h3 h4 h5 h6
    refine in_ok (S := Z0L) (U := 6) (k := 6) okZ0L (to (nfRLink ..) (hyp_iff.2 ⟨by omega, fun hn => ?_, fun m hm => ?_⟩))
    · rw [e] at hn
      simp only [s_linkN, s_linkB, hn] at hq; exact hq
    · rw [e] at hm
      simp only [s_linkN, s_linkB, hm] at hq; exact hq
  · exact hq.elim
theorem okRClean : OkS Tryz.prog H0 24 sCleanR := by
  intro args h Q hq
  unfold sCleanR at hq
  split at hq
  · obtain ⟨h0, hq⟩ := hyp_iff.1 hq
    refine in_ok (S := Z0L) (U := 6) (k := 6) okZ0L (to (nfRClean ..) (hyp_iff.2 ⟨⟨by omega, by omega, by omega, by rw [show (0 : Int).toNat = 0 from rfl, List.drop_zero]; omega⟩, fun he => ?_, hq⟩))
    rw [clean_end he] at hq; exact hq
  · exact hq.elim
theorem okZ0 : OkSp Tryz.prog H0 Z0 := ⟨⟨okRClean, okY3.fn⟩, trivial⟩
theorem front_ext {x y : ByteArray} (h : s_front x y) : x.size ≤ y.size ∧ y.extract 0 x.size = x := by
  obtain ⟨m, hm⟩ := h
  have hl : x.size = min m y.size := by rw [← bl_len x, hm, List.length_take, bl_len]
  refine ⟨by omega, bl_inj ?_⟩
  rw [bl_ext, hl, hm]
  by_cases h : m ≤ y.size
  · rw [Nat.min_eq_left h]
  · rw [Nat.min_eq_right (by omega), List.take_of_length_le (by rw [bl_len]; exact Nat.le_refl _), List.take_of_length_le (by rw [bl_len]; omega)]
theorem okFrT : OkS Tryz.prog H0 19 sFrT := by
  intro args h Q hq
  unfold sFrT at hq
  split at hq
  · rename_i x y
    refine in_ok (S := Z0) (U := 6) (k := 6) okZ0 (to (nfFrT ..) (br_intro (fun c => ?_) fun c => ?_))
    · have c := of_decide_eq_true c
      rw [chk_iff]
      refine ⟨⟨by omega, c⟩, hq _ x y rfl rfl fun hf => ?_⟩
      rw [Int.toNat_natCast, (front_ext hf).2]
      simp
    · have c := of_decide_eq_false c
      exact hq _ x y rfl rfl fun hf => absurd (front_ext hf).1 (by omega)
  · exact hq.elim
theorem okWhT : OkS Tryz.prog H0 23 sWhT := by
  intro args h Q hq
  unfold sWhT at hq
  split at hq
  · rename_i x
    obtain ⟨h1, hq⟩ := hyp_iff.1 hq
    refine in_ok (S := Z0) (U := 6) (k := 6) okZ0 (to (nfWhT ..) (br_intro (fun c => hyp_iff.2 ⟨h1, br_intro (fun c2 => ?_) fun _ => hq _ x rfl fun h => by cases h⟩) fun _ => hq _ x rfl fun h => by cases h))
    have hx : 0 < x.size := by
      rcases Nat.eq_zero_or_pos x.size with h0 | h0
      · exfalso
        have : x = (⟨#[]⟩ : ByteArray) := by apply ByteArray.ext; apply Array.eq_empty_of_size_eq_zero; exact h0
        rw [this] at c
        simp at c
      · exact h0
    rw [wr (x := (x.size : Int) - 1) (by omega) (by omega), chk_iff]
    refine ⟨by omega, hq _ x rfl fun hb => ⟨?_, hx, ?_⟩⟩
    · rw [cl_iff]
      have c2 := eq_of_beq c2
      rw [toListZ, toListZ] at c2
      exact bl_inj c2
    · have hb := eq_of_beq hb
      have e : ((x.size : Int) - 1).toNat = x.size - 1 := by omega
      rw [e] at hb
      have hl : x.size - 1 < (bl x).length := by rw [bl_len]; omega
      rw [List.getLast?_eq_getElem?, bl_len, List.getElem?_eq_getElem hl]
      have hg : (bl x).getD (x.size - 1) 0 = (bl x)[x.size - 1] := by rw [List.getD_eq_getElem?_getD, List.getElem?_eq_getElem hl]; rfl
      have hb : ((bl x).getD (x.size - 1) 0).toNat = 35 := by
        have hb2 : (((bl x).getD (x.size - 1) 0).toNat : Int) = 35 := hb
        omega
      rw [hg] at hb
      rw [← (UInt8.toNat_inj.1 (hb.trans (by decide : 35 = (35 : UInt8).toNat)))]
  · exact hq.elim
theorem okZ1 : OkSp Tryz.prog H0 Z1 := ⟨⟨okRLink, okFrT, okWhT, okZ0.fn⟩, trivial⟩
theorem last_all : ∀ (l : List UInt8) (m : Nat), cleanN l = l.length → (l.take m).getLast? = some 35 → l.take m = l
  | [], m, _, h => by simp at h
  | b :: l, 0, _, h => by simp at h
  | b :: l, m + 1, hc, h => by
    rw [List.take_succ_cons] at h ⊢
    simp only [cleanN, List.length_cons] at hc
    by_cases h35 : b = 35
    · rw [if_pos h35] at hc
      have hl : l = [] := List.eq_nil_of_length_eq_zero (by omega)
      rw [hl]
      simp
    · rw [if_neg h35] at hc
      have hc : cleanN l = l.length := by
        split at hc <;> omega
      cases ht : l.take m with
      | nil =>
        rw [ht] at h
        simp at h
        exact absurd h h35
      | cons c t =>
        rw [ht, List.getLast?_cons_cons] at h
        rw [← ht] at h ⊢
        rw [last_all l m hc h]
theorem whole_eq {x s : ByteArray} (hw : s_whole x) (hf : s_front x s) (hs : s_cl s) : x = s := by
  obtain ⟨m, hm⟩ := hf
  have h := hw.2.2
  rw [hm] at h
  exact bl_inj (by rw [hm, last_all _ m hs h])
section
variable {P : RG} {o : Int} {two : Bool} {a b : ByteArray} {M : Nat} {hit : Int → Int → Bool} {fr to_ ro : Int}
/-- What leaves a node that is not bad is a front of what was sent. -/
theorem contained {s : ByteArray} (hok : gOk P o false M) (hsl : P.sl < P.n) (hS : ∀ k, s_int P.sts (gN P o k) ≠ 0) (hg : ∀ x, gGrd P o x = x) (hE : gEm P hit fr to_ ro) (ha : s.size ≤ 1000000) (hc : s_cl s) (bad : Nat → Prop)
    (h1 : 1 ≤ M → ¬ bad 1 → hit (gN P o 0) (gN P o 1) = false ∨ to_ ≤ ro)
    (h2 : ∀ k : Nat, k + 2 ≤ M → ¬ bad (k + 2) → ((hit (gN P o (k + 1)) (gN P o (k + 2)) = false ∨ to_ ≤ ro) ∧ ¬ bad (k + 1)) ∨ ((hit (gN P o k) (gN P o (k + 2)) = false ∨ to_ ≤ ro) ∧ (k = 0 ∨ ¬ bad k))) :
    ∀ k : Nat, k ≤ M → (k = 0 ∨ ¬ bad k) → s_front (gO P o false s ⟨#[]⟩ k).1 s := by
  have hO := gO_size (a := s) (b := ⟨#[]⟩) (two := false) hok hE ha (Nat.zero_le _)
  have main : ∀ k : Nat, k ≤ M → ((k = 0 ∨ ¬ bad k) → s_front (gO P o false s ⟨#[]⟩ k).1 s) ∧ (0 < k → ((k = 1 ∨ ¬ bad (k - 1)) → s_front (gO P o false s ⟨#[]⟩ k).2 s)) := by
    intro k
    induction k with
    | zero => intro _; exact ⟨fun _ => front_refl _, fun h => by omega⟩
    | succ k ih =>
      intro hk
      have ih := ih (by omega)
      refine ⟨fun hb => ?_, fun _ hb => ?_⟩
      · show s_front (gOutX P o false (gO P o false s ⟨#[]⟩ k).1 (gO P o false s ⟨#[]⟩ k).2 k) s
        by_cases h0 : k = 0
        · subst h0
          rw [gOut_one (hS 1) hsl]
          unfold gDirX
          rw [if_pos rfl, hg]
          have hp := h1 hk (hb.elim (fun h => by omega) id)
          show s_front (gC P o s 0 1) s
          rw [gC_pass hok hE ha hp]
          exact front_clean s
        · obtain ⟨j, rfl⟩ : ∃ j, k = j + 1 := ⟨k - 1, by omega⟩
          rw [gOut_com (hS (j + 2)) (.inl (by omega))]
          rcases h2 j hk (hb.elim (fun h => by omega) id) with ⟨hp, hn⟩ | ⟨hp, hn⟩
          · refine front_trans (front_com1 _ _) ?_
            unfold gDirX
            rw [if_neg (by omega), gC_pass hok hE (hO (j + 1)).1 hp]
            exact front_trans (front_clean _) (ih.1 (.inr hn))
          · refine front_trans (front_com2 _ _) ?_
            unfold gSkipX
            rw [if_neg (by omega), Nat.add_sub_cancel, gC_pass hok hE (hO (j + 1)).2 hp]
            refine front_trans (front_clean _) (ih.2 (by omega) ?_)
            rcases hn with hn | hn
            · exact .inl (by omega)
            · exact .inr (by rw [Nat.add_sub_cancel]; exact hn)
      · show s_front (gO P o false s ⟨#[]⟩ k).1 s
        refine ih.1 ?_
        rcases hb with hb | hb
        · exact .inl (by omega)
        · exact .inr (by rw [Nat.add_sub_cancel] at hb; exact hb)
  exact fun k hk hb => (main k hk).1 hb
end
end Go.Proofs.YtiemjcchlfbglaaGreatE
