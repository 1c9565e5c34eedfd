/- The pure model of a slot that goes round, without acts: who is how far, what each has. -/
import Derived.Test.YtiemjcchlfbglaaGreatBcA
import Derived.KernelRfl
namespace Go.Proofs.YtiemjcchlfbglaaGreatE
open Go
set_option linter.unusedVariables false

theorem rem_c {n : Int} (h : 0 < n) (a : Int) : (0 ≤ a → a < n → s_rem a n = a) ∧ (-n ≤ a → a < 0 → s_rem a n = a + n) ∧ (n ≤ a → a < 2 * n → s_rem a n = a - n) := by
  unfold s_rem
  refine ⟨fun h1 h2 => Int.emod_eq_of_lt h1 h2, fun h1 h2 => ?_, fun h1 h2 => ?_⟩
  · rw [← Int.add_emod_right, Int.emod_eq_of_lt (by omega) (by omega)]
  · rw [← Int.sub_emod_right, Int.emod_eq_of_lt (by omega) (by omega)]
/-- The node so many steps on; how many steps a node is on. -/
def s_node (n o dir : Int) (k : Nat) : Int := s_rem (o + dir * k) n
def s_far (n o dir i : Int) : Int := s_rem (dir * (i - o)) n
section
variable {n o dir : Int}
theorem node_lt (hn : 0 < n) (k : Nat) : 0 ≤ s_node n o dir k ∧ s_node n o dir k < n := rem_lt _ hn
theorem far_lt (hn : 0 < n) (i : Int) : 0 ≤ s_far n o dir i ∧ s_far n o dir i < n := rem_lt _ hn
theorem node_zero (ho : 0 ≤ o) (ho2 : o < n) : s_node n o dir 0 = o := by
  unfold s_node
  exact ((rem_c (by omega) _).1 (by simp; omega) (by simp; omega)).trans (by simp)
theorem node_up (ho : 0 ≤ o) (ho2 : o < n) {k : Nat} (hk : (k : Int) < n) : s_node n o 1 k = if o + k < n then o + k else o + k - n := by
  unfold s_node
  rw [Int.one_mul]
  have := rem_c (show 0 < n by omega) (o + k)
  split
  · exact this.1 (by omega) (by omega)
  · exact this.2.2 (by omega) (by omega)
theorem node_dn (ho : 0 ≤ o) (ho2 : o < n) {k : Nat} (hk : (k : Int) < n) : s_node n o (-1) k = if 0 ≤ o - k then o - k else o - k + n := by
  unfold s_node
  have e : o + -1 * (k : Int) = o - k := by omega
  rw [e]
  have := rem_c (show 0 < n by omega) (o - k)
  split
  · exact this.1 (by omega) (by omega)
  · exact this.2.1 (by omega) (by omega)
theorem far_up (ho : 0 ≤ o) (ho2 : o < n) {i : Int} (hi : 0 ≤ i) (hi2 : i < n) : s_far n o 1 i = if o ≤ i then i - o else i - o + n := by
  unfold s_far
  rw [Int.one_mul]
  have := rem_c (show 0 < n by omega) (i - o)
  split
  · exact this.1 (by omega) (by omega)
  · exact this.2.1 (by omega) (by omega)
theorem far_dn (ho : 0 ≤ o) (ho2 : o < n) {i : Int} (hi : 0 ≤ i) (hi2 : i < n) : s_far n o (-1) i = if i ≤ o then o - i else o - i + n := by
  unfold s_far
  have e : -1 * (i - o) = o - i := by omega
  rw [e]
  have := rem_c (show 0 < n by omega) (o - i)
  split
  · exact this.1 (by omega) (by omega)
  · exact this.2.1 (by omega) (by omega)
theorem far_node (hd : dir = 1 ∨ dir = -1) (ho : 0 ≤ o) (ho2 : o < n) {k : Nat} (hk : (k : Int) < n) : s_far n o dir (s_node n o dir k) = k := by
  have h1 := node_lt (n := n) (o := o) (dir := dir) (by omega) k
  rcases hd with rfl | rfl
  · rw [far_up ho ho2 h1.1 h1.2, node_up ho ho2 hk]
    split <;> split <;> omega
  · rw [far_dn ho ho2 h1.1 h1.2, node_dn ho ho2 hk]
    split <;> split <;> omega
theorem node_far (hd : dir = 1 ∨ dir = -1) (ho : 0 ≤ o) (ho2 : o < n) {i : Int} (hi : 0 ≤ i) (hi2 : i < n) : s_node n o dir (s_far n o dir i).toNat = i := by
  have h1 := far_lt (n := n) (o := o) (dir := dir) (by omega) i
  have h2 : ((s_far n o dir i).toNat : Int) = s_far n o dir i := Int.toNat_of_nonneg h1.1
  rcases hd with rfl | rfl
  · rw [node_up ho ho2 (by omega), h2, far_up ho ho2 hi hi2]
    split <;> split <;> omega
  · rw [node_dn ho ho2 (by omega), h2, far_dn ho ho2 hi hi2]
    split <;> split <;> omega
/-- Back one, back two. -/
theorem node_back1 (hd : dir = 1 ∨ dir = -1) (ho : 0 ≤ o) (ho2 : o < n) {k : Nat} (hk : (k : Int) + 1 < n) : s_rem (s_node n o dir (k + 1) + -dir) n = s_node n o dir k := by
  rcases hd with rfl | rfl
  · rw [node_up ho ho2 (by omega), node_up ho ho2 (by omega)]
    have := rem_c (show 0 < n by omega) ((if o + ((k + 1 : Nat) : Int) < n then o + ((k + 1 : Nat) : Int) else o + ((k + 1 : Nat) : Int) - n) + -1)
    split at this <;> split <;> first | (rw [if_pos (by omega)]; omega) | (rw [if_neg (by omega)]; omega) | omega
  · rw [node_dn ho ho2 (by omega), node_dn ho ho2 (by omega)]
    have := rem_c (show 0 < n by omega) ((if 0 ≤ o - ((k + 1 : Nat) : Int) then o - ((k + 1 : Nat) : Int) else o - ((k + 1 : Nat) : Int) + n) + - -1)
    split at this <;> split <;> first | (rw [if_pos (by omega)]; omega) | (rw [if_neg (by omega)]; omega) | omega
end

/-- What is passed on: of each node by its steps. -/
def oK (pass : Int → Int → Bool) (on : Int → Bool) (grd : Bool) (nd : Nat → Int) : Nat → Bool
  | 0 => true
  | 1 => on (nd 1) && (pass (nd 0) (nd 1) && grd)
  | k + 2 => on (nd (k + 2)) && ((pass (nd (k + 1)) (nd (k + 2)) && oK pass on grd nd (k + 1)) && (pass (nd k) (nd (k + 2)) && oK pass on grd nd k))
def dK (pass : Int → Int → Bool) (on : Int → Bool) (grd : Bool) (nd : Nat → Int) : Nat → Bool
  | 0 => false
  | 1 => pass (nd 0) (nd 1) && grd
  | k + 2 => pass (nd (k + 1)) (nd (k + 2)) && oK pass on grd nd (k + 1)
def kK (pass : Int → Int → Bool) (on : Int → Bool) (grd : Bool) (nd : Nat → Int) : Nat → Bool
  | 0 => false
  | 1 => false
  | k + 2 => pass (nd k) (nd (k + 2)) && oK pass on grd nd k
def bs (s : ByteArray) (b : Bool) : ByteArray := if b then s else ⟨#[]⟩
def sideR (s : ByteArray) (D S O : Nat → Bool) (k : Nat) : List AV :=
  if k = 0 then [.str ⟨#[]⟩, .str ⟨#[]⟩, .str s, .int .i64 0] else [.str (bs s (D k)), .str (bs s (S k)), .str (bs s (O k)), .int .i64 k]
def zeroR : List AV := [.str ⟨#[]⟩, .str ⟨#[]⟩, .str ⟨#[]⟩, .int .i64 0]
def s_sides (n o dir : Int) (s : ByteArray) (D S O : Nat → Bool) (m : Nat) : List (List AV) :=
  (List.range n.toNat).map fun (i : Nat) => if (s_far n o dir i).toNat ≤ m then sideR s D S O (s_far n o dir i).toNat else zeroR
def s_doneR (n o dir : Int) (m : Nat) : List (List AV) := (List.range n.toNat).map fun (i : Nat) => [AV.bool (decide ((s_far n o dir i).toNat ≤ m))]
theorem range_get {α : Type} (f : Nat → α) (d : α) (n i : Nat) (h : i < n) : ((List.range n).map f).getD i d = f i := by
  simp [List.getD_eq_getElem?_getD, h]
end Go.Proofs.YtiemjcchlfbglaaGreatE
/- What a lane passes on. -/
namespace Go.Proofs.YtiemjcchlfbglaaGreatE
open Go
set_option linter.unusedVariables false

def outN (cmp : Bool) : List UInt8 → List UInt8 → Nat
  | [], _ => 0
  | b :: l, t => if b = 48 ∨ b = 49 ∨ b = 35 then (if cmp = true ∧ t.head? ≠ some b then 0 else if b = 35 then 1 else outN cmp l t.tail + 1) else 0
def s_out (cmp : Bool) (d s : ByteArray) : ByteArray := d.extract 0 (outN cmp d.data.toList s.data.toList)
theorem outN_le (cmp : Bool) : ∀ (l t : List UInt8), outN cmp l t ≤ l.length
  | [], _ => Nat.le_refl _
  | b :: l, t => by
    have := outN_le cmp l t.tail
    simp only [outN, List.length_cons]
    split
    · split
      · omega
      · split <;> omega
    · omega
theorem outN_false : ∀ (l t : List UInt8), outN false l t = cleanN l
  | [], _ => rfl
  | b :: l, t => by
    simp only [outN, cleanN, Bool.false_eq_true, false_and, if_false]
    rw [outN_false l t.tail]
    by_cases h : b = 35
    · rw [if_pos (.inr (.inr h)), if_pos h, if_pos h]
    · rw [if_neg h, if_neg h]
      by_cases h2 : b = 48 ∨ b = 49
      · rw [if_pos (h2.elim .inl fun h => .inr (.inl h)), if_pos h2]
      · rw [if_neg (fun h3 => h3.elim (fun h => h2 (.inl h)) fun h3 => h3.elim (fun h => h2 (.inr h)) h), if_neg h2]
theorem outN_same : ∀ (l : List UInt8), outN true l l = cleanN l
  | [] => rfl
  | b :: l => by
    simp only [outN, cleanN, List.head?_cons, ne_eq, not_true_eq_false, and_false, if_false, List.tail_cons]
    rw [outN_same l]
    by_cases h : b = 35
    · rw [if_pos (.inr (.inr h)), if_pos h, if_pos h]
    · rw [if_neg h, if_neg h]
      by_cases h2 : b = 48 ∨ b = 49
      · rw [if_pos (h2.elim .inl fun h => .inr (.inl h)), if_pos h2]
      · rw [if_neg (fun h3 => h3.elim (fun h => h2 (.inl h)) fun h3 => h3.elim (fun h => h2 (.inr h)) h), if_neg h2]
theorem outN_none (l : List UInt8) : outN true l [] = 0 := by
  cases l with
  | nil => rfl
  | cons b l => simp [outN]
theorem out_bs {s : ByteArray} (hs : s_clean s = s) (cmp a b : Bool) : s_out cmp (bs s a) (bs s b) = bs s (a && (!cmp || b)) := by
  have e0 : ∀ (t : ByteArray) (m : Nat), ByteArray.extract ⟨#[]⟩ 0 m = (⟨#[]⟩ : ByteArray) := fun t m => by
    apply ByteArray.ext; simp
  have e1 : ∀ (t : ByteArray), t.extract 0 0 = (⟨#[]⟩ : ByteArray) := fun t => by apply ByteArray.ext; simp
  cases a with
  | false =>
    show s_out cmp (⟨#[]⟩ : ByteArray) _ = (⟨#[]⟩ : ByteArray)
    unfold s_out
    exact e0 s _
  | true =>
    show s_out cmp s _ = bs s (!cmp || b)
    unfold s_out
    cases cmp with
    | false => rw [outN_false]; exact hs
    | true =>
      cases b with
      | true =>
        show s.extract 0 (outN true s.data.toList s.data.toList) = s
        rw [outN_same]; exact hs
      | false =>
        show s.extract 0 (outN true s.data.toList []) = (⟨#[]⟩ : ByteArray)
        rw [outN_none]; exact e1 s
theorem clean_bs {s : ByteArray} (hs : s_clean s = s) (a : Bool) : s_clean (bs s a) = bs s a := by
  cases a with
  | true => exact hs
  | false => apply ByteArray.ext; simp [bs, s_clean]
def s_atB (s : ByteArray) (i : Int) : Int := if i < s.size then ((s.data.toList.getD i.toNat 0).toNat : Int) else 46
def s_stepP (cmp shut : Bool) (d s : Int) : Bool := !shut && (d == 48 || d == 49 || d == 35) && (!cmp || s == d)
def sAtB : SW := fun args h Q => match args, h with
  | [.str s, .int .i64 i], [] => Hyp (0 ≤ i) ∧ Q (.int .u8 (s_atB s i), [])
  | _, _ => False
def sStep : SW := fun args h Q => match args, h with
  | [.ptr 0 0, .int .u8 d, .int .u8 s], [.box [.bool cmp, .bool shut]] => Hyp (0 ≤ d ∧ d ≤ 255) ∧ ((s_stepP cmp shut d s = true → Q (.int .u8 d, [.box [.bool cmp, .bool (d == 35)]])) ∧ (s_stepP cmp shut d s = false → Q (.int .u8 46, [.box [.bool cmp, .bool true]])))
  | _, _ => False
def lLane : LW := fun vals h Q => match vals, h with
  | [.str d, .str s, .ptr 0 0, .fn (.func 75) [] [], .ptr 1 0, .int .i64 i], [.box [.bool cmp, .bool shut], .tb 116 [.nilp, .nils]] =>
    Hyp (i = 0 ∧ shut = false ∧ d.size ≤ 1000000000) ∧ Q .ret [.str (s_out cmp d s)] []
  | [.str d, .str s, .ptr 0 0, .fn (.func 75) [] [], .ptr 1 0, .int .i64 i], [.box [.bool cmp, .bool shut], .tb 116 [.ptr 1 0, .sl 2 0 m], .arr 2 5 [.int .u8] rows] =>
    (i = m ∧ 0 < m ∧ m ≤ d.size ∧ d.size ≤ 1000000000 ∧ rows = bytesRows (d.data.toList.take m) ∧ (shut = true → outN cmp d.data.toList s.data.toList = m) ∧ (shut = false → outN cmp d.data.toList s.data.toList = m + outN cmp (d.data.toList.drop m) (s.data.toList.drop m))) ∧ Q .ret [.str (s_out cmp d s)] []
  | _, _ => False
def sLane : SW := fun args h Q => match args, h with
  | [.bool cmp, .str d, .str s], [] => Hyp (d.size ≤ 1000000000) ∧ ∀ z, z = s_out cmp d s → Q (.str z, [])
  | _, _ => False
def U0 : Sp := ⟨(91, sCopy) :: (77, sBStr) :: S7.fn, []⟩
def U1 : Sp := ⟨(76, sAtB) :: (75, sStep) :: U0.fn, []⟩
def U1L : Sp := ⟨U1.fn, [(65, 6, lLane)]⟩
def U2 : Sp := ⟨(65, sLane) :: U1.fn, []⟩
end Go.Proofs.YtiemjcchlfbglaaGreatE
/- What path mode says of functions, printed by a program of this session; the kernel holds each. -/
namespace Go.Proofs.YtiemjcchlfbglaaGreatE
open Go
set_option maxRecDepth 100000
set_option linter.unusedVariables false
theorem nfAtB (s : ByteArray) (i : Int) (Q : AV × List AObj → Prop) : inlW Tryz.prog H0 U0 6 (InO Tryz.prog H0 U0 6 6) 76 [.str s, .int .i64 i] [] Q = (
br (decide (i < (↑s.size : Int)))
 (chk ((0 : Int) ≤ i ∧ i < (↑s.size : Int)) (Q ((AV.int IntKind.u8 (↑(s.data.toList.getD i.toNat (0 : UInt8)).toNat : Int), []))))
 (Q ((AV.int IntKind.u8 (46 : Int), [])))) := by kernel_rfl
theorem nfStep (cmp shut : Bool) (d s : Int) (Q : AV × List AObj → Prop) : inlW Tryz.prog H0 U0 6 (InO Tryz.prog H0 U0 6 6) 75 [.ptr 0 0, .int .u8 d, .int .u8 s] [.box [.bool cmp, .bool shut]] Q = (
br (!shut)
 (br (IntKind.i32.wrap d == (48 : Int))
  (br (!cmp)
   (Q ((AV.int IntKind.u8 d, [AObj.box [AV.bool cmp, AV.bool (d == (35 : Int))]])))
   (br (!s == d)
    (Q ((AV.int IntKind.u8 (46 : Int), [AObj.box [AV.bool cmp, AV.bool true]])))
    (Q ((AV.int IntKind.u8 d, [AObj.box [AV.bool cmp, AV.bool (d == (35 : Int))]])))))
  (br (IntKind.i32.wrap d == (49 : Int))
   (br (!cmp)
    (Q ((AV.int IntKind.u8 d, [AObj.box [AV.bool cmp, AV.bool (d == (35 : Int))]])))
    (br (!s == d)
     (Q ((AV.int IntKind.u8 (46 : Int), [AObj.box [AV.bool cmp, AV.bool true]])))
     (Q ((AV.int IntKind.u8 d, [AObj.box [AV.bool cmp, AV.bool (d == (35 : Int))]])))))
   (br (IntKind.i32.wrap d == (35 : Int))
    (br (!cmp)
     (Q ((AV.int IntKind.u8 d, [AObj.box [AV.bool cmp, AV.bool (d == (35 : Int))]])))
     (br (!s == d)
      (Q ((AV.int IntKind.u8 (46 : Int), [AObj.box [AV.bool cmp, AV.bool true]])))
      (Q ((AV.int IntKind.u8 d, [AObj.box [AV.bool cmp, AV.bool (d == (35 : Int))]])))))
    (Q ((AV.int IntKind.u8 (46 : Int), [AObj.box [AV.bool cmp, AV.bool true]]))))))
 (Q ((AV.int IntKind.u8 (46 : Int), [AObj.box [AV.bool cmp, AV.bool true]])))) := by kernel_rfl
theorem nfLane (cmp : Bool) (d s : ByteArray) (Q : AV × List AObj → Prop) : inlW Tryz.prog H0 U1L 6 (InO Tryz.prog H0 U1L 6 6) 65 [.bool cmp, .str d, .str s] [] Q = (
((Hyp ((0 : Int) = (0 : Int) ∧ false = false ∧ d.size ≤ (1000000000 : Nat))) ∧
(Q ((AV.str (s_out cmp d s), []))))) := by kernel_rfl
theorem nfLanea (cmp shut : Bool) (d s : ByteArray) (i : Int) (Q : Ex → List AV → List AObj → Prop) : lpBody Tryz.prog H0 U1 6 6 65 6 [.str d, .str s, .ptr 0 0, .fn (.func 75) [] [], .ptr 1 0, .int .i64 i] [.box [.bool cmp, .bool shut], .tb 116 [.nilp, .nils]] Q = (
((Hyp ((0 : Int) ≤ i)) ∧
(((Hyp ((0 : Int) ≤ i)) ∧
(((Hyp ((0 : Int) ≤ s_atB d i ∧ s_atB d i ≤ (255 : Int))) ∧
(((((s_stepP cmp shut (s_atB d i) (s_atB s i) = true) →
br (s_atB d i == (46 : Int))
 (Q (Ex.ret) ([AV.str (ByteArray.mk #[])]) ([]))
 (Q (Ex.nrm) ([AV.str d, AV.str s, AV.ptr (0 : Nat) (0 : Nat), AV.fn (Fn.func (75 : Nat)) [] [], AV.ptr (1 : Nat) (0 : Nat),
  AV.int IntKind.i64 (IntKind.i64.wrap (i + (1 : Int)))]) ([AObj.box [AV.bool cmp, AV.bool (s_atB d i == (35 : Int))],
  AObj.tb (116 : Nat) [AV.ptr (1 : Nat) (0 : Nat), AV.sl (2 : Nat) (0 : Nat) (1 : Nat)],
  AObj.arr (2 : Nat) (5 : Nat) [K.int IntKind.u8] [[AV.int IntKind.u8 (s_atB d i)]]])))) ∧
(((s_stepP cmp shut (s_atB d i) (s_atB s i) = false) →
Q (Ex.ret) ([AV.str (ByteArray.mk #[])]) ([]))))))))))) := by kernel_rfl
theorem nfLaneb (cmp shut : Bool) (d s : ByteArray) (i : Int) (m : Nat) (rows : List (List AV)) (Q : Ex → List AV → List AObj → Prop) : lpBody Tryz.prog H0 U1 6 6 65 6 [.str d, .str s, .ptr 0 0, .fn (.func 75) [] [], .ptr 1 0, .int .i64 i] [.box [.bool cmp, .bool shut], .tb 116 [.ptr 1 0, .sl 2 0 m], .arr 2 5 [.int .u8] rows] Q = (
((Hyp ((0 : Int) ≤ i)) ∧
(((Hyp ((0 : Int) ≤ i)) ∧
(((Hyp ((0 : Int) ≤ s_atB d i ∧ s_atB d i ≤ (255 : Int))) ∧
(((((s_stepP cmp shut (s_atB d i) (s_atB s i) = true) →
br (s_atB d i == (46 : Int))
 (((Hyp (m = rows.length ∧ (0 : Nat) < m ∧ s_bytesOk rows = true)) ∧
 (Q (Ex.ret) ([AV.str { data := (rowsBytes rows).toArray }]) ([]))))
 (chk (m = rows.length) (chk ((rows.length + (1 : Nat)) * (1 : Nat) ≤ (140737488355328 : Nat)) (chk (rows.length + (1 : Nat) ≤ (9223372036854775807 : Nat)) (Q (Ex.nrm) ([AV.str d, AV.str s, AV.ptr (0 : Nat) (0 : Nat), AV.fn (Fn.func (75 : Nat)) [] [], AV.ptr (1 : Nat) (0 : Nat),
  AV.int IntKind.i64 (IntKind.i64.wrap (i + (1 : Int)))]) ([AObj.box [AV.bool cmp, AV.bool (s_atB d i == (35 : Int))],
  AObj.tb (116 : Nat) [AV.ptr (1 : Nat) (0 : Nat), AV.sl (2 : Nat) (0 : Nat) (rows.length + (1 : Nat))],
  AObj.arr (2 : Nat) (5 : Nat) [K.int IntKind.u8] (rows ++ [[AV.int IntKind.u8 (s_atB d i)]])]))))))) ∧
(((s_stepP cmp shut (s_atB d i) (s_atB s i) = false) →
((Hyp (m = rows.length ∧ (0 : Nat) < m ∧ s_bytesOk rows = true)) ∧
(Q (Ex.ret) ([AV.str { data := (rowsBytes rows).toArray }]) ([]))))))))))))) := by kernel_rfl
end Go.Proofs.YtiemjcchlfbglaaGreatE
/- lane.Out passes on what the model says. -/
namespace Go.Proofs.YtiemjcchlfbglaaGreatE
open Go
set_option linter.unusedVariables false
set_option linter.unusedSimpArgs false
set_option maxRecDepth 100000

theorem okU0 : OkSp Tryz.prog H0 U0 := ⟨⟨okCopy, okBStr, okS7.fn⟩, trivial⟩
theorem atB_lt (s : ByteArray) (i : Int) : 0 ≤ s_atB s i ∧ s_atB s i ≤ 255 := by
  unfold s_atB
  split
  · have := (s.data.toList.getD i.toNat 0).toNat_lt
    omega
  · omega
theorem okAtB : OkS Tryz.prog H0 76 sAtB := by
  intro args h Q hq
  unfold sAtB at hq
  split at hq
  · rename_i s i
    obtain ⟨h0, hq⟩ := hyp_iff.1 hq
    refine in_ok (S := U0) (U := 6) (k := 6) okU0 (to (nfAtB ..) (br_intro (fun c => ?_) fun c => ?_))
    · have c := of_decide_eq_true c
      rw [chk_iff]
      unfold s_atB at hq
      rw [if_pos c] at hq
      exact ⟨⟨h0, c⟩, hq⟩
    · have c := of_decide_eq_false c
      unfold s_atB at hq
      rw [if_neg c] at hq
      exact hq
  · exact hq.elim
theorem w32 {x : Int} (h1 : 0 ≤ x) (h2 : x ≤ 255) : IntKind.i32.wrap x = x := by
  rw [IntKind.wrap_i32]; omega
theorem okStep : OkS Tryz.prog H0 75 sStep := by
  intro args h Q hq
  unfold sStep at hq
  split at hq
  · rename_i d s cmp shut
    obtain ⟨⟨h0, h1⟩, hy, hn⟩ := hyp_iff.1 hq
    refine in_ok (S := U0) (U := 6) (k := 6) okU0 (to (nfStep ..) ?_)
    rw [w32 h0 h1]
    unfold s_stepP at hy hn
    refine br_intro (fun c1 => br_intro (fun c2 => ?_) fun c2 => br_intro (fun c3 => ?_) fun c3 => br_intro (fun c4 => ?_) fun c4 => ?_) fun c1 => hn (by rw [c1]; rfl)
    · refine br_intro (fun c5 => hy (by rw [c1, c2, c5]; rfl)) fun c5 => br_intro (fun c6 => hn (by rw [c1, c2, c5]; simpa using c6)) fun c6 => hy (by rw [c1, c2, c5]; simpa using c6)
    · refine br_intro (fun c5 => hy (by rw [c1, c2, c3, c5]; rfl)) fun c5 => br_intro (fun c6 => hn (by rw [c1, c2, c3, c5]; simpa using c6)) fun c6 => hy (by rw [c1, c2, c3, c5]; simpa using c6)
    · refine br_intro (fun c5 => hy (by rw [c1, c2, c3, c4, c5]; rfl)) fun c5 => br_intro (fun c6 => hn (by rw [c1, c2, c3, c4, c5]; simpa using c6)) fun c6 => hy (by rw [c1, c2, c3, c4, c5]; simpa using c6)
    · exact hn (by rw [c1, c2, c3, c4]; rfl)
  · exact hq.elim
theorem okU1 : OkSp Tryz.prog H0 U1 := ⟨⟨okAtB, okStep, okU0.fn⟩, trivial⟩
theorem byte_eq {b : UInt8} {n : Nat} (hn : n < 256) : ((b.toNat : Int) = (n : Int)) ↔ b = UInt8.ofNat n := by
  constructor
  · intro h
    have : b.toNat = n := by omega
    rw [← this]; simp
  · intro h
    rw [h, UInt8.toNat_ofNat']; omega
theorem out_step (cmp : Bool) (d s : ByteArray) (i : Nat) :
    (s_stepP cmp false (s_atB d i) (s_atB s i) = true → i < d.size ∧ s_atB d i = ((d.data.toList.getD i 0).toNat : Int) ∧ s_atB d i ≠ 46 ∧
      outN cmp (d.data.toList.drop i) (s.data.toList.drop i) = if s_atB d i = 35 then 1 else outN cmp (d.data.toList.drop (i + 1)) (s.data.toList.drop (i + 1)) + 1) ∧
    (s_stepP cmp false (s_atB d i) (s_atB s i) = false → outN cmp (d.data.toList.drop i) (s.data.toList.drop i) = 0) := by
  by_cases hi : i < d.size
  · have hd : d.data.toList.drop i = d[i] :: d.data.toList.drop (i + 1) := drop_cons hi
    have ea : s_atB d i = (d[i].toNat : Int) := by
      unfold s_atB
      rw [if_pos (by omega), Int.toNat_natCast, getD_byte hi]
    have e48 : ((d[i].toNat : Int) = 48) ↔ d[i] = 48 := byte_eq (n := 48) (by omega)
    have e49 : ((d[i].toNat : Int) = 49) ↔ d[i] = 49 := byte_eq (n := 49) (by omega)
    have e35 : ((d[i].toNat : Int) = 35) ↔ d[i] = 35 := byte_eq (n := 35) (by omega)
    have hc : (s.data.toList.drop i).head? = some d[i] ↔ i < s.size ∧ s_atB s i = (d[i].toNat : Int) := by
      by_cases hs : i < s.size
      · rw [drop_cons hs, List.head?_cons]
        have es : s_atB s i = (s[i].toNat : Int) := by
          unfold s_atB
          rw [if_pos (by omega), Int.toNat_natCast, getD_byte hs]
        rw [es]
        constructor
        · intro h; exact ⟨hs, by rw [Option.some.inj h]⟩
        · intro h
          have h2 : s[i].toNat = d[i].toNat := by omega
          rw [UInt8.toNat_inj.1 h2]
      · rw [List.drop_eq_nil_of_le (by show s.data.toList.length ≤ i; rw [Array.length_toList]; exact Nat.le_of_not_lt hs)]
        constructor
        · intro h; cases h
        · intro h; exact absurd h.1 hs
    have es46 : ¬ i < s.size → s_atB s i = 46 := fun hs => by
      unfold s_atB
      rw [if_neg (by omega)]
    rw [hd]
    simp only [outN, List.tail_drop]
    rw [ea]
    constructor
    · intro h
      simp only [s_stepP, Bool.not_false, Bool.true_and, Bool.and_eq_true, Bool.or_eq_true, beq_iff_eq, Bool.not_eq_true'] at h
      obtain ⟨h1, h2⟩ := h
      have hsym : d[i] = 48 ∨ d[i] = 49 ∨ d[i] = 35 := by
        rcases h1 with (h1 | h1) | h1
        · exact .inl (e48.1 h1)
        · exact .inr (.inl (e49.1 h1))
        · exact .inr (.inr (e35.1 h1))
      refine ⟨hi, by rw [getD_byte hi], by omega, ?_⟩
      have hcc : ¬ (cmp = true ∧ (s.data.toList.drop i).head? ≠ some d[i]) := fun hh => by
        rcases h2 with h2 | h2
        · rw [h2] at hh; exact absurd hh.1 (by simp)
        · by_cases hs : i < s.size
          · exact hh.2 (hc.2 ⟨hs, h2⟩)
          · have := es46 hs; omega
      rw [if_pos hsym, if_neg hcc]
      by_cases h35 : d[i] = 35
      · rw [if_pos h35, if_pos (e35.2 h35)]
      · rw [if_neg h35, if_neg (fun hh => h35 (e35.1 hh))]
    · intro h
      by_cases hsym : d[i] = 48 ∨ d[i] = 49 ∨ d[i] = 35
      · rw [if_pos hsym]
        have hcm : cmp = true ∧ ¬ s_atB s i = (d[i].toNat : Int) := by
          have h1 : ((d[i].toNat : Int) == 48 || (d[i].toNat : Int) == 49 || (d[i].toNat : Int) == 35) = true := by
            rcases hsym with h | h | h
            · simp [e48.2 h]
            · simp [e49.2 h]
            · simp [e35.2 h]
          unfold s_stepP at h
          rw [h1] at h
          simp only [Bool.not_false, Bool.true_and, Bool.or_eq_false_iff, Bool.not_eq_false', beq_eq_false_iff_ne] at h
          exact h
        rw [if_pos ⟨hcm.1, fun hh => hcm.2 (hc.1 hh).2⟩]
      · rw [if_neg hsym]
  · have ea : s_atB d i = 46 := by
      unfold s_atB
      rw [if_neg (by omega)]
    rw [List.drop_eq_nil_of_le (by show d.data.toList.length ≤ i; rw [Array.length_toList]; exact Nat.le_of_not_lt hi), ea]
    constructor
    · intro h; exact absurd h (by simp [s_stepP])
    · intro _; rfl
theorem take_bytes {d : ByteArray} {m : Nat} (hm : m < d.size) : bytesRows (d.data.toList.take (m + 1)) = bytesRows (d.data.toList.take m) ++ [[AV.int .u8 ((d.data.toList.getD m 0).toNat : Int)]] := by
  have : d.data.toList.take (m + 1) = d.data.toList.take m ++ [d.data.toList.getD m 0] := by
    rw [List.take_add_one, List.getD_eq_getElem?_getD]
    have hl : m < d.data.toList.length := by simp only [ByteArray.size] at hm; simpa using hm
    rw [List.getElem?_eq_getElem hl]; rfl
  rw [this]
  simp [bytesRows]
theorem bytes_ok (l : List UInt8) : s_bytesOk (bytesRows l) = true := by
  unfold s_bytesOk bytesRows
  rw [List.all_eq_true]
  intro r hr
  obtain ⟨b, _, rfl⟩ := List.mem_map.1 hr
  have := b.toNat_lt
  simp
  omega
theorem rows_bytes (l : List UInt8) : rowsBytes (bytesRows l) = l := by
  simp [rowsBytes, bytesRows, List.map_map, Function.comp_def, AV.toI]
theorem ext_take (d : ByteArray) (m : Nat) : (⟨(d.data.toList.take m).toArray⟩ : ByteArray) = d.extract 0 m := by
  apply ByteArray.ext
  apply Array.ext'
  simp
theorem okLLane : OkLp Tryz.prog H0 65 6 lLane := by
  refine okLp_of (U := 6) (k := 6) okU1 lLane (fun vals _ => match vals with | [.str d, _, _, _, _, .int _ i] => ((d.size : Int) + 1 - i).toNat | _ => 0) fun vals h Q hl => ?_
  unfold lLane at hl
  split at hl
  · rename_i d s i cmp shut
    obtain ⟨⟨h0, h1, h2⟩, hq⟩ := hyp_iff.1 hl
    subst h0; subst h1
    have hs := out_step cmp d s 0
    refine to (nfLanea ..) (hyp_iff.2 ⟨by omega, hyp_iff.2 ⟨by omega, hyp_iff.2 ⟨atB_lt d 0, fun hy => ?_, fun hn => ?_⟩⟩⟩)
    · obtain ⟨a1, a2, a3, a4⟩ := hs.1 hy
      refine br_intro (fun c => absurd (beq_iff_eq.1 c) a3) fun c => ?_
      refine ⟨by show ((d.size : Int) + 1 - IntKind.i64.wrap (0 + 1)).toNat < ((d.size : Int) + 1 - 0).toNat; rw [wr (by omega) (by omega)]; omega, ⟨by rw [wr (by omega) (by omega)]; rfl, by omega, by omega, h2, ?_, fun h35 => ?_, fun h35 => ?_⟩, hq⟩
      · have a2 : s_atB d 0 = _ := a2
        have := take_bytes a1
        rw [List.take_zero] at this
        rw [a2]
        exact this.symm
      · have h35 : s_atB d (0 : Nat) = 35 := beq_iff_eq.1 h35
        rw [if_pos h35, List.drop_zero, List.drop_zero] at a4
        exact a4
      · have h35 : ¬ s_atB d (0 : Nat) = 35 := beq_eq_false_iff_ne.1 h35
        rw [if_neg h35, List.drop_zero, List.drop_zero] at a4
        rw [a4]; exact Nat.add_comm _ _
    · have := hs.2 hn
      rw [List.drop_zero, List.drop_zero] at this
      have e : s_out cmp d s = (⟨#[]⟩ : ByteArray) := by
        unfold s_out
        rw [this]
        apply ByteArray.ext; simp
      rw [e] at hq
      exact hq
  · rename_i d s i cmp shut m rows
    obtain ⟨⟨rfl, h1, h2, h3, h4, h5, h6⟩, hq⟩ := hl
    have hlen : rows.length = m := by
      rw [h4]; simp [bytesRows]; omega
    have hok : s_bytesOk rows = true := by rw [h4]; exact bytes_ok _
    have hrow : (⟨(rowsBytes rows).toArray⟩ : ByteArray) = d.extract 0 m := by rw [h4, rows_bytes, ext_take]
    have hs := out_step cmp d s m
    refine to (nfLaneb ..) (hyp_iff.2 ⟨by omega, hyp_iff.2 ⟨by omega, hyp_iff.2 ⟨atB_lt d m, fun hy => ?_, fun hn => ?_⟩⟩⟩)
    · cases shut with
      | true => exact absurd hy (by simp [s_stepP])
      | false =>
        obtain ⟨a1, a2, a3, a4⟩ := hs.1 hy
        refine br_intro (fun c => absurd (beq_iff_eq.1 c) a3) fun c => ?_
        rw [chk_iff, chk_iff, chk_iff]
        refine ⟨by omega, by omega, by omega, by show ((d.size : Int) + 1 - IntKind.i64.wrap ((m : Int) + 1)).toNat < ((d.size : Int) + 1 - (m : Int)).toNat; rw [wr (by omega) (by omega)]; omega, ⟨by rw [wr (by omega) (by omega), hlen]; rfl, by omega, by omega, h3, ?_, fun h35 => ?_, fun h35 => ?_⟩, hq⟩
        · rw [hlen, take_bytes a1, ← h4, a2]
        · have h35 : s_atB d m = 35 := beq_iff_eq.1 h35
          rw [if_pos h35] at a4
          rw [h6 rfl, a4, hlen]
        · have h35 : ¬ s_atB d m = 35 := beq_eq_false_iff_ne.1 h35
          rw [if_neg h35] at a4
          rw [h6 rfl, a4, hlen]; omega
    · refine hyp_iff.2 ⟨⟨hlen.symm, h1, hok⟩, ?_⟩
      have e : outN cmp d.data.toList s.data.toList = m := by
        cases shut with
        | true => exact h5 rfl
        | false => rw [h6 rfl, hs.2 hn]; rfl
      have e2 : s_out cmp d s = (⟨(rowsBytes rows).toArray⟩ : ByteArray) := by
        unfold s_out
        rw [e, hrow]
      rw [e2] at hq
      exact hq
  · exact hl.elim
theorem okU1L : OkSp Tryz.prog H0 U1L := ⟨okU1.fn, okLLane, trivial⟩
theorem okLane : OkS Tryz.prog H0 65 sLane := by
  intro args h Q hq
  unfold sLane at hq
  split at hq
  · obtain ⟨h0, hq⟩ := hyp_iff.1 hq
    exact in_ok (S := U1L) (U := 6) (k := 6) okU1L (to (nfLane ..) (hyp_iff.2 ⟨⟨rfl, rfl, h0⟩, hq _ rfl⟩))
  · exact hq.elim
theorem okU2 : OkSp Tryz.prog H0 U2 := ⟨⟨okLane, okU1.fn⟩, trivial⟩
end Go.Proofs.YtiemjcchlfbglaaGreatE
/- The way round of one owner. -/
namespace Go.Proofs.YtiemjcchlfbglaaGreatE
open Go
set_option linter.unusedVariables false

def sOwn1 : SW := fun args h Q => match args, h with
  | [.agg [.int .i64 n, .int .i64 pi, .int .i64 e, .int .i64 g, .int .i64 fi, .row nl [.int .i64] ps], .int .i64 slot], [] => Hyp (0 ≤ slot ∧ slot < n ∧ n ≤ 1000) ∧ Q (.row false [.int .i64] [[.int .i64 slot]], [])
  | _, _ => False
def s_wayL (n o dir : Int) (m : Nat) : List (List AV) := (List.range m).map fun (k : Nat) => [AV.int .i64 (s_node n o dir (k + 1))]
def lWay : LW := fun vals h Q => match vals, h with
  | [.int .i64 n, .row nl [.int .i64] [[.int .i64 o]], .int .i64 dir, .int .i64 last, .ptr 0 0, .fn (.func 59) [.ptr 0 0] [], .int .i64 d], [.box [.nils]] =>
    Hyp (d = 1 ∧ last = o ∧ 6 ≤ n ∧ n ≤ 12 ∧ 0 ≤ o ∧ o < n ∧ (dir = 1 ∨ dir = -1)) ∧ ∀ (m : Nat) rows, (m : Int) = n - 1 ∧ rows = s_wayL n o dir m → Q (.exit 0) [.ptr 0 0] [.box [.sl 1 0 m], .arr 2 3 [.int .i64] rows]
  | [.int .i64 n, .row nl [.int .i64] [[.int .i64 o]], .int .i64 dir, .int .i64 last, .ptr 0 0, .fn (.func 59) [.ptr 0 0] [], .int .i64 d], [.box [.sl 1 0 j], .arr 2 3 [.int .i64] rs] =>
    (d = j + 1 ∧ last = o ∧ 6 ≤ n ∧ n ≤ 12 ∧ 0 ≤ o ∧ o < n ∧ (dir = 1 ∨ dir = -1) ∧ d ≤ n ∧ rs = s_wayL n o dir j) ∧ ∀ (m : Nat) rows, (m : Int) = n - 1 ∧ rows = s_wayL n o dir m → Q (.exit 0) [.ptr 0 0] [.box [.sl 1 0 m], .arr 2 3 [.int .i64] rows]
  | _, _ => False
def sWay : SW := fun args h Q => match args, h with
  | [.int .i64 n, .row nl [.int .i64] [[.int .i64 o]], .int .i64 dir], [] => Hyp (nl = false ∧ 6 ≤ n ∧ n ≤ 12 ∧ 0 ≤ o ∧ o < n ∧ (dir = 1 ∨ dir = -1)) ∧ ∀ (m : Nat) rows, (m : Int) = n - 1 ∧ rows = s_wayL n o dir m → Q (.row false [.int .i64] rows, [])
  | _, _ => False
def U2L : Sp := ⟨(43, sOwn1) :: U2.fn, [(45, 9, lWay)]⟩
def U3 : Sp := ⟨(45, sWay) :: (43, sOwn1) :: U2.fn, []⟩
end Go.Proofs.YtiemjcchlfbglaaGreatE
/- What path mode says of functions, printed by a program of this session; the kernel holds each. -/
namespace Go.Proofs.YtiemjcchlfbglaaGreatE
open Go
set_option maxRecDepth 100000
set_option linter.unusedVariables false
theorem nfOwn (n pi e g fi : Int) (nl : Bool) (ps : List (List AV)) (slot : Int) (Q : AV × List AObj → Prop) : inlW Tryz.prog H0 U2 6 (InO Tryz.prog H0 U2 6 6) 43 [cf n pi e g fi nl ps, .int .i64 slot] [] Q = (
br (decide (slot < (0 : Int)))
 (Q ((AV.row true [K.int IntKind.i64] [], [])))
 (br (decide (IntKind.i64.wrap (slot - n) ≥ (↑ps.length : Int)))
  (Q ((AV.row true [K.int IntKind.i64] [], [])))
  (br (decide (IntKind.i64.wrap (slot - n) < (0 : Int)))
   (Q ((AV.row false [K.int IntKind.i64] [[AV.int IntKind.i64 slot]], [])))
   (chk ((0 : Int) ≤ IntKind.i64.wrap (slot - n) ∧ IntKind.i64.wrap (slot - n) < (↑ps.length : Int)) (br (((ps.getD (IntKind.i64.wrap (slot - n)).toNat []).getD (0 : Nat) AV.gone).toI == (-1 : Int))
    (Q ((AV.row true [K.int IntKind.i64] [], [])))
    (br (decide (n ≤ (0 : Int)))
     (Q ((AV.row true [K.int IntKind.i64] [], [])))
     (chk ((0 : Int) ≤ IntKind.i64.wrap (slot - n) ∧ IntKind.i64.wrap (slot - n) < (↑ps.length : Int)) (chk ((0 : Int) ≤ IntKind.i64.wrap (slot - n) ∧ IntKind.i64.wrap (slot - n) < (↑ps.length : Int)) (chk (n ≠ (0 : Int)) (Q ((AV.row false [K.int IntKind.i64]
    [[AV.int IntKind.i64 ((ps.getD (IntKind.i64.wrap (slot - n)).toNat []).getD (0 : Nat) AV.gone).toI],
      [AV.int IntKind.i64
          ((IntKind.i64.wrap
                (((ps.getD (IntKind.i64.wrap (slot - n)).toNat []).getD (0 : Nat) AV.gone).toI + (1 : Int))).tmod
            n)]],
  [])))))))))))) := by kernel_rfl
theorem nfWay (n o dir : Int) (nl : Bool) (Q : AV × List AObj → Prop) : inlW Tryz.prog H0 U2L 6 (InO Tryz.prog H0 U2L 6 6) 45 [.int .i64 n, .row nl [.int .i64] [[.int .i64 o]], .int .i64 dir] [] Q = (
br (decide (n < (6 : Int)))
 (Q ((AV.row true [K.int IntKind.i64] [], [])))
 (br (decide (n > (12 : Int)))
  (Q ((AV.row true [K.int IntKind.i64] [], [])))
  (br (dir == (1 : Int))
   (((Hyp ((1 : Int) = (1 : Int) ∧
  o = o ∧ (6 : Int) ≤ n ∧ n ≤ (12 : Int) ∧ (0 : Int) ≤ o ∧ o < n ∧ (dir = (1 : Int) ∨ dir = (-1 : Int)))) ∧
   ((∀ (m104 : Nat),
   (∀ (rows105 : List (List AV)),
   (((↑m104 : Int) = n - (1 : Int) ∧ rows105 = s_wayL n o dir m104) →
   chk ((0 : Nat) + m104 ≤ rows105.length) (chk (((0 : Nat) + (List.take m104 (List.drop (0 : Nat) rows105)).length) * (8 : Nat) ≤ (140737488355328 : Nat)) (chk ((0 : Nat) + (List.take m104 (List.drop (0 : Nat) rows105)).length ≤ (9223372036854775807 : Nat)) (chk ((0 : Nat) + ((0 : Nat) + (List.take m104 (List.drop (0 : Nat) rows105)).length) ≤
  ([] ++ List.take m104 (List.drop (0 : Nat) rows105)).length) (Q ((AV.row false [K.int IntKind.i64]
    (List.take ((0 : Nat) + (List.take m104 (List.drop (0 : Nat) rows105)).length)
      (List.drop (0 : Nat) ([] ++ List.take m104 (List.drop (0 : Nat) rows105)))),
  []))))))))))))
   (((Hyp ((1 : Int) = (1 : Int) ∧
  o = o ∧ (6 : Int) ≤ n ∧ n ≤ (12 : Int) ∧ (0 : Int) ≤ o ∧ o < n ∧ (dir = (1 : Int) ∨ dir = (-1 : Int)))) ∧
   ((∀ (m104 : Nat),
   (∀ (rows105 : List (List AV)),
   (((↑m104 : Int) = n - (1 : Int) ∧ rows105 = s_wayL n o dir m104) →
   chk ((0 : Nat) + m104 ≤ rows105.length) (chk (((0 : Nat) + (List.take m104 (List.drop (0 : Nat) rows105)).length) * (8 : Nat) ≤ (140737488355328 : Nat)) (chk ((0 : Nat) + (List.take m104 (List.drop (0 : Nat) rows105)).length ≤ (9223372036854775807 : Nat)) (chk ((0 : Nat) + ((0 : Nat) + (List.take m104 (List.drop (0 : Nat) rows105)).length) ≤
  ([] ++ List.take m104 (List.drop (0 : Nat) rows105)).length) (Q ((AV.row false [K.int IntKind.i64]
    (List.take ((0 : Nat) + (List.take m104 (List.drop (0 : Nat) rows105)).length)
      (List.drop (0 : Nat) ([] ++ List.take m104 (List.drop (0 : Nat) rows105)))),
  []))))))))))))))) := by kernel_rfl
theorem nfWaya (n o dir last d : Int) (nl : Bool) (Q : Ex → List AV → List AObj → Prop) : lpBody Tryz.prog H0 U2 6 6 45 9 [.int .i64 n, .row nl [.int .i64] [[.int .i64 o]], .int .i64 dir, .int .i64 last, .ptr 0 0, .fn (.func 59) [.ptr 0 0] [], .int .i64 d] [.box [.nils]] Q = (
br (decide (d < n))
 (((Hyp ((0 : Int) < n ∧
  n ≤ (1000000 : Int) ∧
    (-1000000 : Int) ≤ last ∧
      last ≤ (1000000 : Int) ∧
        (-1000000 : Int) ≤ IntKind.i64.wrap (dir * d) ∧ IntKind.i64.wrap (dir * d) ≤ (1000000 : Int))) ∧
 (br (s_rem (last + IntKind.i64.wrap (dir * d)) n == o)
  (Q (Ex.nrm) ([AV.int IntKind.i64 n, AV.row nl [K.int IntKind.i64] [[AV.int IntKind.i64 o]], AV.int IntKind.i64 dir,
  AV.int IntKind.i64 last, AV.ptr (0 : Nat) (0 : Nat), AV.fn (Fn.func (59 : Nat)) [AV.ptr (0 : Nat) (0 : Nat)] [],
  AV.int IntKind.i64 (IntKind.i64.wrap (d + (1 : Int)))]) ([AObj.box [AV.nils]]))
  (Q (Ex.nrm) ([AV.int IntKind.i64 n, AV.row nl [K.int IntKind.i64] [[AV.int IntKind.i64 o]], AV.int IntKind.i64 dir,
  AV.int IntKind.i64 last, AV.ptr (0 : Nat) (0 : Nat), AV.fn (Fn.func (59 : Nat)) [AV.ptr (0 : Nat) (0 : Nat)] [],
  AV.int IntKind.i64 (IntKind.i64.wrap (d + (1 : Int)))]) ([AObj.box [AV.sl (1 : Nat) (0 : Nat) (1 : Nat)],
  AObj.arr (2 : Nat) (3 : Nat) [K.int IntKind.i64] [[AV.int IntKind.i64 (s_rem (last + IntKind.i64.wrap (dir * d)) n)]]])))))
 (Q (Ex.exit (0 : Nat)) ([AV.ptr (0 : Nat) (0 : Nat)]) ([AObj.box [AV.nils]]))) := by kernel_rfl
theorem nfWayb (n o dir last d : Int) (nl : Bool) (j : Nat) (rs : List (List AV)) (Q : Ex → List AV → List AObj → Prop) : lpBody Tryz.prog H0 U2 6 6 45 9 [.int .i64 n, .row nl [.int .i64] [[.int .i64 o]], .int .i64 dir, .int .i64 last, .ptr 0 0, .fn (.func 59) [.ptr 0 0] [], .int .i64 d] [.box [.sl 1 0 j], .arr 2 3 [.int .i64] rs] Q = (
br (decide (d < n))
 (((Hyp ((0 : Int) < n ∧
  n ≤ (1000000 : Int) ∧
    (-1000000 : Int) ≤ last ∧
      last ≤ (1000000 : Int) ∧
        (-1000000 : Int) ≤ IntKind.i64.wrap (dir * d) ∧ IntKind.i64.wrap (dir * d) ≤ (1000000 : Int))) ∧
 (br (s_rem (last + IntKind.i64.wrap (dir * d)) n == o)
  (Q (Ex.nrm) ([AV.int IntKind.i64 n, AV.row nl [K.int IntKind.i64] [[AV.int IntKind.i64 o]], AV.int IntKind.i64 dir,
  AV.int IntKind.i64 last, AV.ptr (0 : Nat) (0 : Nat), AV.fn (Fn.func (59 : Nat)) [AV.ptr (0 : Nat) (0 : Nat)] [],
  AV.int IntKind.i64 (IntKind.i64.wrap (d + (1 : Int)))]) ([AObj.box [AV.sl (1 : Nat) (0 : Nat) j], AObj.arr (2 : Nat) (3 : Nat) [K.int IntKind.i64] rs]))
  (chk (j = rs.length) (chk ((rs.length + (1 : Nat)) * (8 : Nat) ≤ (140737488355328 : Nat)) (chk (rs.length + (1 : Nat) ≤ (9223372036854775807 : Nat)) (Q (Ex.nrm) ([AV.int IntKind.i64 n, AV.row nl [K.int IntKind.i64] [[AV.int IntKind.i64 o]], AV.int IntKind.i64 dir,
  AV.int IntKind.i64 last, AV.ptr (0 : Nat) (0 : Nat), AV.fn (Fn.func (59 : Nat)) [AV.ptr (0 : Nat) (0 : Nat)] [],
  AV.int IntKind.i64 (IntKind.i64.wrap (d + (1 : Int)))]) ([AObj.box [AV.sl (1 : Nat) (0 : Nat) (rs.length + (1 : Nat))],
  AObj.arr (2 : Nat) (3 : Nat) [K.int IntKind.i64]
    (rs ++ [[AV.int IntKind.i64 (s_rem (last + IntKind.i64.wrap (dir * d)) n)]])]))))))))
 (Q (Ex.exit (0 : Nat)) ([AV.ptr (0 : Nat) (0 : Nat)]) ([AObj.box [AV.sl (1 : Nat) (0 : Nat) j], AObj.arr (2 : Nat) (3 : Nat) [K.int IntKind.i64] rs]))) := by kernel_rfl
end Go.Proofs.YtiemjcchlfbglaaGreatE
/- The way round of one owner: the specs hold. -/
namespace Go.Proofs.YtiemjcchlfbglaaGreatE
open Go
set_option linter.unusedVariables false
set_option linter.unusedSimpArgs false
set_option maxRecDepth 100000

theorem okOwn : OkS Tryz.prog H0 43 sOwn1 := by
  intro args h Q hq
  unfold sOwn1 at hq
  split at hq
  · rename_i n pi e g fi nl ps slot
    obtain ⟨⟨h0, h1, h2⟩, hq⟩ := hyp_iff.1 hq
    refine in_ok (S := U2) (U := 6) (k := 6) okU2 (to (nfOwn ..) ?_)
    have w : IntKind.i64.wrap (slot - n) = slot - n := wr (by omega) (by omega)
    refine br_intro (fun c => ?_) fun c => br_intro (fun c => ?_) fun c2 => br_intro (fun _ => hq) fun c3 => ?_
    · have := of_decide_eq_true c; omega
    · have := of_decide_eq_true c; rw [w] at this; omega
    · have := of_decide_eq_false c3; rw [w] at this; omega
  · exact hq.elim
theorem wayL_len (n o dir : Int) (m : Nat) : (s_wayL n o dir m).length = m := by simp [s_wayL]
theorem wayL_succ (n o dir : Int) (m : Nat) : s_wayL n o dir (m + 1) = s_wayL n o dir m ++ [[AV.int .i64 (s_node n o dir (m + 1))]] := by
  simp [s_wayL, List.range_succ]
theorem dir_mul {dir d : Int} (hd : dir = 1 ∨ dir = -1) (h1 : 0 ≤ d) (h2 : d ≤ 100) : -1000000 ≤ dir * d ∧ dir * d ≤ 1000000 := by
  rcases hd with rfl | rfl <;> omega
theorem way_ne {n o dir : Int} (hd : dir = 1 ∨ dir = -1) (ho : 0 ≤ o) (ho2 : o < n) {k : Nat} (hk : 0 < k) (hk2 : (k : Int) < n) : s_node n o dir k ≠ o := fun e => by
  have h1 := far_node hd ho ho2 hk2
  have h0 := far_node hd ho ho2 (k := 0) (by omega)
  rw [node_zero ho ho2] at h0
  rw [e] at h1
  omega
theorem okLWay : OkLp Tryz.prog H0 45 9 lWay := by
  refine okLp_of (U := 6) (k := 6) okU2 lWay (fun vals _ => match vals with | [.int _ n, _, _, _, _, _, .int _ d] => (n - d).toNat | _ => 0) fun vals h Q hl => ?_
  unfold lWay at hl
  split at hl
  · rename_i n nl o dir last d
    obtain ⟨⟨h0, h1, h2, h3, h4, h5, h6⟩, hq⟩ := hyp_iff.1 hl
    subst h0; subst h1
    have w := dir_mul h6 (d := 1) (by omega) (by omega)
    have hne := way_ne h6 h4 h5 (k := 1) (by omega) (by omega)
    refine to (nfWaya ..) ?_
    rw [wr (x := dir * 1) (by omega) (by omega)]
    refine br_intro (fun c => hyp_iff.2 ⟨⟨by omega, by omega, by omega, by omega, w.1, w.2⟩, br_intro (fun c2 => absurd (beq_iff_eq.1 c2) hne) fun _ => ?_⟩) fun c => absurd (of_decide_eq_false c) (by omega)
    exact ⟨by show (n - IntKind.i64.wrap (1 + 1)).toNat < (n - 1).toNat; rw [wr (by omega) (by omega)]; omega, ⟨by rw [wr (by omega) (by omega)]; rfl, rfl, h2, h3, h4, h5, h6, by rw [wr (by omega) (by omega)]; omega, rfl⟩, hq⟩
  · rename_i n nl o dir last d j rs
    obtain ⟨⟨h0, h1, h2, h3, h4, h5, h6, h7, h8⟩, hq⟩ := hl
    subst h1; subst h8
    have w := dir_mul h6 (d := d) (by omega) (by omega)
    refine to (nfWayb ..) ?_
    rw [wr (x := dir * d) (by omega) (by omega), wayL_len]
    refine br_intro (fun c => ?_) fun c => ?_
    · have c := of_decide_eq_true c
      have hne := way_ne h6 h4 h5 (k := j + 1) (by omega) (by omega)
      have hd : s_rem (last + dir * d) n = s_node n last dir (j + 1) := by rw [h0]; rfl
      refine hyp_iff.2 ⟨⟨by omega, by omega, by omega, by omega, w.1, w.2⟩, br_intro (fun c2 => absurd (beq_iff_eq.1 c2) (by rw [hd]; exact hne)) fun _ => ?_⟩
      rw [chk_iff, chk_iff, chk_iff]
      refine ⟨rfl, by omega, by omega, by show (n - IntKind.i64.wrap (d + 1)).toNat < (n - d).toNat; rw [wr (by omega) (by omega)]; omega, ⟨by rw [wr (by omega) (by omega)]; omega, rfl, h2, h3, h4, h5, h6, by rw [wr (by omega) (by omega)]; omega, by rw [hd, wayL_succ]⟩, hq⟩
    · have c := of_decide_eq_false c
      exact hq j _ ⟨by omega, rfl⟩
  · exact hl.elim
theorem okU2L : OkSp Tryz.prog H0 U2L := ⟨⟨okOwn, okU2.fn⟩, okLWay, trivial⟩
theorem okWay : OkS Tryz.prog H0 45 sWay := by
  intro args h Q hq
  unfold sWay at hq
  split at hq
  · rename_i n nl o dir
    obtain ⟨⟨h0, h1, h2, h3, h4, h5⟩, hq⟩ := hyp_iff.1 hq
    refine in_ok (S := U2L) (U := 6) (k := 6) okU2L (to (nfWay ..) ?_)
    have fin : ∀ (m : Nat) (rows : List (List AV)), (m : Int) = n - 1 ∧ rows = s_wayL n o dir m → chk (0 + m ≤ rows.length) (chk ((0 + (List.take m (List.drop 0 rows)).length) * 8 ≤ 140737488355328) (chk (0 + (List.take m (List.drop 0 rows)).length ≤ 9223372036854775807)
        (chk (0 + (0 + (List.take m (List.drop 0 rows)).length) ≤ ([] ++ List.take m (List.drop 0 rows)).length) (Q (AV.row false [K.int IntKind.i64] (List.take (0 + (List.take m (List.drop 0 rows)).length) (List.drop 0 ([] ++ List.take m (List.drop 0 rows)))), []))))) := fun m rows hm => by
      have hl : rows.length = m := by rw [hm.2, wayL_len]
      simp only [chk_iff, List.drop_zero, List.nil_append, Nat.zero_add, List.take_of_length_le (Nat.le_of_eq hl), hl, List.take_of_length_le (Nat.le_of_eq hl)]
      exact ⟨Nat.le_refl _, by omega, by omega, Nat.le_refl _, hq m rows hm⟩
    refine br_intro (fun c => absurd (of_decide_eq_true c) (by omega)) fun _ => br_intro (fun c => absurd (of_decide_eq_true c) (by omega)) fun _ => br_intro (fun _ => ?_) fun _ => ?_
    · exact hyp_iff.2 ⟨⟨rfl, rfl, h1, h2, h3, h4, h5⟩, fin⟩
    · exact hyp_iff.2 ⟨⟨rfl, rfl, h1, h2, h3, h4, h5⟩, fin⟩
  · exact hq.elim
theorem okU3 : OkSp Tryz.prog H0 U3 := ⟨⟨okWay, okOwn, okU2.fn⟩, trivial⟩
end Go.Proofs.YtiemjcchlfbglaaGreatE
/- spread.Run of one owner: specs. -/
namespace Go.Proofs.YtiemjcchlfbglaaGreatE
open Go
set_option linter.unusedVariables false

structure RP where
  n : Int
  dir : Int
  kind : Int
  at_ : Int
  fr : Int
  to_ : Int
  ro : Int
  sl : Int
  pi : Int
  sts : List (List AV)
  dvs : List (List AV)
def s_out2 (r : List AV) : ByteArray := (r.getD 2 AV.gone).toS
def s_int (l : List (List AV)) (i : Int) : Int := ((l.getD i.toNat []).getD 0 AV.gone).toI
def s_come (P : RP) (sides done : List (List AV)) (node back : Int) : ByteArray :=
  if ((done.getD (s_rem (node + -P.dir * back) P.n).toNat []).getD 0 AV.gone).toB then s_clean (s_emit (s_hit P.n P.kind P.at_ (s_rem (node + -P.dir * back) P.n) node) P.fr P.to_ [] P.ro P.sl node (s_out2 (sides.getD (s_rem (node + -P.dir * back) P.n).toNat []))) else ⟨#[]⟩
def s_guard (pi state dev : Int) (s : ByteArray) : ByteArray := if state = 4 ∧ (dev < -(2 * pi) ∨ 2 * pi < dev) then ⟨#[]⟩ else s
def s_rowsN (l : List (List AV)) (m : Nat) : Prop := ∀ r ∈ l, r.length = m
def s_small (sides : List (List AV)) : Prop := ∀ i : Nat, (s_out2 (sides.getD i [])).size ≤ 1000000
def sCome : SW := fun args h Q => match args, h with
  | [.ptr 0 0, .int .i64 node, .int .i64 back], [.box [.int .i64 n, .int .i64 pi, .int .i64 e, .int .i64 g, .int .i64 fi, .row nl [.int .i64] ps, .int .i64 kind, .int .i64 at_, .int .i64 fr, .int .i64 to_, .row nl1 [.int .i64, .int .i64, .str] acts, .row nl2 [.int .i64] ds, .int .i64 ro, .int .i64 sl, .int .i64 dir, .row nl4 [.int .i64] sts, .row nl5 [.int .i64] dvs, .sl 1 0 n1, .sl 2 0 n2], .arr 2 53 [.str, .str, .str, .int .i64] sides, .arr 2 4 [.bool] done] =>
    Hyp (s_confOk n pi e g fi (ints ps) = true ∧ acts = [] ∧ 0 ≤ ro ∧ ro ≤ 1000000 ∧ 0 ≤ sl ∧ sl ≤ 1000000 ∧ 0 ≤ node ∧ node < n ∧ (dir = 1 ∨ dir = -1) ∧ (back = 1 ∨ back = 2) ∧ n1 = n.toNat ∧ n2 = n.toNat ∧ sides.length = n.toNat ∧ done.length = n.toNat ∧ s_small sides) ∧
      ∀ z, z = s_come ⟨n, dir, kind, at_, fr, to_, ro, sl, pi, sts, dvs⟩ sides done node back → Q (.str z, [.box [.int .i64 n, .int .i64 pi, .int .i64 e, .int .i64 g, .int .i64 fi, .row nl [.int .i64] ps, .int .i64 kind, .int .i64 at_, .int .i64 fr, .int .i64 to_, .row nl1 [.int .i64, .int .i64, .str] acts, .row nl2 [.int .i64] ds, .int .i64 ro, .int .i64 sl, .int .i64 dir, .row nl4 [.int .i64] sts, .row nl5 [.int .i64] dvs, .sl 1 0 n1, .sl 2 0 n2], .arr 2 53 [.str, .str, .str, .int .i64] sides, .arr 2 4 [.bool] done])
  | _, _ => False
def sGuard : SW := fun args h Q => match args, h with
  | [.agg [.int .i64 n, .int .i64 pi, .int .i64 e, .int .i64 g, .int .i64 fi, .row nl [.int .i64] ps], .int .i64 state, .int .i64 dev, .str s], [] => Hyp (0 ≤ pi ∧ pi ≤ 1000000) ∧ ∀ z, z = s_guard pi state dev s → Q (.str z, [])
  | _, _ => False
/-- One node more. -/
def s_dir (P : RP) (sides done : List (List AV)) (k : Nat) : ByteArray :=
  if k = 0 then s_guard P.pi (s_int P.sts (s_node P.n P.sl P.dir (k + 1))) (s_int P.dvs (s_node P.n P.sl P.dir (k + 1))) (s_come P sides done (s_node P.n P.sl P.dir (k + 1)) 1) else s_come P sides done (s_node P.n P.sl P.dir (k + 1)) 1
def s_new (P : RP) (sides done : List (List AV)) (k : Nat) : List AV :=
  [.str (s_dir P sides done k), .str (s_come P sides done (s_node P.n P.sl P.dir (k + 1)) 2),
   .str (if s_int P.sts (s_node P.n P.sl P.dir (k + 1)) = 0 then ⟨#[]⟩ else s_out (decide (0 < k)) (s_dir P sides done k) (s_come P sides done (s_node P.n P.sl P.dir (k + 1)) 2)), .int .i64 ((k : Int) + 1)]
def zeroS : List AV := [.str ⟨#[]⟩, .str ⟨#[]⟩, .str ⟨#[]⟩, .int .i64 0]
def s_iterP (P : RP) : List (List AV) → List (List AV) → Nat → Nat → List (List AV) × List (List AV)
  | sides, done, k, 0 => (sides, done)
  | sides, done, k, j + 1 => s_iterP P (sides.set (s_node P.n P.sl P.dir (k + 1)).toNat (s_new P sides done k)) (done.set (s_node P.n P.sl P.dir (k + 1)).toNat [.bool true]) (k + 1) j
def s_iterS (P : RP) (sides done : List (List AV)) (k j : Nat) : List (List AV) := (s_iterP P sides done k j).1
def s_init1 (P : RP) (s : ByteArray) : List (List AV) := (List.replicate P.n.toNat zeroS).set P.sl.toNat [.str ⟨#[]⟩, .str ⟨#[]⟩, .str s, .int .i64 0]
def s_init2 (P : RP) : List (List AV) := (List.replicate P.n.toNat [.bool false]).set P.sl.toNat [.bool true]
def s_runS (P : RP) (s : ByteArray) (k : Nat) : List (List AV) := s_iterS P (s_init1 P s) (s_init2 P) 0 k
def s_runOk (P : RP) : Prop := 6 ≤ P.n ∧ P.n ≤ 12 ∧ (P.dir = 1 ∨ P.dir = -1) ∧ 0 ≤ P.sl ∧ P.sl < P.n ∧ 0 ≤ P.ro ∧ P.ro ≤ 1000000 ∧ 0 ≤ P.pi ∧ P.pi ≤ 1000000 ∧ (P.sts.length : Int) = P.n ∧ (P.dvs.length : Int) = P.n
def lRun : LW := fun vals h Q => match vals, h with
  | [.ptr 0 0, .row nw [.int .i64] way, .int .i64 len, .int .i64 k], [.box [.int .i64 n, .int .i64 pi, .int .i64 e, .int .i64 g, .int .i64 fi, .row nl [.int .i64] ps, .int .i64 kind, .int .i64 at_, .int .i64 fr, .int .i64 to_, .row nl1 [.int .i64, .int .i64, .str] acts, .row nl2 [.int .i64] ds, .int .i64 ro, .int .i64 sl, .int .i64 dir, .row nl4 [.int .i64] sts, .row nl5 [.int .i64] dvs, .sl 1 0 n1, .sl 2 0 n2], .arr 2 53 [.str, .str, .str, .int .i64] sides, .arr 2 4 [.bool] done] =>
    Hyp (s_confOk n pi e g fi (ints ps) = true ∧ acts = [] ∧ n1 = n.toNat ∧ n2 = n.toNat ∧ 0 ≤ k ∧ k ≤ len ∧ len = n - 1 ∧ way = s_wayL n sl dir len.toNat ∧ s_runOk ⟨n, dir, kind, at_, fr, to_, ro, sl, pi, sts, dvs⟩ ∧ sides.length = n.toNat ∧ done.length = n.toNat ∧ s_small sides ∧ s_rowsN sides 4 ∧ s_rowsN done 1) ∧
        ∀ rows rowd, rows = s_iterS ⟨n, dir, kind, at_, fr, to_, ro, sl, pi, sts, dvs⟩ sides done k.toNat (len - k).toNat → Q (.exit 2) [.ptr 0 0] [.box [.int .i64 n, .int .i64 pi, .int .i64 e, .int .i64 g, .int .i64 fi, .row nl [.int .i64] ps, .int .i64 kind, .int .i64 at_, .int .i64 fr, .int .i64 to_, .row nl1 [.int .i64, .int .i64, .str] acts, .row nl2 [.int .i64] ds, .int .i64 ro, .int .i64 sl, .int .i64 dir, .row nl4 [.int .i64] sts, .row nl5 [.int .i64] dvs, .sl 1 0 n1, .sl 2 0 n2], .arr 2 53 [.str, .str, .str, .int .i64] rows, .arr 2 4 [.bool] rowd]
  | _, _ => False
def sRun : SW := fun args h Q => match args, h with
  | [.agg [.int .i64 n, .int .i64 pi, .int .i64 e, .int .i64 g, .int .i64 fi, .row nl [.int .i64] ps], .agg [.int .i64 kind, .int .i64 at_, .int .i64 fr, .int .i64 to_, .row nl1 [.int .i64, .int .i64, .str] acts, .row nl2 [.int .i64] ds], .int .i64 ro, .int .i64 sl, .int .i64 dir, .row nl3 [.str] [[.str s]], .row nl4 [.int .i64] sts, .row nl5 [.int .i64] dvs], [] =>
    Hyp (s_confOk n pi e g fi (ints ps) = true ∧ acts = [] ∧ s_runOk ⟨n, dir, kind, at_, fr, to_, ro, sl, pi, sts, dvs⟩ ∧ s.size ≤ 1000000) ∧ ∀ rows, rows = s_runS ⟨n, dir, kind, at_, fr, to_, ro, sl, pi, sts, dvs⟩ s (n - 1).toNat → Q (.row false [.str, .str, .str, .int .i64] rows, [])
  | _, _ => False
def U4 : Sp := ⟨(63, sCome) :: (64, sGuard) :: U3.fn, []⟩
def U4L : Sp := ⟨U4.fn, [(27, 12, lRun)]⟩
def U5 : Sp := ⟨(27, sRun) :: U4.fn, []⟩
end Go.Proofs.YtiemjcchlfbglaaGreatE
/- What path mode says of functions, printed by a program of this session; the kernel holds each. -/
namespace Go.Proofs.YtiemjcchlfbglaaGreatE
open Go
set_option maxRecDepth 100000
set_option linter.unusedVariables false
theorem nfCome (n pi e g fi kind at_ fr to_ ro sl dir : Int) (nl nl1 nl2 nl4 nl5 : Bool) (ps acts ds sts dvs sides done : List (List AV)) (n1 n2 : Nat) (node back : Int) (Q : AV × List AObj → Prop) : inlW Tryz.prog H0 U3 6 (InO Tryz.prog H0 U3 6 6) 63 [.ptr 0 0, .int .i64 node, .int .i64 back] [.box [.int .i64 n, .int .i64 pi, .int .i64 e, .int .i64 g, .int .i64 fi, .row nl [.int .i64] ps, .int .i64 kind, .int .i64 at_, .int .i64 fr, .int .i64 to_, .row nl1 [.int .i64, .int .i64, .str] acts, .row nl2 [.int .i64] ds, .int .i64 ro, .int .i64 sl, .int .i64 dir, .row nl4 [.int .i64] sts, .row nl5 [.int .i64] dvs, .sl 1 0 n1, .sl 2 0 n2], .arr 2 53 [.str, .str, .str, .int .i64] sides, .arr 2 4 [.bool] done] Q = (
((Hyp ((0 : Int) < n ∧
  n ≤ (1000000 : Int) ∧
    (-1000000 : Int) ≤ node ∧
      node ≤ (1000000 : Int) ∧
        (-1000000 : Int) ≤ IntKind.i64.wrap (IntKind.i64.wrap ((0 : Int) - dir) * back) ∧
          IntKind.i64.wrap (IntKind.i64.wrap ((0 : Int) - dir) * back) ≤ (1000000 : Int))) ∧
(chk ((0 : Int) ≤ s_rem (node + IntKind.i64.wrap (IntKind.i64.wrap ((0 : Int) - dir) * back)) n ∧
  s_rem (node + IntKind.i64.wrap (IntKind.i64.wrap ((0 : Int) - dir) * back)) n < (↑n2 : Int)) (chk ((0 : Nat) + (s_rem (node + IntKind.i64.wrap (IntKind.i64.wrap ((0 : Int) - dir) * back)) n).toNat < done.length) (br (!((done.getD ((0 : Nat) + (s_rem (node + IntKind.i64.wrap (IntKind.i64.wrap ((0 : Int) - dir) * back)) n).toNat)
          []).getD
      (0 : Nat) AV.gone).toB)
 (Q ((AV.str (ByteArray.mk #[]),
  [AObj.box
      [AV.int IntKind.i64 n, AV.int IntKind.i64 pi, AV.int IntKind.i64 e, AV.int IntKind.i64 g, AV.int IntKind.i64 fi,
        AV.row nl [K.int IntKind.i64] ps, AV.int IntKind.i64 kind, AV.int IntKind.i64 at_, AV.int IntKind.i64 fr,
        AV.int IntKind.i64 to_, AV.row nl1 [K.int IntKind.i64, K.int IntKind.i64, K.str] acts,
        AV.row nl2 [K.int IntKind.i64] ds, AV.int IntKind.i64 ro, AV.int IntKind.i64 sl, AV.int IntKind.i64 dir,
        AV.row nl4 [K.int IntKind.i64] sts, AV.row nl5 [K.int IntKind.i64] dvs, AV.sl (1 : Nat) (0 : Nat) n1,
        AV.sl (2 : Nat) (0 : Nat) n2],
    AObj.arr (2 : Nat) (53 : Nat) [K.str, K.str, K.str, K.int IntKind.i64] sides,
    AObj.arr (2 : Nat) (4 : Nat) [K.bool] done])))
 (chk ((0 : Int) ≤ s_rem (node + IntKind.i64.wrap (IntKind.i64.wrap ((0 : Int) - dir) * back)) n ∧
  s_rem (node + IntKind.i64.wrap (IntKind.i64.wrap ((0 : Int) - dir) * back)) n < (↑n1 : Int)) (chk ((0 : Nat) + (s_rem (node + IntKind.i64.wrap (IntKind.i64.wrap ((0 : Int) - dir) * back)) n).toNat < sides.length) (((Hyp (s_confOk n pi e g fi (List.map (fun r => (r.getD (0 : Nat) AV.gone).toI) ps) = true ∧
  (0 : Int) ≤ ro ∧
    ro ≤ (1000000 : Int) ∧
      (0 : Int) ≤ sl ∧
        sl ≤ (1000000 : Int) ∧
          (0 : Int) ≤ node ∧
            node ≤ (1000000 : Int) ∧
              (↑((sides.getD
                                ((0 : Nat) +
                                  (s_rem (node + IntKind.i64.wrap (IntKind.i64.wrap ((0 : Int) - dir) * back)) n).toNat)
                                []).getD
                            (2 : Nat) AV.gone).toS.size :
                    Int) ≤
                  (2305843009213693952 : Int) ∧
                s_actsOk acts)) ∧
 (((Hyp ((↑(s_emit (s_hit n kind at_ (s_rem (node + IntKind.i64.wrap (IntKind.i64.wrap ((0 : Int) - dir) * back)) n) node) fr to_
          acts ro sl node
          ((sides.getD
                  ((0 : Nat) + (s_rem (node + IntKind.i64.wrap (IntKind.i64.wrap ((0 : Int) - dir) * back)) n).toNat)
                  []).getD
              (2 : Nat) AV.gone).toS).size :
    Int) ≤
  (4611686018427387904 : Int))) ∧
 (Q ((AV.str
    (s_clean
      (s_emit (s_hit n kind at_ (s_rem (node + IntKind.i64.wrap (IntKind.i64.wrap ((0 : Int) - dir) * back)) n) node) fr
        to_ acts ro sl node
        ((sides.getD ((0 : Nat) + (s_rem (node + IntKind.i64.wrap (IntKind.i64.wrap ((0 : Int) - dir) * back)) n).toNat)
                []).getD
            (2 : Nat) AV.gone).toS)),
  [AObj.box
      [AV.int IntKind.i64 n, AV.int IntKind.i64 pi, AV.int IntKind.i64 e, AV.int IntKind.i64 g, AV.int IntKind.i64 fi,
        AV.row nl [K.int IntKind.i64] ps, AV.int IntKind.i64 kind, AV.int IntKind.i64 at_, AV.int IntKind.i64 fr,
        AV.int IntKind.i64 to_, AV.row nl1 [K.int IntKind.i64, K.int IntKind.i64, K.str] acts,
        AV.row nl2 [K.int IntKind.i64] ds, AV.int IntKind.i64 ro, AV.int IntKind.i64 sl, AV.int IntKind.i64 dir,
        AV.row nl4 [K.int IntKind.i64] sts, AV.row nl5 [K.int IntKind.i64] dvs, AV.sl (1 : Nat) (0 : Nat) n1,
        AV.sl (2 : Nat) (0 : Nat) n2],
    AObj.arr (2 : Nat) (53 : Nat) [K.str, K.str, K.str, K.int IntKind.i64] sides,
    AObj.arr (2 : Nat) (4 : Nat) [K.bool] done])))))))))))))) := by kernel_rfl
theorem nfGuard (n pi e g fi : Int) (nl : Bool) (ps : List (List AV)) (state dev : Int) (s : ByteArray) (Q : AV × List AObj → Prop) : inlW Tryz.prog H0 U3 6 (InO Tryz.prog H0 U3 6 6) 64 [cf n pi e g fi nl ps, .int .i64 state, .int .i64 dev, .str s] [] Q = (
br (state != (4 : Int))
 (Q ((AV.str s, [])))
 (br (decide (dev ≥ IntKind.i64.wrap ((0 : Int) - IntKind.i64.wrap ((2 : Int) * pi))))
  (br (!decide (dev ≤ IntKind.i64.wrap ((2 : Int) * pi)))
   (Q ((AV.str (ByteArray.mk #[]), [])))
   (Q ((AV.str s, []))))
  (Q ((AV.str (ByteArray.mk #[]), []))))) := by kernel_rfl
theorem nfRuna (n pi e g fi kind at_ fr to_ ro sl dir : Int) (nl nl1 nl2 nl4 nl5 : Bool) (ps acts ds sts dvs sides done : List (List AV)) (n1 n2 : Nat) (nw : Bool) (way : List (List AV)) (len k : Int) (Q : Ex → List AV → List AObj → Prop) : lpBody Tryz.prog H0 U4 6 6 27 12 [.ptr 0 0, .row nw [.int .i64] way, .int .i64 len, .int .i64 k] [.box [.int .i64 n, .int .i64 pi, .int .i64 e, .int .i64 g, .int .i64 fi, .row nl [.int .i64] ps, .int .i64 kind, .int .i64 at_, .int .i64 fr, .int .i64 to_, .row nl1 [.int .i64, .int .i64, .str] acts, .row nl2 [.int .i64] ds, .int .i64 ro, .int .i64 sl, .int .i64 dir, .row nl4 [.int .i64] sts, .row nl5 [.int .i64] dvs, .sl 1 0 n1, .sl 2 0 n2], .arr 2 53 [.str, .str, .str, .int .i64] sides, .arr 2 4 [.bool] done] Q = (
br (decide (k < len))
 (chk ((0 : Int) ≤ k ∧ k < (↑way.length : Int)) (((Hyp (s_confOk n pi e g fi (List.map (fun r => (r.getD (0 : Nat) AV.gone).toI) ps) = true ∧
  acts = [] ∧
    (0 : Int) ≤ ro ∧
      ro ≤ (1000000 : Int) ∧
        (0 : Int) ≤ sl ∧
          sl ≤ (1000000 : Int) ∧
            (0 : Int) ≤ ((way.getD k.toNat []).getD (0 : Nat) AV.gone).toI ∧
              ((way.getD k.toNat []).getD (0 : Nat) AV.gone).toI < n ∧
                (dir = (1 : Int) ∨ dir = (-1 : Int)) ∧
                  ((1 : Int) = (1 : Int) ∨ (1 : Int) = (2 : Int)) ∧
                    n1 = n.toNat ∧ n2 = n.toNat ∧ sides.length = n.toNat ∧ done.length = n.toNat ∧ s_small sides)) ∧
 ((∀ (z103 : ByteArray),
 ((z103 =
  s_come
    { n := n, dir := dir, kind := kind, at_ := at_, fr := fr, to_ := to_, ro := ro, sl := sl, pi := pi, sts := sts,
      dvs := dvs }
    sides done ((way.getD k.toNat []).getD (0 : Nat) AV.gone).toI (1 : Int)) →
 ((Hyp (s_confOk n pi e g fi (List.map (fun r => (r.getD (0 : Nat) AV.gone).toI) ps) = true ∧
  acts = [] ∧
    (0 : Int) ≤ ro ∧
      ro ≤ (1000000 : Int) ∧
        (0 : Int) ≤ sl ∧
          sl ≤ (1000000 : Int) ∧
            (0 : Int) ≤ ((way.getD k.toNat []).getD (0 : Nat) AV.gone).toI ∧
              ((way.getD k.toNat []).getD (0 : Nat) AV.gone).toI < n ∧
                (dir = (1 : Int) ∨ dir = (-1 : Int)) ∧
                  ((2 : Int) = (1 : Int) ∨ (2 : Int) = (2 : Int)) ∧
                    n1 = n.toNat ∧ n2 = n.toNat ∧ sides.length = n.toNat ∧ done.length = n.toNat ∧ s_small sides)) ∧
 ((∀ (z106 : ByteArray),
 ((z106 =
  s_come
    { n := n, dir := dir, kind := kind, at_ := at_, fr := fr, to_ := to_, ro := ro, sl := sl, pi := pi, sts := sts,
      dvs := dvs }
    sides done ((way.getD k.toNat []).getD (0 : Nat) AV.gone).toI (2 : Int)) →
 br (IntKind.i64.wrap (k + (1 : Int)) == (1 : Int))
  (chk ((0 : Int) ≤ ((way.getD k.toNat []).getD (0 : Nat) AV.gone).toI ∧
  ((way.getD k.toNat []).getD (0 : Nat) AV.gone).toI < (↑sts.length : Int)) (chk ((0 : Int) ≤ ((way.getD k.toNat []).getD (0 : Nat) AV.gone).toI ∧
  ((way.getD k.toNat []).getD (0 : Nat) AV.gone).toI < (↑dvs.length : Int)) (((Hyp ((0 : Int) ≤ pi ∧ pi ≤ (1000000 : Int))) ∧
  ((∀ (z112 : ByteArray),
  ((z112 =
  s_guard pi ((sts.getD ((way.getD k.toNat []).getD (0 : Nat) AV.gone).toI.toNat []).getD (0 : Nat) AV.gone).toI
    ((dvs.getD ((way.getD k.toNat []).getD (0 : Nat) AV.gone).toI.toNat []).getD (0 : Nat) AV.gone).toI z103) →
  chk ((0 : Int) ≤ ((way.getD k.toNat []).getD (0 : Nat) AV.gone).toI ∧
  ((way.getD k.toNat []).getD (0 : Nat) AV.gone).toI < (↑sts.length : Int)) (br (((sts.getD ((way.getD k.toNat []).getD (0 : Nat) AV.gone).toI.toNat []).getD (0 : Nat) AV.gone).toI != (0 : Int))
   (br (decide (IntKind.i64.wrap (k + (1 : Int)) > (1 : Int)))
    (((Hyp (z112.size ≤ (1000000000 : Nat))) ∧
    ((∀ (z118 : ByteArray),
    ((z118 = s_out true z112 z106) →
    chk ((0 : Int) ≤ ((way.getD k.toNat []).getD (0 : Nat) AV.gone).toI ∧
  ((way.getD k.toNat []).getD (0 : Nat) AV.gone).toI < (↑n1 : Int)) (chk ((0 : Nat) + ((way.getD k.toNat []).getD (0 : Nat) AV.gone).toI.toNat < sides.length) (chk ((0 : Int) ≤ ((way.getD k.toNat []).getD (0 : Nat) AV.gone).toI ∧
  ((way.getD k.toNat []).getD (0 : Nat) AV.gone).toI < (↑n2 : Int)) (chk ((0 : Nat) + ((way.getD k.toNat []).getD (0 : Nat) AV.gone).toI.toNat < done.length) (Q (Ex.nrm) ([AV.ptr (0 : Nat) (0 : Nat), AV.row nw [K.int IntKind.i64] way, AV.int IntKind.i64 len,
  AV.int IntKind.i64 (IntKind.i64.wrap (k + (1 : Int)))]) ([AObj.box
    [AV.int IntKind.i64 n, AV.int IntKind.i64 pi, AV.int IntKind.i64 e, AV.int IntKind.i64 g, AV.int IntKind.i64 fi,
      AV.row nl [K.int IntKind.i64] ps, AV.int IntKind.i64 kind, AV.int IntKind.i64 at_, AV.int IntKind.i64 fr,
      AV.int IntKind.i64 to_, AV.row nl1 [K.int IntKind.i64, K.int IntKind.i64, K.str] acts,
      AV.row nl2 [K.int IntKind.i64] ds, AV.int IntKind.i64 ro, AV.int IntKind.i64 sl, AV.int IntKind.i64 dir,
      AV.row nl4 [K.int IntKind.i64] sts, AV.row nl5 [K.int IntKind.i64] dvs, AV.sl (1 : Nat) (0 : Nat) n1,
      AV.sl (2 : Nat) (0 : Nat) n2],
  AObj.arr (2 : Nat) (53 : Nat) [K.str, K.str, K.str, K.int IntKind.i64]
    (sides.set ((0 : Nat) + ((way.getD k.toNat []).getD (0 : Nat) AV.gone).toI.toNat)
      (AV.str z112 ::
        AV.str z106 ::
          AV.str z118 ::
            AV.int IntKind.i64 (IntKind.i64.wrap (k + (1 : Int))) ::
              List.drop ((0 : Nat) + (4 : Nat))
                (sides.getD ((0 : Nat) + ((way.getD k.toNat []).getD (0 : Nat) AV.gone).toI.toNat) []))),
  AObj.arr (2 : Nat) (4 : Nat) [K.bool]
    (done.set ((0 : Nat) + ((way.getD k.toNat []).getD (0 : Nat) AV.gone).toI.toNat)
      (AV.bool true ::
        List.drop ((0 : Nat) + (1 : Nat))
          (done.getD ((0 : Nat) + ((way.getD k.toNat []).getD (0 : Nat) AV.gone).toI.toNat) [])))]))))))))))
    (((Hyp (z112.size ≤ (1000000000 : Nat))) ∧
    ((∀ (z118 : ByteArray),
    ((z118 = s_out (decide (sl ≥ n)) z112 z106) →
    chk ((0 : Int) ≤ ((way.getD k.toNat []).getD (0 : Nat) AV.gone).toI ∧
  ((way.getD k.toNat []).getD (0 : Nat) AV.gone).toI < (↑n1 : Int)) (chk ((0 : Nat) + ((way.getD k.toNat []).getD (0 : Nat) AV.gone).toI.toNat < sides.length) (chk ((0 : Int) ≤ ((way.getD k.toNat []).getD (0 : Nat) AV.gone).toI ∧
  ((way.getD k.toNat []).getD (0 : Nat) AV.gone).toI < (↑n2 : Int)) (chk ((0 : Nat) + ((way.getD k.toNat []).getD (0 : Nat) AV.gone).toI.toNat < done.length) (Q (Ex.nrm) ([AV.ptr (0 : Nat) (0 : Nat), AV.row nw [K.int IntKind.i64] way, AV.int IntKind.i64 len,
  AV.int IntKind.i64 (IntKind.i64.wrap (k + (1 : Int)))]) ([AObj.box
    [AV.int IntKind.i64 n, AV.int IntKind.i64 pi, AV.int IntKind.i64 e, AV.int IntKind.i64 g, AV.int IntKind.i64 fi,
      AV.row nl [K.int IntKind.i64] ps, AV.int IntKind.i64 kind, AV.int IntKind.i64 at_, AV.int IntKind.i64 fr,
      AV.int IntKind.i64 to_, AV.row nl1 [K.int IntKind.i64, K.int IntKind.i64, K.str] acts,
      AV.row nl2 [K.int IntKind.i64] ds, AV.int IntKind.i64 ro, AV.int IntKind.i64 sl, AV.int IntKind.i64 dir,
      AV.row nl4 [K.int IntKind.i64] sts, AV.row nl5 [K.int IntKind.i64] dvs, AV.sl (1 : Nat) (0 : Nat) n1,
      AV.sl (2 : Nat) (0 : Nat) n2],
  AObj.arr (2 : Nat) (53 : Nat) [K.str, K.str, K.str, K.int IntKind.i64]
    (sides.set ((0 : Nat) + ((way.getD k.toNat []).getD (0 : Nat) AV.gone).toI.toNat)
      (AV.str z112 ::
        AV.str z106 ::
          AV.str z118 ::
            AV.int IntKind.i64 (IntKind.i64.wrap (k + (1 : Int))) ::
              List.drop ((0 : Nat) + (4 : Nat))
                (sides.getD ((0 : Nat) + ((way.getD k.toNat []).getD (0 : Nat) AV.gone).toI.toNat) []))),
  AObj.arr (2 : Nat) (4 : Nat) [K.bool]
    (done.set ((0 : Nat) + ((way.getD k.toNat []).getD (0 : Nat) AV.gone).toI.toNat)
      (AV.bool true ::
        List.drop ((0 : Nat) + (1 : Nat))
          (done.getD ((0 : Nat) + ((way.getD k.toNat []).getD (0 : Nat) AV.gone).toI.toNat) [])))])))))))))))
   (chk ((0 : Int) ≤ ((way.getD k.toNat []).getD (0 : Nat) AV.gone).toI ∧
  ((way.getD k.toNat []).getD (0 : Nat) AV.gone).toI < (↑n1 : Int)) (chk ((0 : Nat) + ((way.getD k.toNat []).getD (0 : Nat) AV.gone).toI.toNat < sides.length) (chk ((0 : Int) ≤ ((way.getD k.toNat []).getD (0 : Nat) AV.gone).toI ∧
  ((way.getD k.toNat []).getD (0 : Nat) AV.gone).toI < (↑n2 : Int)) (chk ((0 : Nat) + ((way.getD k.toNat []).getD (0 : Nat) AV.gone).toI.toNat < done.length) (Q (Ex.nrm) ([AV.ptr (0 : Nat) (0 : Nat), AV.row nw [K.int IntKind.i64] way, AV.int IntKind.i64 len,
  AV.int IntKind.i64 (IntKind.i64.wrap (k + (1 : Int)))]) ([AObj.box
    [AV.int IntKind.i64 n, AV.int IntKind.i64 pi, AV.int IntKind.i64 e, AV.int IntKind.i64 g, AV.int IntKind.i64 fi,
      AV.row nl [K.int IntKind.i64] ps, AV.int IntKind.i64 kind, AV.int IntKind.i64 at_, AV.int IntKind.i64 fr,
      AV.int IntKind.i64 to_, AV.row nl1 [K.int IntKind.i64, K.int IntKind.i64, K.str] acts,
      AV.row nl2 [K.int IntKind.i64] ds, AV.int IntKind.i64 ro, AV.int IntKind.i64 sl, AV.int IntKind.i64 dir,
      AV.row nl4 [K.int IntKind.i64] sts, AV.row nl5 [K.int IntKind.i64] dvs, AV.sl (1 : Nat) (0 : Nat) n1,
      AV.sl (2 : Nat) (0 : Nat) n2],
  AObj.arr (2 : Nat) (53 : Nat) [K.str, K.str, K.str, K.int IntKind.i64]
    (sides.set ((0 : Nat) + ((way.getD k.toNat []).getD (0 : Nat) AV.gone).toI.toNat)
      (AV.str z112 ::
        AV.str z106 ::
          AV.str (ByteArray.mk #[]) ::
            AV.int IntKind.i64 (IntKind.i64.wrap (k + (1 : Int))) ::
              List.drop ((0 : Nat) + (4 : Nat))
                (sides.getD ((0 : Nat) + ((way.getD k.toNat []).getD (0 : Nat) AV.gone).toI.toNat) []))),
  AObj.arr (2 : Nat) (4 : Nat) [K.bool]
    (done.set ((0 : Nat) + ((way.getD k.toNat []).getD (0 : Nat) AV.gone).toI.toNat)
      (AV.bool true ::
        List.drop ((0 : Nat) + (1 : Nat))
          (done.getD ((0 : Nat) + ((way.getD k.toNat []).getD (0 : Nat) AV.gone).toI.toNat) [])))]))))))))))))))
  (chk ((0 : Int) ≤ ((way.getD k.toNat []).getD (0 : Nat) AV.gone).toI ∧
  ((way.getD k.toNat []).getD (0 : Nat) AV.gone).toI < (↑sts.length : Int)) (br (((sts.getD ((way.getD k.toNat []).getD (0 : Nat) AV.gone).toI.toNat []).getD (0 : Nat) AV.gone).toI != (0 : Int))
   (br (decide (IntKind.i64.wrap (k + (1 : Int)) > (1 : Int)))
    (((Hyp (z103.size ≤ (1000000000 : Nat))) ∧
    ((∀ (z113 : ByteArray),
    ((z113 = s_out true z103 z106) →
    chk ((0 : Int) ≤ ((way.getD k.toNat []).getD (0 : Nat) AV.gone).toI ∧
  ((way.getD k.toNat []).getD (0 : Nat) AV.gone).toI < (↑n1 : Int)) (chk ((0 : Nat) + ((way.getD k.toNat []).getD (0 : Nat) AV.gone).toI.toNat < sides.length) (chk ((0 : Int) ≤ ((way.getD k.toNat []).getD (0 : Nat) AV.gone).toI ∧
  ((way.getD k.toNat []).getD (0 : Nat) AV.gone).toI < (↑n2 : Int)) (chk ((0 : Nat) + ((way.getD k.toNat []).getD (0 : Nat) AV.gone).toI.toNat < done.length) (Q (Ex.nrm) ([AV.ptr (0 : Nat) (0 : Nat), AV.row nw [K.int IntKind.i64] way, AV.int IntKind.i64 len,
  AV.int IntKind.i64 (IntKind.i64.wrap (k + (1 : Int)))]) ([AObj.box
    [AV.int IntKind.i64 n, AV.int IntKind.i64 pi, AV.int IntKind.i64 e, AV.int IntKind.i64 g, AV.int IntKind.i64 fi,
      AV.row nl [K.int IntKind.i64] ps, AV.int IntKind.i64 kind, AV.int IntKind.i64 at_, AV.int IntKind.i64 fr,
      AV.int IntKind.i64 to_, AV.row nl1 [K.int IntKind.i64, K.int IntKind.i64, K.str] acts,
      AV.row nl2 [K.int IntKind.i64] ds, AV.int IntKind.i64 ro, AV.int IntKind.i64 sl, AV.int IntKind.i64 dir,
      AV.row nl4 [K.int IntKind.i64] sts, AV.row nl5 [K.int IntKind.i64] dvs, AV.sl (1 : Nat) (0 : Nat) n1,
      AV.sl (2 : Nat) (0 : Nat) n2],
  AObj.arr (2 : Nat) (53 : Nat) [K.str, K.str, K.str, K.int IntKind.i64]
    (sides.set ((0 : Nat) + ((way.getD k.toNat []).getD (0 : Nat) AV.gone).toI.toNat)
      (AV.str z103 ::
        AV.str z106 ::
          AV.str z113 ::
            AV.int IntKind.i64 (IntKind.i64.wrap (k + (1 : Int))) ::
              List.drop ((0 : Nat) + (4 : Nat))
                (sides.getD ((0 : Nat) + ((way.getD k.toNat []).getD (0 : Nat) AV.gone).toI.toNat) []))),
  AObj.arr (2 : Nat) (4 : Nat) [K.bool]
    (done.set ((0 : Nat) + ((way.getD k.toNat []).getD (0 : Nat) AV.gone).toI.toNat)
      (AV.bool true ::
        List.drop ((0 : Nat) + (1 : Nat))
          (done.getD ((0 : Nat) + ((way.getD k.toNat []).getD (0 : Nat) AV.gone).toI.toNat) [])))]))))))))))
    (((Hyp (z103.size ≤ (1000000000 : Nat))) ∧
    ((∀ (z113 : ByteArray),
    ((z113 = s_out (decide (sl ≥ n)) z103 z106) →
    chk ((0 : Int) ≤ ((way.getD k.toNat []).getD (0 : Nat) AV.gone).toI ∧
  ((way.getD k.toNat []).getD (0 : Nat) AV.gone).toI < (↑n1 : Int)) (chk ((0 : Nat) + ((way.getD k.toNat []).getD (0 : Nat) AV.gone).toI.toNat < sides.length) (chk ((0 : Int) ≤ ((way.getD k.toNat []).getD (0 : Nat) AV.gone).toI ∧
  ((way.getD k.toNat []).getD (0 : Nat) AV.gone).toI < (↑n2 : Int)) (chk ((0 : Nat) + ((way.getD k.toNat []).getD (0 : Nat) AV.gone).toI.toNat < done.length) (Q (Ex.nrm) ([AV.ptr (0 : Nat) (0 : Nat), AV.row nw [K.int IntKind.i64] way, AV.int IntKind.i64 len,
  AV.int IntKind.i64 (IntKind.i64.wrap (k + (1 : Int)))]) ([AObj.box
    [AV.int IntKind.i64 n, AV.int IntKind.i64 pi, AV.int IntKind.i64 e, AV.int IntKind.i64 g, AV.int IntKind.i64 fi,
      AV.row nl [K.int IntKind.i64] ps, AV.int IntKind.i64 kind, AV.int IntKind.i64 at_, AV.int IntKind.i64 fr,
      AV.int IntKind.i64 to_, AV.row nl1 [K.int IntKind.i64, K.int IntKind.i64, K.str] acts,
      AV.row nl2 [K.int IntKind.i64] ds, AV.int IntKind.i64 ro, AV.int IntKind.i64 sl, AV.int IntKind.i64 dir,
      AV.row nl4 [K.int IntKind.i64] sts, AV.row nl5 [K.int IntKind.i64] dvs, AV.sl (1 : Nat) (0 : Nat) n1,
      AV.sl (2 : Nat) (0 : Nat) n2],
  AObj.arr (2 : Nat) (53 : Nat) [K.str, K.str, K.str, K.int IntKind.i64]
    (sides.set ((0 : Nat) + ((way.getD k.toNat []).getD (0 : Nat) AV.gone).toI.toNat)
      (AV.str z103 ::
        AV.str z106 ::
          AV.str z113 ::
            AV.int IntKind.i64 (IntKind.i64.wrap (k + (1 : Int))) ::
              List.drop ((0 : Nat) + (4 : Nat))
                (sides.getD ((0 : Nat) + ((way.getD k.toNat []).getD (0 : Nat) AV.gone).toI.toNat) []))),
  AObj.arr (2 : Nat) (4 : Nat) [K.bool]
    (done.set ((0 : Nat) + ((way.getD k.toNat []).getD (0 : Nat) AV.gone).toI.toNat)
      (AV.bool true ::
        List.drop ((0 : Nat) + (1 : Nat))
          (done.getD ((0 : Nat) + ((way.getD k.toNat []).getD (0 : Nat) AV.gone).toI.toNat) [])))])))))))))))
   (chk ((0 : Int) ≤ ((way.getD k.toNat []).getD (0 : Nat) AV.gone).toI ∧
  ((way.getD k.toNat []).getD (0 : Nat) AV.gone).toI < (↑n1 : Int)) (chk ((0 : Nat) + ((way.getD k.toNat []).getD (0 : Nat) AV.gone).toI.toNat < sides.length) (chk ((0 : Int) ≤ ((way.getD k.toNat []).getD (0 : Nat) AV.gone).toI ∧
  ((way.getD k.toNat []).getD (0 : Nat) AV.gone).toI < (↑n2 : Int)) (chk ((0 : Nat) + ((way.getD k.toNat []).getD (0 : Nat) AV.gone).toI.toNat < done.length) (Q (Ex.nrm) ([AV.ptr (0 : Nat) (0 : Nat), AV.row nw [K.int IntKind.i64] way, AV.int IntKind.i64 len,
  AV.int IntKind.i64 (IntKind.i64.wrap (k + (1 : Int)))]) ([AObj.box
    [AV.int IntKind.i64 n, AV.int IntKind.i64 pi, AV.int IntKind.i64 e, AV.int IntKind.i64 g, AV.int IntKind.i64 fi,
      AV.row nl [K.int IntKind.i64] ps, AV.int IntKind.i64 kind, AV.int IntKind.i64 at_, AV.int IntKind.i64 fr,
      AV.int IntKind.i64 to_, AV.row nl1 [K.int IntKind.i64, K.int IntKind.i64, K.str] acts,
      AV.row nl2 [K.int IntKind.i64] ds, AV.int IntKind.i64 ro, AV.int IntKind.i64 sl, AV.int IntKind.i64 dir,
      AV.row nl4 [K.int IntKind.i64] sts, AV.row nl5 [K.int IntKind.i64] dvs, AV.sl (1 : Nat) (0 : Nat) n1,
      AV.sl (2 : Nat) (0 : Nat) n2],
  AObj.arr (2 : Nat) (53 : Nat) [K.str, K.str, K.str, K.int IntKind.i64]
    (sides.set ((0 : Nat) + ((way.getD k.toNat []).getD (0 : Nat) AV.gone).toI.toNat)
      (AV.str z103 ::
        AV.str z106 ::
          AV.str (ByteArray.mk #[]) ::
            AV.int IntKind.i64 (IntKind.i64.wrap (k + (1 : Int))) ::
              List.drop ((0 : Nat) + (4 : Nat))
                (sides.getD ((0 : Nat) + ((way.getD k.toNat []).getD (0 : Nat) AV.gone).toI.toNat) []))),
  AObj.arr (2 : Nat) (4 : Nat) [K.bool]
    (done.set ((0 : Nat) + ((way.getD k.toNat []).getD (0 : Nat) AV.gone).toI.toNat)
      (AV.bool true ::
        List.drop ((0 : Nat) + (1 : Nat))
          (done.getD ((0 : Nat) + ((way.getD k.toNat []).getD (0 : Nat) AV.gone).toI.toNat) [])))]))))))))))))))))))
 (Q (Ex.exit (2 : Nat)) ([AV.ptr (0 : Nat) (0 : Nat)]) ([AObj.box
    [AV.int IntKind.i64 n, AV.int IntKind.i64 pi, AV.int IntKind.i64 e, AV.int IntKind.i64 g, AV.int IntKind.i64 fi,
      AV.row nl [K.int IntKind.i64] ps, AV.int IntKind.i64 kind, AV.int IntKind.i64 at_, AV.int IntKind.i64 fr,
      AV.int IntKind.i64 to_, AV.row nl1 [K.int IntKind.i64, K.int IntKind.i64, K.str] acts,
      AV.row nl2 [K.int IntKind.i64] ds, AV.int IntKind.i64 ro, AV.int IntKind.i64 sl, AV.int IntKind.i64 dir,
      AV.row nl4 [K.int IntKind.i64] sts, AV.row nl5 [K.int IntKind.i64] dvs, AV.sl (1 : Nat) (0 : Nat) n1,
      AV.sl (2 : Nat) (0 : Nat) n2],
  AObj.arr (2 : Nat) (53 : Nat) [K.str, K.str, K.str, K.int IntKind.i64] sides,
  AObj.arr (2 : Nat) (4 : Nat) [K.bool] done]))) := by kernel_rfl
theorem nfRun (n pi e g fi kind at_ fr to_ ro sl dir : Int) (nl nl1 nl2 nl3 nl4 nl5 : Bool) (ps acts ds sts dvs : List (List AV)) (s : ByteArray) (Q : AV × List AObj → Prop) : inlW Tryz.prog H0 U4L 6 (InO Tryz.prog H0 U4L 6 6) 27 [cf n pi e g fi nl ps, .agg [.int .i64 kind, .int .i64 at_, .int .i64 fr, .int .i64 to_, .row nl1 [.int .i64, .int .i64, .str] acts, .row nl2 [.int .i64] ds], .int .i64 ro, .int .i64 sl, .int .i64 dir, .row nl3 [.str] [[.str s]], .row nl4 [.int .i64] sts, .row nl5 [.int .i64] dvs] [] Q = (
((Hyp ((0 : Int) ≤ sl ∧ sl < n ∧ n ≤ (1000 : Int))) ∧
(((Hyp (s_confOk n pi e g fi (List.map (fun r => (r.getD (0 : Nat) AV.gone).toI) ps) = true)) ∧
(br ((↑sts.length : Int) != n)
 (chk (((0 : Int) ≤
    if (12 : Int) < if (0 : Int) > n then (0 : Int) else n then (12 : Int)
    else if (0 : Int) > n then (0 : Int) else n) ∧
  ((if (12 : Int) < if (0 : Int) > n then (0 : Int) else n then (12 : Int)
      else if (0 : Int) > n then (0 : Int) else n) ≤
      if (12 : Int) < if (0 : Int) > n then (0 : Int) else n then (12 : Int)
      else if (0 : Int) > n then (0 : Int) else n) ∧
    ((56 : Int) *
        if (12 : Int) < if (0 : Int) > n then (0 : Int) else n then (12 : Int)
        else if (0 : Int) > n then (0 : Int) else n) ≤
      (140737488355328 : Int)) (chk ((if (12 : Int) < if (0 : Int) > n then (0 : Int) else n then (12 : Int) else if (0 : Int) > n then (0 : Int) else n) ≤
  (9223372036854775807 : Int)) (chk ((0 : Nat) +
    (if (12 : Int) < if (0 : Int) > n then (0 : Int) else n then (12 : Int)
      else if (0 : Int) > n then (0 : Int) else n).toNat ≤
  (List.replicate
      (if (12 : Int) < if (0 : Int) > n then (0 : Int) else n then (12 : Int)
        else if (0 : Int) > n then (0 : Int) else n).toNat
      [AV.str (ByteArray.mk #[]), AV.str (ByteArray.mk #[]), AV.str (ByteArray.mk #[]), AV.int IntKind.i64 (0 : Int)]).length) (Q ((AV.row false [K.str, K.str, K.str, K.int IntKind.i64]
    (List.take
      (if (12 : Int) < if (0 : Int) > n then (0 : Int) else n then (12 : Int)
        else if (0 : Int) > n then (0 : Int) else n).toNat
      (List.drop (0 : Nat)
        (List.replicate
          (if (12 : Int) < if (0 : Int) > n then (0 : Int) else n then (12 : Int)
            else if (0 : Int) > n then (0 : Int) else n).toNat
          [AV.str (ByteArray.mk #[]), AV.str (ByteArray.mk #[]), AV.str (ByteArray.mk #[]), AV.int IntKind.i64 (0 : Int)]))),
  []))))))
 (br ((↑dvs.length : Int) != n)
  (chk (((0 : Int) ≤
    if (12 : Int) < if (0 : Int) > n then (0 : Int) else n then (12 : Int)
    else if (0 : Int) > n then (0 : Int) else n) ∧
  ((if (12 : Int) < if (0 : Int) > n then (0 : Int) else n then (12 : Int)
      else if (0 : Int) > n then (0 : Int) else n) ≤
      if (12 : Int) < if (0 : Int) > n then (0 : Int) else n then (12 : Int)
      else if (0 : Int) > n then (0 : Int) else n) ∧
    ((56 : Int) *
        if (12 : Int) < if (0 : Int) > n then (0 : Int) else n then (12 : Int)
        else if (0 : Int) > n then (0 : Int) else n) ≤
      (140737488355328 : Int)) (chk ((if (12 : Int) < if (0 : Int) > n then (0 : Int) else n then (12 : Int) else if (0 : Int) > n then (0 : Int) else n) ≤
  (9223372036854775807 : Int)) (chk ((0 : Nat) +
    (if (12 : Int) < if (0 : Int) > n then (0 : Int) else n then (12 : Int)
      else if (0 : Int) > n then (0 : Int) else n).toNat ≤
  (List.replicate
      (if (12 : Int) < if (0 : Int) > n then (0 : Int) else n then (12 : Int)
        else if (0 : Int) > n then (0 : Int) else n).toNat
      [AV.str (ByteArray.mk #[]), AV.str (ByteArray.mk #[]), AV.str (ByteArray.mk #[]), AV.int IntKind.i64 (0 : Int)]).length) (Q ((AV.row false [K.str, K.str, K.str, K.int IntKind.i64]
    (List.take
      (if (12 : Int) < if (0 : Int) > n then (0 : Int) else n then (12 : Int)
        else if (0 : Int) > n then (0 : Int) else n).toNat
      (List.drop (0 : Nat)
        (List.replicate
          (if (12 : Int) < if (0 : Int) > n then (0 : Int) else n then (12 : Int)
            else if (0 : Int) > n then (0 : Int) else n).toNat
          [AV.str (ByteArray.mk #[]), AV.str (ByteArray.mk #[]), AV.str (ByteArray.mk #[]), AV.int IntKind.i64 (0 : Int)]))),
  []))))))
  (chk ((0 : Int) ≤ n ∧ n ≤ n ∧ (56 : Int) * n ≤ (140737488355328 : Int)) (chk (n ≤ (9223372036854775807 : Int)) (chk ((0 : Int) ≤ n ∧ n ≤ n ∧ (1 : Int) * n ≤ (140737488355328 : Int)) (chk (n ≤ (9223372036854775807 : Int)) (chk ((0 : Int) ≤ sl ∧ sl < (↑n.toNat : Int)) (chk ((0 : Nat) + sl.toNat <
  (List.replicate n.toNat
      [AV.str (ByteArray.mk #[]), AV.str (ByteArray.mk #[]), AV.str (ByteArray.mk #[]), AV.int IntKind.i64 (0 : Int)]).length) (chk ((0 : Int) ≤ sl ∧ sl < (↑n.toNat : Int)) (chk ((0 : Nat) + sl.toNat < (List.replicate n.toNat [AV.bool false]).length) (((Hyp (false = false ∧ (6 : Int) ≤ n ∧ n ≤ (12 : Int) ∧ (0 : Int) ≤ sl ∧ sl < n ∧ (dir = (1 : Int) ∨ dir = (-1 : Int)))) ∧
  ((∀ (m113 : Nat),
  (∀ (rows114 : List (List AV)),
  (((↑m113 : Int) = n - (1 : Int) ∧ rows114 = s_wayL n sl dir m113) →
  ((Hyp (s_confOk n pi e g fi (List.map (fun r => (r.getD (0 : Nat) AV.gone).toI) ps) = true ∧
  acts = [] ∧
    n.toNat = n.toNat ∧
      n.toNat = n.toNat ∧
        (0 : Int) ≤ (0 : Int) ∧
          (0 : Int) ≤ (↑rows114.length : Int) ∧
            (↑rows114.length : Int) = n - (1 : Int) ∧
              rows114 = s_wayL n sl dir (↑rows114.length : Int).toNat ∧
                s_runOk
                    { n := n, dir := dir, kind := kind, at_ := at_, fr := fr, to_ := to_, ro := ro, sl := sl, pi := pi,
                      sts := sts, dvs := dvs } ∧
                  ((List.replicate n.toNat
                              [AV.str (ByteArray.mk #[]), AV.str (ByteArray.mk #[]), AV.str (ByteArray.mk #[]),
                                AV.int IntKind.i64 (0 : Int)]).set
                          ((0 : Nat) + sl.toNat)
                          (setAll
                            ((List.replicate n.toNat
                                  [AV.str (ByteArray.mk #[]), AV.str (ByteArray.mk #[]), AV.str (ByteArray.mk #[]),
                                    AV.int IntKind.i64 (0 : Int)]).getD
                              ((0 : Nat) + sl.toNat) [])
                            (2 : Nat) [AV.str s])).length =
                      n.toNat ∧
                    ((List.replicate n.toNat [AV.bool false]).set ((0 : Nat) + sl.toNat)
                            (AV.bool true ::
                              List.drop ((0 : Nat) + (1 : Nat))
                                ((List.replicate n.toNat [AV.bool false]).getD ((0 : Nat) + sl.toNat) []))).length =
                        n.toNat ∧
                      s_small
                          ((List.replicate n.toNat
                                [AV.str (ByteArray.mk #[]), AV.str (ByteArray.mk #[]), AV.str (ByteArray.mk #[]),
                                  AV.int IntKind.i64 (0 : Int)]).set
                            ((0 : Nat) + sl.toNat)
                            (setAll
                              ((List.replicate n.toNat
                                    [AV.str (ByteArray.mk #[]), AV.str (ByteArray.mk #[]), AV.str (ByteArray.mk #[]),
                                      AV.int IntKind.i64 (0 : Int)]).getD
                                ((0 : Nat) + sl.toNat) [])
                              (2 : Nat) [AV.str s])) ∧
                        s_rowsN
                            ((List.replicate n.toNat
                                  [AV.str (ByteArray.mk #[]), AV.str (ByteArray.mk #[]), AV.str (ByteArray.mk #[]),
                                    AV.int IntKind.i64 (0 : Int)]).set
                              ((0 : Nat) + sl.toNat)
                              (setAll
                                ((List.replicate n.toNat
                                      [AV.str (ByteArray.mk #[]), AV.str (ByteArray.mk #[]), AV.str (ByteArray.mk #[]),
                                        AV.int IntKind.i64 (0 : Int)]).getD
                                  ((0 : Nat) + sl.toNat) [])
                                (2 : Nat) [AV.str s]))
                            (4 : Nat) ∧
                          s_rowsN
                            ((List.replicate n.toNat [AV.bool false]).set ((0 : Nat) + sl.toNat)
                              (AV.bool true ::
                                List.drop ((0 : Nat) + (1 : Nat))
                                  ((List.replicate n.toNat [AV.bool false]).getD ((0 : Nat) + sl.toNat) [])))
                            (1 : Nat))) ∧
  ((∀ (rows117 : List (List AV)),
  (∀ (rowd118 : List (List AV)),
  ((rows117 =
  s_iterS
    { n := n, dir := dir, kind := kind, at_ := at_, fr := fr, to_ := to_, ro := ro, sl := sl, pi := pi, sts := sts,
      dvs := dvs }
    ((List.replicate n.toNat
          [AV.str (ByteArray.mk #[]), AV.str (ByteArray.mk #[]), AV.str (ByteArray.mk #[]), AV.int IntKind.i64 (0 : Int)]).set
      ((0 : Nat) + sl.toNat)
      (setAll
        ((List.replicate n.toNat
              [AV.str (ByteArray.mk #[]), AV.str (ByteArray.mk #[]), AV.str (ByteArray.mk #[]),
                AV.int IntKind.i64 (0 : Int)]).getD
          ((0 : Nat) + sl.toNat) [])
        (2 : Nat) [AV.str s]))
    ((List.replicate n.toNat [AV.bool false]).set ((0 : Nat) + sl.toNat)
      (AV.bool true ::
        List.drop ((0 : Nat) + (1 : Nat)) ((List.replicate n.toNat [AV.bool false]).getD ((0 : Nat) + sl.toNat) [])))
    (0 : Nat) ((↑rows114.length : Int) - (0 : Int)).toNat) →
  chk ((0 : Nat) + n.toNat ≤ rows117.length) (chk (((0 : Nat) + (List.take n.toNat (List.drop (0 : Nat) rows117)).length) * (56 : Nat) ≤ (140737488355328 : Nat)) (chk ((0 : Nat) + (List.take n.toNat (List.drop (0 : Nat) rows117)).length ≤ (9223372036854775807 : Nat)) (chk ((0 : Nat) + ((0 : Nat) + (List.take n.toNat (List.drop (0 : Nat) rows117)).length) ≤
  ([] ++ List.take n.toNat (List.drop (0 : Nat) rows117)).length) (Q ((AV.row false [K.str, K.str, K.str, K.int IntKind.i64]
    (List.take ((0 : Nat) + (List.take n.toNat (List.drop (0 : Nat) rows117)).length)
      (List.drop (0 : Nat) ([] ++ List.take n.toNat (List.drop (0 : Nat) rows117)))),
  []))))))))))))))))))))))))))))))) := by kernel_rfl
end Go.Proofs.YtiemjcchlfbglaaGreatE
/- spread.Run of one owner: the specs hold. -/
namespace Go.Proofs.YtiemjcchlfbglaaGreatE
open Go
set_option linter.unusedVariables false
set_option linter.unusedSimpArgs false
set_option maxRecDepth 100000

theorem clean_le (s : ByteArray) : (s_clean s).size ≤ s.size := ext_le s _ _
theorem emit_le (hit : Bool) (fr to_ ro sl dst : Int) (base : ByteArray) : (s_emit hit fr to_ [] ro sl dst base).size ≤ base.size := by
  unfold s_emit
  split
  · exact Nat.le_refl _
  · rw [if_pos (.inr rfl)]; exact Nat.zero_le _
theorem come_le {P : RP} {sides done : List (List AV)} (hs : s_small sides) (node back : Int) : (s_come P sides done node back).size ≤ 1000000 := by
  unfold s_come
  split
  · exact Nat.le_trans (clean_le _) (Nat.le_trans (emit_le ..) (hs _))
  · exact Nat.zero_le _
theorem guard_le {pi state dev : Int} {s : ByteArray} (h : s.size ≤ 1000000) : (s_guard pi state dev s).size ≤ 1000000 := by
  unfold s_guard
  split
  · exact Nat.zero_le _
  · exact h
theorem dir_le {P : RP} {sides done : List (List AV)} (hs : s_small sides) (k : Nat) : (s_dir P sides done k).size ≤ 1000000 := by
  unfold s_dir
  split
  · exact guard_le (come_le hs _ _)
  · exact come_le hs _ _
theorem out_le (cmp : Bool) (d s : ByteArray) : (s_out cmp d s).size ≤ d.size := ext_le d _ _
theorem confOk_pi {n pi e g fi : Int} {ps : List Int} (h : s_confOk n pi e g fi ps = true) : 0 ≤ pi ∧ pi ≤ 10000 := by
  simp only [s_confOk, Bool.and_eq_true, decide_eq_true_eq] at h
  omega
theorem okCome : OkS Tryz.prog H0 63 sCome := by
  intro args h Q hq
  unfold sCome at hq
  split at hq
  · rename_i node back n pi e g fi nl ps kind at_ fr to_ nl1 acts nl2 ds ro sl dir nl4 sts nl5 dvs n1 n2 sides done
    obtain ⟨⟨hc, ha, h1, h2, h3, h4, h5, h6, hd, hb, e1, e2, l1, l2, hs⟩, hq⟩ := hyp_iff.1 hq
    subst ha; subst e1; subst e2
    obtain ⟨hn1, hn2⟩ := confOk_n hc
    refine in_ok (S := U3) (U := 6) (k := 6) okU3 (to (nfCome ..) ?_)
    have w : IntKind.i64.wrap (IntKind.i64.wrap (0 - dir) * back) = -dir * back := by
      rw [wr (x := 0 - dir) (by omega) (by omega), Int.zero_sub]
      rcases hd with rfl | rfl <;> rcases hb with rfl | rfl <;> exact wr (by omega) (by omega)
    have wb : -1000000 ≤ -dir * back ∧ -dir * back ≤ 1000000 := by
      rcases hd with rfl | rfl <;> rcases hb with rfl | rfl <;> omega
    have hr := rem_lt (node + -dir * back) (show 0 < n by omega)
    simp only [w, chk_iff, hyp_iff, Nat.zero_add]
    refine ⟨⟨by omega, by omega, by omega, by omega, wb.1, wb.2⟩, ⟨hr.1, by omega⟩, by omega, br_intro (fun c => hq _ ?_) fun c => ⟨⟨hr.1, by omega⟩, by omega, ⟨hc, h1, h2, h3, h4, h5, by omega, ?_, ⟨Nat.zero_le _, fun r hr => by simp at hr⟩⟩, ?_, hq _ ?_⟩⟩
    · unfold s_come
      have c : ((done.getD (s_rem (node + -dir * back) n).toNat []).getD 0 AV.gone).toB = false := by simpa using c
      simp only [c]
      rfl
    · have := hs (s_rem (node + -dir * back) n).toNat
      unfold s_out2 at this
      omega
    · have h7 := hs (s_rem (node + -dir * back) n).toNat
      unfold s_out2 at h7
      have h8 := emit_le (s_hit n kind at_ (s_rem (node + -dir * back) n) node) fr to_ ro sl node (((sides.getD (s_rem (node + -dir * back) n).toNat []).getD 2 AV.gone).toS)
      omega
    · unfold s_come
      have c : ((done.getD (s_rem (node + -dir * back) n).toNat []).getD 0 AV.gone).toB = true := by simpa using c
      simp only [c, if_true]
      rfl
  · exact hq.elim
theorem okGuard : OkS Tryz.prog H0 64 sGuard := by
  intro args h Q hq
  unfold sGuard at hq
  split at hq
  · rename_i n pi e g fi nl ps state dev s
    obtain ⟨⟨h0, h1⟩, hq⟩ := hyp_iff.1 hq
    refine in_ok (S := U3) (U := 6) (k := 6) okU3 (to (nfGuard ..) ?_)
    have w1 : IntKind.i64.wrap (2 * pi) = 2 * pi := wr (by omega) (by omega)
    have w2 : IntKind.i64.wrap (0 - 2 * pi) = 0 - 2 * pi := wr (by omega) (by omega)
    rw [w1, w2]
    unfold s_guard at hq
    refine br_intro (fun c => ?_) fun c => br_intro (fun c1 => br_intro (fun c2 => ?_) fun c2 => ?_) fun c1 => ?_
    · have c : state ≠ 4 := by simpa using c
      exact hq _ (by rw [if_neg (fun h => c h.1)])
    · have c : state = 4 := by simpa using c
      have c1 := of_decide_eq_true c1
      have c2 : ¬ dev ≤ 2 * pi := by simpa using c2
      exact hq _ (by rw [if_pos ⟨c, by omega⟩])
    · have c1 := of_decide_eq_true c1
      have c2 : dev ≤ 2 * pi := by simpa using c2
      exact hq _ (by rw [if_neg (fun h => by omega)])
    · have c : state = 4 := by simpa using c
      have c1 := of_decide_eq_false c1
      exact hq _ (by rw [if_pos ⟨c, by omega⟩])
  · exact hq.elim
theorem okU4 : OkSp Tryz.prog H0 U4 := ⟨⟨okCome, okGuard, okU3.fn⟩, trivial⟩
theorem set_rows {l : List (List AV)} {m i : Nat} {r : List AV} (h : s_rowsN l m) (hr : r.length = m) : s_rowsN (l.set i r) m := fun x hx => by
  rcases List.mem_or_eq_of_mem_set hx with h1 | h1
  · exact h x h1
  · subst h1; exact hr
theorem set_small {l : List (List AV)} {i : Nat} {r : List AV} (h : s_small l) (hr : (s_out2 r).size ≤ 1000000) : s_small (l.set i r) := fun j => by
  rw [List.getD_eq_getElem?_getD, List.getElem?_set]
  split
  · split
    · exact hr
    · exact Nat.zero_le _
  · have := h j
    rw [List.getD_eq_getElem?_getD] at this
    exact this
theorem drop_row {l : List (List AV)} {m i : Nat} (h : s_rowsN l m) : List.drop m (l.getD i []) = [] := by
  rw [List.getD_eq_getElem?_getD]
  cases hi : l[i]? with
  | none => simp
  | some r => exact List.drop_eq_nil_of_le (Nat.le_of_eq (h r (List.mem_of_getElem? hi)))
theorem okLRun : OkLp Tryz.prog H0 27 12 lRun := by
  refine okLp_of (U := 6) (k := 6) okU4 lRun (fun vals _ => match vals with | [_, _, .int _ len, .int _ k] => (len - k).toNat | _ => 0) fun vals h Q hl => ?_
  unfold lRun at hl
  split at hl
  · rename_i nw way len k n pi e g fi nl ps kind at_ fr to_ nl1 acts nl2 ds ro sl dir nl4 sts nl5 dvs n1 n2 sides done
    obtain ⟨⟨hc, ha, e1, e2, h0, h1, hlen, hway, hok, l1, l2, hs, r1, r2⟩, hq⟩ := hyp_iff.1 hl
    have hok' := hok
    obtain ⟨k1, k2, k3, k4, k5, k6, k7, k8, k9, k10, k11⟩ := hok'
    simp only at k1 k2 k3 k4 k5 k6 k7 k8 k9 k10 k11
    obtain ⟨K, rfl⟩ : ∃ K : Nat, k = K := ⟨k.toNat, by omega⟩
    refine to (nfRuna ..) (br_intro (fun c => ?_) fun c => ?_)
    · have c := of_decide_eq_true c
      have hwl : way.length = len.toNat := by rw [hway, wayL_len]
      have hnode : ((way.getD (K : Int).toNat []).getD 0 AV.gone).toI = s_node n sl dir (K + 1) := by
        rw [hway]
        unfold s_wayL
        rw [range_get _ _ _ _ (by omega)]
        rfl
      have hnl := node_lt (n := n) (o := sl) (dir := dir) (by omega) (K + 1)
      obtain ⟨node, hnd⟩ : ∃ node, node = s_node n sl dir (K + 1) := ⟨_, rfl⟩
      rw [← hnd] at hnode hnl
      have wk : IntKind.i64.wrap ((K : Int) + 1) = (K : Int) + 1 := wr (by omega) (by omega)
      simp only [hnode, chk_iff, hyp_iff, Nat.zero_add, wk]
      have leaf : ∀ (z z2 z3 : ByteArray), z = s_dir ⟨n, dir, kind, at_, fr, to_, ro, sl, pi, sts, dvs⟩ sides done K → z2 = s_come ⟨n, dir, kind, at_, fr, to_, ro, sl, pi, sts, dvs⟩ sides done node 2 →
          z3 = (if s_int sts node = 0 then ⟨#[]⟩ else s_out (decide (0 < K)) z z2) →
          (0 ≤ node ∧ node < (n1 : Int)) ∧ node.toNat < sides.length ∧ (0 ≤ node ∧ node < (n2 : Int)) ∧ node.toNat < done.length ∧ (len - ((K : Int) + 1)).toNat < (len - (K : Int)).toNat ∧
            lRun [.ptr 0 0, .row nw [.int .i64] way, .int .i64 len, .int .i64 ((K : Int) + 1)] [.box [.int .i64 n, .int .i64 pi, .int .i64 e, .int .i64 g, .int .i64 fi, .row nl [.int .i64] ps, .int .i64 kind, .int .i64 at_, .int .i64 fr, .int .i64 to_, .row nl1 [.int .i64, .int .i64, .str] acts, .row nl2 [.int .i64] ds, .int .i64 ro, .int .i64 sl, .int .i64 dir, .row nl4 [.int .i64] sts, .row nl5 [.int .i64] dvs, .sl 1 0 n1, .sl 2 0 n2],
              .arr 2 53 [.str, .str, .str, .int .i64] (sides.set node.toNat (.str z :: .str z2 :: .str z3 :: .int .i64 ((K : Int) + 1) :: List.drop (0 + 4) (sides.getD node.toNat []))), .arr 2 4 [.bool] (done.set node.toNat (.bool true :: List.drop (0 + 1) (done.getD node.toNat [])))] Q := by
        intro z z2 z3 hz hz2 hz3
        refine ⟨⟨hnl.1, by omega⟩, by omega, ⟨hnl.1, by omega⟩, by omega, by omega, ?_⟩
        rw [Nat.zero_add, Nat.zero_add, drop_row r1, drop_row r2]
        have hsz : z3.size ≤ 1000000 := by
          rw [hz3]
          split
          · exact Nat.zero_le _
          · exact Nat.le_trans (out_le _ _ _) (by rw [hz]; exact dir_le hs K)
        refine hyp_iff.2 ⟨⟨hc, ha, e1, e2, by omega, by omega, hlen, hway, hok, by rw [List.length_set]; exact l1, by rw [List.length_set]; exact l2, set_small hs hsz, set_rows r1 rfl, set_rows r2 rfl⟩, fun rows rowd hr => hq rows rowd ?_⟩
        rw [hr]
        have ej : (len - (K : Int)).toNat = (len - ((K : Int) + 1)).toNat + 1 := by omega
        have ek : ((K : Int) + 1).toNat = K + 1 := by omega
        rw [ej, ek, Int.toNat_natCast]
        show (s_iterP _ _ _ (K + 1) _).1 = (s_iterP _ (sides.set _ (s_new _ sides done K)) (done.set _ _) (K + 1) _).1
        have en : s_new ⟨n, dir, kind, at_, fr, to_, ro, sl, pi, sts, dvs⟩ sides done K = [.str z, .str z2, .str z3, .int .i64 ((K : Int) + 1)] := by
          unfold s_new
          simp only [← hnd]
          rw [hz3, hz2, hz]
        rw [en]
        simp only [← hnd]
      have cm : ∀ b : Prop, b → s_confOk n pi e g fi (List.map (fun r => (r.getD 0 AV.gone).toI) ps) = true ∧ acts = [] ∧ 0 ≤ ro ∧ ro ≤ 1000000 ∧ 0 ≤ sl ∧ sl ≤ 1000000 ∧ 0 ≤ node ∧ node < n ∧ (dir = 1 ∨ dir = -1) ∧ b ∧ n1 = n.toNat ∧ n2 = n.toNat ∧ sides.length = n.toNat ∧ done.length = n.toNat ∧ s_small sides :=
        fun b hb => ⟨hc, ha, k6, k7, k4, by omega, hnl.1, hnl.2, k3, hb, e1, e2, l1, l2, hs⟩
      refine ⟨⟨by omega, by omega⟩, cm _ (.inl trivial), fun z1 hz1 => ⟨cm _ (.inr trivial), fun z2 hz2 => br_intro (fun c1 => ⟨⟨hnl.1, by omega⟩, ⟨hnl.1, by omega⟩, ⟨k8, k9⟩, fun z3 hz3 => ⟨⟨hnl.1, by omega⟩, br_intro (fun c2 => br_intro (fun c3 => ?_) fun c3 => ⟨?_, fun z4 hz4 => ?_⟩) fun c2 => ?_⟩⟩) fun c1 => ⟨⟨hnl.1, by omega⟩, br_intro (fun c2 => br_intro (fun c3 => ⟨?_, fun z4 hz4 => ?_⟩) fun c3 => ?_) fun c2 => ?_⟩⟩⟩
      · have c1 := beq_iff_eq.1 c1
        have c3 := of_decide_eq_true c3
        omega
      · have hd : z3 = s_dir ⟨n, dir, kind, at_, fr, to_, ro, sl, pi, sts, dvs⟩ sides done K := by
          have c1 := beq_iff_eq.1 c1
          unfold s_dir
          rw [if_pos (by omega), hz3, hz1]
          simp only [← hnd]
          rfl
        rw [hd]; exact Nat.le_trans (dir_le hs K) (by omega)
      · have c1 := beq_iff_eq.1 c1
        have hd : z3 = s_dir ⟨n, dir, kind, at_, fr, to_, ro, sl, pi, sts, dvs⟩ sides done K := by
          unfold s_dir
          rw [if_pos (by omega), hz3, hz1]
          simp only [← hnd]
          rfl
        have c2 : ¬ s_int sts node = 0 := by
          have : ((sts.getD node.toNat []).getD 0 AV.gone).toI ≠ 0 := by simpa using c2
          exact this
        refine leaf z3 z2 z4 hd hz2 ?_
        rw [if_neg c2, hz4, show decide (sl ≥ n) = false from decide_eq_false (by omega), show decide (0 < K) = false from decide_eq_false (by omega)]
      · have c1 := beq_iff_eq.1 c1
        have hd : z3 = s_dir ⟨n, dir, kind, at_, fr, to_, ro, sl, pi, sts, dvs⟩ sides done K := by
          unfold s_dir
          rw [if_pos (by omega), hz3, hz1]
          simp only [← hnd]
          rfl
        have c2 : s_int sts node = 0 := by
          have : ((sts.getD node.toNat []).getD 0 AV.gone).toI = 0 := by simpa using c2
          exact this
        exact leaf z3 z2 _ hd hz2 (by rw [if_pos c2])
      · have hd : z1 = s_dir ⟨n, dir, kind, at_, fr, to_, ro, sl, pi, sts, dvs⟩ sides done K := by
          have c1 := beq_eq_false_iff_ne.1 c1
          unfold s_dir
          rw [if_neg (by omega), hz1]
          simp only [← hnd]
        rw [hd]; exact Nat.le_trans (dir_le hs K) (by omega)
      · have c1 := beq_eq_false_iff_ne.1 c1
        have hd : z1 = s_dir ⟨n, dir, kind, at_, fr, to_, ro, sl, pi, sts, dvs⟩ sides done K := by
          unfold s_dir
          rw [if_neg (by omega), hz1]
          simp only [← hnd]
        have c2 : ¬ s_int sts node = 0 := by
          have : ((sts.getD node.toNat []).getD 0 AV.gone).toI ≠ 0 := by simpa using c2
          exact this
        refine leaf z1 z2 z4 hd hz2 ?_
        rw [if_neg c2, hz4, show decide (0 < K) = true from decide_eq_true (by omega)]
      · have c1 := beq_eq_false_iff_ne.1 c1
        have c3 := of_decide_eq_false c3
        omega
      · have c1 := beq_eq_false_iff_ne.1 c1
        have hd : z1 = s_dir ⟨n, dir, kind, at_, fr, to_, ro, sl, pi, sts, dvs⟩ sides done K := by
          unfold s_dir
          rw [if_neg (by omega), hz1]
          simp only [← hnd]
        have c2 : s_int sts node = 0 := by
          have : ((sts.getD node.toNat []).getD 0 AV.gone).toI = 0 := by simpa using c2
          exact this
        exact leaf z1 z2 _ hd hz2 (by rw [if_pos c2])
    · have c := of_decide_eq_false c
      have e0 : (len - (K : Int)).toNat = 0 := by omega
      refine hq _ _ ?_
      rw [e0]
      rfl
  · exact hl.elim
theorem okU4L : OkSp Tryz.prog H0 U4L := ⟨okU4.fn, okLRun, trivial⟩
end Go.Proofs.YtiemjcchlfbglaaGreatE
/- spread.Run of one owner. -/
namespace Go.Proofs.YtiemjcchlfbglaaGreatE
open Go
set_option linter.unusedVariables false
set_option linter.unusedSimpArgs false
set_option maxRecDepth 100000

theorem iter_len (P : RP) : ∀ (j k : Nat) (a b : List (List AV)), (s_iterS P a b k j).length = a.length
  | 0, _, _, _ => rfl
  | j + 1, k, a, b => by
    show (s_iterS P _ _ (k + 1) j).length = _
    rw [iter_len P j, List.length_set]
theorem rep_get {r : List AV} {n i : Nat} (h : i < n) : (List.replicate n r).getD i [] = r := by
  rw [List.getD_eq_getElem?_getD, List.getElem?_replicate, if_pos h]; rfl
theorem rep_small (n : Nat) : s_small (List.replicate n zeroS) := fun i => by
  rw [List.getD_eq_getElem?_getD, List.getElem?_replicate]
  split
  · exact Nat.zero_le _
  · exact Nat.zero_le _
theorem rep_rows (n m : Nat) (r : List AV) (h : r.length = m) : s_rowsN (List.replicate n r) m := fun x hx => by
  rw [(List.mem_replicate.1 hx).2]; exact h
theorem bne_no {a b : Int} (h : a = b) : (a != b) = true → False := by
  intro hb; simp [h] at hb
theorem okRun : OkS Tryz.prog H0 27 sRun := by
  intro args h Q hq
  unfold sRun at hq
  split at hq
  · rename_i n pi e g fi nl ps kind at_ fr to_ nl1 acts nl2 ds ro sl dir nl3 s nl4 sts nl5 dvs
    obtain ⟨⟨hc, ha, hok, hsz⟩, hq⟩ := hyp_iff.1 hq
    have hok' := hok
    obtain ⟨k1, k2, k3, k4, k5, k6, k7, k8, k9, k10, k11⟩ := hok'
    simp only at k1 k2 k3 k4 k5 k6 k7 k8 k9 k10 k11
    refine in_ok (S := U4L) (U := 6) (k := 6) okU4L (to (nfRun ..) ?_)
    have hi : sl.toNat < n.toNat := by omega
    have e1 : (List.replicate n.toNat [AV.str (ByteArray.mk #[]), AV.str (ByteArray.mk #[]), AV.str (ByteArray.mk #[]), AV.int IntKind.i64 0]).set (0 + sl.toNat)
        (setAll ((List.replicate n.toNat [AV.str (ByteArray.mk #[]), AV.str (ByteArray.mk #[]), AV.str (ByteArray.mk #[]), AV.int IntKind.i64 0]).getD (0 + sl.toNat) []) 2 [AV.str s]) = s_init1 ⟨n, dir, kind, at_, fr, to_, ro, sl, pi, sts, dvs⟩ s := by
      rw [Nat.zero_add, rep_get hi]
      rfl
    have e2 : (List.replicate n.toNat [AV.bool false]).set (0 + sl.toNat) (AV.bool true :: List.drop (0 + 1) ((List.replicate n.toNat [AV.bool false]).getD (0 + sl.toNat) [])) = s_init2 ⟨n, dir, kind, at_, fr, to_, ro, sl, pi, sts, dvs⟩ := by
      rw [Nat.zero_add, rep_get hi]
      rfl
    have l1 : (s_init1 ⟨n, dir, kind, at_, fr, to_, ro, sl, pi, sts, dvs⟩ s).length = n.toNat := by simp [s_init1]
    have l2 : (s_init2 ⟨n, dir, kind, at_, fr, to_, ro, sl, pi, sts, dvs⟩).length = n.toNat := by simp [s_init2]
    refine hyp_iff.2 ⟨⟨k4, k5, by omega⟩, hyp_iff.2 ⟨hc, br_intro (fun c => (bne_no k10 c).elim) fun _ => br_intro (fun c => (bne_no k11 c).elim) fun _ => ?_⟩⟩
    rw [e1, e2]
    simp only [chk_iff, hyp_iff, List.length_replicate]
    refine ⟨⟨by omega, by omega, by omega⟩, by omega, ⟨by omega, by omega, by omega⟩, by omega, ⟨k4, by omega⟩, by omega, ⟨k4, by omega⟩, by omega, ⟨trivial, k1, k2, k4, k5, k3⟩, fun m way hw => ?_⟩
    obtain ⟨hm, hw⟩ := hw
    have hwl : way.length = m := by rw [hw, wayL_len]
    refine ⟨⟨hc, ha, trivial, trivial, by omega, by omega, by omega, by rw [hwl, hw, Int.toNat_natCast], hok, l1, l2, ?_, ?_, ?_⟩, fun rows rowd hr => ?_⟩
    · exact set_small (rep_small _) hsz
    · exact set_rows (rep_rows _ _ _ rfl) rfl
    · exact set_rows (rep_rows _ _ _ rfl) rfl
    · have hl : rows.length = n.toNat := by rw [hr, iter_len, l1]
      have ht : List.take n.toNat rows = rows := List.take_of_length_le (Nat.le_of_eq hl)
      have ht2 : List.take rows.length rows = rows := List.take_length
      simp only [Nat.zero_add, List.drop_zero, List.nil_append, ht, ht2]
      refine ⟨by omega, by omega, by omega, Nat.le_refl _, hq rows ?_⟩
      rw [hr, hwl]
      have : ((m : Int) - 0).toNat = (n - 1).toNat := by omega
      rw [this]
      rfl
  · exact hq.elim
theorem okU5 : OkSp Tryz.prog H0 U5 := ⟨⟨okRun, okU4.fn⟩, trivial⟩
end Go.Proofs.YtiemjcchlfbglaaGreatE
/- spread.Run of one owner, without acts: by booleans. -/
namespace Go.Proofs.YtiemjcchlfbglaaGreatE
open Go
set_option linter.unusedVariables false
set_option linter.unusedSimpArgs false

theorem node_back2 {n o dir : Int} (hd : dir = 1 ∨ dir = -1) (ho : 0 ≤ o) (ho2 : o < n) {k : Nat} (hk : (k : Int) + 2 < n) : s_rem (s_node n o dir (k + 2) + -dir * 2) n = s_node n o dir k := by
  rcases hd with rfl | rfl
  · rw [node_up ho ho2 (by omega), node_up ho ho2 (by omega)]
    have := rem_c (show 0 < n by omega) ((if o + ((k + 2 : Nat) : Int) < n then o + ((k + 2 : Nat) : Int) else o + ((k + 2 : Nat) : Int) - n) + -1 * 2)
    split at this <;> split <;> first | (rw [if_pos (by omega)]; omega) | (rw [if_neg (by omega)]; omega) | omega
  · rw [node_dn ho ho2 (by omega), node_dn ho ho2 (by omega)]
    have := rem_c (show 0 < n by omega) ((if 0 ≤ o - ((k + 2 : Nat) : Int) then o - ((k + 2 : Nat) : Int) else o - ((k + 2 : Nat) : Int) + n) + - -1 * 2)
    split at this <;> split <;> first | (rw [if_pos (by omega)]; omega) | (rw [if_neg (by omega)]; omega) | omega
theorem node_back_last {n o dir : Int} (hd : dir = 1 ∨ dir = -1) (hn : 3 < n) (ho : 0 ≤ o) (ho2 : o < n) : s_rem (s_node n o dir 1 + -dir * 2) n = s_node n o dir (n.toNat - 1) := by
  rcases hd with rfl | rfl
  · rw [node_up ho ho2 (by omega), node_up ho ho2 (by omega)]
    have := rem_c (show 0 < n by omega) ((if o + ((1 : Nat) : Int) < n then o + ((1 : Nat) : Int) else o + ((1 : Nat) : Int) - n) + -1 * 2)
    split at this <;> split <;> first | (rw [if_pos (by omega)]; omega) | (rw [if_neg (by omega)]; omega) | omega
  · rw [node_dn ho ho2 (by omega), node_dn ho ho2 (by omega)]
    have := rem_c (show 0 < n by omega) ((if 0 ≤ o - ((1 : Nat) : Int) then o - ((1 : Nat) : Int) else o - ((1 : Nat) : Int) + n) + - -1 * 2)
    split at this <;> split <;> first | (rw [if_pos (by omega)]; omega) | (rw [if_neg (by omega)]; omega) | omega
/-- What is passed from one to another one; who is on; does the guard let it pass? -/
def passP (P : RP) (a b : Int) : Bool := !(s_hit P.n P.kind P.at_ a b && decide (P.ro < P.to_))
def onP (P : RP) (i : Int) : Bool := !(s_int P.sts i == 0)
def grdP (P : RP) : Bool := !(decide (s_int P.sts (s_node P.n P.sl P.dir 1) = 4 ∧ (s_int P.dvs (s_node P.n P.sl P.dir 1) < -(2 * P.pi) ∨ 2 * P.pi < s_int P.dvs (s_node P.n P.sl P.dir 1))))
abbrev oP (P : RP) : Nat → Bool := oK (passP P) (onP P) (grdP P) (s_node P.n P.sl P.dir)
abbrev dP (P : RP) : Nat → Bool := dK (passP P) (onP P) (grdP P) (s_node P.n P.sl P.dir)
abbrev kP (P : RP) : Nat → Bool := kK (passP P) (onP P) (grdP P) (s_node P.n P.sl P.dir)
theorem emit_bs {P : RP} (s : ByteArray) (a b dst : Int) (v : Bool) : s_emit (s_hit P.n P.kind P.at_ a b) P.fr P.to_ [] P.ro P.sl dst (bs s v) = bs s (passP P a b && v) := by
  unfold s_emit passP
  cases hh : s_hit P.n P.kind P.at_ a b with
  | false => rw [if_pos (.inl rfl)]; simp
  | true =>
    by_cases h : P.ro ≥ P.to_
    · rw [if_pos (.inr h), show decide (P.ro < P.to_) = false from decide_eq_false (by omega)]; simp
    · rw [if_neg (by simp; omega), if_pos (.inr rfl), show decide (P.ro < P.to_) = true from decide_eq_true (by omega)]
      simp [bs]
theorem guard_bs (s : ByteArray) (pi st dv : Int) (v : Bool) : s_guard pi st dv (bs s v) = bs s (v && !(decide (st = 4 ∧ (dv < -(2 * pi) ∨ 2 * pi < dv)))) := by
  unfold s_guard
  by_cases h : st = 4 ∧ (dv < -(2 * pi) ∨ 2 * pi < dv)
  · rw [if_pos h, decide_eq_true h]; simp [bs]
  · rw [if_neg h, decide_eq_false h]; simp
section
variable {P : RP} {s : ByteArray}
abbrev mS (P : RP) (s : ByteArray) (k : Nat) : List (List AV) := s_sides P.n P.sl P.dir s (dP P) (kP P) (oP P) k
abbrev mD (P : RP) (k : Nat) : List (List AV) := s_doneR P.n P.sl P.dir k
theorem mS_get (hok : s_runOk P) (k : Nat) {m : Nat} (hm : (m : Int) < P.n) : (mS P s k).getD (s_node P.n P.sl P.dir m).toNat [] = if m ≤ k then sideR s (dP P) (kP P) (oP P) m else zeroR := by
  obtain ⟨k1, k2, k3, k4, k5, _⟩ := hok
  have hl := node_lt (n := P.n) (o := P.sl) (dir := P.dir) (by omega) m
  unfold mS s_sides
  rw [range_get _ _ _ _ (by omega), Int.toNat_of_nonneg hl.1, far_node k3 k4 k5 hm, Int.toNat_natCast]
theorem mD_get (hok : s_runOk P) (k : Nat) {m : Nat} (hm : (m : Int) < P.n) : ((mD P k).getD (s_node P.n P.sl P.dir m).toNat []).getD 0 AV.gone = .bool (decide (m ≤ k)) := by
  obtain ⟨k1, k2, k3, k4, k5, _⟩ := hok
  have hl := node_lt (n := P.n) (o := P.sl) (dir := P.dir) (by omega) m
  unfold mD s_doneR
  rw [range_get _ _ _ _ (by omega), Int.toNat_of_nonneg hl.1, far_node k3 k4 k5 hm, Int.toNat_natCast]
  rfl
theorem out_side (m : Nat) : s_out2 (sideR s (dP P) (kP P) (oP P) m) = bs s (oP P m) := by
  unfold sideR
  cases m with
  | zero => rfl
  | succ m => rw [if_neg (by omega)]; rfl
theorem come1 (hok : s_runOk P) (hs : s_clean s = s) {k : Nat} (hk : (k : Int) + 1 < P.n) : s_come P (mS P s k) (mD P k) (s_node P.n P.sl P.dir (k + 1)) 1 = bs s (passP P (s_node P.n P.sl P.dir k) (s_node P.n P.sl P.dir (k + 1)) && oP P k) := by
  have hok' := hok
  obtain ⟨k1, k2, k3, k4, k5, _⟩ := hok'
  unfold s_come
  rw [Int.mul_one, node_back1 k3 k4 k5 hk, mD_get hok k (by omega), mS_get hok k (by omega), if_pos (Nat.le_refl _), out_side, emit_bs, clean_bs hs]
  rw [if_pos (by show decide (k ≤ k) = true; simp)]
theorem come2 (hok : s_runOk P) (hs : s_clean s = s) {k : Nat} (hk : (k : Int) + 1 < P.n) : s_come P (mS P s k) (mD P k) (s_node P.n P.sl P.dir (k + 1)) 2 = bs s (kP P (k + 1)) := by
  have hok' := hok
  obtain ⟨k1, k2, k3, k4, k5, _⟩ := hok'
  unfold s_come
  cases k with
  | zero =>
    rw [node_back_last k3 (by omega) k4 k5, mD_get hok 0 (by omega), if_neg (by show ¬ decide (P.n.toNat - 1 ≤ 0) = true; rw [decide_eq_true_eq]; omega)]
    rfl
  | succ j =>
    rw [node_back2 k3 k4 k5 (k := j) (by omega), mD_get hok (j + 1) (by omega), mS_get hok (j + 1) (by omega), if_pos (show j ≤ j + 1 by omega), out_side, emit_bs, clean_bs hs]
    rw [if_pos (by show decide (j ≤ j + 1) = true; simp)]
    rfl
theorem dir_side (hok : s_runOk P) (hs : s_clean s = s) {k : Nat} (hk : (k : Int) + 1 < P.n) : s_dir P (mS P s k) (mD P k) k = bs s (dP P (k + 1)) := by
  unfold s_dir
  rw [come1 hok hs hk]
  cases k with
  | zero =>
    rw [if_pos rfl, guard_bs]
    show bs s (_ && true && _) = bs s (passP P _ _ && grdP P)
    rw [Bool.and_true]
    rfl
  | succ j => rw [if_neg (by omega)]; rfl
theorem new_side (hok : s_runOk P) (hs : s_clean s = s) {k : Nat} (hk : (k : Int) + 1 < P.n) : s_new P (mS P s k) (mD P k) k = sideR s (dP P) (kP P) (oP P) (k + 1) := by
  unfold s_new
  rw [dir_side hok hs hk, come2 hok hs hk]
  unfold sideR
  rw [if_neg (show ¬ (k + 1 = 0) by omega)]
  have ho : (if s_int P.sts (s_node P.n P.sl P.dir (k + 1)) = 0 then (⟨#[]⟩ : ByteArray) else s_out (decide (0 < k)) (bs s (dP P (k + 1))) (bs s (kP P (k + 1)))) = bs s (oP P (k + 1)) := by
    rw [out_bs hs]
    by_cases h : s_int P.sts (s_node P.n P.sl P.dir (k + 1)) = 0
    · have hon : onP P (s_node P.n P.sl P.dir (k + 1)) = false := by unfold onP; rw [h]; rfl
      rw [if_pos h]
      cases k with
      | zero => show _ = bs s (onP P (s_node P.n P.sl P.dir (0 + 1)) && _); rw [hon]; rfl
      | succ j => show _ = bs s (onP P (s_node P.n P.sl P.dir (j + 1 + 1)) && _); rw [hon]; rfl
    · have hon : onP P (s_node P.n P.sl P.dir (k + 1)) = true := by unfold onP; rw [beq_eq_false_iff_ne.2 h]; rfl
      rw [if_neg h]
      cases k with
      | zero => show _ = bs s (onP P (s_node P.n P.sl P.dir (0 + 1)) && _); rw [hon]; simp [dP, dK]
      | succ j => show _ = bs s (onP P (s_node P.n P.sl P.dir (j + 1 + 1)) && _); rw [hon]; simp [dP, dK, kP, kK]
  rw [ho]
  rfl
theorem far_inj (hok : s_runOk P) {i : Nat} (hi : (i : Int) < P.n) {m : Nat} (hm : (m : Int) < P.n) : (s_node P.n P.sl P.dir m).toNat = i ↔ (s_far P.n P.sl P.dir i).toNat = m := by
  obtain ⟨k1, k2, k3, k4, k5, _⟩ := hok
  have hl := node_lt (n := P.n) (o := P.sl) (dir := P.dir) (by omega) m
  constructor
  · intro h
    have : s_node P.n P.sl P.dir m = (i : Int) := by omega
    rw [← this, far_node k3 k4 k5 hm, Int.toNat_natCast]
  · intro h
    have := node_far (n := P.n) (o := P.sl) (dir := P.dir) k3 k4 k5 (i := i) (by omega) hi
    rw [h] at this
    rw [this, Int.toNat_natCast]
theorem set_range {α : Type} (f g : Nat → α) (n j : Nat) (v : α) (hj : g j = v) (hne : ∀ i, i < n → i ≠ j → g i = f i) : ((List.range n).map f).set j v = (List.range n).map g := by
  apply List.ext_getElem (by simp)
  intro i h1 h2
  simp only [List.length_set, List.length_map, List.length_range] at h1
  rw [List.getElem_set]
  split
  · rename_i e; subst e; simp [hj]
  · rename_i e; simp [hne i h1 (Ne.symm e)]
theorem step_side (hok : s_runOk P) (hs : s_clean s = s) {k : Nat} (hk : (k : Int) + 1 < P.n) : (mS P s k).set (s_node P.n P.sl P.dir (k + 1)).toNat (s_new P (mS P s k) (mD P k) k) = mS P s (k + 1) := by
  have hl := node_lt (n := P.n) (o := P.sl) (dir := P.dir) (by have := hok.1; omega) (k + 1)
  rw [new_side hok hs hk]
  unfold mS s_sides
  refine set_range _ _ _ _ _ ?_ fun i hi hne => ?_
  · have hf := (far_inj hok (i := (s_node P.n P.sl P.dir (k + 1)).toNat) (by omega) (m := k + 1) (by omega)).1 rfl
    simp only [hf]
    rw [if_pos (Nat.le_refl _)]
  · have hf : ¬ (s_far P.n P.sl P.dir i).toNat = k + 1 := fun h => hne ((far_inj hok (by omega) (by omega)).2 h).symm
    by_cases h : (s_far P.n P.sl P.dir i).toNat ≤ k
    · rw [if_pos h, if_pos (by omega)]
    · rw [if_neg h, if_neg (by omega)]
theorem step_done (hok : s_runOk P) {k : Nat} (hk : (k : Int) + 1 < P.n) : (mD P k).set (s_node P.n P.sl P.dir (k + 1)).toNat [.bool true] = mD P (k + 1) := by
  have hl := node_lt (n := P.n) (o := P.sl) (dir := P.dir) (by have := hok.1; omega) (k + 1)
  unfold mD s_doneR
  refine set_range _ _ _ _ _ ?_ fun i hi hne => ?_
  · have hf := (far_inj hok (i := (s_node P.n P.sl P.dir (k + 1)).toNat) (by omega) (m := k + 1) (by omega)).1 rfl
    simp only [hf]
    rw [decide_eq_true (Nat.le_refl _)]
  · have hf : ¬ (s_far P.n P.sl P.dir i).toNat = k + 1 := fun h => hne ((far_inj hok (by omega) (by omega)).2 h).symm
    by_cases h : (s_far P.n P.sl P.dir i).toNat ≤ k
    · rw [decide_eq_true h, decide_eq_true (by omega)]
    · rw [decide_eq_false h, decide_eq_false (by omega)]
theorem iter_side (hok : s_runOk P) (hs : s_clean s = s) : ∀ (j k : Nat), (k : Int) + j < P.n → s_iterS P (mS P s k) (mD P k) k j = mS P s (k + j)
  | 0, k, _ => rfl
  | j + 1, k, h => by
    show s_iterS P ((mS P s k).set _ (s_new P (mS P s k) (mD P k) k)) ((mD P k).set _ _) (k + 1) j = _
    rw [step_side hok hs (by omega), step_done hok (by omega), iter_side hok hs j (k + 1) (by omega)]
    congr 1
    omega
theorem far_zero (hok : s_runOk P) {i : Nat} (hi : (i : Int) < P.n) : (s_far P.n P.sl P.dir i).toNat = 0 ↔ i = P.sl.toNat := by
  have h := far_inj hok hi (m := 0) (by have := hok.1; omega)
  rw [node_zero hok.2.2.2.1 hok.2.2.2.2.1] at h
  constructor
  · intro e; exact (h.2 e).symm
  · intro e; exact h.1 e.symm
theorem init_side (hok : s_runOk P) : s_init1 P s = mS P s 0 := by
  unfold s_init1 mS s_sides
  have : List.replicate P.n.toNat zeroS = (List.range P.n.toNat).map fun _ => zeroS := by
    apply List.ext_getElem (by simp)
    intro i h1 h2
    simp
  rw [this]
  refine set_range _ _ _ _ _ ?_ fun i hi hne => ?_
  · have hf := (far_zero hok (i := P.sl.toNat) (by have := hok.2.2.2.1; have := hok.2.2.2.2.1; omega)).2 rfl
    simp only [hf]
    rfl
  · have hf : ¬ (s_far P.n P.sl P.dir i).toNat = 0 := fun h => hne ((far_zero hok (by omega)).1 h)
    rw [if_neg (by omega)]
    rfl
theorem init_done (hok : s_runOk P) : s_init2 P = mD P 0 := by
  unfold s_init2 mD s_doneR
  have : List.replicate P.n.toNat [AV.bool false] = (List.range P.n.toNat).map fun _ => [AV.bool false] := by
    apply List.ext_getElem (by simp)
    intro i h1 h2
    simp
  rw [this]
  refine set_range _ _ _ _ _ ?_ fun i hi hne => ?_
  · have hf := (far_zero hok (i := P.sl.toNat) (by have := hok.2.2.2.1; have := hok.2.2.2.2.1; omega)).2 rfl
    simp only [hf]
    rfl
  · have hf : ¬ (s_far P.n P.sl P.dir i).toNat = 0 := fun h => hne ((far_zero hok (by omega)).1 h)
    rw [decide_eq_false (by omega)]
/-- **All round.** -/
theorem run_rows (hok : s_runOk P) (hs : s_clean s = s) : s_runS P s (P.n - 1).toNat = mS P s (P.n - 1).toNat := by
  unfold s_runS
  rw [init_side hok, init_done hok, iter_side hok hs _ 0 (by have := hok.1; omega), Nat.zero_add]
/-- A node's row. -/
theorem run_get (hok : s_runOk P) (hs : s_clean s = s) {i : Nat} (hi : (i : Int) < P.n) : (s_runS P s (P.n - 1).toNat).getD i [] = sideR s (dP P) (kP P) (oP P) (s_far P.n P.sl P.dir i).toNat := by
  rw [run_rows hok hs]
  unfold mS s_sides
  have hl := far_lt (n := P.n) (o := P.sl) (dir := P.dir) (by have := hok.1; omega) i
  rw [range_get _ _ _ _ (by omega), if_pos (by omega)]
theorem run_len (hok : s_runOk P) (hs : s_clean s = s) : (s_runS P s (P.n - 1).toNat).length = P.n.toNat := by
  rw [run_rows hok hs]
  simp [mS, s_sides]
end
end Go.Proofs.YtiemjcchlfbglaaGreatE
