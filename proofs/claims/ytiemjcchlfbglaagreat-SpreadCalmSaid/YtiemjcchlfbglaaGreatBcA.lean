/- strings.Builder of this program: what copyCheck and String do; turned from the kit's own proofs of the same contracts. -/
import Derived.Test.YtiemjcchlfbglaaGreatBaC
import Derived.Test.YtiemjcchlfbglaaGreatChecked
import Derived.KernelRfl
import Derived.Shelf.Strings.Builder1
import Derived.Laws.RangeAny
import Derived.Laws.RangeString
namespace Go.Proofs.YtiemjcchlfbglaaGreatE
open Go Go.Shelf
set_option linter.unusedVariables false
set_option linter.unusedSimpArgs false

theorem bt_ptr : Tryz.prog.underlying 113 = some (.pointer 116) := by kernel_rfl
theorem nt_check : Tryz.f91.ntmps = 20 := by kernel_rfl
theorem nt_string : Tryz.f77.ntmps = 14 := by kernel_rfl
set_option maxHeartbeats 1000000 in
set_option maxRecDepth 100000 in
theorem bld_used (b : Nat) (w : World) (h0 : w.cell? ⟨b, 0, none⟩ = some (.pointer (some ⟨b, 0, none⟩))) :
    Calls Tryz.prog 91 #[.pointer (some ⟨b, 0, none⟩)] w fun e w' => e = .returned (.tuple #[]) ∧ w' = w := by
  have X : (Tryz.prog.info? 116).map (fun i => i.size) = some 2 := by kernel_rfl
  obtain ⟨j, hj, _⟩ := Option.map_eq_some_iff.1 X
  go_enter Tryz.func91, nt_check
  go_wp2
  rw [Lib.run_neq_ptr_same w _ bt_ptr hj]
  go_wp2
  go_end0
  exact ⟨rfl, rfl⟩
set_option maxHeartbeats 1000000 in
set_option maxRecDepth 100000 in
theorem bld_fresh (b : Nat) (w : World) (h0 : w.cell? ⟨b, 0, none⟩ = some (.pointer none)) (hsh : w.shape? b = some (116, 2)) (hfz : w.frozen? ⟨b, 0, none⟩ = false) :
    Calls Tryz.prog 91 #[.pointer (some ⟨b, 0, none⟩)] w fun e w' => e = .returned (.tuple #[]) ∧ w' = w.setCell ⟨b, 0, none⟩ (.pointer (some ⟨b, 0, none⟩)) := by
  have X : (Tryz.prog.info? 116).map (fun i => i.size) = some 2 := by kernel_rfl
  obtain ⟨j, hj, hjs⟩ := Option.map_eq_some_iff.1 X
  go_enter Tryz.func91, nt_check
  go_wp2
  rw [Lib.run_to_unsafe w ⟨b, 0, none⟩ bt_ptr Tryz.underlying143 hj (by rw [hjs]; decide) hsh (Nat.zero_lt_succ 1)]
  simp only [Result.andThen]
  rw [Oper.upon_value]
  go_wp2
  rw [run_callFunc_extern Tryz.func100 (by kernel_rfl) (by kernel_rfl) (by kernel_rfl) (e := Extern.AbiNoEscape.same) (by kernel_rfl)]
  rw [Lib.run_noEscape]
  simp only [Result.andThen]
  rw [Oper.upon_value]
  go_wp2
  rw [Lib.run_from_unsafe w ⟨b, 0, none⟩ Tryz.underlying143 bt_ptr hj hsh (by kernel_rfl)]
  simp only [Result.andThen]
  rw [Oper.upon_value]
  go_wp2
  go_end0
  exact ⟨rfl, rfl⟩
set_option maxHeartbeats 2000000 in
set_option maxRecDepth 100000 in
theorem bld_some (b g cap : Nat) (p : Value) (cur : Array Value) (l : List UInt8) (w : World) (hbk : w.heap[b]? = some (.cells #[p, .slice (some ⟨g, 0, none⟩) l.length cap] 116 (0, 0)))
    (hg : w.heap[g]? = some (.cells cur 5 (0, 0))) (h0 : l ≠ []) (hlc : l.length ≤ cap) (hcm : cap ≤ maxLen) (hcs : cur.size = cap) (hcells : ∀ (j : Nat) (x : UInt8), l[j]? = some x → cur[j]? = some (Value.int .u8 x.toNat)) :
    Calls Tryz.prog 77 #[.pointer (some ⟨b, 0, none⟩)] w fun e w' => e = .returned (.string ⟨l.toArray⟩) ∧ w' = w.drew.freeze ⟨g, 0, none⟩ l.length := by
  have hl0 : l.length ≠ 0 := by simpa using h0
  have c1 : w.drew.cell? ⟨b, 1, none⟩ = some (.slice (some ⟨g, 0, none⟩) l.length cap) := by
    have : w.drew.heap[b]? = some (.cells #[p, .slice (some ⟨g, 0, none⟩) l.length cap] 116 (0, 0)) := hbk
    rw [Lib.cell_of_heap this]; rfl
  have c2 : w.cell? ⟨b, 1, none⟩ = some (.slice (some ⟨g, 0, none⟩) l.length cap) := c1
  have hSD : (Builtin.unsafeSliceData_ #[114] 134 #[.slice (some ⟨g, 0, none⟩) l.length cap]).run Tryz.prog w.drew = .ok (.pointer (some ⟨g, 0, none⟩)) w.drew :=
    Lib.run_unsafeSliceData_row _ _ _ _ _ _ (by omega)
  have hUS : (Builtin.unsafeString_ #[134, 3] 9 #[.pointer (some ⟨g, 0, none⟩), .int .i64 l.length]).run Tryz.prog w.drew = .ok (.string ⟨l.toArray⟩) (w.drew.freeze ⟨g, 0, none⟩ l.length) := by
    refine Lib.run_unsafeString_row w.drew 134 3 9 5 Tryz.underlying134 (by kernel_rfl) g cur.size (by have hg' : w.drew.heap[g]? = some (.cells cur 5 (0, 0)) := hg; simp [World.shape?, hg']) l h0 (by omega) (by unfold maxLen at hcm; omega) ?_
    intro j x hx
    have hg' : w.drew.heap[g]? = some (.cells cur 5 (0, 0)) := hg
    rw [Addr.add_lit, cell_of_cells hg', Nat.zero_add]
    exact hcells j x hx
  go_enter Tryz.func77, nt_string
  go_wp2
  go_region
  all_goals (go_wp2; go_ret; exact ⟨rfl, rfl⟩)
set_option maxHeartbeats 2000000 in
set_option maxRecDepth 100000 in
theorem bld_nil (b : Nat) (w : World) (p : Value) (hbk : w.heap[b]? = some (.cells #[p, .slice none 0 0] 116 (0, 0))) :
    Calls Tryz.prog 77 #[.pointer (some ⟨b, 0, none⟩)] w fun e w' => e = .returned (.string ⟨#[]⟩) ∧ w' = w.drew := by
  have hUS : ∀ (W : World) (q : Option Addr), (Builtin.unsafeString_ #[134, 3] 9 #[.pointer q, .int .i64 0]).run Tryz.prog W = .ok (.string .empty) W := fun W q => Lib.run_unsafeString_none W _ _ _ q
  have c1 : w.drew.cell? ⟨b, 1, none⟩ = some (.slice none 0 0) := by
    have : w.drew.heap[b]? = some (.cells #[p, .slice none 0 0] 116 (0, 0)) := hbk
    rw [Lib.cell_of_heap this]; rfl
  have c2 : w.cell? ⟨b, 1, none⟩ = some (.slice none 0 0) := c1
  have hSD : (Builtin.unsafeSliceData_ #[114] 134 #[.slice none 0 0]).run Tryz.prog w.drew = .ok (.pointer none) w.drew := rfl
  go_enter Tryz.func77, nt_string
  go_wp2
  go_region
  all_goals (go_wp2; go_ret; exact ⟨rfl, rfl⟩)
theorem bld : BldOk Tryz.prog 116 5 91 77 := ⟨bld_used, bld_fresh, bld_nil, bld_some⟩
end Go.Proofs.YtiemjcchlfbglaaGreatE
/- The hints of this program: which slots live, which slices are rows. -/
namespace Go.Proofs.YtiemjcchlfbglaaGreatE
open Go
set_option maxRecDepth 100000
def tabK : List (Nat × Nat × List Nat) := [(4, 16, [15, 16, 18, 19]),
 (5, 22, [15, 16, 19, 21]),
 (5, 26, [15, 16, 19, 21, 22]),
 (6, 8, [4, 11, 12, 13]),
 (6, 15, [11, 12, 14, 15]),
 (8, 2, [1, 3]),
 (9, 11, [6, 7, 13, 16, 17, 18, 19]),
 (9, 21, [6, 7, 16, 17, 22]),
 (10, 4, [0, 1, 5]),
 (12, 5, [2, 3, 4, 5, 6, 7, 8, 9, 17, 18, 19, 20]),
 (12, 11, [2, 3, 4, 6, 7, 8, 9, 17, 19, 21, 22]),
 (14, 3, [3, 5, 6]),
 (15, 8, [2, 3, 6, 7, 8]),
 (17, 2, [0, 1, 2, 8]),
 (22, 2, [0, 1, 5]),
 (24, 2, [0, 3]),
 (25, 3, [0, 3, 4]),
 (27, 6, [4, 5, 8, 17, 18, 71, 72]),
 (27, 12, [18, 101, 102, 103]),
 (28, 6, [1, 2, 3, 4]),
 (29, 9, [3, 4, 5, 6]),
 (29, 15, [3, 4, 5, 8]),
 (31, 8, [0, 1, 2, 7, 8, 9]),
 (35, 5, [0, 5, 6]),
 (44, 4, [1, 3, 4, 17, 18]),
 (45, 9, [0, 1, 2, 7, 8, 9, 10]),
 (52, 5, [2, 4, 5, 6, 13, 15]),
 (52, 13, [6, 13, 16, 17]),
 (54, 2, [0, 1, 5]),
 (55, 3, [0, 3, 4]),
 (65, 6, [1, 2, 7, 8, 9, 10]),
 (66, 10, [2, 4, 6, 8, 9]),
 (69, 2, [0, 1, 7, 8]),
 (70, 2, [0, 1, 7, 8]),
 (71, 2, [0, 6]),
 (83, 10, [3, 5]),
 (92, 5, [0, 4, 5]),
 (96, 8, [8, 9, 42, 43]),
 (97, 4, [5, 25, 26, 27]),
 (98, 8, [7, 8]),
 (102, 10, [2, 4, 8, 9]),
 (106, 5, [0, 1, 5, 16, 17]),
 (111, 3, [0, 1, 5, 14]),
 (116, 3, [3, 8]),
 (125, 2, [0, 1, 7, 8]),
 (148, 4, [0, 38, 39])]
def tabX : List (Nat × Nat × List Nat) := [(4, 0, [15, 18]),
 (5, 0, []),
 (5, 1, [15, 16, 19, 21]),
 (5, 2, [15, 16, 19, 21]),
 (6, 0, [11, 12]),
 (6, 2, []),
 (8, 0, [1]),
 (9, 0, [6, 7, 16, 17]),
 (9, 2, [16, 17]),
 (10, 0, []),
 (12, 0, [2, 3, 4, 6, 7, 8, 9, 17, 18, 19]),
 (12, 2, [17]),
 (14, 0, [5]),
 (15, 0, [6, 7]),
 (17, 0, []),
 (22, 0, []),
 (24, 0, [0]),
 (25, 0, [3]),
 (27, 0, [4, 8, 17, 18]),
 (27, 2, [18]),
 (28, 0, [2, 3]),
 (29, 1, [3, 4, 5]),
 (29, 3, [4, 5]),
 (31, 0, [8]),
 (35, 0, [5]),
 (44, 0, [1]),
 (45, 0, [8]),
 (52, 0, [4, 5, 6, 13]),
 (52, 2, [6, 13]),
 (54, 0, [0, 5]),
 (55, 0, [3]),
 (66, 0, [2, 4, 8]),
 (69, 0, []),
 (70, 0, []),
 (71, 0, [0]),
 (83, 0, []),
 (92, 0, [4]),
 (96, 0, [8, 9]),
 (97, 0, [5]),
 (98, 0, [7]),
 (102, 0, [2, 4, 9]),
 (106, 0, [5]),
 (111, 0, [0, 1, 5]),
 (116, 0, [3]),
 (125, 0, []),
 (148, 0, [])]
def tabR : List (Nat × Nat × List Nat) := [(3, 0, [16]),
 (4, 0, [14]),
 (5, 0, [14]),
 (6, 0, [10]),
 (7, 0, [0]),
 (8, 0, [2]),
 (9, 0, [16]),
 (10, 0, [4]),
 (11, 0, [2]),
 (12, 0, [16]),
 (13, 0, [4]),
 (14, 0, [4]),
 (15, 0, [6]),
 (16, 0, [4]),
 (17, 0, [6, 7]),
 (18, 0, [6]),
 (19, 0, [4]),
 (20, 0, [4]),
 (21, 0, [4]),
 (22, 0, [4]),
 (23, 0, [2]),
 (24, 0, [2]),
 (25, 0, [2]),
 (26, 0, [8]),
 (27, 0, [16]),
 (28, 0, [2]),
 (29, 0, [4]),
 (30, 0, [2]),
 (31, 0, [6]),
 (32, 0, [14]),
 (33, 0, [8]),
 (34, 0, [6]),
 (35, 0, [4]),
 (36, 0, [2]),
 (37, 0, [2]),
 (38, 0, [4]),
 (39, 0, [4, 5]),
 (40, 0, [4]),
 (41, 0, [2]),
 (42, 0, [4]),
 (43, 0, [4]),
 (44, 0, [2]),
 (45, 0, [6]),
 (47, 0, [2]),
 (48, 0, [4]),
 (49, 0, [4]),
 (50, 0, [8]),
 (51, 0, [4]),
 (52, 0, [12]),
 (53, 0, [6]),
 (54, 0, [4]),
 (55, 0, [2]),
 (56, 0, [6]),
 (57, 0, [4]),
 (58, 0, [3]),
 (60, 0, [6]),
 (61, 0, [4]),
 (62, 0, [2]),
 (63, 0, [6]),
 (64, 0, [8]),
 (65, 0, [6]),
 (66, 0, [4, 5]),
 (67, 0, [4]),
 (68, 0, [2]),
 (69, 0, [4]),
 (70, 0, [4]),
 (71, 0, [2]),
 (72, 0, [14]),
 (73, 0, [6]),
 (74, 0, [2]),
 (75, 0, [6]),
 (76, 0, [4]),
 (77, 0, [2]),
 (78, 0, [4]),
 (79, 0, [2, 3]),
 (80, 0, [2]),
 (81, 0, [2]),
 (82, 0, [6]),
 (83, 0, [4]),
 (84, 0, [2]),
 (85, 0, [8]),
 (86, 0, [4]),
 (87, 0, [10]),
 (88, 0, [2]),
 (89, 0, [4]),
 (90, 0, [6]),
 (92, 0, [2, 3]),
 (93, 0, [4]),
 (94, 0, [4]),
 (95, 0, [4]),
 (96, 0, [8]),
 (97, 0, [4]),
 (98, 0, [4]),
 (99, 0, [2]),
 (101, 0, [2]),
 (102, 0, [4, 5]),
 (103, 0, [4]),
 (104, 0, [2]),
 (105, 0, [4, 5]),
 (106, 0, [4]),
 (107, 0, [2]),
 (108, 0, [2]),
 (109, 0, [4, 5]),
 (110, 0, [2, 3]),
 (111, 0, [4]),
 (112, 0, [2]),
 (113, 0, [6]),
 (114, 0, [4]),
 (115, 0, [2]),
 (116, 0, [2]),
 (117, 0, [4, 5]),
 (118, 0, [4, 5]),
 (119, 0, [2]),
 (120, 0, [2]),
 (121, 0, [2]),
 (122, 0, [4]),
 (123, 0, [2]),
 (124, 0, [4]),
 (125, 0, [4]),
 (126, 0, [4]),
 (144, 0, [6]),
 (146, 0, [6]),
 (148, 0, [6, 7]),
 (149, 0, [6])]
def tabF : List (Nat × List (List (List K))) := [(28, [[[], [], [], [], [], [.int .i64]]]),
 (29, [[[], [], [], [], [.int .i64, .int .i64, .str], [.int .i64]]]),
 (15, [[[], [], [], [], [], [.int .i64, .int .i64]]]),
 (43, [[[.int .i64]]]),
 (20, [[[.int .i64]]]),
 (45, [[[.int .i64]]]),
 (27, [[[.str, .str, .str, .int .i64]]]),
 (102, [[[], [], [], [], [], [.int .i64, .int .i64]], []]),
 (96, [[[], [], [], [], [], [.int .i64, .int .i64]]]),
 (115, [[[.int .i64, .int .i64]]]),
 (98, [[[.int .i64, .int .i64]]]),
 (66, [[[], [], [], [], [], [.int .i64, .int .i64]], []])]
def tabZ : List (Nat × List (List (List K))) := [(27, [[[], [], [], [], [], [.int .i64]], [[], [], [], [], [.int .i64, .int .i64, .str], [.int .i64]], [], [], [], [[.str]], [[.int .i64]], [[.int .i64]]]),
 (97, [[[], [], [], [], [], [.int .i64]], [[], [], [], [], [], [.int .i64, .int .i64]]]),
 (114, [[[], [], [], [], [], [.int .i64]], [[], [], [], [], [], [.int .i64, .int .i64]]]),
 (14, [[[], [], [], [], [], [.int .i64]], [[], [], [], [], [], [.int .i64, .int .i64]]]),
 (83, [[[], [], [], [], [], [.int .i64]], [[], [], [], [], [], [.int .i64, .int .i64]]]),
 (9, [[[], [], [], [], [], [.int .i64]], [[], [], [], [], [.int .i64, .int .i64, .str], [.int .i64]], [], [], [], [[], [], [], [], [], [.int .i64, .int .i64]], [[.int .i64]], []])]
/-- Functions whose results keep their slices; those whose arguments do; those whose bits are not worked out. -/
def tabN : List Nat := [9]
def tabM : List Nat := []
def tabA : List Nat := [55, 35, 106, 116, 111, 118, 103]
def look (f r : Nat) : List (Nat × Nat × List Nat) → Option (List Nat)
  | [] => none
  | (a, b, l) :: t => match Nat.beq a f, Nat.beq b r with
    | true, true => some l
    | _, _ => look f r t
def lookF (f : Nat) : List (Nat × List (List (List K))) → List (List (List K))
  | [] => []
  | (a, l) :: t => match Nat.beq a f with
    | true => l
    | false => lookF f t
def memB (f : Nat) : List Nat → Bool
  | [] => false
  | a :: t => match Nat.beq a f with
    | true => true
    | false => memB f t
def noneF (b : Bool) (l : List (List (List K))) : Option (List (List (List K))) := match b with
  | true => none
  | false => some l
def prims (f : Nat) : Option (List AV → List AObj → Option (AV × List AObj)) := match Nat.beq f 91 with
  | true => some (bldCheckA 116)
  | false => match Nat.beq f 77 with
    | true => some (bldStringA 116 5)
    | false => none
def H0 : Hints := ⟨fun f r => (look f r tabK).getD [], fun f r => look f r tabX, fun f => look f 0 tabR, fun f => memB f tabA, fun f => noneF (memB f tabN) (lookF f tabF), fun f => noneF (memB f tabM) (lookF f tabZ), prims⟩
theorem pr_ok : PrOk Tryz.prog H0 := by
  intro g p h
  simp only [H0, prims] at h
  split at h
  · rename_i hg
    have hg := Nat.eq_of_beq_eq_true hg
    subst hg
    cases h
    exact bldCheck_ok bld
  · split at h
    · rename_i hg
      have hg := Nat.eq_of_beq_eq_true hg
      subst hg
      cases h
      exact bldString_ok bld
    · cases h
theorem ok_prog : okProg Tryz.prog = true := by kernel_rfl
/-- The builder's calls, as specs. -/
def sCopy : SW := fun args h Q => match args, h with
  | [.ptr 0 0], .tb 116 [.nilp, b] :: rest => Q (.tup [], .tb 116 [.ptr 0 0, b] :: rest)
  | [.ptr 0 0], .tb 116 [.ptr 0 0, b] :: rest => Q (.tup [], .tb 116 [.ptr 0 0, b] :: rest)
  | _, _ => False
def sBStr : SW := fun args h Q => match args, h with
  | [.ptr 0 0], [.tb 116 [p, .nils]] => Q (.str ⟨#[]⟩, [.tb 116 [p, .nils]])
  | [.ptr 0 0], [.tb 116 [p, .sl 1 0 n], .arr 2 5 [.int .u8] rs] => Hyp (n = rs.length ∧ 0 < n ∧ s_bytesOk rs = true) ∧ Q (.str ⟨(rowsBytes rs).toArray⟩, [.tb 116 [p, .sl 1 0 n], .dead])
  | _, _ => False
theorem prim_ev {g : Nat} {p : List AV → List AObj → Option (AV × List AObj)} (hp : H0.prim g = some p) {args : List AV} {h : List AObj} {r : AV × List AObj} {Q : AV × List AObj → Prop} (hr : p args h = some r) (hq : Q r) : Ev (fun k => run Tryz.prog H0 k g args h) Q := by
  refine ⟨r, ⟨1, fun k hk => ?_⟩, hq⟩
  obtain ⟨m, rfl⟩ : ∃ m, k = m + 1 := ⟨k - 1, by omega⟩
  simp only [run, hp, hr]
theorem okCopy : OkS Tryz.prog H0 91 sCopy := by
  intro args h Q hq
  unfold sCopy at hq
  split at hq
  · exact prim_ev (p := bldCheckA 116) rfl rfl hq
  · exact prim_ev (p := bldCheckA 116) rfl rfl hq
  · exact hq.elim
theorem okBStr : OkS Tryz.prog H0 77 sBStr := by
  intro args h Q hq
  unfold sBStr at hq
  split at hq
  · exact prim_ev (p := bldStringA 116 5) rfl rfl hq
  · rename_i p n rs
    obtain ⟨⟨h1, h2, h3⟩, hq⟩ := hyp_iff.1 hq
    refine prim_ev (p := bldStringA 116 5) rfl ?_ hq
    show (if Nat.beq 2 2 = true ∧ 5 = 5 ∧ n = rs.length ∧ 0 < n ∧ s_bytesOk rs = true then some (AV.str ⟨(rowsBytes rs).toArray⟩, List.set [AObj.tb 116 [p, .sl 1 0 n], AObj.arr 2 5 [.int .u8] rs] 1 .dead) else none) = _
    rw [if_pos ⟨rfl, rfl, h1, h2, h3⟩]
    rfl
  · exact hq.elim
end Go.Proofs.YtiemjcchlfbglaaGreatE
/- Specs of small functions of this program. -/
namespace Go.Proofs.YtiemjcchlfbglaaGreatE
open Go
set_option linter.unusedVariables false

/-- A configuration, as the interpreter has it. -/
abbrev cf (n pi e g fi : Int) (nl : Bool) (rs : List (List AV)) : AV := .agg [.int .i64 n, .int .i64 pi, .int .i64 e, .int .i64 g, .int .i64 fi, .row nl [.int .i64] rs]
def s_rem (a n : Int) : Int := a % n
def sWithin : SW := fun args h Q => match args, h with
  | [.int .i64 a, .int .i64 n], [] => chk (0 < n ∧ n < 9223372036854775808) (Q (.int .i64 (s_rem a n), []))
  | _, _ => False
/-- A configuration that may be. -/
def s_made (n pi e g fi : Int) (ps : List Int) : Prop :=
  6 ≤ n ∧ n ≤ 12 ∧ 0 ≤ e ∧ e ≤ 20 ∧ 0 ≤ g ∧ g ≤ 20 ∧ 0 ≤ fi ∧ fi ≤ 65535 ∧ 4 * (e + g + 1) ≤ pi ∧ pi ≤ 4 * (e + g + 1) + 99 ∧ ps.length ≤ 3 ∧ ∀ p ∈ ps, -1 ≤ p ∧ p < n
def sMake : SW := fun args h Q => match args, h with
  | [.agg [.int .i64 n, .int .i64 pi, .int .i64 e, .int .i64 g, .int .i64 fi, .row nl [.int .i64] rs]], [] =>
    ∀ (n' pi' e' g' fi' : Int) (nl' : Bool) (ps : List Int), s_made n' pi' e' g' fi' ps → Q (cf n' pi' e' g' fi' nl' (irow .i64 ps), [])
  | _, _ => False
def sText : SW := fun args h Q => match args, h with
  | [.row nl [.int .i64] rs], [] => ∀ s : ByteArray, s.size ≤ 80 → Q (.str s, [])
  | _, _ => False
/-- Some front of a text. -/
def sFront : SW := fun args h Q => match args, h with
  | [.str s], [] => Hyp ((s.size : Int) ≤ 4611686018427387904) ∧ (∀ t : ByteArray, t.size ≤ s.size → Q (.str t, []))
  | _, _ => False
def s_confOk (n pi e g fi : Int) (ps : List Int) : Bool :=
  decide (6 ≤ n) && decide (n ≤ 12) && decide (0 ≤ e) && decide (e ≤ 100) && decide (0 ≤ g) && decide (g ≤ 100) && decide (0 ≤ fi) && decide (fi ≤ 65535) && decide (4 * (e + g + 1) ≤ pi) && decide (pi ≤ 10000) && decide (ps.length ≤ 3) && ps.all fun p => decide (-1 ≤ p) && decide (p < n)
def ints (rs : List (List AV)) : List Int := rs.map fun r => AV.toI (r.getD 0 .gone)
def sCheck : SW := fun args h Q => match args, h with
  | [.agg [.int .i64 n, .int .i64 pi, .int .i64 e, .int .i64 g, .int .i64 fi, .row nl [.int .i64] rs]], [] => Hyp (s_confOk n pi e g fi (ints rs) = true) ∧ (Q (.int .i64 0, []))
  | [.agg [.int .i64 n, .int .i64 pi, .int .i64 e, .int .i64 g, .int .i64 fi, .nils]], [] => Hyp (s_confOk n pi e g fi [] = true) ∧ (Q (.int .i64 0, []))
  | _, _ => False
def sPick : SW := fun args h Q => match args, h with
  | [.int .i64 n, .int .i64 m], [] => chk (m ≤ 4611686018427387904) (br (decide (m ≤ 0)) (Q (.int .i64 (-1), [])) (br (decide (m = 1)) (Q (.int .i64 0, [])) (Q (.int .i64 (s_rem n m), []))))
  | _, _ => False
def S0 : Sp := ⟨[], []⟩
def S1 : Sp := ⟨[(13, sWithin), (49, sWithin), (48, sWithin), (38, sWithin)], []⟩
/-- Loops. -/
def lMake : LW := fun vals h Q => match vals, h with
  | [.ptr 0 0, .ptr 1 0, .ptr 2 0, .int .i64 i], [.box [.int .i64 n', .int .i64 pi', .int .i64 e', .int .i64 g', .int .i64 fi', .row nl [.int .i64] rs], .box [.int .i64 z1, .int .i64 z2, .int .i64 z3, .int .i64 z4, .int .i64 z5, .nils], .box [.int .i64 n, .int .i64 pi, .int .i64 e, .int .i64 g, .int .i64 fi, .nils]] =>
    Hyp (i = 0 ∧ 6 ≤ n ∧ n ≤ 12) ∧
      (Q (.exit 0) [.ptr 0 0, .ptr 1 0] [.box [.int .i64 z1, .int .i64 z2, .int .i64 z3, .int .i64 z4, .int .i64 z5, .nils], .box [.int .i64 n, .int .i64 pi, .int .i64 e, .int .i64 g, .int .i64 fi, .nils]] ∧
        ∀ (ps : List Int), ps.length ≤ 3 → (∀ p ∈ ps, -1 ≤ p ∧ p < n) → Q (.exit 0) [.ptr 0 0, .ptr 1 0] [.box [.int .i64 z1, .int .i64 z2, .int .i64 z3, .int .i64 z4, .int .i64 z5, .nils], .box [.int .i64 n, .int .i64 pi, .int .i64 e, .int .i64 g, .int .i64 fi, .sl 2 0 ps.length], .arr 2 3 [.int .i64] (irow .i64 ps)])
  | [.ptr 0 0, .ptr 1 0, .ptr 2 0, .int .i64 i], [.box [.int .i64 n', .int .i64 pi', .int .i64 e', .int .i64 g', .int .i64 fi', .row nl [.int .i64] rs], .box [.int .i64 z1, .int .i64 z2, .int .i64 z3, .int .i64 z4, .int .i64 z5, .nils], .box [.int .i64 n, .int .i64 pi, .int .i64 e, .int .i64 g, .int .i64 fi, .sl 3 0 m], .arr 2 3 [.int .i64] rows] =>
    (i = m ∧ m ≤ 3 ∧ 6 ≤ n ∧ n ≤ 12 ∧ ∃ qs : List Int, rows = irow .i64 qs ∧ qs.length = m ∧ ∀ p ∈ qs, -1 ≤ p ∧ p < n) ∧
        ∀ (ps : List Int), ps.length ≤ 3 → (∀ p ∈ ps, -1 ≤ p ∧ p < n) → Q (.exit 0) [.ptr 0 0, .ptr 1 0] [.box [.int .i64 z1, .int .i64 z2, .int .i64 z3, .int .i64 z4, .int .i64 z5, .nils], .box [.int .i64 n, .int .i64 pi, .int .i64 e, .int .i64 g, .int .i64 fi, .sl 2 0 ps.length], .arr 2 3 [.int .i64] (irow .i64 ps)]
  | _, _ => False
def lText : LW := fun vals h Q => match vals, h with
  | [.row nl [.int .i64] rs, .str s, .int .i64 i], [] => Hyp (0 ≤ i ∧ i = s.size ∧ i ≤ 80) ∧ (∀ t : ByteArray, t.size ≤ 80 → Q (.exit 0) [.str t] [])
  | _, _ => False
def lFront : LW := fun vals h Q => match vals, h with
  | [.str s, .int .i64 i], [] => Hyp (0 ≤ i ∧ i ≤ s.size ∧ (s.size : Int) ≤ 4611686018427387904) ∧ ((∀ t : ByteArray, t.size ≤ s.size → Q (.exit 0) [.str t] []) ∧ (∀ t : ByteArray, t.size ≤ s.size → Q .ret [.str t] []))
  | _, _ => False
def S1L : Sp := ⟨S1.fn, [(28, 6, lMake)]⟩
end Go.Proofs.YtiemjcchlfbglaaGreatE
/- What path mode says of functions, printed by a program of this session; the kernel holds each. -/
namespace Go.Proofs.YtiemjcchlfbglaaGreatE
open Go
set_option maxRecDepth 100000
set_option linter.unusedVariables false
theorem nfW6 (a n : Int) (Q : AV × List AObj → Prop) : inlW Tryz.prog H0 S0 6 (InO Tryz.prog H0 S0 6 6) 49 [.int .i64 a, .int .i64 n] [] Q = (
chk (n ≠ (0 : Int)) (br (decide (a.tmod n < (0 : Int)))
 (Q ((AV.int IntKind.i64 (IntKind.i64.wrap (a.tmod n + n)), [])))
 (Q ((AV.int IntKind.i64 (a.tmod n), []))))) := by kernel_rfl
theorem nfW3 (a n : Int) (Q : AV × List AObj → Prop) : inlW Tryz.prog H0 S0 6 (InO Tryz.prog H0 S0 6 6) 48 [.int .i64 a, .int .i64 n] [] Q = (
chk (n ≠ (0 : Int)) (br (decide (a.tmod n < (0 : Int)))
 (Q ((AV.int IntKind.i64 (IntKind.i64.wrap (a.tmod n + n)), [])))
 (Q ((AV.int IntKind.i64 (a.tmod n), []))))) := by kernel_rfl
theorem nfW5 (a n : Int) (Q : AV × List AObj → Prop) : inlW Tryz.prog H0 S0 6 (InO Tryz.prog H0 S0 6 6) 38 [.int .i64 a, .int .i64 n] [] Q = (
chk (n ≠ (0 : Int)) (br (decide (a.tmod n < (0 : Int)))
 (Q ((AV.int IntKind.i64 (IntKind.i64.wrap (a.tmod n + n)), [])))
 (Q ((AV.int IntKind.i64 (a.tmod n), []))))) := by kernel_rfl
theorem nfW9 (a n : Int) (Q : AV × List AObj → Prop) : inlW Tryz.prog H0 S0 6 (InO Tryz.prog H0 S0 6 6) 13 [.int .i64 a, .int .i64 n] [] Q = (
chk (n ≠ (0 : Int)) (br (decide (a.tmod n < (0 : Int)))
 (Q ((AV.int IntKind.i64 (IntKind.i64.wrap (a.tmod n + n)), [])))
 (Q ((AV.int IntKind.i64 (a.tmod n), []))))) := by kernel_rfl
theorem nfMake (n pi e g fi : Int) (nl : Bool) (rs : List (List AV)) (Q : AV × List AObj → Prop) : inlW Tryz.prog H0 S1L 6 (InO Tryz.prog H0 S1L 6 6) 28 [cf n pi e g fi nl rs] [] Q = (
br (s_rem fi (3 : Int) == (0 : Int))
 (((Hyp ((0 : Int) = (0 : Int) ∧
  (6 : Int) ≤ IntKind.i64.wrap ((6 : Int) + s_rem n (7 : Int)) ∧
    IntKind.i64.wrap ((6 : Int) + s_rem n (7 : Int)) ≤ (12 : Int))) ∧
 (((Q ((AV.agg
    [AV.int IntKind.i64 (IntKind.i64.wrap ((6 : Int) + s_rem n (7 : Int))),
      AV.int IntKind.i64
        (IntKind.i64.wrap
          (IntKind.i64.wrap
              ((4 : Int) * IntKind.i64.wrap (IntKind.i64.wrap (s_rem e (21 : Int) + s_rem g (21 : Int)) + (1 : Int))) +
            s_rem pi (100 : Int))),
      AV.int IntKind.i64 (s_rem e (21 : Int)), AV.int IntKind.i64 (s_rem g (21 : Int)),
      AV.int IntKind.i64 (IntKind.i64.wrap ((65535 : Int) - s_rem fi (40 : Int))), AV.row true [K.int IntKind.i64] []],
  []))) ∧
 ((∀ (ps103 : List Int),
 ((ps103.length ≤ (3 : Nat)) →
 ((∀ (p : Int), p ∈ ps103 → (-1 : Int) ≤ p ∧ p < IntKind.i64.wrap ((6 : Int) + s_rem n (7 : Int))) →
 chk ((0 : Nat) + ps103.length ≤ (List.map (fun n => [AV.int IntKind.i64 n]) ps103).length) (Q ((AV.agg
    [AV.int IntKind.i64 (IntKind.i64.wrap ((6 : Int) + s_rem n (7 : Int))),
      AV.int IntKind.i64
        (IntKind.i64.wrap
          (IntKind.i64.wrap
              ((4 : Int) * IntKind.i64.wrap (IntKind.i64.wrap (s_rem e (21 : Int) + s_rem g (21 : Int)) + (1 : Int))) +
            s_rem pi (100 : Int))),
      AV.int IntKind.i64 (s_rem e (21 : Int)), AV.int IntKind.i64 (s_rem g (21 : Int)),
      AV.int IntKind.i64 (IntKind.i64.wrap ((65535 : Int) - s_rem fi (40 : Int))),
      AV.row false [K.int IntKind.i64]
        (List.take ps103.length (List.drop (0 : Nat) (List.map (fun n => [AV.int IntKind.i64 n]) ps103)))],
  [])))))))))))
 (((Hyp ((0 : Int) = (0 : Int) ∧
  (6 : Int) ≤ IntKind.i64.wrap ((6 : Int) + s_rem n (7 : Int)) ∧
    IntKind.i64.wrap ((6 : Int) + s_rem n (7 : Int)) ≤ (12 : Int))) ∧
 (((Q ((AV.agg
    [AV.int IntKind.i64 (IntKind.i64.wrap ((6 : Int) + s_rem n (7 : Int))),
      AV.int IntKind.i64
        (IntKind.i64.wrap
          (IntKind.i64.wrap
              ((4 : Int) * IntKind.i64.wrap (IntKind.i64.wrap (s_rem e (21 : Int) + s_rem g (21 : Int)) + (1 : Int))) +
            s_rem pi (100 : Int))),
      AV.int IntKind.i64 (s_rem e (21 : Int)), AV.int IntKind.i64 (s_rem g (21 : Int)),
      AV.int IntKind.i64 (s_rem fi (65536 : Int)), AV.row true [K.int IntKind.i64] []],
  []))) ∧
 ((∀ (ps103 : List Int),
 ((ps103.length ≤ (3 : Nat)) →
 ((∀ (p : Int), p ∈ ps103 → (-1 : Int) ≤ p ∧ p < IntKind.i64.wrap ((6 : Int) + s_rem n (7 : Int))) →
 chk ((0 : Nat) + ps103.length ≤ (List.map (fun n => [AV.int IntKind.i64 n]) ps103).length) (Q ((AV.agg
    [AV.int IntKind.i64 (IntKind.i64.wrap ((6 : Int) + s_rem n (7 : Int))),
      AV.int IntKind.i64
        (IntKind.i64.wrap
          (IntKind.i64.wrap
              ((4 : Int) * IntKind.i64.wrap (IntKind.i64.wrap (s_rem e (21 : Int) + s_rem g (21 : Int)) + (1 : Int))) +
            s_rem pi (100 : Int))),
      AV.int IntKind.i64 (s_rem e (21 : Int)), AV.int IntKind.i64 (s_rem g (21 : Int)),
      AV.int IntKind.i64 (s_rem fi (65536 : Int)),
      AV.row false [K.int IntKind.i64]
        (List.take ps103.length (List.drop (0 : Nat) (List.map (fun n => [AV.int IntKind.i64 n]) ps103)))],
  [])))))))))))) := by kernel_rfl
theorem nfMakea (i n pi e g fi n' pi' e' g' fi' : Int) (nl : Bool) (rs : List (List AV)) (z1 z2 z3 z4 z5 : Int) (Q : Ex → List AV → List AObj → Prop) : lpBody Tryz.prog H0 S1 6 6 28 6 [.ptr 0 0, .ptr 1 0, .ptr 2 0, .int .i64 i] [.box [.int .i64 n', .int .i64 pi', .int .i64 e', .int .i64 g', .int .i64 fi', .row nl [.int .i64] rs], .box [.int .i64 z1, .int .i64 z2, .int .i64 z3, .int .i64 z4, .int .i64 z5, .nils], .box [.int .i64 n, .int .i64 pi, .int .i64 e, .int .i64 g, .int .i64 fi, .nils]] Q = (
br (decide (i < (↑rs.length : Int)))
 (br (decide (i < (3 : Int)))
  (chk ((0 : Int) ≤ i ∧ i < (↑rs.length : Int)) (chk ((0 : Int) < IntKind.i64.wrap (n + (1 : Int)) ∧ IntKind.i64.wrap (n + (1 : Int)) < (9223372036854775808 : Int)) (Q (Ex.nrm) ([AV.ptr (0 : Nat) (0 : Nat), AV.ptr (1 : Nat) (0 : Nat), AV.ptr (2 : Nat) (0 : Nat),
  AV.int IntKind.i64 (IntKind.i64.wrap (i + (1 : Int)))]) ([AObj.box
    [AV.int IntKind.i64 n', AV.int IntKind.i64 pi', AV.int IntKind.i64 e', AV.int IntKind.i64 g',
      AV.int IntKind.i64 fi', AV.row nl [K.int IntKind.i64] rs],
  AObj.box
    [AV.int IntKind.i64 z1, AV.int IntKind.i64 z2, AV.int IntKind.i64 z3, AV.int IntKind.i64 z4, AV.int IntKind.i64 z5,
      AV.nils],
  AObj.box
    [AV.int IntKind.i64 n, AV.int IntKind.i64 pi, AV.int IntKind.i64 e, AV.int IntKind.i64 g, AV.int IntKind.i64 fi,
      AV.sl (3 : Nat) (0 : Nat) (1 : Nat)],
  AObj.arr (2 : Nat) (3 : Nat) [K.int IntKind.i64]
    [[AV.int IntKind.i64
          (IntKind.i64.wrap
            (s_rem ((rs.getD i.toNat []).getD (0 : Nat) AV.gone).toI (IntKind.i64.wrap (n + (1 : Int))) - (1 : Int)))]]]))))
  (Q (Ex.exit (0 : Nat)) ([AV.ptr (0 : Nat) (0 : Nat), AV.ptr (1 : Nat) (0 : Nat)]) ([AObj.box
    [AV.int IntKind.i64 z1, AV.int IntKind.i64 z2, AV.int IntKind.i64 z3, AV.int IntKind.i64 z4, AV.int IntKind.i64 z5,
      AV.nils],
  AObj.box
    [AV.int IntKind.i64 n, AV.int IntKind.i64 pi, AV.int IntKind.i64 e, AV.int IntKind.i64 g, AV.int IntKind.i64 fi,
      AV.nils]])))
 (Q (Ex.exit (0 : Nat)) ([AV.ptr (0 : Nat) (0 : Nat), AV.ptr (1 : Nat) (0 : Nat)]) ([AObj.box
    [AV.int IntKind.i64 z1, AV.int IntKind.i64 z2, AV.int IntKind.i64 z3, AV.int IntKind.i64 z4, AV.int IntKind.i64 z5,
      AV.nils],
  AObj.box
    [AV.int IntKind.i64 n, AV.int IntKind.i64 pi, AV.int IntKind.i64 e, AV.int IntKind.i64 g, AV.int IntKind.i64 fi,
      AV.nils]]))) := by kernel_rfl
theorem nfMakeb (z1 z2 z3 z4 z5 i n pi e g fi n' pi' e' g' fi' : Int) (nl : Bool) (rs rows : List (List AV)) (m : Nat) (Q : Ex → List AV → List AObj → Prop) : lpBody Tryz.prog H0 S1 6 6 28 6 [.ptr 0 0, .ptr 1 0, .ptr 2 0, .int .i64 i] [.box [.int .i64 n', .int .i64 pi', .int .i64 e', .int .i64 g', .int .i64 fi', .row nl [.int .i64] rs], .box [.int .i64 z1, .int .i64 z2, .int .i64 z3, .int .i64 z4, .int .i64 z5, .nils], .box [.int .i64 n, .int .i64 pi, .int .i64 e, .int .i64 g, .int .i64 fi, .sl 3 0 m], .arr 2 3 [.int .i64] rows] Q = (
br (decide (i < (↑rs.length : Int)))
 (br (decide (i < (3 : Int)))
  (chk ((0 : Int) ≤ i ∧ i < (↑rs.length : Int)) (chk ((0 : Int) < IntKind.i64.wrap (n + (1 : Int)) ∧ IntKind.i64.wrap (n + (1 : Int)) < (9223372036854775808 : Int)) (chk (m = rows.length) (chk ((rows.length + (1 : Nat)) * (8 : Nat) ≤ (140737488355328 : Nat)) (chk (rows.length + (1 : Nat) ≤ (9223372036854775807 : Nat)) (Q (Ex.nrm) ([AV.ptr (0 : Nat) (0 : Nat), AV.ptr (1 : Nat) (0 : Nat), AV.ptr (2 : Nat) (0 : Nat),
  AV.int IntKind.i64 (IntKind.i64.wrap (i + (1 : Int)))]) ([AObj.box
    [AV.int IntKind.i64 n', AV.int IntKind.i64 pi', AV.int IntKind.i64 e', AV.int IntKind.i64 g',
      AV.int IntKind.i64 fi', AV.row nl [K.int IntKind.i64] rs],
  AObj.box
    [AV.int IntKind.i64 z1, AV.int IntKind.i64 z2, AV.int IntKind.i64 z3, AV.int IntKind.i64 z4, AV.int IntKind.i64 z5,
      AV.nils],
  AObj.box
    [AV.int IntKind.i64 n, AV.int IntKind.i64 pi, AV.int IntKind.i64 e, AV.int IntKind.i64 g, AV.int IntKind.i64 fi,
      AV.sl (3 : Nat) (0 : Nat) (rows.length + (1 : Nat))],
  AObj.arr (2 : Nat) (3 : Nat) [K.int IntKind.i64]
    (rows ++
      [[AV.int IntKind.i64
            (IntKind.i64.wrap
              (s_rem ((rs.getD i.toNat []).getD (0 : Nat) AV.gone).toI (IntKind.i64.wrap (n + (1 : Int))) -
                (1 : Int)))]])])))))))
  (Q (Ex.exit (0 : Nat)) ([AV.ptr (0 : Nat) (0 : Nat), AV.ptr (1 : Nat) (0 : Nat)]) ([AObj.box
    [AV.int IntKind.i64 z1, AV.int IntKind.i64 z2, AV.int IntKind.i64 z3, AV.int IntKind.i64 z4, AV.int IntKind.i64 z5,
      AV.nils],
  AObj.box
    [AV.int IntKind.i64 n, AV.int IntKind.i64 pi, AV.int IntKind.i64 e, AV.int IntKind.i64 g, AV.int IntKind.i64 fi,
      AV.sl (2 : Nat) (0 : Nat) m],
  AObj.arr (2 : Nat) (3 : Nat) [K.int IntKind.i64] rows])))
 (Q (Ex.exit (0 : Nat)) ([AV.ptr (0 : Nat) (0 : Nat), AV.ptr (1 : Nat) (0 : Nat)]) ([AObj.box
    [AV.int IntKind.i64 z1, AV.int IntKind.i64 z2, AV.int IntKind.i64 z3, AV.int IntKind.i64 z4, AV.int IntKind.i64 z5,
      AV.nils],
  AObj.box
    [AV.int IntKind.i64 n, AV.int IntKind.i64 pi, AV.int IntKind.i64 e, AV.int IntKind.i64 g, AV.int IntKind.i64 fi,
      AV.sl (2 : Nat) (0 : Nat) m],
  AObj.arr (2 : Nat) (3 : Nat) [K.int IntKind.i64] rows]))) := by kernel_rfl
theorem nfCheckn (n pi e g fi : Int) (Q : AV × List AObj → Prop) : inlW Tryz.prog H0 S1 6 (InO Tryz.prog H0 S1 6 6) 44 [.agg [.int .i64 n, .int .i64 pi, .int .i64 e, .int .i64 g, .int .i64 fi, .nils]] [] Q = (
br (decide (n ≥ (6 : Int)))
 (br (!decide (n ≤ (12 : Int)))
  (Q ((AV.int IntKind.i64 (1 : Int), [])))
  (br (decide (e ≥ (0 : Int)))
   (br (!decide (e ≤ (100 : Int)))
    (Q ((AV.int IntKind.i64 (1 : Int), [])))
    (br (decide (g ≥ (0 : Int)))
     (br (!decide (g ≤ (100 : Int)))
      (Q ((AV.int IntKind.i64 (1 : Int), [])))
      (br (decide (fi ≥ (0 : Int)))
       (br (!decide (fi ≤ (65535 : Int)))
        (Q ((AV.int IntKind.i64 (1 : Int), [])))
        (br (decide (pi ≥ IntKind.i64.wrap ((4 : Int) * IntKind.i64.wrap (IntKind.i64.wrap (e + g) + (1 : Int)))))
         (br (!decide (pi ≤ (10000 : Int)))
          (Q ((AV.int IntKind.i64 (1 : Int), [])))
          (Q ((AV.int IntKind.i64 (0 : Int), []))))
         (Q ((AV.int IntKind.i64 (1 : Int), [])))))
       (Q ((AV.int IntKind.i64 (1 : Int), [])))))
     (Q ((AV.int IntKind.i64 (1 : Int), [])))))
   (Q ((AV.int IntKind.i64 (1 : Int), [])))))
 (Q ((AV.int IntKind.i64 (1 : Int), [])))) := by kernel_rfl
theorem nfCheckz (n pi e g fi : Int) (nl : Bool) (Q : AV × List AObj → Prop) : inlW Tryz.prog H0 S1 6 (InO Tryz.prog H0 S1 6 6) 44 [cf n pi e g fi nl []] [] Q = (
br (decide (n ≥ (6 : Int)))
 (br (!decide (n ≤ (12 : Int)))
  (Q ((AV.int IntKind.i64 (1 : Int), [])))
  (br (decide (e ≥ (0 : Int)))
   (br (!decide (e ≤ (100 : Int)))
    (Q ((AV.int IntKind.i64 (1 : Int), [])))
    (br (decide (g ≥ (0 : Int)))
     (br (!decide (g ≤ (100 : Int)))
      (Q ((AV.int IntKind.i64 (1 : Int), [])))
      (br (decide (fi ≥ (0 : Int)))
       (br (!decide (fi ≤ (65535 : Int)))
        (Q ((AV.int IntKind.i64 (1 : Int), [])))
        (br (decide (pi ≥ IntKind.i64.wrap ((4 : Int) * IntKind.i64.wrap (IntKind.i64.wrap (e + g) + (1 : Int)))))
         (br (!decide (pi ≤ (10000 : Int)))
          (Q ((AV.int IntKind.i64 (1 : Int), [])))
          (Q ((AV.int IntKind.i64 (0 : Int), []))))
         (Q ((AV.int IntKind.i64 (1 : Int), [])))))
       (Q ((AV.int IntKind.i64 (1 : Int), [])))))
     (Q ((AV.int IntKind.i64 (1 : Int), [])))))
   (Q ((AV.int IntKind.i64 (1 : Int), [])))))
 (Q ((AV.int IntKind.i64 (1 : Int), [])))) := by kernel_rfl
theorem nfChecka (n pi e g fi : Int) (nl : Bool) (a : List AV) (Q : AV × List AObj → Prop) : inlW Tryz.prog H0 S1 6 (InO Tryz.prog H0 S1 6 6) 44 [cf n pi e g fi nl [a]] [] Q = (
br (decide (n ≥ (6 : Int)))
 (br (!decide (n ≤ (12 : Int)))
  (Q ((AV.int IntKind.i64 (1 : Int), [])))
  (br (decide (e ≥ (0 : Int)))
   (br (!decide (e ≤ (100 : Int)))
    (Q ((AV.int IntKind.i64 (1 : Int), [])))
    (br (decide (g ≥ (0 : Int)))
     (br (!decide (g ≤ (100 : Int)))
      (Q ((AV.int IntKind.i64 (1 : Int), [])))
      (br (decide (fi ≥ (0 : Int)))
       (br (!decide (fi ≤ (65535 : Int)))
        (Q ((AV.int IntKind.i64 (1 : Int), [])))
        (br (decide (pi ≥ IntKind.i64.wrap ((4 : Int) * IntKind.i64.wrap (IntKind.i64.wrap (e + g) + (1 : Int)))))
         (br (!decide (pi ≤ (10000 : Int)))
          (Q ((AV.int IntKind.i64 (1 : Int), [])))
          (br (decide ((([a].getD (0 : Nat) []).getD (0 : Nat) AV.gone).toI ≥ (-1 : Int)))
           (br (!decide ((([a].getD (0 : Nat) []).getD (0 : Nat) AV.gone).toI ≤ IntKind.i64.wrap (n - (1 : Int))))
            (Q ((AV.int IntKind.i64 (1 : Int), [])))
            (Q ((AV.int IntKind.i64 (0 : Int), []))))
           (Q ((AV.int IntKind.i64 (1 : Int), [])))))
         (Q ((AV.int IntKind.i64 (1 : Int), [])))))
       (Q ((AV.int IntKind.i64 (1 : Int), [])))))
     (Q ((AV.int IntKind.i64 (1 : Int), [])))))
   (Q ((AV.int IntKind.i64 (1 : Int), [])))))
 (Q ((AV.int IntKind.i64 (1 : Int), [])))) := by kernel_rfl
theorem nfCheckb (n pi e g fi : Int) (nl : Bool) (a b : List AV) (Q : AV × List AObj → Prop) : inlW Tryz.prog H0 S1 6 (InO Tryz.prog H0 S1 6 6) 44 [cf n pi e g fi nl [a, b]] [] Q = (
br (decide (n ≥ (6 : Int)))
 (br (!decide (n ≤ (12 : Int)))
  (Q ((AV.int IntKind.i64 (1 : Int), [])))
  (br (decide (e ≥ (0 : Int)))
   (br (!decide (e ≤ (100 : Int)))
    (Q ((AV.int IntKind.i64 (1 : Int), [])))
    (br (decide (g ≥ (0 : Int)))
     (br (!decide (g ≤ (100 : Int)))
      (Q ((AV.int IntKind.i64 (1 : Int), [])))
      (br (decide (fi ≥ (0 : Int)))
       (br (!decide (fi ≤ (65535 : Int)))
        (Q ((AV.int IntKind.i64 (1 : Int), [])))
        (br (decide (pi ≥ IntKind.i64.wrap ((4 : Int) * IntKind.i64.wrap (IntKind.i64.wrap (e + g) + (1 : Int)))))
         (br (!decide (pi ≤ (10000 : Int)))
          (Q ((AV.int IntKind.i64 (1 : Int), [])))
          (br (decide ((([a, b].getD (0 : Nat) []).getD (0 : Nat) AV.gone).toI ≥ (-1 : Int)))
           (br (!decide ((([a, b].getD (0 : Nat) []).getD (0 : Nat) AV.gone).toI ≤ IntKind.i64.wrap (n - (1 : Int))))
            (Q ((AV.int IntKind.i64 (1 : Int), [])))
            (br (decide ((([a, b].getD (1 : Nat) []).getD (0 : Nat) AV.gone).toI ≥ (-1 : Int)))
             (br (!decide ((([a, b].getD (1 : Nat) []).getD (0 : Nat) AV.gone).toI ≤ IntKind.i64.wrap (n - (1 : Int))))
              (Q ((AV.int IntKind.i64 (1 : Int), [])))
              (Q ((AV.int IntKind.i64 (0 : Int), []))))
             (Q ((AV.int IntKind.i64 (1 : Int), [])))))
           (Q ((AV.int IntKind.i64 (1 : Int), [])))))
         (Q ((AV.int IntKind.i64 (1 : Int), [])))))
       (Q ((AV.int IntKind.i64 (1 : Int), [])))))
     (Q ((AV.int IntKind.i64 (1 : Int), [])))))
   (Q ((AV.int IntKind.i64 (1 : Int), [])))))
 (Q ((AV.int IntKind.i64 (1 : Int), [])))) := by kernel_rfl
theorem nfCheckc (n pi e g fi : Int) (nl : Bool) (a b c : List AV) (Q : AV × List AObj → Prop) : inlW Tryz.prog H0 S1 6 (InO Tryz.prog H0 S1 6 6) 44 [cf n pi e g fi nl [a, b, c]] [] Q = (
br (decide (n ≥ (6 : Int)))
 (br (!decide (n ≤ (12 : Int)))
  (Q ((AV.int IntKind.i64 (1 : Int), [])))
  (br (decide (e ≥ (0 : Int)))
   (br (!decide (e ≤ (100 : Int)))
    (Q ((AV.int IntKind.i64 (1 : Int), [])))
    (br (decide (g ≥ (0 : Int)))
     (br (!decide (g ≤ (100 : Int)))
      (Q ((AV.int IntKind.i64 (1 : Int), [])))
      (br (decide (fi ≥ (0 : Int)))
       (br (!decide (fi ≤ (65535 : Int)))
        (Q ((AV.int IntKind.i64 (1 : Int), [])))
        (br (decide (pi ≥ IntKind.i64.wrap ((4 : Int) * IntKind.i64.wrap (IntKind.i64.wrap (e + g) + (1 : Int)))))
         (br (!decide (pi ≤ (10000 : Int)))
          (Q ((AV.int IntKind.i64 (1 : Int), [])))
          (br (decide ((([a, b, c].getD (0 : Nat) []).getD (0 : Nat) AV.gone).toI ≥ (-1 : Int)))
           (br (!decide ((([a, b, c].getD (0 : Nat) []).getD (0 : Nat) AV.gone).toI ≤ IntKind.i64.wrap (n - (1 : Int))))
            (Q ((AV.int IntKind.i64 (1 : Int), [])))
            (br (decide ((([a, b, c].getD (1 : Nat) []).getD (0 : Nat) AV.gone).toI ≥ (-1 : Int)))
             (br (!decide ((([a, b, c].getD (1 : Nat) []).getD (0 : Nat) AV.gone).toI ≤ IntKind.i64.wrap (n - (1 : Int))))
              (Q ((AV.int IntKind.i64 (1 : Int), [])))
              (br (decide ((([a, b, c].getD (2 : Nat) []).getD (0 : Nat) AV.gone).toI ≥ (-1 : Int)))
               (br (!decide ((([a, b, c].getD (2 : Nat) []).getD (0 : Nat) AV.gone).toI ≤ IntKind.i64.wrap (n - (1 : Int))))
                (Q ((AV.int IntKind.i64 (1 : Int), [])))
                (Q ((AV.int IntKind.i64 (0 : Int), []))))
               (Q ((AV.int IntKind.i64 (1 : Int), [])))))
             (Q ((AV.int IntKind.i64 (1 : Int), [])))))
           (Q ((AV.int IntKind.i64 (1 : Int), [])))))
         (Q ((AV.int IntKind.i64 (1 : Int), [])))))
       (Q ((AV.int IntKind.i64 (1 : Int), [])))))
     (Q ((AV.int IntKind.i64 (1 : Int), [])))))
   (Q ((AV.int IntKind.i64 (1 : Int), [])))))
 (Q ((AV.int IntKind.i64 (1 : Int), [])))) := by kernel_rfl
end Go.Proofs.YtiemjcchlfbglaaGreatE
/- The specs hold. -/
namespace Go.Proofs.YtiemjcchlfbglaaGreatE
open Go
set_option linter.unusedVariables false
set_option maxRecDepth 100000
set_option linter.unusedSimpArgs false

theorem to {a b : Prop} (e : a = b) (h : b) : a := e ▸ h
theorem wr {x : Int} (h1 : -9223372036854775808 ≤ x) (h2 : x ≤ 9223372036854775807) : IntKind.i64.wrap x = x := by
  rw [IntKind.wrap_i64]; omega
theorem tmod_rem (a : Int) {n : Int} (h : 0 < n) : (a.tmod n < 0 → a.tmod n + n = s_rem a n) ∧ (¬ a.tmod n < 0 → a.tmod n = s_rem a n) := by
  unfold s_rem
  have e := Int.tmod_eq_emod (a := a) (b := n)
  have h1 := Int.emod_nonneg a (show n ≠ 0 by omega)
  have h2 := Int.emod_lt_of_pos a h
  have hn : (n.natAbs : Int) = n := by omega
  constructor
  · intro hlt
    rw [e] at hlt ⊢
    split at hlt
    · omega
    · rename_i hc; rw [if_neg hc]; omega
  · intro hge
    rw [e] at hge ⊢
    split at hge
    · rename_i hc; rw [if_pos hc]; omega
    · omega
theorem rem_lt (a : Int) {n : Int} (h : 0 < n) : 0 ≤ s_rem a n ∧ s_rem a n < n := ⟨Int.emod_nonneg a (by omega), Int.emod_lt_of_pos a h⟩
theorem okS0 : OkSp Tryz.prog H0 S0 := ⟨trivial, trivial⟩
theorem within_ok {g : FuncId} (nf : ∀ (a n : Int) (Q : AV × List AObj → Prop), inlW Tryz.prog H0 S0 6 (InO Tryz.prog H0 S0 6 6) g [.int .i64 a, .int .i64 n] [] Q = (chk (n ≠ (0 : Int)) (br (decide (a.tmod n < (0 : Int)))
 (Q ((AV.int IntKind.i64 (IntKind.i64.wrap (a.tmod n + n)), [])))
 (Q ((AV.int IntKind.i64 (a.tmod n), [])))))) : OkS Tryz.prog H0 g sWithin := by
  intro args h Q hq
  unfold sWithin at hq
  split at hq
  · rename_i a n
    obtain ⟨⟨h0, h1⟩, hq⟩ := chk_iff.1 hq
    refine in_ok (S := S0) (U := 6) (k := 6) okS0 ?_
    refine to (nf ..) ?_
    have hr := rem_lt a h0
    refine chk_iff.2 ⟨by omega, br_intro (fun hc => ?_) (fun hc => ?_)⟩
    · have := (tmod_rem a h0).1 (of_decide_eq_true hc)
      rw [this, wr (by omega) (by omega)]; exact hq
    · rw [(tmod_rem a h0).2 (of_decide_eq_false hc)]; exact hq
  · exact hq.elim
theorem okS1 : OkSp Tryz.prog H0 S1 := ⟨⟨within_ok nfW9, within_ok nfW6, within_ok nfW3, within_ok nfW5, trivial⟩, trivial⟩
theorem irow_len (k : IntKind) (l : List Int) : (irow k l).length = l.length := by simp [irow]
theorem irow_app (k : IntKind) (a b : List Int) : irow k (a ++ b) = irow k a ++ irow k b := by simp [irow]
theorem okLMake : OkLp Tryz.prog H0 28 6 lMake := by
  refine okLp_of (U := 6) (k := 6) okS1 lMake (fun vals _ => match vals with | [_, _, _, .int _ i] => (3 - i).toNat | _ => 0) fun vals h Q hl => ?_
  unfold lMake at hl
  split at hl
  · rename_i i n' pi' e' g' fi' nl rs z1 z2 z3 z4 z5 n pi e g fi
    obtain ⟨⟨h0, h1, h2⟩, hq1, hq2⟩ := hyp_iff.1 hl
    subst h0
    refine to (nfMakea ..) ?_
    have w1 : IntKind.i64.wrap (n + 1) = n + 1 := wr (by omega) (by omega)
    rw [w1]
    refine br_intro (fun hc => br_intro (fun hc2 => ?_) fun hc2 => ?_) fun hc => ?_
    · have hc := of_decide_eq_true hc
      refine chk_iff.2 ⟨⟨by omega, hc⟩, chk_iff.2 ⟨by omega, ?_⟩⟩
      have hr := rem_lt ((rs.getD (0 : Int).toNat []).getD 0 AV.gone).toI (show 0 < n + 1 by omega)
      have w2 : IntKind.i64.wrap ((0 : Int) + 1) = 1 := by decide
      have w3 : IntKind.i64.wrap (s_rem ((rs.getD (0 : Int).toNat []).getD 0 AV.gone).toI (n + 1) - 1) = s_rem ((rs.getD (0 : Int).toNat []).getD 0 AV.gone).toI (n + 1) - 1 := wr (by omega) (by omega)
      rw [w2, w3]
      exact ⟨by show (3 - 1 : Int).toNat < (3 - 0 : Int).toNat; decide, ⟨rfl, by omega, h1, h2, [_], rfl, rfl, fun p hp => by rw [List.mem_singleton.1 hp]; omega⟩, hq2⟩
    · exact absurd hc2 (by simp)
    · exact hq1
  · rename_i i n' pi' e' g' fi' nl rs z1 z2 z3 z4 z5 n pi e g fi m rows
    obtain ⟨⟨h0, hm, h1, h2, qs, rfl, hqs, hqb⟩, hq2⟩ := hl
    subst h0
    refine to (nfMakeb ..) ?_
    have w1 : IntKind.i64.wrap (n + 1) = n + 1 := wr (by omega) (by omega)
    rw [w1]
    have w2 : IntKind.i64.wrap ((m : Int) + 1) = ((m + 1 : Nat) : Int) := wr (by omega) (by omega)
    have fin : Q (.exit 0) [.ptr 0 0, .ptr 1 0] [.box [.int .i64 z1, .int .i64 z2, .int .i64 z3, .int .i64 z4, .int .i64 z5, .nils], .box [.int .i64 n, .int .i64 pi, .int .i64 e, .int .i64 g, .int .i64 fi, .sl 2 0 m], .arr 2 3 [.int .i64] (irow .i64 qs)] := by
      rw [← hqs]; exact hq2 qs (by omega) hqb
    refine br_intro (fun hc => br_intro (fun hc2 => ?_) fun hc2 => fin) fun hc => fin
    have hc := of_decide_eq_true hc
    have hc2 := of_decide_eq_true hc2
    have hr := rem_lt ((rs.getD (m : Int).toNat []).getD 0 AV.gone).toI (show 0 < n + 1 by omega)
    have w3 : IntKind.i64.wrap (s_rem ((rs.getD (m : Int).toNat []).getD 0 AV.gone).toI (n + 1) - 1) = s_rem ((rs.getD (m : Int).toNat []).getD 0 AV.gone).toI (n + 1) - 1 := wr (by omega) (by omega)
    refine chk_iff.2 ⟨⟨by omega, hc⟩, chk_iff.2 ⟨by omega, ?_⟩⟩
    rw [irow_len]
    refine chk_iff.2 ⟨hqs.symm, chk_iff.2 ⟨by omega, chk_iff.2 ⟨by omega, ?_⟩⟩⟩
    rw [w2, w3, hqs]
    exact ⟨by show (3 - ((m + 1 : Nat) : Int)).toNat < (3 - (m : Int)).toNat; omega, ⟨rfl, by omega, h1, h2, qs ++ [s_rem ((rs.getD (m : Int).toNat []).getD 0 AV.gone).toI (n + 1) - 1], by simp [irow], by simp [hqs], fun p hp => by
      rcases List.mem_append.1 hp with hp | hp
      · exact hqb p hp
      · rw [List.mem_singleton.1 hp]; omega⟩, hq2⟩
  · exact hl.elim
theorem ext_le (s : ByteArray) (a b : Nat) : (s.extract a b).size ≤ s.size := by rw [ByteArray.size_extract]; omega
theorem okS1L : OkSp Tryz.prog H0 S1L := ⟨okS1.fn, okLMake, trivial⟩
theorem okMake : OkS Tryz.prog H0 28 sMake := by
  intro args h Q hq
  unfold sMake at hq
  split at hq
  · rename_i n pi e g fi nl rs
    refine in_ok (S := S1L) (U := 6) (k := 6) okS1L (to (nfMake ..) ?_)
    have r1 := rem_lt n (show (0 : Int) < 7 by omega)
    have r2 := rem_lt e (show (0 : Int) < 21 by omega)
    have r3 := rem_lt g (show (0 : Int) < 21 by omega)
    have r4 := rem_lt pi (show (0 : Int) < 100 by omega)
    have r5 := rem_lt fi (show (0 : Int) < 40 by omega)
    have r6 := rem_lt fi (show (0 : Int) < 65536 by omega)
    rw [wr (x := 6 + s_rem n 7) (by omega) (by omega), wr (x := s_rem e 21 + s_rem g 21) (by omega) (by omega), wr (x := s_rem e 21 + s_rem g 21 + 1) (by omega) (by omega), wr (x := 4 * (s_rem e 21 + s_rem g 21 + 1)) (by omega) (by omega),
      wr (x := 4 * (s_rem e 21 + s_rem g 21 + 1) + s_rem pi 100) (by omega) (by omega), wr (x := 65535 - s_rem fi 40) (by omega) (by omega)]
    have take : ∀ ps : List Int, List.take ps.length (List.drop 0 (List.map (fun n => [AV.int IntKind.i64 n]) ps)) = irow .i64 ps := fun ps => by
      rw [List.drop_zero, List.take_of_length_le (by simp)]; rfl
    refine br_intro (fun _ => hyp_iff.2 ⟨⟨rfl, by omega, by omega⟩, ?_, fun ps h1 h2 => chk_iff.2 ⟨by simp, ?_⟩⟩) fun _ => hyp_iff.2 ⟨⟨rfl, by omega, by omega⟩, ?_, fun ps h1 h2 => chk_iff.2 ⟨by simp, ?_⟩⟩
    · exact hq _ _ _ _ _ true [] ⟨by omega, by omega, by omega, by omega, by omega, by omega, by omega, by omega, by omega, by omega, by simp, by simp⟩
    · rw [take]; exact hq _ _ _ _ _ false ps ⟨by omega, by omega, by omega, by omega, by omega, by omega, by omega, by omega, by omega, by omega, h1, h2⟩
    · exact hq _ _ _ _ _ true [] ⟨by omega, by omega, by omega, by omega, by omega, by omega, by omega, by omega, by omega, by omega, by simp, by simp⟩
    · rw [take]; exact hq _ _ _ _ _ false ps ⟨by omega, by omega, by omega, by omega, by omega, by omega, by omega, by omega, by omega, by omega, h1, h2⟩
  · exact hq.elim
theorem okCheck : OkS Tryz.prog H0 44 sCheck := by
  intro args h Q hq
  unfold sCheck at hq
  split at hq
  · rename_i n pi e g fi nl rs
    obtain ⟨h0, hQ⟩ := hyp_iff.1 hq
    simp only [s_confOk, Bool.and_eq_true, decide_eq_true_eq] at h0
    obtain ⟨⟨⟨⟨⟨⟨⟨⟨⟨⟨⟨h1, h2⟩, h3⟩, h4⟩, h5⟩, h6⟩, h7⟩, h8⟩, h9⟩, h10⟩, h11⟩, h12⟩ := h0
    have w1 : IntKind.i64.wrap (e + g) = e + g := wr (by omega) (by omega)
    have w2 : IntKind.i64.wrap (e + g + 1) = e + g + 1 := wr (by omega) (by omega)
    have w3 : IntKind.i64.wrap (4 * (e + g + 1)) = 4 * (e + g + 1) := wr (by omega) (by omega)
    have w4 : IntKind.i64.wrap (n - 1) = n - 1 := wr (by omega) (by omega)
    have w5 : IntKind.i64.wrap ((0 : Int) + 1) = 1 := by decide
    have w6 : IntKind.i64.wrap ((1 : Int) + 1) = 2 := by decide
    have hall : ∀ r ∈ rs, -1 ≤ (r.getD 0 AV.gone).toI ∧ (r.getD 0 AV.gone).toI < n := fun r hr => by
      have := List.all_eq_true.1 h12 _ (List.mem_map_of_mem hr)
      simpa using this
    refine in_ok (S := S1) (U := 6) (k := 6) okS1 ?_
    have hl : rs.length ≤ 3 := by simpa [ints] using h11
    match rs, hl, hall with
    | [], _, _ =>
      refine to (nfCheckz ..) ?_
      rw [w1, w2, w3]
      repeat' first | exact hQ | refine br_intro (fun hc => ?_) fun hc => ?_
      all_goals (exfalso; simp only [Bool.not_eq_true', decide_eq_false_iff_not, decide_eq_true_eq] at hc; omega)
    | [a], _, hall =>
      have ha := hall a (by simp)
      refine to (nfChecka ..) ?_
      rw [w1, w2, w3, w4]
      repeat' first | exact hQ | refine br_intro (fun hc => ?_) fun hc => ?_
      all_goals (exfalso; simp only [Bool.not_eq_true', decide_eq_false_iff_not, decide_eq_true_eq] at hc; first | omega | (change ¬ (a.getD 0 AV.gone).toI ≥ -1 at hc; omega) | (change ¬ (a.getD 0 AV.gone).toI ≤ n - 1 at hc; omega))
    | [a, b], _, hall =>
      have ha := hall a (by simp)
      have hb := hall b (by simp)
      refine to (nfCheckb ..) ?_
      rw [w1, w2, w3, w4]
      repeat' first | exact hQ | refine br_intro (fun hc => ?_) fun hc => ?_
      all_goals (exfalso; simp only [Bool.not_eq_true', decide_eq_false_iff_not, decide_eq_true_eq] at hc; first | omega | (change ¬ (a.getD 0 AV.gone).toI ≥ -1 at hc; omega) | (change ¬ (a.getD 0 AV.gone).toI ≤ n - 1 at hc; omega) | (change ¬ (b.getD 0 AV.gone).toI ≥ -1 at hc; omega) | (change ¬ (b.getD 0 AV.gone).toI ≤ n - 1 at hc; omega))
    | [a, b, c], _, hall =>
      have ha := hall a (by simp)
      have hb := hall b (by simp)
      have hc' := hall c (by simp)
      refine to (nfCheckc ..) ?_
      rw [w1, w2, w3, w4]
      repeat' first | exact hQ | refine br_intro (fun hc => ?_) fun hc => ?_
      all_goals (exfalso; simp only [Bool.not_eq_true', decide_eq_false_iff_not, decide_eq_true_eq] at hc; first | omega | (change ¬ (a.getD 0 AV.gone).toI ≥ -1 at hc; omega) | (change ¬ (a.getD 0 AV.gone).toI ≤ n - 1 at hc; omega) | (change ¬ (b.getD 0 AV.gone).toI ≥ -1 at hc; omega) | (change ¬ (b.getD 0 AV.gone).toI ≤ n - 1 at hc; omega) | (change ¬ (c.getD 0 AV.gone).toI ≥ -1 at hc; omega) | (change ¬ (c.getD 0 AV.gone).toI ≤ n - 1 at hc; omega))
    | _ :: _ :: _ :: _ :: _, hl, _ => simp at hl
  · rename_i n pi e g fi
    obtain ⟨h0, hQ⟩ := hyp_iff.1 hq
    simp only [s_confOk, Bool.and_eq_true, decide_eq_true_eq] at h0
    obtain ⟨⟨⟨⟨⟨⟨⟨⟨⟨⟨⟨h1, h2⟩, h3⟩, h4⟩, h5⟩, h6⟩, h7⟩, h8⟩, h9⟩, h10⟩, h11⟩, h12⟩ := h0
    have w1 : IntKind.i64.wrap (e + g) = e + g := wr (by omega) (by omega)
    have w2 : IntKind.i64.wrap (e + g + 1) = e + g + 1 := wr (by omega) (by omega)
    have w3 : IntKind.i64.wrap (4 * (e + g + 1)) = 4 * (e + g + 1) := wr (by omega) (by omega)
    refine in_ok (S := S1) (U := 6) (k := 6) okS1 (to (nfCheckn ..) ?_)
    rw [w1, w2, w3]
    repeat' first | exact hQ | refine br_intro (fun hc => ?_) fun hc => ?_
    all_goals (exfalso; simp only [Bool.not_eq_true', decide_eq_false_iff_not, decide_eq_true_eq] at hc; omega)
  · exact hq.elim
end Go.Proofs.YtiemjcchlfbglaaGreatE
/- Specs, more: clean fronts, links, what a locus emits. -/
namespace Go.Proofs.YtiemjcchlfbglaaGreatE
open Go
set_option linter.unusedVariables false

def cleanN : List UInt8 → Nat
  | [] => 0
  | b :: l => if b = 35 then 1 else if b = 48 ∨ b = 49 then cleanN l + 1 else 0
def s_clean (s : ByteArray) : ByteArray := s.extract 0 (cleanN s.data.toList)
def sClean : SW := fun args h Q => match args, h with
  | [.str s], [] => Hyp ((s.size : Int) ≤ 4611686018427387904) ∧ Q (.str (s_clean s), [])
  | _, _ => False
/-- Program and document: where a text's front ends. -/
def lCleanP : LW := fun vals h Q => match vals, h with
  | [.str s, .ptr 0 0], [.iter s' p] => Hyp (s' = s ∧ p ≤ s.size ∧ (s.size : Int) ≤ 4611686018427387904 ∧ cleanN s.data.toList = p + cleanN (s.data.toList.drop p)) ∧
      ((cleanN s.data.toList = s.size → Q (.exit 0) [.str s] []) ∧ Q .ret [.str (s_clean s)] [])
  | _, _ => False
def lCleanD : LW := fun vals h Q => match vals, h with
  | [.str s, .int .i64 i], [] => Hyp (0 ≤ i ∧ i ≤ s.size ∧ (s.size : Int) ≤ 4611686018427387904 ∧ cleanN s.data.toList = i.toNat + cleanN (s.data.toList.drop i.toNat)) ∧
      ((cleanN s.data.toList = s.size → Q (.exit 0) [.str s] []) ∧ Q .ret [.str (s_clean s)] [])
  | _, _ => False
def sAt : SW := fun args h Q => match args, h with
  | [.int .i64 n, .int .i64 i, .int .i64 d], [] => Hyp (0 < n ∧ n ≤ 1000000 ∧ -1000000 ≤ i ∧ i ≤ 1000000 ∧ -1000000 ≤ d ∧ d ≤ 1000000) ∧ Q (.int .i64 (s_rem (i + d) n), [])
  | _, _ => False
def s_linkO (n a b : Int) : Option Int :=
  if a < 0 ∨ b < 0 ∨ n ≤ a ∨ n ≤ b then none
  else if s_rem (a + 1) n = b then some a
  else if s_rem (b + 1) n = a then some b
  else if s_rem (a + 2) n = b then some (a + n)
  else if s_rem (b + 2) n = a then some (b + n)
  else none
def s_linkN (n a b : Int) : Int := (s_linkO n a b).getD 0
def s_linkB (n a b : Int) : Bool := (s_linkO n a b).isSome
def sLink : SW := fun args h Q => match args, h with
  | [.int .i64 n, .int .i64 a, .int .i64 b], [] => Hyp (0 < n ∧ n ≤ 1000) ∧ Q (.tup [.int .i64 (s_linkN n a b), .bool (s_linkB n a b)], [])
  | _, _ => False
def sKnown : SW := fun args h Q => match args, h with
  | [], [] => Q (.bool true, [])
  | _, _ => False
def sNo : SW := fun args h Q => False
def s_hit (n kind at_ fm dst : Int) : Bool :=
  if kind = 1 then fm == at_ else if kind = 2 then s_linkB n fm dst && (s_linkN n fm dst == at_) else false
def s_right (kind at_ to_ ro node : Int) : Bool := !(kind == 1) || !(node == at_) || decide (ro ≥ to_)
def isRN : AV → Bool
  | .row _ _ _ => true
  | .nils => true
  | _ => false
def sHits : SW := fun args h Q => match args, h with
  | [.agg [.int .i64 n, .int .i64 pi, .int .i64 e, .int .i64 g, .int .i64 fi, .row nl [.int .i64] rs], .agg [.int .i64 kind, .int .i64 at_, .int .i64 fr, .int .i64 to_, .row nl2 [.int .i64, .int .i64, .str] acts, devs], .int .i64 fm, .int .i64 dst], [] =>
    chk (isRN devs = true) (Hyp (0 < n ∧ n ≤ 1000) ∧ Q (.bool (s_hit n kind at_ fm dst), []))
  | _, _ => False
def sRight : SW := fun args h Q => match args, h with
  | [.agg [.int .i64 n, .int .i64 pi, .int .i64 e, .int .i64 g, .int .i64 fi, .row nl [.int .i64] rs], .agg [.int .i64 kind, .int .i64 at_, .int .i64 fr, .int .i64 to_, .row nl2 [.int .i64, .int .i64, .str] acts, devs], .int .i64 ro, .int .i64 node], [] =>
    chk (isRN devs = true) (Q (.bool (s_right kind at_ to_ ro node), []))
  | _, _ => False
def s_done (how n : Int) (text base : ByteArray) : ByteArray :=
  if s_rem how 7 = 1 then base else if s_rem how 7 = 2 then base.extract 0 (s_rem n (base.size + 1)).toNat else if s_rem how 7 = 3 then s_clean text else ⟨#[]⟩
def sDone : SW := fun args h Q => match args, h with
  | [.agg [.int .i64 n, .int .i64 pi, .int .i64 e, .int .i64 g, .int .i64 fi, .row nl [.int .i64] rs], .agg [.int .i64 how, .int .i64 m, .str text], .int .i64 ro, .int .i64 sl, .str base], [] =>
    Hyp (s_rem how 7 ≤ 3 ∧ (base.size : Int) ≤ 2305843009213693952 ∧ (text.size : Int) ≤ 2305843009213693952) ∧ Q (.str (s_done how m text base), [])
  | _, _ => False
def actHow (r : List AV) : Int := (r.getD 0 AV.gone).toI
def actN (r : List AV) : Int := (r.getD 1 AV.gone).toI
def actText (r : List AV) : ByteArray := (r.getD 2 AV.gone).toS
def s_emit (hit : Bool) (fr to_ : Int) (acts : List (List AV)) (ro sl dst : Int) (base : ByteArray) : ByteArray :=
  if hit = false ∨ ro ≥ to_ then base else if ro < fr ∨ acts.length = 0 then ⟨#[]⟩
  else s_done (actHow (acts.getD (s_rem (17 * ro + 5 * sl + dst) acts.length).toNat [])) (actN (acts.getD (s_rem (17 * ro + 5 * sl + dst) acts.length).toNat [])) (actText (acts.getD (s_rem (17 * ro + 5 * sl + dst) acts.length).toNat [])) base
def s_actsOk (acts : List (List AV)) : Prop := acts.length ≤ 1000 ∧ ∀ r ∈ acts, s_rem (actHow r) 7 ≤ 3 ∧ ((actText r).size : Int) ≤ 2305843009213693952
def sEmit : SW := fun args h Q => match args, h with
  | [.agg [.int .i64 n, .int .i64 pi, .int .i64 e, .int .i64 g, .int .i64 fi, .row nl [.int .i64] rs], .agg [.int .i64 kind, .int .i64 at_, .int .i64 fr, .int .i64 to_, .row nl2 [.int .i64, .int .i64, .str] acts, devs], .int .i64 ro, .int .i64 sl, .int .i64 fm, .int .i64 dst, .str base], [] =>
    chk (isRN devs = true) (Hyp (s_confOk n pi e g fi (ints rs) = true ∧ 0 ≤ ro ∧ ro ≤ 1000000 ∧ 0 ≤ sl ∧ sl ≤ 1000000 ∧ 0 ≤ dst ∧ dst ≤ 1000000 ∧ (base.size : Int) ≤ 2305843009213693952 ∧ s_actsOk acts) ∧ Q (.str (s_emit (s_hit n kind at_ fm dst) fr to_ acts ro sl dst base), []))
  | _, _ => False
/-- The document's search for a link. -/
def refL (n a b : Int) : Nat → Int → Option Int
  | 0, _ => none
  | u + 1, k => if (if k < n then (k = a ∧ s_rem (k + 1) n = b) ∨ (k = b ∧ s_rem (k + 1) n = a) else (k - n = a ∧ s_rem (k - n + 2) n = b) ∨ (k - n = b ∧ s_rem (k - n + 2) n = a)) then some k else refL n a b u (k + 1)
def lRefLink : LW := fun vals h Q => match vals, h with
  | [.int .i64 n, .int .i64 a, .int .i64 b, .int .i64 k], [] => Hyp (0 < n ∧ n ≤ 1000 ∧ 0 ≤ k ∧ k ≤ 2 * n) ∧
      ((refL n a b (2 * n - k).toNat k = none → Q (.exit 0) [] []) ∧ (∀ m, refL n a b (2 * n - k).toNat k = some m → Q .ret [.int .i64 m, .bool true] []))
  | _, _ => False
def sRefLink : SW := fun args h Q => match args, h with
  | [.int .i64 n, .int .i64 a, .int .i64 b], [] => Hyp (6 ≤ n ∧ n ≤ 12 ∧ 0 ≤ a ∧ a < n ∧ 0 ≤ b ∧ b < n) ∧ Q (.tup [.int .i64 (s_linkN n a b), .bool (s_linkB n a b)], [])
  | _, _ => False
def S3L : Sp := ⟨S1.fn, [(71, 2, lCleanP)]⟩
def S3 : Sp := ⟨(71, sClean) :: (60, sAt) :: (28, sMake) :: (44, sCheck) :: S1.fn, []⟩
def S4 : Sp := ⟨(148, sLink) :: S3.fn, []⟩
def S5 : Sp := ⟨(85, sHits) :: (86, sPick) :: S4.fn, []⟩
def S5n : Sp := ⟨(96, sNo) :: (97, sNo) :: (98, sNo) :: (95, sNo) :: S5.fn, []⟩
def S6 : Sp := ⟨(87, sDone) :: S5.fn, []⟩
def S7 : Sp := ⟨(72, sEmit) :: S6.fn, []⟩
end Go.Proofs.YtiemjcchlfbglaaGreatE
/- What path mode says of functions, printed by a program of this session; the kernel holds each. -/
namespace Go.Proofs.YtiemjcchlfbglaaGreatE
open Go
set_option maxRecDepth 100000
set_option linter.unusedVariables false
theorem nfClean (s : ByteArray) (Q : AV × List AObj → Prop) : inlW Tryz.prog H0 S3L 6 (InO Tryz.prog H0 S3L 6 6) 71 [.str s] [] Q = (
((Hyp (s = s ∧
  (0 : Nat) ≤ s.size ∧
    (↑s.size : Int) ≤ (4611686018427387904 : Int) ∧
      cleanN s.data.toList = (0 : Nat) + cleanN (List.drop (0 : Nat) s.data.toList))) ∧
(((((cleanN s.data.toList = s.size) →
Q ((AV.str s, [])))) ∧
(Q ((AV.str (s_clean s), []))))))) := by kernel_rfl
theorem nfCleana (s : ByteArray) (p : Nat) (Q : Ex → List AV → List AObj → Prop) : lpBody Tryz.prog H0 S0 6 6 71 2 [.str s, .ptr 0 0] [.iter s p] Q = (
br (decide (p < s.size))
 (br ((↑(Utf8.decode s p).1 : Int) == (35 : Int))
  (chk ((0 : Int) ≤ IntKind.i64.wrap ((↑p : Int) + (1 : Int)) ∧ IntKind.i64.wrap ((↑p : Int) + (1 : Int)) ≤ (↑s.size : Int)) (Q (Ex.ret) ([AV.str (s.extract (0 : Nat) (IntKind.i64.wrap ((↑p : Int) + (1 : Int))).toNat)]) ([])))
  (br ((↑(Utf8.decode s p).1 : Int) == (48 : Int))
   (Q (Ex.nrm) ([AV.str s, AV.ptr (0 : Nat) (0 : Nat)]) ([AObj.iter s (p + (Utf8.decode s p).2)]))
   (br (!(↑(Utf8.decode s p).1 : Int) == (49 : Int))
    (chk ((0 : Int) ≤ (↑p : Int) ∧ (↑p : Int) ≤ (↑s.size : Int)) (Q (Ex.ret) ([AV.str (s.extract (0 : Nat) (↑p : Int).toNat)]) ([])))
    (Q (Ex.nrm) ([AV.str s, AV.ptr (0 : Nat) (0 : Nat)]) ([AObj.iter s (p + (Utf8.decode s p).2)])))))
 (Q (Ex.exit (0 : Nat)) ([AV.str s]) ([]))) := by kernel_rfl
theorem nfAt (n i d : Int) (Q : AV × List AObj → Prop) : inlW Tryz.prog H0 S1 6 (InO Tryz.prog H0 S1 6 6) 60 [.int .i64 n, .int .i64 i, .int .i64 d] [] Q = (
br (decide (n ≤ (0 : Int)))
 (Q ((AV.int IntKind.i64 (0 : Int), [])))
 (chk (n ≠ (0 : Int)) (chk (n ≠ (0 : Int)) (Q ((AV.int IntKind.i64 ((IntKind.i64.wrap ((IntKind.i64.wrap (i + d)).tmod n + n)).tmod n), [])))))) := by kernel_rfl
theorem nfLink (n a b : Int) (Q : AV × List AObj → Prop) : inlW Tryz.prog H0 S3 6 (InO Tryz.prog H0 S3 6 6) 148 [.int .i64 n, .int .i64 a, .int .i64 b] [] Q = (
br (decide (a < (0 : Int)))
 (Q ((AV.tup [AV.int IntKind.i64 (0 : Int), AV.bool false], [])))
 (br (decide (b < (0 : Int)))
  (Q ((AV.tup [AV.int IntKind.i64 (0 : Int), AV.bool false], [])))
  (br (decide (a ≥ n))
   (Q ((AV.tup [AV.int IntKind.i64 (0 : Int), AV.bool false], [])))
   (br (decide (b ≥ n))
    (Q ((AV.tup [AV.int IntKind.i64 (0 : Int), AV.bool false], [])))
    (((Hyp ((0 : Int) < n ∧
  n ≤ (1000000 : Int) ∧
    (-1000000 : Int) ≤ a ∧ a ≤ (1000000 : Int) ∧ (-1000000 : Int) ≤ (1 : Int) ∧ (1 : Int) ≤ (1000000 : Int))) ∧
    (br (s_rem (a + (1 : Int)) n == b)
     (Q ((AV.tup [AV.int IntKind.i64 (IntKind.i64.wrap (a + IntKind.i64.wrap (n * (0 : Int)))), AV.bool true], [])))
     (((Hyp ((0 : Int) < n ∧
  n ≤ (1000000 : Int) ∧
    (-1000000 : Int) ≤ b ∧ b ≤ (1000000 : Int) ∧ (-1000000 : Int) ≤ (1 : Int) ∧ (1 : Int) ≤ (1000000 : Int))) ∧
     (br (s_rem (b + (1 : Int)) n == a)
      (Q ((AV.tup [AV.int IntKind.i64 (IntKind.i64.wrap (b + IntKind.i64.wrap (n * (0 : Int)))), AV.bool true], [])))
      (((Hyp ((0 : Int) < n ∧
  n ≤ (1000000 : Int) ∧
    (-1000000 : Int) ≤ a ∧ a ≤ (1000000 : Int) ∧ (-1000000 : Int) ≤ (2 : Int) ∧ (2 : Int) ≤ (1000000 : Int))) ∧
      (br (s_rem (a + (2 : Int)) n == b)
       (Q ((AV.tup [AV.int IntKind.i64 (IntKind.i64.wrap (a + IntKind.i64.wrap (n * (1 : Int)))), AV.bool true], [])))
       (((Hyp ((0 : Int) < n ∧
  n ≤ (1000000 : Int) ∧
    (-1000000 : Int) ≤ b ∧ b ≤ (1000000 : Int) ∧ (-1000000 : Int) ≤ (2 : Int) ∧ (2 : Int) ≤ (1000000 : Int))) ∧
       (br (s_rem (b + (2 : Int)) n == a)
        (Q ((AV.tup [AV.int IntKind.i64 (IntKind.i64.wrap (b + IntKind.i64.wrap (n * (1 : Int)))), AV.bool true], [])))
        (Q ((AV.tup [AV.int IntKind.i64 (0 : Int), AV.bool false], []))))))))))))))))))) := by kernel_rfl
theorem nfHitsn (n pi e g fi kind at_ fr to_ fm dst : Int) (nl : Bool) (rs : List (List AV)) (nl2 : Bool) (acts : List (List AV)) (Q : AV × List AObj → Prop) : inlW Tryz.prog H0 S4 6 (InO Tryz.prog H0 S4 6 6) 85 [cf n pi e g fi nl rs, .agg [.int .i64 kind, .int .i64 at_, .int .i64 fr, .int .i64 to_, .row nl2 [.int .i64, .int .i64, .str] acts, AV.nils], .int .i64 fm, .int .i64 dst] [] Q = (
br (kind == (1 : Int))
 (Q ((AV.bool (fm == at_), [])))
 (br (kind == (2 : Int))
  (((Hyp ((0 : Int) < n ∧ n ≤ (1000 : Int))) ∧
  (br (s_linkB n fm dst)
   (Q ((AV.bool (s_linkN n fm dst == at_), [])))
   (Q ((AV.bool false, []))))))
  (Q ((AV.bool false, []))))) := by kernel_rfl
theorem nfHitsr (n pi e g fi kind at_ fr to_ fm dst : Int) (nl : Bool) (rs : List (List AV)) (nl2 : Bool) (acts : List (List AV)) (nl3 : Bool) (sh3 : List K) (ds : List (List AV)) (Q : AV × List AObj → Prop) : inlW Tryz.prog H0 S4 6 (InO Tryz.prog H0 S4 6 6) 85 [cf n pi e g fi nl rs, .agg [.int .i64 kind, .int .i64 at_, .int .i64 fr, .int .i64 to_, .row nl2 [.int .i64, .int .i64, .str] acts, AV.row nl3 sh3 ds], .int .i64 fm, .int .i64 dst] [] Q = (
br (kind == (1 : Int))
 (Q ((AV.bool (fm == at_), [])))
 (br (kind == (2 : Int))
  (((Hyp ((0 : Int) < n ∧ n ≤ (1000 : Int))) ∧
  (br (s_linkB n fm dst)
   (Q ((AV.bool (s_linkN n fm dst == at_), [])))
   (Q ((AV.bool false, []))))))
  (Q ((AV.bool false, []))))) := by kernel_rfl
theorem nfPick (n m : Int) (Q : AV × List AObj → Prop) : inlW Tryz.prog H0 S4 6 (InO Tryz.prog H0 S4 6 6) 86 [.int .i64 n, .int .i64 m] [] Q = (
br (decide (m ≤ (0 : Int)))
 (Q ((AV.int IntKind.i64 (-1 : Int), [])))
 (chk (m ≠ (0 : Int)) (chk (m ≠ (0 : Int)) (Q ((AV.int IntKind.i64 ((IntKind.i64.wrap (n.tmod m + m)).tmod m), [])))))) := by kernel_rfl
theorem nfDone (n pi e g fi how m ro sl : Int) (nl : Bool) (rs : List (List AV)) (text base : ByteArray) (Q : AV × List AObj → Prop) : inlW Tryz.prog H0 S5n 6 (InO Tryz.prog H0 S5n 6 6) 87 [cf n pi e g fi nl rs, .agg [.int .i64 how, .int .i64 m, .str text], .int .i64 ro, .int .i64 sl, .str base] [] Q = (
br (s_rem how (7 : Int) == (1 : Int))
 (Q ((AV.str base, [])))
 (br (s_rem how (7 : Int) == (2 : Int))
  (chk (IntKind.i64.wrap ((↑base.size : Int) + (1 : Int)) ≤ (4611686018427387904 : Int)) (br (decide (IntKind.i64.wrap ((↑base.size : Int) + (1 : Int)) ≤ (0 : Int)))
   (False)
   (br (decide (IntKind.i64.wrap ((↑base.size : Int) + (1 : Int)) = (1 : Int)))
    (Q ((AV.str (base.extract (0 : Nat) (0 : Nat)), [])))
    (chk ((0 : Int) ≤ s_rem m (IntKind.i64.wrap ((↑base.size : Int) + (1 : Int))) ∧
  s_rem m (IntKind.i64.wrap ((↑base.size : Int) + (1 : Int))) ≤ (↑base.size : Int)) (Q ((AV.str (base.extract (0 : Nat) (s_rem m (IntKind.i64.wrap ((↑base.size : Int) + (1 : Int)))).toNat), [])))))))
  (br (s_rem how (7 : Int) == (3 : Int))
   (((Hyp ((↑text.size : Int) ≤ (4611686018427387904 : Int))) ∧
   (Q ((AV.str (s_clean text), [])))))
   (br (s_rem how (7 : Int) == (4 : Int))
    (chk ((↑base.size : Int) ≤ (4611686018427387904 : Int)) (br (decide ((↑base.size : Int) ≤ (0 : Int)))
     (False)
     (br (decide ((↑base.size : Int) = (1 : Int)))
      (False)
      (False))))
    (br (s_rem how (7 : Int) == (5 : Int))
     (False)
     (br (s_rem how (7 : Int) == (6 : Int))
      (False)
      (Q ((AV.str (ByteArray.mk #[]), []))))))))) := by kernel_rfl
theorem nfEmitn (n pi e g fi kind at_ fr to_ ro sl fm dst : Int) (nl nl2 : Bool) (rs acts : List (List AV)) (base : ByteArray) (Q : AV × List AObj → Prop) : inlW Tryz.prog H0 S6 6 (InO Tryz.prog H0 S6 6 6) 72 [cf n pi e g fi nl rs, .agg [.int .i64 kind, .int .i64 at_, .int .i64 fr, .int .i64 to_, .row nl2 [.int .i64, .int .i64, .str] acts, AV.nils], .int .i64 ro, .int .i64 sl, .int .i64 fm, .int .i64 dst, .str base] [] Q = (
((Hyp (s_confOk n pi e g fi (List.map (fun r => (r.getD (0 : Nat) AV.gone).toI) rs) = true)) ∧
(((Hyp ((0 : Int) < n ∧ n ≤ (1000 : Int))) ∧
(br (!s_hit n kind at_ fm dst)
 (Q ((AV.str base, [])))
 (br (decide (ro ≥ to_))
  (Q ((AV.str base, [])))
  (br (decide (ro < fr))
   (Q ((AV.str (ByteArray.mk #[]), [])))
   (chk ((↑acts.length : Int) ≤ (4611686018427387904 : Int)) (br (decide ((↑acts.length : Int) ≤ (0 : Int)))
    (Q ((AV.str (ByteArray.mk #[]), [])))
    (br (decide ((↑acts.length : Int) = (1 : Int)))
     (chk ((0 : Int) ≤ (0 : Int) ∧ (0 : Int) < (↑acts.length : Int)) (((Hyp (s_rem ((acts.getD (0 : Nat) []).getD (0 : Nat) AV.gone).toI (7 : Int) ≤ (3 : Int) ∧
  (↑base.size : Int) ≤ (2305843009213693952 : Int) ∧
    (↑((acts.getD (0 : Nat) []).getD (2 : Nat) AV.gone).toS.size : Int) ≤ (2305843009213693952 : Int))) ∧
     (Q ((AV.str
    (s_done ((acts.getD (0 : Nat) []).getD (0 : Nat) AV.gone).toI ((acts.getD (0 : Nat) []).getD (1 : Nat) AV.gone).toI
      ((acts.getD (0 : Nat) []).getD (2 : Nat) AV.gone).toS base),
  []))))))
     (br (decide
  (s_rem
      (IntKind.i64.wrap
        (IntKind.i64.wrap (IntKind.i64.wrap ((17 : Int) * ro) + IntKind.i64.wrap ((5 : Int) * sl)) + dst))
      (↑acts.length : Int) <
    (0 : Int)))
      (Q ((AV.str (ByteArray.mk #[]), [])))
      (chk ((0 : Int) ≤
    s_rem
      (IntKind.i64.wrap
        (IntKind.i64.wrap (IntKind.i64.wrap ((17 : Int) * ro) + IntKind.i64.wrap ((5 : Int) * sl)) + dst))
      (↑acts.length : Int) ∧
  s_rem
      (IntKind.i64.wrap
        (IntKind.i64.wrap (IntKind.i64.wrap ((17 : Int) * ro) + IntKind.i64.wrap ((5 : Int) * sl)) + dst))
      (↑acts.length : Int) <
    (↑acts.length : Int)) (((Hyp (s_rem
      ((acts.getD
              (s_rem
                  (IntKind.i64.wrap
                    (IntKind.i64.wrap (IntKind.i64.wrap ((17 : Int) * ro) + IntKind.i64.wrap ((5 : Int) * sl)) + dst))
                  (↑acts.length : Int)).toNat
              []).getD
          (0 : Nat) AV.gone).toI
      (7 : Int) ≤
    (3 : Int) ∧
  (↑base.size : Int) ≤ (2305843009213693952 : Int) ∧
    (↑((acts.getD
                    (s_rem
                        (IntKind.i64.wrap
                          (IntKind.i64.wrap (IntKind.i64.wrap ((17 : Int) * ro) + IntKind.i64.wrap ((5 : Int) * sl)) +
                            dst))
                        (↑acts.length : Int)).toNat
                    []).getD
                (2 : Nat) AV.gone).toS.size :
        Int) ≤
      (2305843009213693952 : Int))) ∧
      (Q ((AV.str
    (s_done
      ((acts.getD
              (s_rem
                  (IntKind.i64.wrap
                    (IntKind.i64.wrap (IntKind.i64.wrap ((17 : Int) * ro) + IntKind.i64.wrap ((5 : Int) * sl)) + dst))
                  (↑acts.length : Int)).toNat
              []).getD
          (0 : Nat) AV.gone).toI
      ((acts.getD
              (s_rem
                  (IntKind.i64.wrap
                    (IntKind.i64.wrap (IntKind.i64.wrap ((17 : Int) * ro) + IntKind.i64.wrap ((5 : Int) * sl)) + dst))
                  (↑acts.length : Int)).toNat
              []).getD
          (1 : Nat) AV.gone).toI
      ((acts.getD
              (s_rem
                  (IntKind.i64.wrap
                    (IntKind.i64.wrap (IntKind.i64.wrap ((17 : Int) * ro) + IntKind.i64.wrap ((5 : Int) * sl)) + dst))
                  (↑acts.length : Int)).toNat
              []).getD
          (2 : Nat) AV.gone).toS
      base),
  []))))))))))))))))) := by kernel_rfl
theorem nfEmitr (n pi e g fi kind at_ fr to_ ro sl fm dst : Int) (nl nl2 : Bool) (rs acts : List (List AV)) (base : ByteArray) (nl3 : Bool) (sh3 : List K) (ds : List (List AV)) (Q : AV × List AObj → Prop) : inlW Tryz.prog H0 S6 6 (InO Tryz.prog H0 S6 6 6) 72 [cf n pi e g fi nl rs, .agg [.int .i64 kind, .int .i64 at_, .int .i64 fr, .int .i64 to_, .row nl2 [.int .i64, .int .i64, .str] acts, AV.row nl3 sh3 ds], .int .i64 ro, .int .i64 sl, .int .i64 fm, .int .i64 dst, .str base] [] Q = (
((Hyp (s_confOk n pi e g fi (List.map (fun r => (r.getD (0 : Nat) AV.gone).toI) rs) = true)) ∧
(((Hyp ((0 : Int) < n ∧ n ≤ (1000 : Int))) ∧
(br (!s_hit n kind at_ fm dst)
 (Q ((AV.str base, [])))
 (br (decide (ro ≥ to_))
  (Q ((AV.str base, [])))
  (br (decide (ro < fr))
   (Q ((AV.str (ByteArray.mk #[]), [])))
   (chk ((↑acts.length : Int) ≤ (4611686018427387904 : Int)) (br (decide ((↑acts.length : Int) ≤ (0 : Int)))
    (Q ((AV.str (ByteArray.mk #[]), [])))
    (br (decide ((↑acts.length : Int) = (1 : Int)))
     (chk ((0 : Int) ≤ (0 : Int) ∧ (0 : Int) < (↑acts.length : Int)) (((Hyp (s_rem ((acts.getD (0 : Nat) []).getD (0 : Nat) AV.gone).toI (7 : Int) ≤ (3 : Int) ∧
  (↑base.size : Int) ≤ (2305843009213693952 : Int) ∧
    (↑((acts.getD (0 : Nat) []).getD (2 : Nat) AV.gone).toS.size : Int) ≤ (2305843009213693952 : Int))) ∧
     (Q ((AV.str
    (s_done ((acts.getD (0 : Nat) []).getD (0 : Nat) AV.gone).toI ((acts.getD (0 : Nat) []).getD (1 : Nat) AV.gone).toI
      ((acts.getD (0 : Nat) []).getD (2 : Nat) AV.gone).toS base),
  []))))))
     (br (decide
  (s_rem
      (IntKind.i64.wrap
        (IntKind.i64.wrap (IntKind.i64.wrap ((17 : Int) * ro) + IntKind.i64.wrap ((5 : Int) * sl)) + dst))
      (↑acts.length : Int) <
    (0 : Int)))
      (Q ((AV.str (ByteArray.mk #[]), [])))
      (chk ((0 : Int) ≤
    s_rem
      (IntKind.i64.wrap
        (IntKind.i64.wrap (IntKind.i64.wrap ((17 : Int) * ro) + IntKind.i64.wrap ((5 : Int) * sl)) + dst))
      (↑acts.length : Int) ∧
  s_rem
      (IntKind.i64.wrap
        (IntKind.i64.wrap (IntKind.i64.wrap ((17 : Int) * ro) + IntKind.i64.wrap ((5 : Int) * sl)) + dst))
      (↑acts.length : Int) <
    (↑acts.length : Int)) (((Hyp (s_rem
      ((acts.getD
              (s_rem
                  (IntKind.i64.wrap
                    (IntKind.i64.wrap (IntKind.i64.wrap ((17 : Int) * ro) + IntKind.i64.wrap ((5 : Int) * sl)) + dst))
                  (↑acts.length : Int)).toNat
              []).getD
          (0 : Nat) AV.gone).toI
      (7 : Int) ≤
    (3 : Int) ∧
  (↑base.size : Int) ≤ (2305843009213693952 : Int) ∧
    (↑((acts.getD
                    (s_rem
                        (IntKind.i64.wrap
                          (IntKind.i64.wrap (IntKind.i64.wrap ((17 : Int) * ro) + IntKind.i64.wrap ((5 : Int) * sl)) +
                            dst))
                        (↑acts.length : Int)).toNat
                    []).getD
                (2 : Nat) AV.gone).toS.size :
        Int) ≤
      (2305843009213693952 : Int))) ∧
      (Q ((AV.str
    (s_done
      ((acts.getD
              (s_rem
                  (IntKind.i64.wrap
                    (IntKind.i64.wrap (IntKind.i64.wrap ((17 : Int) * ro) + IntKind.i64.wrap ((5 : Int) * sl)) + dst))
                  (↑acts.length : Int)).toNat
              []).getD
          (0 : Nat) AV.gone).toI
      ((acts.getD
              (s_rem
                  (IntKind.i64.wrap
                    (IntKind.i64.wrap (IntKind.i64.wrap ((17 : Int) * ro) + IntKind.i64.wrap ((5 : Int) * sl)) + dst))
                  (↑acts.length : Int)).toNat
              []).getD
          (1 : Nat) AV.gone).toI
      ((acts.getD
              (s_rem
                  (IntKind.i64.wrap
                    (IntKind.i64.wrap (IntKind.i64.wrap ((17 : Int) * ro) + IntKind.i64.wrap ((5 : Int) * sl)) + dst))
                  (↑acts.length : Int)).toNat
              []).getD
          (2 : Nat) AV.gone).toS
      base),
  []))))))))))))))))) := by kernel_rfl
end Go.Proofs.YtiemjcchlfbglaaGreatE
/- The specs hold, more. -/
namespace Go.Proofs.YtiemjcchlfbglaaGreatE
open Go
set_option linter.unusedVariables false
set_option linter.unusedSimpArgs false
set_option maxRecDepth 100000

theorem drop_cons {s : ByteArray} {p : Nat} (h : p < s.size) : s.data.toList.drop p = s[p] :: s.data.toList.drop (p + 1) := by
  have h' : p < s.data.toList.length := by simpa using h
  rw [List.drop_eq_getElem_cons h']
  congr 1
theorem toNat_eq {b : UInt8} {n : Nat} (h : b.toNat = n) : b = UInt8.ofNat n := by
  have : b = UInt8.ofNat b.toNat := by simp
  rw [this, h]
/-- What the front's end is, by the byte at hand. -/
theorem clean_step {s : ByteArray} {p : Nat} (hp : p < s.size) (he : cleanN s.data.toList = p + cleanN (s.data.toList.drop p)) :
    (s[p].toNat = 35 → s_clean s = s.extract 0 (p + 1)) ∧ (s[p].toNat = 48 ∨ s[p].toNat = 49 → cleanN s.data.toList = (p + 1) + cleanN (s.data.toList.drop (p + 1))) ∧
      (s[p].toNat ≠ 35 → s[p].toNat ≠ 48 → s[p].toNat ≠ 49 → s_clean s = s.extract 0 p) := by
  rw [drop_cons hp] at he
  refine ⟨fun h => ?_, fun h => ?_, fun h1 h2 h3 => ?_⟩
  · have hb : s[p] = 35 := toNat_eq h
    simp only [cleanN, hb, if_true] at he
    unfold s_clean; rw [he]
  · have hb : s[p] = 48 ∨ s[p] = 49 := h.imp toNat_eq toNat_eq
    have h35 : s[p] ≠ 35 := by rcases hb with hb | hb <;> rw [hb] <;> decide
    simp only [cleanN, if_neg h35, if_pos hb] at he
    omega
  · have a1 : s[p] ≠ 35 := fun e => h1 (by rw [e]; rfl)
    have a2 : ¬ (s[p] = 48 ∨ s[p] = 49) := fun e => e.elim (fun e => h2 (by rw [e]; rfl)) fun e => h3 (by rw [e]; rfl)
    simp only [cleanN, if_neg a1, if_neg a2] at he
    unfold s_clean; rw [he]; rfl
theorem clean_end {s : ByteArray} (he : cleanN s.data.toList = s.size) : s_clean s = s := by
  unfold s_clean
  rw [he]
  exact ByteArray.extract_zero_size ..
theorem okLCleanP : OkLp Tryz.prog H0 71 2 lCleanP := by
  refine okLp_of (U := 6) (k := 6) okS0 lCleanP (fun _ h => match h with | [.iter s p] => s.size - p | _ => 0) fun vals h Q hl => ?_
  unfold lCleanP at hl
  split at hl
  · rename_i s s' p
    obtain ⟨⟨rfl, h1, hz, he⟩, hq1, hq2⟩ := hyp_iff.1 hl
    refine to (nfCleana ..) (br_intro (fun hc => ?_) fun hc => ?_)
    · have hp := of_decide_eq_true hc
      obtain ⟨c1, c2, c3⟩ := clean_step hp he
      have w2 : IntKind.i64.wrap ((p : Int) + 1) = ((p + 1 : Nat) : Int) := wr (by omega) (by omega)
      rw [w2]
      have hnext : s'[p].toNat = 48 ∨ s'[p].toNat = 49 → (Utf8.decode s' p).2 = 1 → stepQ lCleanP (fun _ h => match h with | [.iter s p] => s.size - p | _ => 0) [.str s', .ptr 0 0] [.iter s' p] Q .nrm [.str s', .ptr 0 0] [.iter s' (p + (Utf8.decode s' p).2)] := fun hb hw => by
        rw [hw]
        exact ⟨by show s'.size - (p + 1) < s'.size - p; omega, hyp_iff.2 ⟨⟨rfl, by omega, hz, c2 hb⟩, hq1, hq2⟩⟩
      by_cases ha : s'[p].toNat < 128
      · have hd := decode_ascii s' p hp ha
        rw [hd] at hnext ⊢
        refine br_intro (fun h35 => ?_) fun h35 => br_intro (fun h48 => ?_) fun h48 => br_intro (fun h49 => ?_) fun h49 => ?_
        · refine chk_iff.2 ⟨by omega, ?_⟩
          have := c1 (by simp only [Bool.not_eq_true', Bool.not_eq_false', beq_iff_eq, beq_eq_false_iff_ne] at h35; omega)
          rw [show ((p + 1 : Nat) : Int).toNat = p + 1 by omega, ← this]; exact hq2
        · exact hnext (.inl (by simp only [Bool.not_eq_true', Bool.not_eq_false', beq_iff_eq, beq_eq_false_iff_ne] at h48; omega)) rfl
        · refine chk_iff.2 ⟨by omega, ?_⟩
          have := c3 (by simp only [Bool.not_eq_true', Bool.not_eq_false', beq_iff_eq, beq_eq_false_iff_ne] at h35; omega) (by simp only [Bool.not_eq_true', Bool.not_eq_false', beq_iff_eq, beq_eq_false_iff_ne] at h48; omega) (by simp only [Bool.not_eq_true', Bool.not_eq_false', beq_iff_eq, beq_eq_false_iff_ne] at h49; omega)
          rw [show (p : Int).toNat = p by omega, ← this]; exact hq2
        · exact hnext (.inr (by simp only [Bool.not_eq_true', Bool.not_eq_false', beq_iff_eq, beq_eq_false_iff_ne] at h49; omega)) rfl
      · have hd := decode_high s' p hp (by omega)
        refine br_intro (fun h35 => ?_) fun h35 => br_intro (fun h48 => ?_) fun h48 => br_intro (fun h49 => ?_) fun h49 => ?_
        · exfalso; simp only [Bool.not_eq_true', Bool.not_eq_false', beq_iff_eq, beq_eq_false_iff_ne] at h35; omega
        · exfalso; simp only [Bool.not_eq_true', Bool.not_eq_false', beq_iff_eq, beq_eq_false_iff_ne] at h48; omega
        · refine chk_iff.2 ⟨by omega, ?_⟩
          have := c3 (by omega) (by omega) (by omega)
          rw [show (p : Int).toNat = p by omega, ← this]; exact hq2
        · exfalso; simp only [Bool.not_eq_true', Bool.not_eq_false', beq_iff_eq, beq_eq_false_iff_ne] at h49; omega
    · have hp := of_decide_eq_false hc
      refine hq1 ?_
      rw [he, List.drop_eq_nil_of_le (by simp; omega)]
      simp only [cleanN]; omega
  · exact hl.elim
theorem getD_byte {s : ByteArray} {p : Nat} (h : p < s.size) : s.data.toList.getD p 0 = s[p] := by
  have h' : p < s.data.toList.length := by simpa using h
  rw [List.getD_eq_getElem?_getD, List.getElem?_eq_getElem h']
  rfl
theorem okS3L : OkSp Tryz.prog H0 S3L := ⟨okS1.fn, okLCleanP, trivial⟩
end Go.Proofs.YtiemjcchlfbglaaGreatE
/- The specs of a locus' functions hold. -/
namespace Go.Proofs.YtiemjcchlfbglaaGreatE
open Go
set_option linter.unusedVariables false
set_option linter.unusedSimpArgs false
set_option maxRecDepth 100000

theorem okClean : OkS Tryz.prog H0 71 sClean := by
  intro args h Q hq
  unfold sClean at hq
  split at hq
  · obtain ⟨h0, hq⟩ := hyp_iff.1 hq
    refine in_ok (S := S3L) (U := 6) (k := 6) okS3L (to (nfClean ..) (hyp_iff.2 ⟨⟨rfl, by omega, h0, by rw [List.drop_zero]; omega⟩, fun he => ?_, hq⟩))
    rw [clean_end he] at hq; exact hq
  · exact hq.elim
theorem okAt : OkS Tryz.prog H0 60 sAt := by
  intro args h Q hq
  unfold sAt at hq
  split at hq
  · rename_i n i d
    obtain ⟨⟨h0, h1, h2, h3, h4, h5⟩, hq⟩ := hyp_iff.1 hq
    refine in_ok (S := S1) (U := 6) (k := 6) okS1 (to (nfAt ..) (br_intro (fun hc => ?_) fun hc => chk_iff.2 ⟨by omega, chk_iff.2 ⟨by omega, ?_⟩⟩))
    · have := of_decide_eq_true hc; omega
    · have hb := tmod_rem (i + d) h0
      have hr := rem_lt (i + d) h0
      have h3 := Int.lt_tmod_of_pos (i + d) h0
      have h4 := Int.tmod_lt_of_pos (i + d) h0
      have e : (IntKind.i64.wrap ((IntKind.i64.wrap (i + d)).tmod n + n)).tmod n = s_rem (i + d) n := by
        rw [wr (x := i + d) (by omega) (by omega), wr (by omega) (by omega), Int.tmod_eq_emod_of_nonneg (by omega)]
        by_cases hlt : (i + d).tmod n < 0
        · rw [hb.1 hlt]; exact Int.emod_eq_of_lt hr.1 hr.2
        · rw [hb.2 hlt]
          rw [Int.add_emod_right]; exact Int.emod_eq_of_lt hr.1 hr.2
      rw [e]; exact hq
  · exact hq.elim
theorem okS3 : OkSp Tryz.prog H0 S3 := ⟨⟨okClean, okAt, okMake, okCheck, okS1.fn⟩, trivial⟩
theorem okLink : OkS Tryz.prog H0 148 sLink := by
  intro args h Q hq
  unfold sLink at hq
  split at hq
  · rename_i n a b
    obtain ⟨⟨h0, h1⟩, hq⟩ := hyp_iff.1 hq
    refine in_ok (S := S3) (U := 6) (k := 6) okS3 (to (nfLink ..) ?_)
    unfold s_linkN s_linkB s_linkO at hq
    rw [show n * 0 = 0 by omega, show n * 1 = n by omega, show IntKind.i64.wrap 0 = 0 by decide, wr (x := n) (by omega) (by omega)]
    by_cases hr : a < 0 ∨ b < 0 ∨ n ≤ a ∨ n ≤ b
    · rw [if_pos hr] at hq
      refine br_intro (fun c1 => hq) fun c1 => br_intro (fun c2 => hq) fun c2 => br_intro (fun c3 => hq) fun c3 => br_intro (fun c4 => hq) fun c4 => ?_
      simp only [decide_eq_false_iff_not] at c1 c2 c3 c4
      omega
    · rw [if_neg hr] at hq
      rw [wr (x := a + 0) (by omega) (by omega), wr (x := b + 0) (by omega) (by omega), wr (x := a + n) (by omega) (by omega), wr (x := b + n) (by omega) (by omega), Int.add_zero, Int.add_zero]
      refine br_intro (fun c1 => ?_) fun c1 => br_intro (fun c2 => ?_) fun c2 => br_intro (fun c3 => ?_) fun c3 => br_intro (fun c4 => ?_) fun c4 => ?_
      · have := of_decide_eq_true c1; omega
      · have := of_decide_eq_true c2; omega
      · have := of_decide_eq_true c3; omega
      · have := of_decide_eq_true c4; omega
      refine hyp_iff.2 ⟨by omega, br_intro (fun d1 => ?_) fun d1 => hyp_iff.2 ⟨by omega, br_intro (fun d2 => ?_) fun d2 => hyp_iff.2 ⟨by omega, br_intro (fun d3 => ?_) fun d3 => hyp_iff.2 ⟨by omega, br_intro (fun d4 => ?_) fun d4 => ?_⟩⟩⟩⟩
      all_goals simp only [beq_iff_eq, beq_eq_false_iff_ne] at *
      · rw [if_pos d1] at hq; exact hq
      · rw [if_neg d1, if_pos d2] at hq; exact hq
      · rw [if_neg d1, if_neg d2, if_pos d3] at hq; exact hq
      · rw [if_neg d1, if_neg d2, if_neg d3, if_pos d4] at hq; exact hq
      · rw [if_neg d1, if_neg d2, if_neg d3, if_neg d4] at hq; exact hq
  · exact hq.elim
theorem okS4 : OkSp Tryz.prog H0 S4 := ⟨⟨okLink, okS3.fn⟩, trivial⟩
theorem isRN_cases {v : AV} (h : isRN v = true) : v = .nils ∨ ∃ nl sh rs, v = .row nl sh rs := by
  cases v <;> simp [isRN] at h
  · exact .inl rfl
  · exact .inr ⟨_, _, _, rfl⟩
theorem hit_form {n kind at_ fm dst : Int} {Q : AV × List AObj → Prop} (h0 : 0 < n ∧ n ≤ 1000) (hq : Q (.bool (s_hit n kind at_ fm dst), [])) : br (kind == (1 : Int))
 (Q ((AV.bool (fm == at_), [])))
 (br (kind == (2 : Int))
  (((Hyp ((0 : Int) < n ∧ n ≤ (1000 : Int))) ∧
  (br (s_linkB n fm dst)
   (Q ((AV.bool (s_linkN n fm dst == at_), [])))
   (Q ((AV.bool false, []))))))
  (Q ((AV.bool false, [])))) := by
  unfold s_hit at hq
  refine br_intro (fun c => ?_) fun c => br_intro (fun c2 => hyp_iff.2 ⟨h0, br_intro (fun c3 => ?_) fun c3 => ?_⟩) fun c2 => ?_
  all_goals simp only [beq_iff_eq, beq_eq_false_iff_ne] at *
  · rw [if_pos c] at hq; exact hq
  · rw [if_neg c, if_pos c2, c3] at hq; exact hq
  · rw [if_neg c, if_pos c2, c3] at hq; exact hq
  · rw [if_neg c, if_neg c2] at hq; exact hq
theorem okHits : OkS Tryz.prog H0 85 sHits := by
  intro args h Q hq
  unfold sHits at hq
  split at hq
  · obtain ⟨hd, hq⟩ := chk_iff.1 hq
    obtain ⟨h0, hQ⟩ := hyp_iff.1 hq
    refine in_ok (S := S4) (U := 6) (k := 6) okS4 ?_
    rcases isRN_cases hd with rfl | ⟨nl, sh, ds, rfl⟩
    · exact to (nfHitsn ..) (hit_form h0 hQ)
    · exact to (nfHitsr ..) (hit_form h0 hQ)
  · exact hq.elim
theorem okPick : OkS Tryz.prog H0 86 sPick := by
  intro args h Q hq
  unfold sPick at hq
  split at hq
  · rename_i n m
    obtain ⟨hb, hq⟩ := chk_iff.1 hq
    refine in_ok (S := S4) (U := 6) (k := 6) okS4 (to (nfPick ..) ?_)
    rcases br_iff.1 hq with ⟨c, hq⟩ | ⟨c, hq⟩
    · rw [c]; exact hq
    · rw [c]
      have h0 : 0 < m := by have := of_decide_eq_false c; omega
      refine (br_f).2 (chk_iff.2 ⟨by omega, chk_iff.2 ⟨by omega, ?_⟩⟩)
      have hb2 := tmod_rem n h0
      have hr := rem_lt n h0
      have h3 := Int.lt_tmod_of_pos n h0
      have h4 := Int.tmod_lt_of_pos n h0
      have e : (IntKind.i64.wrap (n.tmod m + m)).tmod m = s_rem n m := by
        rw [wr (by omega) (by omega), Int.tmod_eq_emod_of_nonneg (by omega)]
        by_cases hlt : n.tmod m < 0
        · rw [hb2.1 hlt]; exact Int.emod_eq_of_lt hr.1 hr.2
        · rw [hb2.2 hlt]
          rw [Int.add_emod_right]; exact Int.emod_eq_of_lt hr.1 hr.2
      rw [e]
      rcases br_iff.1 hq with ⟨c1, hq⟩ | ⟨c1, hq⟩
      · have c1 := of_decide_eq_true c1
        rw [show s_rem n m = 0 by omega]; exact hq
      · exact hq
  · exact hq.elim
theorem okS5 : OkSp Tryz.prog H0 S5 := ⟨⟨okHits, okPick, okS4.fn⟩, trivial⟩
theorem okNo (g : FuncId) : OkS Tryz.prog H0 g sNo := fun _ _ _ h => h.elim
theorem okS5n : OkSp Tryz.prog H0 S5n := ⟨⟨okNo _, okNo _, okNo _, okNo _, okS5.fn⟩, trivial⟩
theorem okDone : OkS Tryz.prog H0 87 sDone := by
  intro args h Q hq
  unfold sDone at hq
  split at hq
  · rename_i n pi e g fi nl rs how m text ro sl base
    obtain ⟨⟨h0, h1, h2⟩, hq⟩ := hyp_iff.1 hq
    refine in_ok (S := S5n) (U := 6) (k := 6) okS5n (to (nfDone ..) ?_)
    have hr := rem_lt how (show (0 : Int) < 7 by omega)
    rw [wr (x := (base.size : Int) + 1) (by omega) (by omega)]
    unfold s_done at hq
    generalize hz : (base.size : Int) + 1 = z at hq ⊢
    refine br_intro (fun c1 => ?_) fun c1 => br_intro (fun c2 => ?_) fun c2 => br_intro (fun c3 => ?_) fun c3 => br_intro (fun c4 => ?_) fun c4 => br_intro (fun c5 => ?_) fun c5 => br_intro (fun c6 => ?_) fun c6 => ?_
    all_goals simp only [beq_iff_eq, beq_eq_false_iff_ne] at *
    · rw [if_pos c1] at hq; exact hq
    · rw [if_neg c1, if_pos c2] at hq
      have hb := rem_lt m (show (0 : Int) < z by omega)
      refine chk_iff.2 ⟨by omega, br_intro (fun d1 => ?_) fun d1 => br_intro (fun d2 => ?_) fun d2 => chk_iff.2 ⟨by omega, hq⟩⟩
      · have := of_decide_eq_true d1; omega
      · have d2 := of_decide_eq_true d2
        rw [show (s_rem m z).toNat = 0 by omega] at hq; exact hq
    · rw [if_neg c1, if_neg c2, if_pos c3] at hq
      exact hyp_iff.2 ⟨by omega, hq⟩
    · omega
    · omega
    · omega
    · rw [if_neg c1, if_neg c2, if_neg c3] at hq; exact hq
  · exact hq.elim
theorem okS6 : OkSp Tryz.prog H0 S6 := ⟨⟨okDone, okS5.fn⟩, trivial⟩
theorem confOk_n {n pi e g fi : Int} {ps : List Int} (h : s_confOk n pi e g fi ps = true) : 6 ≤ n ∧ n ≤ 12 := by
  simp only [s_confOk, Bool.and_eq_true, decide_eq_true_eq] at h
  obtain ⟨⟨⟨⟨⟨⟨⟨⟨⟨⟨⟨h1, h2⟩, _⟩, _⟩, _⟩, _⟩, _⟩, _⟩, _⟩, _⟩, _⟩, _⟩ := h
  exact ⟨h1, h2⟩
theorem okEmit : OkS Tryz.prog H0 72 sEmit := by
  intro args h Q hq
  unfold sEmit at hq
  split at hq
  · rename_i n pi e g fi nl rs kind at_ fr to_ nl2 acts devs ro sl fm dst base
    obtain ⟨hd, hq1⟩ := chk_iff.1 hq
    obtain ⟨⟨hc, r1, r2, s1, s2, d1, d2, hz, hal, hact⟩, hQ⟩ := hyp_iff.1 hq1
    clear hq1 hq
    refine in_ok (S := S6) (U := 6) (k := 6) okS6 ?_
    have hn := confOk_n hc
    have hk : IntKind.i64.wrap (IntKind.i64.wrap (IntKind.i64.wrap (17 * ro) + IntKind.i64.wrap (5 * sl)) + dst) = 17 * ro + 5 * sl + dst := by
      rw [wr (x := 17 * ro) (by omega) (by omega), wr (x := 5 * sl) (by omega) (by omega), wr (x := 17 * ro + 5 * sl) (by omega) (by omega), wr (by omega) (by omega)]
    have hdone : ∀ i : Nat, i < acts.length → s_rem (actHow (acts.getD i [])) 7 ≤ 3 ∧ (base.size : Int) ≤ 2305843009213693952 ∧ ((actText (acts.getD i [])).size : Int) ≤ 2305843009213693952 := fun i hi => by
      have := hact (acts.getD i []) (by rw [List.getD_eq_getElem?_getD, List.getElem?_eq_getElem hi]; simp)
      exact ⟨this.1, hz, this.2⟩
    unfold s_emit at hQ
    rcases isRN_cases hd with rfl | ⟨nl3, sh, ds, rfl⟩
    · refine to (nfEmitn ..) ?_
      rw [hk]
      refine ⟨.mk hc, .mk (by omega), ?_⟩
      refine br_intro (fun c1 => ?_) fun c1 => ?_
      · rw [if_pos (.inl (by simpa using c1))] at hQ; exact hQ
      simp only [Bool.not_eq_false'] at c1
      refine br_intro (fun c2 => ?_) fun c2 => ?_
      · rw [if_pos (.inr (of_decide_eq_true c2))] at hQ; exact hQ
      have c2 := of_decide_eq_false c2
      rw [if_neg (by rw [c1]; simp; omega)] at hQ
      refine br_intro (fun c3 => ?_) fun c3 => ?_
      · rw [if_pos (.inl (of_decide_eq_true c3))] at hQ; exact hQ
      have c3 := of_decide_eq_false c3
      rw [chk_iff]
      refine ⟨by omega, ?_⟩
      refine br_intro (fun c4 => ?_) fun c4 => ?_
      · rw [if_pos (.inr (by have := of_decide_eq_true c4; omega))] at hQ; exact hQ
      have c4 := of_decide_eq_false c4
      rw [if_neg (by omega)] at hQ
      have hr := rem_lt (17 * ro + 5 * sl + dst) (show (0 : Int) < acts.length by omega)
      refine br_intro (fun c5 => ?_) fun c5 => ?_
      · have c5 := of_decide_eq_true c5
        rw [show (s_rem (17 * ro + 5 * sl + dst) acts.length).toNat = 0 by omega] at hQ
        rw [chk_iff]
        exact ⟨by omega, .mk (hdone 0 (by omega)), hQ⟩
      refine br_intro (fun c6 => ?_) fun c6 => ?_
      · have := of_decide_eq_true c6; omega
      rw [chk_iff]
      exact ⟨hr, .mk (hdone _ (by omega)), hQ⟩
    · refine to (nfEmitr ..) ?_
      rw [hk]
      refine ⟨.mk hc, .mk (by omega), ?_⟩
      refine br_intro (fun c1 => ?_) fun c1 => ?_
      · rw [if_pos (.inl (by simpa using c1))] at hQ; exact hQ
      simp only [Bool.not_eq_false'] at c1
      refine br_intro (fun c2 => ?_) fun c2 => ?_
      · rw [if_pos (.inr (of_decide_eq_true c2))] at hQ; exact hQ
      have c2 := of_decide_eq_false c2
      rw [if_neg (by rw [c1]; simp; omega)] at hQ
      refine br_intro (fun c3 => ?_) fun c3 => ?_
      · rw [if_pos (.inl (of_decide_eq_true c3))] at hQ; exact hQ
      have c3 := of_decide_eq_false c3
      rw [chk_iff]
      refine ⟨by omega, ?_⟩
      refine br_intro (fun c4 => ?_) fun c4 => ?_
      · rw [if_pos (.inr (by have := of_decide_eq_true c4; omega))] at hQ; exact hQ
      have c4 := of_decide_eq_false c4
      rw [if_neg (by omega)] at hQ
      have hr := rem_lt (17 * ro + 5 * sl + dst) (show (0 : Int) < acts.length by omega)
      refine br_intro (fun c5 => ?_) fun c5 => ?_
      · have c5 := of_decide_eq_true c5
        rw [show (s_rem (17 * ro + 5 * sl + dst) acts.length).toNat = 0 by omega] at hQ
        rw [chk_iff]
        exact ⟨by omega, .mk (hdone 0 (by omega)), hQ⟩
      refine br_intro (fun c6 => ?_) fun c6 => ?_
      · have := of_decide_eq_true c6; omega
      rw [chk_iff]
      exact ⟨hr, .mk (hdone _ (by omega)), hQ⟩
  · exact hq.elim
theorem okS7 : OkSp Tryz.prog H0 S7 := ⟨⟨okEmit, okS6.fn⟩, trivial⟩
end Go.Proofs.YtiemjcchlfbglaaGreatE
/- The structs of this program, opened. -/
namespace Go.Proofs.YtiemjcchlfbglaaGreatE
open Go Go.WideShapes
set_option linter.unusedVariables false
set_option maxRecDepth 100000

def ABool (l : List AV) : Prop := ∃ b, l = [.bool b]
theorem op_bool {P : Program} {w : World} {t : TypeId} (ht : P.underlying t = some .bool) : Op P w t ABool := fun H enc base spare held fuel cs x h => by
  obtain ⟨s, rfl, _⟩ := DataW.trod_bool ht h
  exact ⟨[.bool s], by simp [VL, VR], by simp [Value.oneCell'], s, rfl⟩
theorem arg_bool {P : Program} {w : World} {t : TypeId} (ht : P.underlying t = some .bool) {W : World} {r : Reach} {b0 : Nat} {H : Type} {enc : TypeId × Value → H} {base : Nat} {spare : Nat → Bool} {held : Bool} {v : Value} {x : DataW H} {p : List MemPlace}
    (ho : Value.okWide P W r b0 t v) (hv : DataW.Trod enc P w base spare held t v x p) : ∃ s, VR (e0 w) (.bool s) v := by
  obtain ⟨s, rfl⟩ := okWide_bool ht ho
  exact ⟨s, by simp only [VR]⟩
theorem op_ints (w : World) : Op Tryz.prog w 22 (ARow [.int .i64] (AInt .i64)) := op_slice Tryz.underlying22 (by kernel_rfl) (by decide) (op_int Tryz.underlying3) fun _ => int_pure
theorem bool_pure {r : List AV} (h : ABool r) : rowOk [.bool] r ∧ pureR [.bool] r = true := by
  obtain ⟨a, rfl⟩ := h
  exact ⟨⟨rfl, rfl⟩, rfl⟩
theorem op_bools (w : World) : Op Tryz.prog w 71 (ARow [.bool] ABool) := op_slice Tryz.underlying71 (by kernel_rfl) (by decide) (op_bool Tryz.underlying4) fun _ => bool_pure
abbrev AConf : List AV → Prop := Parts [AInt .i64, AInt .i64, AInt .i64, AInt .i64, AInt .i64, ARow [.int .i64] (AInt .i64)]
theorem op_conf (w : World) : Op Tryz.prog w 24 AConf :=
  op_struct Tryz.underlying24 (by kernel_rfl) ⟨op_int Tryz.underlying3, op_int Tryz.underlying3, op_int Tryz.underlying3, op_int Tryz.underlying3, op_int Tryz.underlying3, op_ints w, trivial⟩
theorem conf_form {cs : List AV} (h : AConf cs) : ∃ (n pi e g fi : Int) (nl : Bool) (rs : List (List AV)), cs = [.int .i64 n, .int .i64 pi, .int .i64 e, .int .i64 g, .int .i64 fi, .row nl [.int .i64] rs] := by
  obtain ⟨_, _, rfl, ⟨a, rfl, _⟩, _, _, rfl, ⟨b, rfl, _⟩, _, _, rfl, ⟨c, rfl, _⟩, _, _, rfl, ⟨d, rfl, _⟩, _, _, rfl, ⟨e, rfl, _⟩, _, _, rfl, ⟨nl, rs, rfl, _⟩, rfl⟩ := h
  exact ⟨a, b, c, d, e, nl, rs, rfl⟩
abbrev AItem : List AV → Prop := Parts [AInt .i64, AInt .i64]
theorem op_item (w : World) : Op Tryz.prog w 29 AItem := op_struct Tryz.underlying29 (by kernel_rfl) ⟨op_int Tryz.underlying3, op_int Tryz.underlying3, trivial⟩
theorem item_form {r : List AV} (h : AItem r) : ∃ (a b : Int), r = [.int .i64 a, .int .i64 b] := by
  obtain ⟨_, _, rfl, ⟨a, rfl, _⟩, _, _, rfl, ⟨b, rfl, _⟩, rfl⟩ := h
  exact ⟨a, b, rfl⟩
theorem item_pure {r : List AV} (h : AItem r) : rowOk [.int .i64, .int .i64] r ∧ pureR [.int .i64, .int .i64] r = true := by
  obtain ⟨a, b, rfl⟩ := item_form h
  exact ⟨⟨rfl, rfl⟩, rfl⟩
theorem op_items (w : World) : Op Tryz.prog w 30 (ARow [.int .i64, .int .i64] AItem) := op_slice Tryz.underlying30 (by kernel_rfl) (by decide) (op_item w) fun _ => item_pure
abbrev AFrame : List AV → Prop := Parts [AInt .i64, AInt .i64, AInt .i64, AItem, ARow [.int .i64, .int .i64] AItem]
theorem op_frame (w : World) : Op Tryz.prog w 32 AFrame :=
  op_struct Tryz.underlying32 (by kernel_rfl) ⟨op_int Tryz.underlying3, op_int Tryz.underlying3, op_int Tryz.underlying3, op_item w, op_items w, trivial⟩
theorem frame_form {cs : List AV} (h : AFrame cs) : ∃ (k r s p q : Int) (nl : Bool) (rs : List (List AV)), cs = [.int .i64 k, .int .i64 r, .int .i64 s, .int .i64 p, .int .i64 q, .row nl [.int .i64, .int .i64] rs] := by
  obtain ⟨_, _, rfl, ⟨a, rfl, _⟩, _, _, rfl, ⟨b, rfl, _⟩, _, _, rfl, ⟨c, rfl, _⟩, _, _, rfl, hi, _, _, rfl, ⟨nl, rs, rfl, hl, hr⟩, rfl⟩ := h
  obtain ⟨p, q, rfl⟩ := item_form hi
  exact ⟨a, b, c, p, q, nl, rs, rfl⟩
end Go.Proofs.YtiemjcchlfbglaaGreatE
