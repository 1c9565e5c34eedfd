/- Printed by a program of this session (myprint) out of the translation: the functions as plain Lean functions, and that the calls compute them. What counts is Lean's check. -/
import Derived.Test.YtcpohmfkmgcjkaaQFrameOtherTxt
import Derived.Lib.OthersKept
import Derived.Lib.Strings
import Derived.Lib.ItoaWalk
import Derived.Test.YtcpohmfkmgcjkaaQFrameOtherPx5
namespace Go.Proofs.Ytcpohmfkmgcjkaa.P
open Go.RowKit Go.Proofs.YtcpohmfkmgcjkaaW.PrintWords Go.Proofs.YtcpohmfkmgcjkaaW.PrintLast Go.Proofs.YtcpohmfkmgcjkaaW.PrintMore
attribute [local go_sem] max2_int min2_int max_two min_two max_three min_three max_four min_four
set_option linter.unusedVariables false
set_option linter.unusedSimpArgs false
attribute [-simp] ByteArray.size_extract ByteArray.size_append ByteArray.extract_append_extract
attribute [-go_sem] ByteArray.size_append'
mutual
def sym_Bits.j0 : Nat → Int → Int → Bool → Option (ByteArray)
 | 0, _, _, _ => none
 | k + 1, x0, x1, x12 => if x12 = true then (some (⟨#[]⟩ : ByteArray)) else (if 0 ≤ x1 then (if (x1 : Int).toNat ≤ 281474976710656 then ((some (List.replicate (x1 : Int).toNat 0 : List Int)).bind fun yAa => (sym_Bits.l0 k x0 x1 yAa (yAa.length : Int) 0)) else (none)) else (none))
def sym_Bits.l0 : Nat → Int → Int → List Int → Int → Int → Option (ByteArray)
 | 0, _, _, _, _, _ => none
 | k + 1, x0, x1, x5, x16, x17 => if x17 < x16 then (if 0 ≤ (wrap64 ((wrap64 (x1 - 1)) - x17)) then (if 0 ≤ x17 then (if x17 < (x5.length : Int) then (sym_Bits.l0 k x0 x1 (x5.set (x17 : Int).toNat ((wrap64 (48 + (Go.bits .and .i64 (shr .i64 x0 (wrap64 ((wrap64 (x1 - 1)) - x17))) 1))) % 256)) x16 (wrap64 (x17 + 1))) else (none)) else (none)) else (none)) else (some (strOfNums x5))
end
def sym_Bits.f (k : Nat) (a0 : Int) (a1 : Int) : Option (ByteArray) := if a1 < 1 then (sym_Bits.j0 k a0 a1 true) else (sym_Bits.j0 k a0 a1 (decide (a1 > 62)))
set_option maxHeartbeats 8000000 in
set_option maxRecDepth 100000 in
theorem sym_Bits.calls (k : Nat) (a0 : Int) (a1 : Int) (r : ByteArray) (w : World) (h : sym_Bits.f k a0 a1 = some r) :
  Calls Try.prog 56 #[.int .i64 a0, .int .i64 a1] w fun e w' => e = .returned (.string r) ∧ Below w.heap.size w w' := by
 have HB := Aside0.mk (Below.refl w.heap.size w)
 have H : (if a1 < 1 then (sym_Bits.j0 k a0 a1 true) else (sym_Bits.j0 k a0 a1 (decide (a1 > 62)))) = some r := h
 clear h
 have HC3 := Aside0.mk H
 clear H
 go_enter Try.func56, Try.ntmps56
 go_upto_region 1 with (fail)
 go_cut [12] (fun v12 wc => ∃ (kq : Nat) (x12_2 : Bool), v12 = .bool x12_2 ∧ Aside0 (sym_Bits.j0 kq a0 a1 x12_2 = some r) ∧ Aside0 (kq ≤ k) ∧ Aside0 (Below w.heap.size w wc))
 case first =>
  have H := HC3.out
  clear HC3
  by_cases c4 : a1 < 1
  ·
   rw [if_pos c4] at H
   have c4b0 : decide (a1 < 1) = true := decide_eq_true c4
   clear c4
   (first | rw [c4b0] | (simp only [i64_w, i32_w]; rw [c4b0]) | skip)
   have H' := Aside0.mk H
   clear H
   go_wp2
   go_meet
   case rel => exact ⟨_, (true), (by first | rfl | (simp; done) | (simp [*]; done)), H', ⟨by first | omega | exact Nat.le_refl _⟩, ⟨pH_ HB.out⟩⟩
  ·
   rw [if_neg c4] at H
   have c4b0 : decide (a1 < 1) = false := decide_eq_false c4
   clear c4
   (first | rw [c4b0] | (simp only [i64_w, i32_w]; rw [c4b0]) | skip)
   have H' := Aside0.mk H
   clear H
   go_wp2
   go_meet
   case rel => exact ⟨_, (decide (a1 > 62)), (by first | rfl | (simp; done) | (simp [*]; done)), H', ⟨by first | omega | exact Nat.le_refl _⟩, ⟨pH_ HB.out⟩⟩
 case rest =>
  clear HC3
  try clear p2
  try clear c4
  try clear c4b0
  obtain ⟨kq, x12_2, rfl, HA, HJ2, HB⟩ := hcut
  cases kq with
  | zero => exact absurd HA.out (by simp [sym_Bits.j0])
  | succ kj2 =>
   have H := HA.out
   clear HA
   simp only [sym_Bits.j0] at H
   by_cases c5 : x12_2 = true
   ·
    subst c5
    have H1 : (some (⟨#[]⟩ : ByteArray)) = some r := by rw [if_pos rfl] at H; exact H
    clear H
    have H := H1
    clear H1
    obtain rfl := Option.some.inj H
    go_wp2
    go_ret
    exact ⟨by first | rfl | (simp [errW_none, errW_some] <;> rfl) | (simp [*, errW_none, errW_some] <;> rfl), pH_ HB.out⟩
   ·
    replace c5 := Bool.eq_false_iff.mpr c5
    subst c5
    have H1 : (if 0 ≤ a1 then (if (a1 : Int).toNat ≤ 281474976710656 then ((some (List.replicate (a1 : Int).toNat 0 : List Int)).bind fun yAa => (sym_Bits.l0 kj2 a0 a1 yAa (yAa.length : Int) 0)) else (none)) else (none)) = some r := by rw [if_neg (show ¬ (false = true) by decide)] at H; exact H
    clear H
    have H := H1
    clear H1
    by_cases c6 : 0 ≤ a1
    ·
     rw [if_pos c6] at H
     have c6b0 := eq_true c6
     have c6b1 : decide (0 ≤ a1) = true := decide_eq_true c6
     clear c6
     by_cases c7 : (a1 : Int).toNat ≤ 281474976710656
     ·
      rw [if_pos c7] at H
      have c7b0 := eq_true c7
      have c7b1 : decide ((a1 : Int).toNat ≤ 281474976710656) = true := decide_eq_true c7
      clear c7
      obtain ⟨yAa, hyAa⟩ : ∃ y_ : List Int, y_ = (List.replicate (a1 : Int).toNat 0) := ⟨_, rfl⟩
      replace H : (sym_Bits.l0 kj2 a0 a1 yAa (yAa.length : Int) 0) = some r := by first | (rw [hyAa]; with_reducible exact H) | (have H2_ := (Option.bind_some _ _).symm.trans H; rw [hyAa]; with_reducible exact H2_) | (have H2_ := (Option.bind_some _ _).symm.trans H; with_reducible exact H2_) | with_reducible exact H | (rw [hyAa]; exact H) | exact H
      have NyAa := Aside0.mk hyAa
      clear hyAa
      have H' := Aside0.mk H
      clear H
      go_wp2_with (first | ((with_reducible refine gate_dst (N := 14) rfl ?_); refine Kd.R_make (Kd.int .u8) _ 5 rfl (N := 14) rfl 80 _ _ rfl a1 rfl rfl Try.underlying80 (.int .u8 0) 1 info5 rfl (by decide) (by omega) 0 (ok := fun _ => True) (okp := fun _ => True) rfl (fun _ hk => hk) trivial (of_decide_eq_true (by first | (with_reducible assumption) | assumption)) (Nat.le_trans (Nat.mul_le_mul_right _ (of_decide_eq_true (by first | (with_reducible assumption) | assumption) : a1.toNat ≤ 281474976710656)) (by omega)) (Below.refl _ _) (Nat.le_refl _) ?_; intro vAf w8 ho9 hb hg_ hnew_; clear hg_ hnew_; (first | rw [← NyAa.out] at ho9 | (simp only [Int.reduceToNat] at ho9; rw [← NyAa.out] at ho9)); have n0_ := Aside0.mk (Kd.R_lower ho9 (below_size (pH_ HB.out))); have n1_ := bs_ HB hb; clear HB; have HOAe := n0_; have HB := n1_; clear n0_ n1_; clear hb ho9; obtain ⟨Ao10, co10, eo10⟩ := Kd.R_slice HOAe.out; subst eo10))
      go_loopg [17] kj2 (fun kq v17 w' => ∃ (x5_2 : List Int) (x17_2 : Int), v17 = .int .i64 x17_2 ∧ Aside0 (sym_Bits.l0 kq a0 a1 x5_2 (yAa.length : Int) x17_2 = some r) ∧ Aside0 (kq ≤ kj2) ∧ Aside0 (Kd.R (Kd.int .u8) 5 w' w.heap.size (fun _ => True) (.slice Ao10 yAa.length co10) x5_2) ∧ Aside0 (Below w.heap.size w w'))
      case atStart => exact ⟨(yAa), (0), (by first | rfl | (simp; done) | (simp [*]; done)), H', ⟨Nat.le_refl _⟩, ⟨by (with_reducible repeat (first | apply Kd.R_alloc | apply Kd.R_drewN | apply Kd.R_drew)); exact HOAe.out⟩, ⟨pH_ HB.out⟩⟩
      case round =>
       clear H'
       try clear p2
       try clear c4
       try clear c4b0
       try clear c5
       try clear c6
       try clear c6b0
       try clear c6b1
       try clear c7
       try clear c7b0
       try clear c7b1
       try clear p2
       obtain ⟨x5_2, x17_2, rfl, HA, HK2, HO_5, HB⟩ := hrel
       have hl5_2 := (Kd.R_reads' HO_5.out).1
       rw [hl5_2] at HO_5
       (try simp only [hl5_2])
       cases gk with
       | zero => exact absurd HA.out (by simp [sym_Bits.l0])
       | succ k2 =>
        have H := HA.out
        clear HA
        simp only [sym_Bits.l0] at H
        by_cases c11 : x17_2 < (yAa.length : Int)
        ·
         rw [if_pos c11] at H
         have c11b0 : decide (x17_2 < (yAa.length : Int)) = true := decide_eq_true c11
         clear c11
         obtain ⟨ji12, hji12⟩ : ∃ j_ : Int, (wrap64 ((wrap64 (a1 - 1)) - x17_2)) = j_ := ⟨_, rfl⟩
         replace H : (if 0 ≤ (ji12) then (if 0 ≤ x17_2 then (if x17_2 < (x5_2.length : Int) then (sym_Bits.l0 k2 a0 a1 (x5_2.set (x17_2 : Int).toNat ((wrap64 (48 + (Go.bits .and .i64 (shr .i64 a0 (ji12)) 1))) % 256)) (yAa.length : Int) (wrap64 (x17_2 + 1))) else (none)) else (none)) else (none)) = some r := by first | (rw [hji12] at H; exact H) | (simp only [hji12] at H ⊢; exact H)
         have hji12w : (IntKind.i64.wrap ((wrap64 (a1 - 1)) - x17_2)) = ji12 := (i64_w _).trans hji12
         by_cases c13 : 0 ≤ (ji12)
         ·
          rw [if_pos c13] at H
          have c13b0 := eq_true c13
          have c13b1 : decide (0 ≤ (ji12)) = true := decide_eq_true c13
          clear c13
          obtain ⟨ji14, hji14⟩ : ∃ j_ : Int, (shr .i64 a0 (ji12)) = j_ := ⟨_, rfl⟩
          replace H : (if 0 ≤ x17_2 then (if x17_2 < (x5_2.length : Int) then (sym_Bits.l0 k2 a0 a1 (x5_2.set (x17_2 : Int).toNat ((wrap64 (48 + (Go.bits .and .i64 (ji14) 1))) % 256)) (yAa.length : Int) (wrap64 (x17_2 + 1))) else (none)) else (none)) = some r := by first | (rw [hji14] at H; exact H) | (simp only [hji14] at H ⊢; exact H)
          have hji14_ : (a0 / 2 ^ min (ji12).toNat 64) = ji14 := hji14
          have hji14z : (ji12) ≤ 64 → (a0 / 2 ^ (ji12).toNat) = ji14 := shr_small hji14
          by_cases c15 : 0 ≤ x17_2
          ·
           rw [if_pos c15] at H
           have c15b0 : decide (0 ≤ x17_2) = true := decide_eq_true c15
           clear c15
           by_cases c16 : x17_2 < (x5_2.length : Int)
           ·
            rw [if_pos c16] at H
            have c16b0 : decide (x17_2 < (x5_2.length : Int)) = true := decide_eq_true c16
            clear c16
            obtain ⟨yAb, hyAb⟩ : ∃ y_ : List Int, y_ = (x5_2.set (x17_2 : Int).toNat ((wrap64 (48 + (Go.bits .and .i64 (ji14) 1))) % 256)) := ⟨_, rfl⟩
            replace H : (sym_Bits.l0 k2 a0 a1 yAb (yAa.length : Int) (wrap64 (x17_2 + 1))) = some r := by first | (rw [hyAb]; with_reducible exact H) | (have H2_ := (Option.bind_some _ _).symm.trans H; rw [hyAb]; with_reducible exact H2_) | (have H2_ := (Option.bind_some _ _).symm.trans H; with_reducible exact H2_) | with_reducible exact H | (rw [hyAb]; exact H) | exact H
            have NyAb := Aside0.mk hyAb
            clear hyAb
            have H' := Aside0.mk H
            clear H
            have p17 : 0 ≤ (x17_2 : Int) := of_decide_eq_true (by first | (with_reducible assumption) | assumption)
            have q17 : (x17_2 : Int) < ((x5_2.length : Int) : Int) := of_decide_eq_true (by first | (with_reducible assumption) | assumption)
            obtain ⟨go17, co17, eo17, gb17, gl17, cl17, HG17⟩ := Kd.R_form HO_5.out (by omega)
            (first | cases eo17 | (injection eo17 with ea_ en_ ec_; (first | subst ea_ | (injection ea_ with ea_; subst ea_)); subst ec_; clear en_))
            have GB17 := Aside0.mk gb17
            have GG17 := Aside0.mk HG17
            clear gb17 gl17 HG17
            obtain ⟨hx17_0, hf17_0⟩ := Kd.R_celln 0 HO_5.out (x17_2 : Int) p17 q17
            replace p17 := eq_true p17
            replace q17 := eq_true q17
            have HP18 := Kd.R_putg HO_5.out (x17_2 : Int) ((wrap64 (48 + (Go.bits .and .i64 (ji14) 1))) % 256)
            go_wp2_with (first | ((with_reducible refine gate_store (t := 5) (p := 31) rfl ?_); refine store_event (t := 5) (p := 31) (v := ?vo_w19) (w1 := (wr.setCell ⟨go17, (x17_2 : Int).toNat, none⟩ (.int .u8 ((wrap64 (48 + (Go.bits .and .i64 (ji14) 1))) % 256)))) ?hg ?ho ?hn ?hr ?_; (case ho => rfl); (case hg => rfl); (case hn => rfl); (case hr => first | (go_simp; done) | (go_simp; rfl)); intro w19 hw; have hg : wr.grownBy w19 (some go17) := (by rw [hw]; exact HP18.2); have hp_ : Kd.R (Kd.int .u8) 5 w19 w.heap.size (fun _ => True) (.slice (some ⟨go17, 0, none⟩) x5_2.length co10) yAb := (by rw [hw, NyAb.out]; exact HP18.1); clear HP18; have n0_ := Aside0.mk (hp_); have n1_ := Aside0.mk ((by rw [hw]; exact below_set (HB.out) GB17.out : Below w.heap.size w w19)); clear HO_5; clear HB; have HO_5 := n0_; have HB := n1_; clear n0_ n1_; clear hg hw hp_))
            (try simp only [← hl5_2])
            go_roundg k2
            case measure => have := HJ2.out; have := HK2.out; omega
            case rel => exact ⟨(yAb), (wrap64 (x17_2 + 1)), (by first | rfl | (simp; done) | (simp [*]; done)), H', ⟨by have := HJ2.out; have := HK2.out; omega⟩, ⟨by (try simp only [hl5_2]); (with_reducible repeat (first | apply Kd.R_alloc | apply Kd.R_drewN | apply Kd.R_drew)); exact HO_5.out⟩, ⟨pH_ HB.out⟩⟩
           ·
            rw [if_neg c16] at H
            exact absurd H (by simp)
          ·
           rw [if_neg c15] at H
           exact absurd H (by simp)
         ·
          rw [if_neg c13] at H
          exact absurd H (by simp)
        ·
         rw [if_neg c11] at H
         have c11b0 : decide (x17_2 < (yAa.length : Int)) = false := decide_eq_false c11
         clear c11
         obtain rfl := Option.some.inj H
         try rw [hl5_2] at c11b0
         have hcv20 := own_string (P := Try.prog) Try.underlying80 Try.underlying5 Try.underlying9 (Kd.own_of_R HO_5.out)
         go_wp2
         go_ret
         exact ⟨by first | rfl | (simp [errW_none, errW_some] <;> rfl) | (simp [*, errW_none, errW_some] <;> rfl), pH_ HB.out⟩
     ·
      rw [if_neg c7] at H
      exact absurd H (by simp)
    ·
     rw [if_neg c6] at H
     exact absurd H (by simp)
def sym_Clean.f (a0 : ByteArray) : Option ByteArray := if a0.size ≤ 140737488351232 then some (ofL (cleanL (toL a0))) else none
theorem cleanL_skip (s : ByteArray) : ∀ i, i ≤ s.size → (∀ j (h : j < s.size), j < i → isBit (s[j]'h) = true) → cleanL (toL s) = (toL s).take i ++ cleanL ((toL s).drop i) := by
 intro i
 induction i with
 | zero => intro _ _; simp
 | succ i ih =>
  intro hi hb
  rw [ih (by omega) (fun j h hj => hb j h (by omega))]
  have hL : i < (toL s).length := by rw [toL_length]; omega
  have e : (toL s)[i] = s[i]'(by omega) := rfl
  rw [List.drop_eq_getElem_cons hL, cleanL, e, if_pos (hb i (by omega) (by omega)), List.take_add_one, List.getElem?_eq_getElem hL, e]
  simp
set_option maxHeartbeats 6400000 in
set_option maxRecDepth 100000 in
theorem sym_Clean.calls (a0 : ByteArray) (r : ByteArray) (w : World) (h : sym_Clean.f a0 = some r) :
  Calls Try.prog 85 #[.string a0] w fun e w' => e = .returned (.string r) ∧ Below w.heap.size w w' := by
 unfold sym_Clean.f at h
 split at h
 case isFalse => exact absurd h (by simp)
 case isTrue hall =>
 obtain rfl := Option.some.inj h
 clear h
 have hLn : a0.data.toList.length = a0.size := (Lib.size_eq a0).symm
 have hk0 : (w.iter a0 0).heap[w.heap.size]? = some (.stringIter a0 0) := World.iter_heap w a0 0
 have hb0 : Below w.heap.size w (w.iter a0 0) := (Below.refl _ w).alloc (by simp) _
 go_enter Try.func85, Try.ntmps85
 go_wp2
 go_loopw [3, 4] (fun _ _ wr => ∃ pos : Nat, pos ≤ a0.size ∧ wr.heap[w.heap.size]? = some (.stringIter a0 pos) ∧ (∀ j (h : j < a0.size), j < pos → isBit (a0[j]'h) = true) ∧ Below w.heap.size w wr)
  (fun _ _ wr => a0.size - wr.iterPos (w.heap.size))
 case atStart => exact ⟨0, Nat.zero_le _, hk0, fun j h hj => absurd hj (Nat.not_lt_zero _), hb0⟩
 case round =>
  obtain ⟨pos, hps, hk, hbit, hnx⟩ := hrel
  clear hk0 hb0
  have hcl := cleanL_skip a0 pos hps hbit
  by_cases hp : pos < a0.size
  ·
   have hmu : wr.iterPos (w.heap.size) = pos := by simp [World.iterPos, hk]
   have hL : pos < (toL a0).length := by rw [toL_length]; omega
   have e : (toL a0)[pos] = a0[pos]'hp := rfl
   rw [List.drop_eq_getElem_cons hL, e, cleanL] at hcl
   have low : (a0[pos]'hp).toNat < 128 → ∀ c : UInt8, a0[pos]'hp = c → ∃ W1, (∀ ty, (Instr.next (.pointer (some ⟨w.heap.size, 0, none⟩)) true ty).run Try.prog wr = .ok (.tuple #[.bool true, .int .i64 pos, .int .i32 c.toNat]) W1) ∧ W1.heap[w.heap.size]? = some (.stringIter a0 (pos + 1)) ∧ Below w.heap.size w W1 := by
    intro h128 c hc
    subst hc
    exact ⟨_, fun ty => Lib.run_next_ascii_at wr (w.heap.size) a0 pos ty hk hp h128, Lib.iterAt_heap wr (w.heap.size) a0 pos (pos + 1) hk, Lib.below_iterAt hnx (by omega) a0 (pos + 1)⟩
   by_cases h35 : a0[pos]'hp = 35
   ·
    obtain ⟨W1, hnext, hk1, hnx1⟩ := low (by rw [h35]; decide) 35 h35
    have e35 : ((35 : UInt8).toNat : Int) = 35 := rfl
    rw [e35] at hnext
    rw [h35, if_neg (by decide), if_pos rfl, ← h35, ← e] at hcl
    have hfin : ofL (cleanL (toL a0)) = a0.extract 0 (pos + 1) := by
     rw [hcl, extract_ofL, List.take_add_one, List.getElem?_eq_getElem hL]
     rfl
    have w1 : wrap64 ((pos : Int) + 1) = (pos : Int) + 1 := w64 (by omega) (by omega)
    have b1 : (0 : Int) ≤ (pos : Int) + 1 := by omega
    have b2 : (pos : Int) + 1 ≤ (a0.size : Int) := by omega
    have b3 : ((pos : Int) + 1).toNat = pos + 1 := by omega
    go_wp2
    go_ret
    exact ⟨by rw [hfin]; first | rfl | simp [b3], hnx1⟩
   ·
    by_cases hb : isBit (a0[pos]'hp) = true
    ·
     have h4 : a0[pos]'hp = 48 ∨ a0[pos]'hp = 49 := by
      unfold isBit at hb
      rw [Bool.or_eq_true, beq_iff_eq, beq_iff_eq] at hb
      exact hb
     have hbit1 : ∀ j (h : j < a0.size), j < pos + 1 → isBit (a0[j]'h) = true := by
      intro j h hj
      by_cases hjp : j = pos
      · subst hjp; exact hb
      · exact hbit j h (by omega)
     rcases h4 with h4 | h4
     ·
      obtain ⟨W1, hnext, hk1, hnx1⟩ := low (by rw [h4]; decide) 48 h4
      have e48 : ((48 : UInt8).toNat : Int) = 48 := rfl
      rw [e48] at hnext
      go_wp2
      go_roundw
      case rel => exact ⟨pos + 1, by omega, hk1, hbit1, hnx1⟩
      case measure =>
       have hmu2 : W1.iterPos (w.heap.size) = pos + 1 := by simp [World.iterPos, hk1]
       rw [hmu, hmu2]
       omega
     ·
      obtain ⟨W1, hnext, hk1, hnx1⟩ := low (by rw [h4]; decide) 49 h4
      have e49 : ((49 : UInt8).toNat : Int) = 49 := rfl
      rw [e49] at hnext
      go_wp2
      go_roundw
      case rel => exact ⟨pos + 1, by omega, hk1, hbit1, hnx1⟩
      case measure =>
       have hmu2 : W1.iterPos (w.heap.size) = pos + 1 := by simp [World.iterPos, hk1]
       rw [hmu, hmu2]
       omega
    ·
     have hc : ∃ (c : Nat) (W1 : World), (∀ ty, (Instr.next (.pointer (some ⟨w.heap.size, 0, none⟩)) true ty).run Try.prog wr = .ok (.tuple #[.bool true, .int .i64 pos, .int .i32 c]) W1) ∧ Below w.heap.size w W1 ∧ c ≠ 35 ∧ c ≠ 48 ∧ c ≠ 49 := by
      by_cases h128 : (a0[pos]'hp).toNat < 128
      ·
       obtain ⟨W1, hnext, hk1, hnx1⟩ := low h128 _ rfl
       refine ⟨_, W1, hnext, hnx1, ?_, ?_, ?_⟩
       · intro h; exact h35 (UInt8.toNat_inj.1 h)
       · intro h; exact hb (by rw [show a0[pos]'hp = 48 from UInt8.toNat_inj.1 h]; rfl)
       · intro h; exact hb (by rw [show a0[pos]'hp = 49 from UInt8.toNat_inj.1 h]; rfl)
      ·
       have hd := decode_high a0 pos hp (by omega)
       refine ⟨_, _, fun ty => Lib.run_next_any_at wr (w.heap.size) a0 pos ty hk hp, Lib.below_iterAt hnx (by omega) a0 _, ?_, ?_, ?_⟩ <;> omega
     obtain ⟨c, W1, hnext, hnx1, c35, c48, c49⟩ := hc
     have b35 : ((c : Int) == 35) = false := beq_eq_false_iff_ne.mpr (by omega)
     have b48 : ((c : Int) == 48) = false := beq_eq_false_iff_ne.mpr (by omega)
     have b49 : ((c : Int) == 49) = false := beq_eq_false_iff_ne.mpr (by omega)
     rw [if_neg hb, if_neg h35, List.append_nil] at hcl
     have hfin : ofL (cleanL (toL a0)) = a0.extract 0 pos := by rw [hcl, extract_ofL]
     go_wp2
     go_ret
     exact ⟨by rw [hfin]; first | rfl | simp, hnx1⟩
  ·
   have hnext : ∀ ty, (Instr.next (.pointer (some ⟨w.heap.size, 0, none⟩)) true ty).run Try.prog wr = _ := fun ty => Lib.run_next_end_at wr (w.heap.size) a0 pos ty hk hp
   have hall2 : cleanL (toL a0) = toL a0 := by
    rw [hcl, List.take_of_length_le (by rw [toL_length]; omega), List.drop_eq_nil_of_le (by rw [toL_length]; omega)]
    simp [cleanL]
   go_wp2
   go_ret
   exact ⟨by rw [hall2, ofL_toL]; rfl, hnx⟩
def sym_Whole.f (a0 : ByteArray) : Option (Bool) := (strings_HasSuffix.f a0 (⟨#[35]⟩ : ByteArray)).bind fun tAd => (if tAd = true then ((sym_Clean.f a0).bind fun tAc => (some (tAc.toList == a0.toList))) else (some false))
set_option maxHeartbeats 8000000 in
set_option maxRecDepth 100000 in
theorem sym_Whole.calls (a0 : ByteArray) (r : Bool) (w : World) (h : sym_Whole.f a0 = some r) :
  Calls Try.prog 81 #[.string a0] w fun e w' => e = .returned (.bool r) ∧ Below w.heap.size w w' := by
 have HB := Aside0.mk (Below.refl w.heap.size w)
 have H : ((strings_HasSuffix.f a0 (⟨#[35]⟩ : ByteArray)).bind fun tAd => (if tAd = true then ((sym_Clean.f a0).bind fun tAc => (some (tAc.toList == a0.toList))) else (some false))) = some r := h
 clear h
 replace H := Option.bind_eq_some_iff.mp H
 obtain ⟨tAd, A20, H⟩ := H
 try dsimp only at H
 have A2 := Aside0.mk A20
 clear A20
 by_cases c3 : tAd = true
 ·
  subst c3
  have H1 : ((sym_Clean.f a0).bind fun tAc => (some (tAc.toList == a0.toList))) = some r := by rw [if_pos rfl] at H; exact H
  clear H
  have H := H1
  clear H1
  replace H := Option.bind_eq_some_iff.mp H
  obtain ⟨tAc, A40, H⟩ := H
  try dsimp only at H
  have A4 := Aside0.mk A40
  clear A40
  obtain rfl := Option.some.inj H
  go_enter Try.func81, Try.ntmps81
  go_wp2_with (first | ((with_reducible refine gate_callee (f := 84) rfl ?_); refine gL_ 4 Try.func84 #[.string a0, .string (⟨#[35]⟩ : ByteArray)] ?_; (with_reducible refine (strings_HasSuffix.calls a0 (⟨#[35]⟩ : ByteArray) true _ A2.out).mono ?_); rintro e w' ⟨rfl, ⟨nd, rfl⟩⟩; refine ⟨_, rfl, ?_⟩) | (go_at_call 85; (with_reducible refine (sym_Clean.calls a0 tAc _ A4.out).mono ?_); rintro e w5 ⟨rfl, hb⟩; have n0_ := bs_ HB hb; clear HB; have HB := n0_; clear n0_; (try clear hb); (try clear hb2); (try clear hk); (try clear hi)))
  go_ret
  exact ⟨by first | rfl | (simp [errW_none, errW_some] <;> rfl) | (simp [*, errW_none, errW_some] <;> rfl), pH_ HB.out⟩
 ·
  replace c3 := Bool.eq_false_iff.mpr c3
  subst c3
  have H1 : (some false) = some r := by rw [if_neg (show ¬ (false = true) by decide)] at H; exact H
  clear H
  have H := H1
  clear H1
  obtain rfl := Option.some.inj H
  go_enter Try.func81, Try.ntmps81
  go_wp2_with (first | ((with_reducible refine gate_callee (f := 84) rfl ?_); refine gL_ 4 Try.func84 #[.string a0, .string (⟨#[35]⟩ : ByteArray)] ?_; (with_reducible refine (strings_HasSuffix.calls a0 (⟨#[35]⟩ : ByteArray) false _ A2.out).mono ?_); rintro e w' ⟨rfl, ⟨nd, rfl⟩⟩; refine ⟨_, rfl, ?_⟩))
  go_ret
  exact ⟨by first | rfl | (simp [errW_none, errW_some] <;> rfl) | (simp [*, errW_none, errW_some] <;> rfl), pH_ HB.out⟩
end Go.Proofs.Ytcpohmfkmgcjkaa.P
