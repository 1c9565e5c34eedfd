/- Proves LaneSteps: symbol by symbol a lane answers what the document says, and, once it is over, nothing, whatever comes; put together that is Out (no condition on the inputs). -/
import Derived.Test.YtcfbmofffipmpaaQLaneStepsLane2
import Derived.Test.YtcfbmofffipmpaaQLaneStepsPx7
namespace Go.Proofs.Ytcfbmofffipmpaa.Pure
open Go.RowKit Go.Proofs.Ytcfbmofffipmpaa.P Go.Proofs.YtcfbmofffipmpaaW.PrintWords Go.Proofs.YtcfbmofffipmpaaW.PrintLast
def restL (cmp : Bool) (a b : ByteArray) (i : Nat) (shut : Bool) : List UInt8 := if shut = true then [] else laneOut cmp a b (a.size + 1 - i) i
theorem restL_go (cmp : Bool) (a b : ByteArray) (i : Nat) (h : laneGoes cmp (laneSym a i) (laneSym b i) = true) : restL cmp a b i false = UInt8.ofNat (laneSym a i).toNat :: restL cmp a b (i + 1) (laneSym a i == 35) := by
  have hi := laneGoes_in cmp a b i h
  unfold restL
  rw [if_neg (by decide), show a.size + 1 - i = (a.size - i) + 1 from by omega, laneOut_goes cmp a b _ i h, show a.size + 1 - (i + 1) = a.size - i from by omega]
  congr 1
  by_cases e : laneSym a i = 35
  · rw [if_pos e, e]; rfl
  · rw [if_neg e, if_neg (by rw [beq_iff_eq]; exact e)]
theorem restL_stop (cmp : Bool) (a b : ByteArray) (i : Nat) (shut : Bool) (h : (!shut && laneGoes cmp (laneSym a i) (laneSym b i)) = false) : restL cmp a b i shut = [] := by
  unfold restL
  cases shut with
  | true => rfl
  | false =>
    rw [if_neg (by decide)]
    exact laneOut_idle cmp a b _ i (by simpa using h)
theorem strOne (d : Int) : strOfNums [d] = ofL [UInt8.ofNat d.toNat] := by
  apply toL_inj
  show ([d].map fun n => UInt8.ofNat n.toNat) = _
  rfl
theorem app_cons (acc : ByteArray) (c : UInt8) (l : List UInt8) : acc ++ ofL [c] ++ ofL l = acc ++ ofL (c :: l) := toL_inj (by rw [toL_append, toL_append, toL_append, toL_ofL, toL_ofL, toL_ofL, List.append_assoc]; rfl)
theorem app_nil (acc : ByteArray) : acc ++ ofL [] = acc := toL_inj (by rw [toL_append, toL_ofL, List.append_nil])
theorem one_size (c : UInt8) : (ofL [c]).size = 1 := by rw [ofL_size]; rfl
theorem ref_step_eq (cmp shut : Bool) (d k : Int) : plaitingref7_Lane_Step.f cmp shut d k = some (if (!shut && laneGoes cmp d k) = true then (d, cmp, (d == 35)) else (46, cmp, true)) := by
  unfold plaitingref7_Lane_Step.f laneGoes
  cases shut with
  | true => rfl
  | false =>
    simp only [Bool.false_eq_true, if_false, Bool.not_false, Bool.true_and]
    by_cases hk : k = d
    · subst hk
      cases cmp <;> by_cases e1 : k = 48 <;> by_cases e2 : k = 49 <;> by_cases e3 : k = 35 <;> simp [e1, e2, e3]
    · have hk2 : ¬ d = k := fun h => hk h.symm
      have hk3 : (k == d) = false := beq_eq_false_iff_ne.2 hk
      rw [hk3]
      simp only [if_neg hk2]
      cases cmp <;> by_cases e1 : d = 48 <;> by_cases e2 : d = 49 <;> by_cases e3 : d = 35 <;> simp [e1, e2, e3]
theorem steps_j (k : Nat) (c : Bool) (tl : List Int) (a b s : ByteArray) (o : Bool) (i : Nat) (c1 s1 c2 s2 : Bool) (h : i ≤ max a.size b.size) :
    plaitinglaw7_LaneSteps.l0 (k + 2) c tl a b s o (i : Int) c1 s1 c2 s2 = plaitinglaw7_LaneSteps.j2 k c tl a b s o (i : Int) (laneSym a i) (laneSym b i) c1 s1 c2 s2 := by
  have hm : mx (a.size : Int) (b.size : Int) = ((max a.size b.size : Nat) : Int) := by unfold mx; split <;> omega
  rw [plaitinglaw7_LaneSteps.l0, hm, if_pos (by omega)]
  have e2 : ∀ x : Int, plaitinglaw7_LaneSteps.j1 (k + 1) c tl a b s o (i : Int) x 46 c1 s1 c2 s2 = plaitinglaw7_LaneSteps.j2 k c tl a b s o (i : Int) x (laneSym b i) c1 s1 c2 s2 := by
    intro x
    rw [plaitinglaw7_LaneSteps.j1]
    unfold laneSym
    by_cases hb : i < b.size
    · rw [if_pos (by omega), if_pos (by omega), if_pos hb]
    · rw [if_neg (by omega), if_neg hb]
  by_cases ha : i < a.size
  · rw [if_pos (by omega), if_pos (by omega), e2]
    unfold laneSym
    rw [if_pos ha]
  · rw [if_neg (by omega), e2]
    unfold laneSym
    rw [if_neg ha]
theorem tail_loop (c : Bool) (tl : List Int) (a b s : ByteArray) (ht : tl.length ≤ 50) (hw : ∀ x ∈ tl, (Lit.int .u8 x).wf = true) (hs : lane_Out.f c a b = some s) : ∀ d (k i : Nat), tl.length - i = d → i ≤ tl.length → d < k →
    plaitinglaw7_LaneSteps.l1 k c tl a b s true (i : Int) c true = some true := by
  intro d
  induction d with
  | zero =>
    intro k i q1 q2 q3
    obtain ⟨k, rfl⟩ : ∃ q, k = q + 1 := ⟨k - 1, by omega⟩
    rw [plaitinglaw7_LaneSteps.l1, if_neg (by omega), if_pos rfl, hs, Option.bind_some]
    simp
  | succ d ih =>
    intro k i q1 q2 q3
    obtain ⟨k, rfl⟩ : ∃ q, k = q + 1 := ⟨k - 1, by omega⟩
    have w1 : wrap64 ((i : Int) + 1) = ((i + 1 : Nat) : Int) := by rw [w64 (by omega) (by omega)]; omega
    have hi : i < tl.length := by omega
    have hr : rd tl (i : Int) = tl[i] := by
      unfold rd
      rw [Int.toNat_natCast, List.getD_eq_getElem?_getD, List.getElem?_eq_getElem hi]
      rfl
    have hx := hw _ (List.getElem_mem hi)
    have hx2 : 0 ≤ tl[i] ∧ tl[i] ≤ 255 := by
      have h3 : (decide (0 ≤ tl[i]) && decide (tl[i] ≤ 255)) = true := hx
      simpa using h3
    rw [plaitinglaw7_LaneSteps.l1, if_pos (by omega), if_pos (by omega), hr, lane_step_eq c true _ _ hx2.1 hx2.2, Option.bind_some]
    simp only [Bool.not_true, Bool.false_and, Bool.false_eq_true, if_false, if_true]
    rw [w1]
    exact ih k (i + 1) (by omega) (by omega) (by omega)
theorem steps_loop (c : Bool) (tl : List Int) (a b : ByteArray) (ha : a.size ≤ 1000) (hb : b.size ≤ 1000) (ht : tl.length ≤ 50) (hw : ∀ x ∈ tl, (Lit.int .u8 x).wf = true) : ∀ d (k i : Nat) (s : ByteArray) (o s1 : Bool), max a.size b.size + 1 - i = d → i ≤ max a.size b.size + 1 → s.size ≤ i →
    ofL (laneOut c a b (a.size + 1) 0) = s ++ ofL (restL c a b i s1) → (o = true → s1 = true) → (d = 0 → o = true) → 3 * d + 2000 < k →
    plaitinglaw7_LaneSteps.l0 k c tl a b s o (i : Int) c s1 c s1 = some true := by
  intro d
  induction d with
  | zero =>
    intro k i s o s1 q1 q2 q3 q5 q6 q8 q7
    obtain ⟨k, rfl⟩ : ∃ q, k = q + 1 := ⟨k - 1, by omega⟩
    have hm : mx (a.size : Int) (b.size : Int) = ((max a.size b.size : Nat) : Int) := by unfold mx; split <;> omega
    obtain rfl := q8 rfl
    obtain rfl := q6 rfl
    rw [restL_stop c a b i true rfl, app_nil] at q5
    have hO : lane_Out.f c a b = some s := by
      unfold lane_Out.f
      rw [if_pos (by omega), ← q5]
      rfl
    rw [plaitinglaw7_LaneSteps.l0, hm, if_neg (by omega)]
    exact tail_loop c tl a b s ht hw hO tl.length k 0 rfl (Nat.zero_le _) (by omega)
  | succ d ih =>
    intro k i s o s1 q1 q2 q3 q5 q6 q8 q7
    obtain ⟨k, rfl⟩ : ∃ q, k = (q + 1) + 2 := ⟨k - 3, by omega⟩
    have w1 : wrap64 ((i : Int) + 1) = ((i + 1 : Nat) : Int) := by rw [w64 (by omega) (by omega)]; omega
    have rA := laneSym_range a i
    rw [steps_j (k + 1) c tl a b s o i _ _ _ _ (by omega), plaitinglaw7_LaneSteps.j2, lane_step_eq c s1 _ _ rA.1 rA.2, Option.bind_some, ref_step_eq c s1, Option.bind_some, if_pos rfl]
    by_cases g1 : (!s1 && laneGoes c (laneSym a i) (laneSym b i)) = true
    · have hs1 : s1 = false := by cases s1 with | false => rfl | true => exact absurd g1 (by simp)
      subst hs1
      have ho : o = false := by cases o with | false => rfl | true => exact absurd (q6 rfl) (by decide)
      subst ho
      have g1' : laneGoes c (laneSym a i) (laneSym b i) = true := by simpa using g1
      have hne := laneGoes_ne _ _ _ g1'
      have hin := laneGoes_in c a b i g1'
      rw [restL_go c a b i g1', ← app_cons] at q5
      rw [if_pos g1]
      dsimp only
      rw [if_neg (by decide), if_neg hne, Option.bind_some, strOne, one_size, if_pos (by omega), w1, show (laneSym a i == 46) = false from beq_eq_false_iff_ne.2 hne]
      exact ih k (i + 1) _ false _ (by omega) (by omega) (by rw [ByteArray.size_append, one_size]; omega) q5 (fun h => absurd h (by decide)) (fun h => by omega) (by omega)
    · rw [restL_stop c a b i s1 (by simpa using g1)] at q5
      rw [if_neg g1]
      dsimp only
      have hrest : restL c a b (i + 1) true = [] := rfl
      cases o with
      | true =>
        rw [if_pos rfl, w1]
        exact ih k (i + 1) s true true (by omega) (by omega) (by omega) (by rw [hrest]; exact q5) (fun _ => rfl) (fun _ => rfl) (by omega)
      | false =>
        rw [if_neg (by decide), if_pos rfl, w1]
        exact ih k (i + 1) s true true (by omega) (by omega) (by omega) (by rw [hrest]; exact q5) (fun _ => rfl) (fun _ => rfl) (by omega)
theorem LaneSteps : plaitinglaw7_LaneSteps.Pure := by
  intro l m n c tl h0 _ _ h1 _ _ h2 _ _ _ _ hw
  obtain ⟨k0, hk0⟩ : ∃ k0 : Nat, k0 = 9000 := ⟨_, rfl⟩
  refine ⟨k0, ?_⟩
  unfold plaitinglaw7_LaneSteps.f
  rw [lane_known]
  simp only [Option.bind_some, if_true]
  by_cases ht : (tl.length : Int) > 50
  · rw [if_pos ht]
  have a0 := text_app 0 n l
  have b0 := text_app 0 n m
  have a1 := a0
  have b1 := b0
  rw [ByteArray.size_append] at a1 b1
  rw [if_neg ht, text_eq _ n h2 (by omega), Option.bind_some, text_eq _ l h0 (by omega), Option.bind_some, if_pos (by omega), text_eq _ m h1 (by omega), Option.bind_some, if_pos (by omega)]
  clear h0 h1 h2 a1 b1
  unfold lane_New.f plaitingref7_New.f
  simp only [Option.bind_some]
  generalize ofL (textL n) ++ ofL (textL l) = a at a0
  generalize ofL (textL n) ++ ofL (textL m) = b at b0
  have hnil : ∀ t, (⟨#[]⟩ : ByteArray) ++ ofL t = ofL t := fun t => toL_inj (by rw [toL_append]; rfl)
  refine steps_loop c tl a b (by omega) (by omega) (by omega) hw (max a.size b.size + 1) k0 0 ⟨#[]⟩ false false rfl (Nat.zero_le _) (Nat.le_refl 0) ?_ (fun h => absurd h (by decide)) (fun h => absurd h (by omega)) (by omega)
  unfold restL
  rw [if_neg (by decide), hnil]
  rfl
end Go.Proofs.Ytcfbmofffipmpaa.Pure
