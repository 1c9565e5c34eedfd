/- Proves LaneApart: two lanes do not touch one another; each is over when its own streams are (no condition on the inputs). -/
import Derived.Test.YtcfbmofffipmpaaQLaneApartLane2
import Derived.Test.YtcfbmofffipmpaaQLaneApartPx9
namespace Go.Proofs.Ytcfbmofffipmpaa.Pure
open Go.RowKit Go.Proofs.Ytcfbmofffipmpaa.P Go.Proofs.YtcfbmofffipmpaaW.PrintWords Go.Proofs.YtcfbmofffipmpaaW.PrintLast
def restL (cmp : Bool) (a b : ByteArray) (i : Nat) (shut : Bool) : List UInt8 := if shut = true then [] else laneOut cmp a b (a.size + 1 - i) i
theorem restL_go (cmp : Bool) (a b : ByteArray) (i : Nat) (h : laneGoes cmp (laneSym a i) (laneSym b i) = true) : restL cmp a b i false = UInt8.ofNat (laneSym a i).toNat :: restL cmp a b (i + 1) (laneSym a i == 35) := by
  have hi := laneGoes_in cmp a b i h
  unfold restL
  rw [if_neg (by decide), show a.size + 1 - i = (a.size - i) + 1 from by omega, laneOut_goes cmp a b _ i h, show a.size + 1 - (i + 1) = a.size - i from by omega]
  congr 1
  by_cases e : laneSym a i = 35
  · rw [if_pos e, e]; rfl
  · rw [if_neg e, if_neg (by rw [beq_iff_eq]; exact e)]
theorem restL_stop (cmp : Bool) (a b : ByteArray) (i : Nat) (shut : Bool) (h : (!shut && laneGoes cmp (laneSym a i) (laneSym b i)) = false) : restL cmp a b i shut = [] := by
  unfold restL
  cases shut with
  | true => rfl
  | false =>
    rw [if_neg (by decide)]
    exact laneOut_idle cmp a b _ i (by simpa using h)
theorem strOne (d : Int) : strOfNums [d] = ofL [UInt8.ofNat d.toNat] := by
  apply toL_inj
  show ([d].map fun n => UInt8.ofNat n.toNat) = _
  rfl
theorem app_cons (acc : ByteArray) (c : UInt8) (l : List UInt8) : acc ++ ofL [c] ++ ofL l = acc ++ ofL (c :: l) := toL_inj (by rw [toL_append, toL_append, toL_append, toL_ofL, toL_ofL, toL_ofL, List.append_assoc]; rfl)
theorem app_nil (acc : ByteArray) : acc ++ ofL [] = acc := toL_inj (by rw [toL_append, toL_ofL, List.append_nil])
theorem one_size (c : UInt8) : (ofL [c]).size = 1 := by rw [ofL_size]; rfl
theorem apart_j (k : Nat) (a b s t : ByteArray) (i : Nat) (c1 s1 c2 s2 : Bool) (h : i < max a.size b.size) :
    plaitinglaw7_LaneApart.l0 (k + 2) a b s t (i : Int) c1 s1 c2 s2 = plaitinglaw7_LaneApart.j2 k a b s t (i : Int) (laneSym a i) (laneSym b i) c1 s1 c2 s2 := by
  have hm : mx (a.size : Int) (b.size : Int) = ((max a.size b.size : Nat) : Int) := by unfold mx; split <;> omega
  rw [plaitinglaw7_LaneApart.l0, hm, if_pos (by omega)]
  have e2 : ∀ x : Int, plaitinglaw7_LaneApart.j1 (k + 1) a b s t (i : Int) x 46 c1 s1 c2 s2 = plaitinglaw7_LaneApart.j2 k a b s t (i : Int) x (laneSym b i) c1 s1 c2 s2 := by
    intro x
    rw [plaitinglaw7_LaneApart.j1]
    unfold laneSym
    by_cases hb : i < b.size
    · rw [if_pos (by omega), if_pos (by omega), if_pos hb]
    · rw [if_neg (by omega), if_neg hb]
  by_cases ha : i < a.size
  · rw [if_pos (by omega), if_pos (by omega), e2]
    unfold laneSym
    rw [if_pos ha]
  · rw [if_neg (by omega), e2]
    unfold laneSym
    rw [if_neg ha]
theorem apart_loop (a b : ByteArray) (ha : a.size ≤ 1000) (hb : b.size ≤ 1000) : ∀ d (k i : Nat) (s t : ByteArray) (s1 s2 : Bool), max a.size b.size - i = d → i ≤ max a.size b.size → s.size ≤ i → t.size ≤ i →
    ofL (cleanL (toL a)) = s ++ ofL (restL false a b i s1) → ofL (cleanL (toL b)) = t ++ ofL (restL true b b i s2) → 3 * d + 2000 < k →
    plaitinglaw7_LaneApart.l0 k a b s t (i : Int) false s1 true s2 = some true := by
  intro d
  induction d with
  | zero =>
    intro k i s t s1 s2 q1 q2 q3 q4 q5 q6 q7
    obtain ⟨k, rfl⟩ : ∃ q, k = q + 1 := ⟨k - 1, by omega⟩
    have hm : mx (a.size : Int) (b.size : Int) = ((max a.size b.size : Nat) : Int) := by unfold mx; split <;> omega
    have hA : laneSym a i = 46 := by unfold laneSym; rw [if_neg (by omega)]
    have hB : laneSym b i = 46 := by unfold laneSym; rw [if_neg (by omega)]
    rw [restL_stop false a b i s1 (by rw [hA]; simp [laneGoes]), app_nil] at q5
    rw [restL_stop true b b i s2 (by rw [hB]; simp [laneGoes]), app_nil] at q6
    rw [plaitinglaw7_LaneApart.l0, hm, if_neg (by omega), clean_eq k a (by omega) (by omega), Option.bind_some, q5, if_pos rfl, clean_eq k b (by omega) (by omega), Option.bind_some, q6]
    simp
  | succ d ih =>
    intro k i s t s1 s2 q1 q2 q3 q4 q5 q6 q7
    obtain ⟨k, rfl⟩ : ∃ q, k = (q + 1) + 2 := ⟨k - 3, by omega⟩
    have w1 : wrap64 ((i : Int) + 1) = ((i + 1 : Nat) : Int) := by rw [w64 (by omega) (by omega)]; omega
    have rA := laneSym_range a i
    have rB := laneSym_range b i
    rw [apart_j (k + 1) a b s t i _ _ _ _ (by omega), plaitinglaw7_LaneApart.j2, lane_step_eq false s1 _ _ rA.1 rA.2, Option.bind_some]
    by_cases g1 : (!s1 && laneGoes false (laneSym a i) (laneSym b i)) = true
    · have hs1 : s1 = false := by cases s1 with | false => rfl | true => exact absurd g1 (by simp)
      subst hs1
      have g1' : laneGoes false (laneSym a i) (laneSym b i) = true := by simpa using g1
      rw [restL_go false a b i g1', ← app_cons, ← strOne] at q5
      rw [if_pos g1]
      dsimp only
      rw [if_neg (laneGoes_ne _ _ _ g1'), Option.bind_some, strOne, one_size, if_pos (by omega), lane_step_eq true s2 _ _ rB.1 rB.2, Option.bind_some]
      rw [strOne] at q5
      by_cases g2 : (!s2 && laneGoes true (laneSym b i) (laneSym b i)) = true
      · have hs2 : s2 = false := by cases s2 with | false => rfl | true => exact absurd g2 (by simp)
        subst hs2
        have g2' : laneGoes true (laneSym b i) (laneSym b i) = true := by simpa using g2
        rw [restL_go true b b i g2', ← app_cons] at q6
        rw [if_pos g2]
        dsimp only
        rw [if_neg (laneGoes_ne _ _ _ g2'), Option.bind_some, strOne, one_size, if_pos (by omega), w1]
        exact ih k (i + 1) _ _ _ _ (by omega) (by omega) (by rw [ByteArray.size_append, one_size]; omega) (by rw [ByteArray.size_append, one_size]; omega) q5 q6 (by omega)
      · rw [restL_stop true b b i s2 (by simpa using g2)] at q6
        rw [if_neg g2]
        dsimp only
        rw [if_pos rfl, w1]
        exact ih k (i + 1) _ _ _ _ (by omega) (by omega) (by rw [ByteArray.size_append, one_size]; omega) (by omega) q5 q6 (by omega)
    · rw [restL_stop false a b i s1 (by simpa using g1)] at q5
      rw [if_neg g1]
      dsimp only
      rw [if_pos rfl, lane_step_eq true s2 _ _ rB.1 rB.2, Option.bind_some]
      by_cases g2 : (!s2 && laneGoes true (laneSym b i) (laneSym b i)) = true
      · have hs2 : s2 = false := by cases s2 with | false => rfl | true => exact absurd g2 (by simp)
        subst hs2
        have g2' : laneGoes true (laneSym b i) (laneSym b i) = true := by simpa using g2
        rw [restL_go true b b i g2', ← app_cons] at q6
        rw [if_pos g2]
        dsimp only
        rw [if_neg (laneGoes_ne _ _ _ g2'), Option.bind_some, strOne, one_size, if_pos (by omega), w1]
        exact ih k (i + 1) _ _ _ _ (by omega) (by omega) (by omega) (by rw [ByteArray.size_append, one_size]; omega) q5 q6 (by omega)
      · rw [restL_stop true b b i s2 (by simpa using g2)] at q6
        rw [if_neg g2]
        dsimp only
        rw [if_pos rfl, w1]
        exact ih k (i + 1) _ _ _ _ (by omega) (by omega) (by omega) (by omega) q5 q6 (by omega)
theorem LaneApart : plaitinglaw7_LaneApart.Pure := by
  intro l m h0 _ _ h1 _ _
  obtain ⟨k0, hk0⟩ : ∃ k0 : Nat, k0 = 9000 := ⟨_, rfl⟩
  refine ⟨k0, ?_⟩
  unfold plaitinglaw7_LaneApart.f
  rw [lane_known]
  simp only [Option.bind_some, if_true]
  have a0 := text_sz l
  have b0 := text_sz m
  rw [text_eq _ l h0 (by omega), Option.bind_some, if_pos (by omega), text_eq _ m h1 (by omega), Option.bind_some, if_pos (by omega)]
  clear h0 h1
  have a1 : (ofL (textL l) ++ (⟨#[46]⟩ : ByteArray)).size ≤ 81 := by rw [ByteArray.size_append]; exact Nat.add_le_add a0 (Nat.le_refl 1)
  have b1 : (ofL (textL m) ++ (⟨#[46]⟩ : ByteArray)).size ≤ 81 := by rw [ByteArray.size_append]; exact Nat.add_le_add b0 (Nat.le_refl 1)
  unfold lane_New.f
  simp only [Option.bind_some]
  generalize ofL (textL l) ++ (⟨#[46]⟩ : ByteArray) = a at a1
  generalize ofL (textL m) ++ (⟨#[46]⟩ : ByteArray) = b at b1
  have hnil : ∀ t, (⟨#[]⟩ : ByteArray) ++ ofL t = ofL t := fun t => toL_inj (by rw [toL_append]; rfl)
  refine apart_loop a b (by omega) (by omega) (max a.size b.size) k0 0 ⟨#[]⟩ ⟨#[]⟩ false false rfl (Nat.zero_le _) (Nat.le_refl 0) (Nat.le_refl 0) ?_ ?_ (by omega)
  · unfold restL
    rw [if_neg (by decide), laneOut_spec false a b _ 0 (by omega), hnil]
    rfl
  · unfold restL
    rw [if_neg (by decide), laneOut_spec true b b _ 0 (by omega), hnil]
    show _ = ofL (commonL (cleanL (toL b)) (cleanL (toL b)))
    rw [commonL_of_prefix _ _ (List.prefix_refl _)]
end Go.Proofs.Ytcfbmofffipmpaa.Pure
