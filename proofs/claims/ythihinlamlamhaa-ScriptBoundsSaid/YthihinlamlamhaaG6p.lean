/- ScriptBounds. -/
import Derived.Test.YthihinlamlamhaaG6n
namespace Go.Proofs.YthihinlamlamhaaE
open Go
set_option linter.unusedVariables false
set_option linter.unusedSimpArgs false
set_option maxRecDepth 100000

theorem get_mem {rs : List (List AV)} {i : Nat} (hi : i < rs.length) : rs.getD i [] ∈ rs := by
  rw [List.getD_eq_getElem?_getD, List.getElem?_eq_getElem hi]; simp
theorem okLB1 : OkLp Try.prog H0 7 10 lB1 := by
  refine okLp_of (U := 6) (k := 6) okS7 lB1 (fun vals h => match vals, h with | [_, _, .int _ i], [_, .box (.row _ _ r0 :: _)] => ((r0.length : Int) - i).toNat | _, _ => 0) fun vals h Q hl => ?_
  unfold lB1 at hl
  split at hl
  · rename_i i n pi e g fi nl ps b0 r0 b1 r1 b2 r2 b3 r3 k a f t b4 r4 b5 r5 z
    obtain ⟨⟨h0, h1, h2, h3⟩, hq⟩ := hyp_iff.1 hl
    refine to (nf7a ..) (br_intro (fun hc => ?_) fun hc => hq)
    have hc := of_decide_eq_true hc
    have p := h3 _ (get_mem (i := i.toNat) (by omega))
    rw [chk_iff]
    refine ⟨by omega, br_intro (fun c => ?_) fun c => ?_⟩
    · have := of_decide_eq_true c; omega
    rw [chk_iff]
    refine ⟨by omega, br_intro (fun c => ?_) fun c => ?_⟩
    · have := of_decide_eq_true c; omega
    rw [wr (x := i + 1) (by omega) (by omega)]
    exact ⟨by show ((r0.length : Int) - (i + 1)).toNat < ((r0.length : Int) - i).toNat; omega, .mk ⟨by omega, by omega, h2, h3⟩, hq⟩
  · exact hl.elim
theorem okLB2 : OkLp Try.prog H0 7 15 lB2 := by
  refine okLp_of (U := 6) (k := 6) okS7 lB2 (fun vals h => match vals, h with | [_, _, .int _ i], [_, .box [_, _, _, .row _ _ r3, _, _, _, _, _, _, _]] => ((r3.length : Int) - i).toNat | _, _ => 0) fun vals h Q hl => ?_
  unfold lB2 at hl
  split at hl
  · rename_i i n pi e g fi nl ps b0 r0 b1 r1 b2 r2 b3 r3 k a f t b4 r4 b5 r5 z
    obtain ⟨⟨h0, h1, h2, h3⟩, hq⟩ := hyp_iff.1 hl
    refine to (nf7b ..) (br_intro (fun hc => ?_) fun hc => hq)
    have hc := of_decide_eq_true hc
    obtain ⟨p1, p2, p3, p4⟩ := h3 _ (get_mem (i := i.toNat) (by omega))
    rw [chk_iff]
    refine ⟨by omega, ?_⟩
    refine br_intro (fun c => ?_) fun c => br_intro (fun c => ?_) fun c => br_intro (fun c => ?_) fun c => br_intro (fun c => ?_) fun c => br_intro (fun c => ?_) fun c => br_intro (fun c => ?_) fun c => br_intro (fun c => ?_) fun c => br_intro (fun c => ?_) fun c => ?_
    · have := of_decide_eq_true c; omega
    · have := of_decide_eq_true c; omega
    · have := of_decide_eq_true c; omega
    · have := of_decide_eq_true c; omega
    · have := of_decide_eq_true c; omega
    · have := of_decide_eq_true c; omega
    · have := of_decide_eq_true c; omega
    · have := of_decide_eq_true c; omega
    rw [wr (x := i + 1) (by omega) (by omega)]
    exact ⟨by show ((r3.length : Int) - (i + 1)).toNat < ((r3.length : Int) - i).toNat; omega, .mk ⟨by omega, by omega, h2, h3⟩, hq⟩
  · exact hl.elim
theorem okLB3 : OkLp Try.prog H0 7 21 lB3 := by
  refine okLp_of (U := 6) (k := 6) okS7 lB3 (fun vals h => match vals, h with | [_, .int _ i], [.box [_, _, _, _, _, _, _, _, .row _ _ r4, _, _]] => ((r4.length : Int) - i).toNat | _, _ => 0) fun vals h Q hl => ?_
  unfold lB3 at hl
  split at hl
  · rename_i i b0 r0 b1 r1 b2 r2 b3 r3 k a f t b4 r4 b5 r5 z
    obtain ⟨⟨h0, h1, h2, h3⟩, hq⟩ := hyp_iff.1 hl
    refine to (nf7c ..) (br_intro (fun hc => ?_) fun hc => hq)
    have hc := of_decide_eq_true hc
    obtain ⟨p1, p2, p3⟩ := h3 _ (get_mem (i := i.toNat) (by omega))
    rw [chk_iff]
    refine ⟨by omega, ?_⟩
    refine br_intro (fun c => ?_) fun c => br_intro (fun c => ?_) fun c => br_intro (fun c => ?_) fun c => br_intro (fun c => ?_) fun c => br_intro (fun c => ?_) fun c => ?_
    · have := of_decide_eq_true c; omega
    · have := of_decide_eq_true c; omega
    · have := of_decide_eq_true c; omega
    · have := of_decide_eq_true c; omega
    · have := of_decide_eq_true c; omega
    rw [wr (x := i + 1) (by omega) (by omega)]
    exact ⟨by show ((r4.length : Int) - (i + 1)).toNat < ((r4.length : Int) - i).toNat; omega, .mk ⟨by omega, by omega, h2, h3⟩, hq⟩
  · exact hl.elim
theorem okS7B : OkSp Try.prog H0 S7B := ⟨okS7.fn, okLB1, okLB2, okLB3, trivial⟩
theorem ints_irow (k : IntKind) (ps : List Int) : ints (irow k ps) = ps := by
  induction ps with
  | nil => rfl
  | cons a l ih =>
    have : ints (irow k (a :: l)) = a :: ints (irow k l) := rfl
    rw [this, ih]
theorem cfMade_ok {n pi e g fi : Int} {ps : List Int} (h : s_made n pi e g fi ps) : s_confOk n pi e g fi (ints (irow .i64 ps)) = true := by
  obtain ⟨h1, h2, h3, h4, h5, h6, h7, h8, h9, h10, h11, h12⟩ := h
  rw [ints_irow]
  simp only [s_confOk, Bool.and_eq_true, decide_eq_true_eq, List.all_eq_true]
  exact ⟨⟨⟨⟨⟨⟨⟨⟨⟨⟨⟨h1, h2⟩, h3⟩, by omega⟩, h5⟩, by omega⟩, h7⟩, h8⟩, h9⟩, by omega⟩, h11⟩, h12⟩
theorem text_size (rs : List (List AV)) : ∀ (k p : Nat) (s : ByteArray), (s_text rs k p s).size = s.size + k
  | 0, _, _ => rfl
  | k + 1, p, s => by
    simp only [s_text]
    rw [text_size rs k, ByteArray.size_append]
    have : (if (s_at rs p).tmod 3 = 0 then ⟨#[48]⟩ else if (s_at rs p).tmod 3 = 1 then ⟨#[49]⟩ else ⟨#[35]⟩ : ByteArray).size = 1 := by
      split
      · rfl
      · split <;> rfl
    omega
theorem p1_on {rs : List (List AV)} (hb : s_bytes rs) (n : Nat) : s_p1 (s_rowi (s_on rs n)) := by
  intro r hr
  unfold s_rowi irow s_on at hr
  rw [List.map_map] at hr
  obtain ⟨i, _, rfl⟩ := List.mem_map.1 hr
  have := at_mod hb i (show (0 : Int) < 24 by omega)
  show 0 ≤ (s_at rs i).tmod 24 ∧ (s_at rs i).tmod 24 ≤ 23
  omega
theorem p2_calls {n np : Int} (hn : 0 < n) (hp : 0 ≤ np) : ∀ (k : Nat) {rs : List (List AV)}, s_bytes rs → s_p2 n np (s_calls n np rs k)
  | 0, rs, _ => fun r hr => by simp [s_calls] at hr
  | k + 1, rs, hb => fun r hr => by
    simp only [s_calls, List.mem_cons] at hr
    rcases hr with rfl | hr
    · have a1 := at_mod hb 0 (show (0 : Int) < 60 by omega)
      have a2 := at_mod hb 1 hn
      have a3 := at_mod hb 2 (show (0 : Int) < np + 1 by omega)
      have a4 := at_le hb 3
      show (0 ≤ (s_at rs 0).tmod 60 ∧ (s_at rs 0).tmod 60 ≤ 59) ∧ (0 ≤ (s_at rs 1).tmod n ∧ (s_at rs 1).tmod n < n) ∧ (0 ≤ (s_at rs 2).tmod (np + 1) ∧ (s_at rs 2).tmod (np + 1) ≤ np) ∧ (0 ≤ s_at rs 3 ∧ s_at rs 3 ≤ 255)
      omega
    · exact p2_calls hn hp k (bytes_drop 4 hb) r hr
theorem p3_acts : ∀ (k : Nat) {rs : List (List AV)}, s_bytes rs → s_p3 (s_acts rs k)
  | 0, rs, _ => fun r hr => by simp [s_acts] at hr
  | k + 1, rs, hb => fun r hr => by
    simp only [s_acts, List.mem_cons] at hr
    rcases hr with rfl | hr
    · have a1 := at_mod hb 0 (show (0 : Int) < 7 by omega)
      have a2 := at_le hb 1
      have a3 := at_mod hb 2 (show (0 : Int) < 4 by omega)
      show (0 ≤ (s_at rs 0).tmod 7 ∧ (s_at rs 0).tmod 7 ≤ 6) ∧ (0 ≤ s_at rs 1 ∧ s_at rs 1 ≤ 255) ∧ (s_text rs ((s_at rs 2).tmod 4).toNat 3 ⟨#[]⟩).size ≤ 3
      rw [text_size]
      refine ⟨by omega, by omega, ?_⟩
      show 0 + _ ≤ 3
      omega
    · exact p3_acts k (bytes_drop _ hb) r hr
theorem bounds_holds (n pi e g fi : Int) (nl : Bool) (ps : List (List AV)) (nl2 : Bool) (rs : List (List AV)) (hb : s_bytes rs) (hn0 : nl2 = true → rs = []) :
    inlW Try.prog H0 S7B 6 (InO Try.prog H0 S7B 6 6) 7 [cf n pi e g fi nl ps, .row nl2 [.int .u8] rs] [] (fun r => r.1 = .bool true) := by
  refine to (nf7 ..) (br_intro (fun _ => rfl) fun hl => ?_)
  have hl := of_decide_eq_false hl
  intro n' pi' e' g' fi' nl' qs hm
  have hc : s_confOk n' pi' e' g' fi' (List.map (fun r => (r.getD (0 : Nat) AV.gone).toI) (List.map (fun n => [AV.int IntKind.i64 n]) qs)) = true := cfMade_ok hm
  have hn := hm.1
  have hn2 := hm.2.1
  have hq := hm.2.2.2.2.2.2.2.2.2.2.1
  clear hm
  refine ⟨.mk ⟨hc, hb, hn0, by omega⟩, fun nl'' => ?_⟩
  have o1 : (s_rowi (s_on rs n'.toNat)).length = n'.toNat := by unfold s_rowi; rw [irow_len, on_len]
  have o2 := at_mod hb (s_rN n' rs + 0) (show (0 : Int) < 40 by omega)
  have o3 := at_mod hb (n'.toNat + 8 + 8 + 2) (show (0 : Int) < 60 by omega)
  have o4 := at_mod hb (n'.toNat + 8 + 8 + 3) (show (0 : Int) < 60 by omega)
  have o5 := at_mod hb (n'.toNat + 8 + 8 + 0) (show (0 : Int) < 3 by omega)
  have o6 : s_cN n' rs ≤ 15 := by
    unfold s_cN
    have := at_mod hb (s_rN n' rs + 1 + 0) (show (0 : Int) < 16 by omega)
    omega
  have o7 : s_fA (s_drop (n'.toNat + 8 + 8) rs) ≤ 7 := by
    unfold s_fA
    have := at_mod (bytes_drop (n'.toNat + 8 + 8) hb) 4 (show (0 : Int) < 8 by omega)
    omega
  have hlen : (List.map (fun n => [AV.int IntKind.i64 n]) qs).length = qs.length := by simp
  have p1 := p1_on hb n'.toNat
  have p2 := p2_calls (n := n') (np := (qs.length : Int)) (by omega) (by omega) (s_cN n' rs) (bytes_drop (s_rN n' rs + 1 + 1) hb)
  have p3 := p3_acts (s_fA (s_drop (n'.toNat + 8 + 8) rs)) (bytes_drop (n'.toNat + 8 + 8 + 5) hb)
  rw [hlen, calls_len, acts_len, o1, wr (x := (s_at rs (n'.toNat + 8 + 8 + 2)).tmod 60 + 59) (by omega) (by omega)]
  refine br_intro (fun c => ?_) fun c => br_intro (fun c => ?_) fun c => br_intro (fun c => ?_) fun c => br_intro (fun c => ?_) fun c => br_intro (fun c => ?_) fun c => br_intro (fun c => ?_) fun c => br_intro (fun c => ?_) fun c => br_intro (fun c => ?_) fun c => ?_
  · rw [bne_iff_ne] at c; omega
  · have := of_decide_eq_true c; omega
  · have := of_decide_eq_true c; omega
  · have := of_decide_eq_true c; omega
  · have := of_decide_eq_true c; omega
  · have := of_decide_eq_true c; omega
  · have := of_decide_eq_true c; omega
  · have := of_decide_eq_true c; omega
  refine ⟨.mk ⟨by omega, by omega, by omega, p1⟩, .mk ⟨by omega, by omega, by omega, p2⟩, .mk ⟨by omega, by omega, by omega, p3⟩, br_intro (fun _ => ?_) fun c => ?_⟩
  · rw [decide_eq_true (by omega)]
  · have := of_decide_eq_false c; omega
end Go.Proofs.YthihinlamlamhaaE
