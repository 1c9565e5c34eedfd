/- Printed by a program of this session (myprint) out of the translation: the functions as plain Lean functions, and that the calls compute them. What counts is Lean's check. -/
import Derived.OwnWalk
import Derived.Test.YtdkbalaphblobaaPx0
import Derived.Test.YtdkbalaphblobaaPx1
import Derived.Test.YtdkbalaphblobaaPx9
namespace Go.Proofs.Ytdkbalaphblobaa.P
open Go.RowKit Go.Proofs.YtdkbalaphblobaaW.PrintWords Go.Proofs.YtdkbalaphblobaaW.PrintLast Go.Proofs.YtdkbalaphblobaaW.PrintMore
attribute [local go_sem] max2_int min2_int max_two min_two max_three min_three max_four min_four   -- for this text's walks alone
set_option linter.unusedVariables false
set_option linter.unusedSimpArgs false


/-! ### ring_Way: function 34 -/
def ring_Way.l0 : Nat → Int → List Int → Int → Int → Int → List Int → Option (List Int)
  | 0, _, _, _, _, _, _ => none
  | k + 1, n, l, dir, last, d, acc => if d < n then ((ring_At.f n last (wrap64 (dir * d))).bind fun i => ((slices_Contains_int_int.f k l i).bind fun b => (if b = true then (ring_Way.l0 k n l dir last (wrap64 (d + 1)) acc) else (if acc.length < 1000000 then (ring_Way.l0 k n l dir last (wrap64 (d + 1)) (acc ++ [i])) else none)))) else (slices_Clone_int_int.f acc)
def ring_Way.f (k : Nat) (a0 : Int) (l1 : List Int) (a2 : Int) : Option (List Int) :=
  if l1.length = 0 then some [] else if a0 < 6 then some [] else if a0 > 12 then some [] else if a2 = 1 then ring_Way.l0 k a0 l1 a2 (rd l1 ((l1.length : Int) - 1)) 1 [] else ring_Way.l0 k a0 l1 a2 (rd l1 0) 1 []
theorem ring_Way.mono_l : ∀ k, (∀ y0 y1 y2 y3 y4 y5, LeO (ring_Way.l0 k y0 y1 y2 y3 y4 y5) (ring_Way.l0 (k + 1) y0 y1 y2 y3 y4 y5))
  | 0 => fun _ _ _ _ _ _ r h => by simp [ring_Way.l0] at h
  | k + 1 => by
    have ih0 := ring_Way.mono_l k
    · intro y0 y1 y2 y3 y4 y5
      unfold ring_Way.l0
      repeat' first
      | (with_reducible exact ih0 _ _ _ _ _ _)
      | (with_reducible exact slices_Contains_int_int.mono _ _ _)
      | (with_reducible exact LeO.refl _)
      | (with_reducible exact LeO.none _)
      | (with_reducible refine LeO.ite ?_ ?_)
      | (with_reducible refine LeO.bind ?_ (fun _ => ?_))
      | exact ih0 _ _ _ _ _ _
      | exact LeO.none _
      | refine LeO.ite ?_ ?_
      | refine LeO.bind ?_ (fun _ => ?_)
theorem ring_Way.mono : ∀ a0 a1 a2 k, LeO (ring_Way.f k a0 a1 a2) (ring_Way.f (k + 1) a0 a1 a2) := by
  intro a0 a1 a2 k
  have ih0 := ring_Way.mono_l k
  unfold ring_Way.f
  repeat' first
      | (with_reducible exact ih0 _ _ _ _ _ _)
      | (with_reducible exact LeO.refl _)
      | (with_reducible refine LeO.ite ?_ ?_)
      | exact ih0 _ _ _ _ _ _
      | refine LeO.ite ?_ ?_
set_option maxHeartbeats 2000000 in
set_option maxRecDepth 100000 in
theorem ring_put (base g : Nat) (v : Value) (xs ys : List Int) (A : Option Addr) (c : Nat) (w : World) (hg : base ≤ g) (hb : w.heap[g]? = some (.cells #[v] 73 (0, 0)))
    (ho : Kd.R (Kd.int .i64) 3 w base (fun _ => True) v xs) (hr : Kd.C (Kd.int .i64) w A ys.length ys) (hbase : base ≤ w.heap.size) (hl : (xs.length + ys.length) * 8 ≤ 140737488355328) :
    Calls Try.prog 65 #[.pointer (some ⟨g, 0, none⟩), .slice A ys.length c] w fun e w' => e = .returned (.tuple #[]) ∧ ∃ v', w'.heap[g]? = some (.cells #[v'] 73 (0, 0)) ∧ Kd.R (Kd.int .i64) 3 w' base (fun _ => True) v' (xs ++ ys) ∧ Below base w w' := by
  have HO := Aside0.mk ho
  have HB := Aside0.mk hb
  have HR := Aside0.mk hr
  have HS := Aside0.mk hl
  have c0 : w.cell? ⟨g, 0, none⟩ = some v := (blk_cell hb 0).trans rfl
  have hlt := blk_lt hb
  have HN := Aside0.mk (Kd.R_ne ho hb (by decide))
  clear ho hb hr hl
  go_enter Try.func65, Try.ntmps65
  go_wp2_with (at_builtin; refine Kd.R_append_rows (Kd.int .i64) (w0 := w) base rfl (.tmp 8) (.tmp 9) 33 3 (.int .i64 0) 8 rfl Try.underlying33 info3 rfl (by decide) (by omega) v xs ys _ _ _ (fun _ => True) (fun _ => False) rfl rfl HO.out HR.out (fun _ _ h => h) (fun _ h => h.elim) (fun _ _ => trivial) (Below.refl base w) hbase HS.out ?_; intro v1 w1 ho1 hb1 hg1 hat1; obtain ⟨A1, n1, rfl⟩ := Kd.R_slice ho1; have HO1 := Aside0.mk ho1; have HB1 := Aside0.mk hb1; have HK1 := Aside0.mk ((hg1.block g hlt HN.out).trans HB.out); have c1 : w1.cell? ⟨g, 0, none⟩ = some v := (blk_cell HK1.out 0).trans rfl; have f1 := blk_frozen HK1.out 0; clear ho1 hb1 hg1 hat1)
  go_end0
  exact ⟨rfl, _, by simpa using blk_set HK1.out 0 _, Kd.R_set HO1.out HK1.out (by decide) 0 _, HB1.out.setCell (p := ⟨g, 0, none⟩) hg _⟩

theorem C_one (w : World) (b : Nat) (i : Int) (h : w.cell? ⟨b, 0, none⟩ = some (.int .i64 i)) : Kd.C (Kd.int .i64) w (some ⟨b, 0, none⟩) [i].length [i] := by
  refine ⟨rfl, by simp, fun _ => ⟨_, rfl, fun j p hp => ?_⟩⟩
  cases j with
  | zero =>
    obtain rfl : i = p := by simpa using hp
    refine ⟨[.int .i64 i], rfl, rfl, fun q u hu => ?_⟩
    cases q with
    | zero =>
      obtain rfl : Value.int .i64 i = u := by simpa using hu
      simpa [Addr.add] using h
    | succ q => simp at hu
  | succ j => simp at hp
set_option maxHeartbeats 4000000 in
set_option maxRecDepth 100000 in
theorem ring_Way.calls (k : Nat) (a0 : Int) (A1 : Option Addr) (c1 : Nat) (l1 : List Int) (a2 : Int) (r : List Int) (w : World) (hr1 : Kd.C (Kd.int .i64) w A1 l1.length l1) (hc1 : l1.length ≤ c1) (h : ring_Way.f k a0 l1 a2 = some r) :
    Calls Try.prog 34 #[.int .i64 a0, .slice A1 l1.length c1, .int .i64 a2] w fun e w' => ∃ v0_ : Value, e = .returned (v0_) ∧ Kd.R (Kd.int .i64) 3 w' w.heap.size (fun _ => True) v0_ r ∧ Below w.heap.size w w' := by
  have HR := Aside0.mk hr1
  have HC := Aside0.mk hc1
  clear hr1 hc1
  unfold ring_Way.f at h
  by_cases h0 : l1.length = 0
  · rw [if_pos h0] at h
    obtain rfl := Option.some.inj h
    have hb0 : ((l1.length : Int) == 0) = true := beq_iff_eq.mpr (by omega)
    clear h h0
    go_enter Try.func34, Try.ntmps34
    go_wp2
    go_ret
    exact ⟨_, rfl, Kd.R_nil _ _ _ _ _, Below.refl _ _⟩
  rw [if_neg h0] at h
  have hb0 : ((l1.length : Int) == 0) = false := beq_eq_false_iff_ne.mpr (by omega)
  have hp0 : 0 < l1.length := by omega
  clear h0
  by_cases h6 : a0 < 6
  · rw [if_pos h6] at h
    obtain rfl := Option.some.inj h
    clear h
    go_enter Try.func34, Try.ntmps34
    go_wp2
    go_ret
    exact ⟨_, rfl, Kd.R_nil _ _ _ _ _, Below.refl _ _⟩
  rw [if_neg h6] at h
  by_cases h12 : a0 > 12
  · rw [if_pos h12] at h
    obtain rfl := Option.some.inj h
    clear h
    go_enter Try.func34, Try.ntmps34
    go_wp2
    go_ret
    exact ⟨_, rfl, Kd.R_nil _ _ _ _ _, Below.refl _ _⟩
  rw [if_neg h12] at h
  have hbig : l1.length ≤ 9223372036854775807 := HR.out.2.1
  obtain ⟨ad, e1, hx0⟩ := Kd.at_int HR.out 0 (by omega) (by omega)
  obtain ⟨ad2, e2, hx1⟩ := Kd.at_int HR.out ((l1.length : Int) - 1) (by omega) (by omega)
  subst e1
  obtain rfl := Option.some.inj e2
  clear e2
  have haz : ad.add 0 = ad := by cases ad; unfold Addr.add; split <;> simp_all
  have hx2 : w.cell? ad = some (.int .i64 (rd l1 0)) := by rw [← haz]; exact hx0
  clear haz
  have hx3 : w.cell? (ad.add (l1.length - 1)) = some (.int .i64 (rd l1 ((l1.length : Int) - 1))) := by rw [show ((l1.length : Int) - 1).toNat = l1.length - 1 from by omega] at hx1; exact hx1
  clear hx0
  have HX := Aside0.mk h
  clear h
  by_cases hd : a2 = 1
  · have hdb : (a2 == 1) = true := beq_iff_eq.mpr hd
    have HL := HX.out
    rw [if_pos hd] at HL
    have HL := Aside0.mk HL
    clear HX
    clear hd
    go_enter Try.func34, Try.ntmps34
    go_wp2
    have hrow : Aside0 ((w.alloc (.cells #[.slice none 0 0] 73)).heap[w.heap.size]? = some (.cells #[.slice none 0 0] 73 (0, 0))) := ⟨by simpa using heap_alloc_new w _⟩
    have hbel : Aside0 (Below w.heap.size w (w.alloc (.cells #[.slice none 0 0] 73))) := ⟨below_alloc (Below.refl _ _) _⟩
    go_loopg [10] k (fun gk v10 wr => ∃ (d : Int) (acc : List Int) (v : Value), v10 = .int .i64 d ∧ Aside0 (ring_Way.l0 gk a0 l1 a2 (rd l1 ((l1.length : Int) - 1)) d acc = some r) ∧ Aside0 (gk ≤ k) ∧ Aside0 (wr.heap[w.heap.size]? = some (.cells #[v] 73 (0, 0))) ∧ Aside0 (Kd.R (Kd.int .i64) 3 wr w.heap.size (fun _ => True) v acc) ∧ Aside0 (Below w.heap.size w wr))
    case atStart => exact ⟨1, [], _, rfl, HL, ⟨Nat.le_refl _⟩, hrow, ⟨Kd.R_nil _ _ _ _ _⟩, hbel⟩
    case round =>
      clear hrow hbel HL
      obtain ⟨d, acc, v, rfl, HA, HK, HV, HO, HB⟩ := hrel
      cases gk with
      | zero => exact absurd HA.out (by simp [ring_Way.l0])
      | succ k1 =>
        have H := HA.out
        clear HA
        simp only [ring_Way.l0] at H
        have hsz : w.heap.size ≤ wr.heap.size := HB.out.size
        obtain ⟨Av, cv, rfl⟩ := Kd.R_slice HO.out
        by_cases hlt : d < a0
        · rw [if_pos hlt] at H
          have hltb : decide (d < a0) = true := decide_eq_true hlt
          obtain ⟨i, hi, H⟩ := Option.bind_eq_some_iff.mp H
          obtain ⟨b, hb, H⟩ := Option.bind_eq_some_iff.mp H
          have AI := Aside0.mk hi
          have AB := Aside0.mk hb
          clear hi hb hlt
          go_wp2_with fail
          refine (ring_At.calls a0 (rd l1 ((l1.length : Int) - 1)) (wrap64 (a2 * d)) i _ AI.out).mono ?_
          rintro e w2 ⟨rfl, ⟨n2, rfl⟩⟩
          go_wp2_with fail
          refine (slices_Contains_int_int.calls k1 (some ad) c1 l1 i b _ (Kd.C_below HR.out (by exact pw_below_drewN (by exact HB.out) _)) HC.out AB.out).mono ?_
          rintro e w3 ⟨rfl, ⟨n3, rfl⟩⟩
          cases b with
          | true =>
            rw [if_pos rfl] at H
            have HA := Aside0.mk H
            clear H
            go_wp2
            go_roundg k1
            case measure => omega
            case rel => exact ⟨_, acc, _, rfl, HA, ⟨by have := HK.out; omega⟩, HV, ⟨by simpa using Kd.R_below HO.out (pw_below_drewN (Below.refl _ _) _)⟩, ⟨by exact pw_below_drewN HB.out _⟩⟩
          | false =>
            rw [if_neg (by decide)] at H
            by_cases hl : acc.length < 1000000
            · rw [if_pos hl] at H
              have HA := Aside0.mk H
              clear H
              go_wp2_with fail
              have hltw := blk_lt HV.out
              refine (ring_put w.heap.size w.heap.size (.slice Av acc.length cv) acc [i] (some ⟨wr.heap.size, 0, none⟩) 1 _ (Nat.le_refl _) ?h1 ?h2 ?h3 ?h4 ?h5).mono ?_
              case h1 => exact ((below_alloc (pw_below_drewN (Below.refl _ _) _) _).block _ hltw).trans HV.out
              case h2 => exact Kd.R_below HO.out (below_alloc (pw_below_drewN (Below.refl _ _) _) _)
              case h3 => exact C_one _ _ _ ((blk_cell (heap_alloc_new (wr.drewN (n2 + n3)) _) 0).trans rfl)
              case h4 => simp; omega
              case h5 => simp; omega
              rintro e w4 ⟨rfl, v4, hb4, ho4, hB4⟩
              have HV4 := Aside0.mk hb4
              have HO4 := Aside0.mk ho4
              have HB4 := Aside0.mk hB4
              clear hb4 ho4 hB4
              go_wp2
              go_roundg k1
              case measure => omega
              case rel => exact ⟨_, acc ++ [i], v4, rfl, HA, ⟨by have := HK.out; omega⟩, HV4, HO4, ⟨(below_then HB.out hsz (below_alloc (pw_below_drewN (Below.refl _ _) _) _)).trans HB4.out⟩⟩
            · rw [if_neg hl] at H
              cases H
        · rw [if_neg hlt] at H
          have hltb : decide (d < a0) = false := decide_eq_false hlt
          have HA := Aside0.mk H
          clear H hlt
          have hcell : wr.cell? ⟨w.heap.size, 0, none⟩ = some (.slice Av acc.length cv) := (blk_cell HV.out 0).trans rfl
          obtain ⟨A9, c9, he9, hl9, hC9⟩ := Kd.R_reads HO.out
          injection he9 with he1 he2 he3
          subst he1 he3
          go_wp2_with fail
          refine (slices_Clone_int_int.calls Av cv acc r _ hC9 hl9 HA.out).mono ?_
          rintro e w5 ⟨v5, rfl, ho5, hB5⟩
          have HO5 := Aside0.mk (Kd.R_lower ho5 hsz)
          have HB5 := Aside0.mk (below_then HB.out hsz hB5)
          clear ho5 hB5 hC9
          go_wp2
          go_ret
          exact ⟨_, rfl, HO5.out, HB5.out⟩
  · have hdb : (a2 == 1) = false := beq_eq_false_iff_ne.mpr hd
    have HL := HX.out
    rw [if_neg hd] at HL
    have HL := Aside0.mk HL
    clear HX
    clear hd
    go_enter Try.func34, Try.ntmps34
    go_wp2
    have hrow : Aside0 ((w.alloc (.cells #[.slice none 0 0] 73)).heap[w.heap.size]? = some (.cells #[.slice none 0 0] 73 (0, 0))) := ⟨by simpa using heap_alloc_new w _⟩
    have hbel : Aside0 (Below w.heap.size w (w.alloc (.cells #[.slice none 0 0] 73))) := ⟨below_alloc (Below.refl _ _) _⟩
    go_loopg [10] k (fun gk v10 wr => ∃ (d : Int) (acc : List Int) (v : Value), v10 = .int .i64 d ∧ Aside0 (ring_Way.l0 gk a0 l1 a2 (rd l1 0) d acc = some r) ∧ Aside0 (gk ≤ k) ∧ Aside0 (wr.heap[w.heap.size]? = some (.cells #[v] 73 (0, 0))) ∧ Aside0 (Kd.R (Kd.int .i64) 3 wr w.heap.size (fun _ => True) v acc) ∧ Aside0 (Below w.heap.size w wr))
    case atStart => exact ⟨1, [], _, rfl, HL, ⟨Nat.le_refl _⟩, hrow, ⟨Kd.R_nil _ _ _ _ _⟩, hbel⟩
    case round =>
      clear hrow hbel HL
      obtain ⟨d, acc, v, rfl, HA, HK, HV, HO, HB⟩ := hrel
      cases gk with
      | zero => exact absurd HA.out (by simp [ring_Way.l0])
      | succ k1 =>
        have H := HA.out
        clear HA
        simp only [ring_Way.l0] at H
        have hsz : w.heap.size ≤ wr.heap.size := HB.out.size
        obtain ⟨Av, cv, rfl⟩ := Kd.R_slice HO.out
        by_cases hlt : d < a0
        · rw [if_pos hlt] at H
          have hltb : decide (d < a0) = true := decide_eq_true hlt
          obtain ⟨i, hi, H⟩ := Option.bind_eq_some_iff.mp H
          obtain ⟨b, hb, H⟩ := Option.bind_eq_some_iff.mp H
          have AI := Aside0.mk hi
          have AB := Aside0.mk hb
          clear hi hb hlt
          go_wp2_with fail
          refine (ring_At.calls a0 (rd l1 0) (wrap64 (a2 * d)) i _ AI.out).mono ?_
          rintro e w2 ⟨rfl, ⟨n2, rfl⟩⟩
          go_wp2_with fail
          refine (slices_Contains_int_int.calls k1 (some ad) c1 l1 i b _ (Kd.C_below HR.out (by exact pw_below_drewN (by exact HB.out) _)) HC.out AB.out).mono ?_
          rintro e w3 ⟨rfl, ⟨n3, rfl⟩⟩
          cases b with
          | true =>
            rw [if_pos rfl] at H
            have HA := Aside0.mk H
            clear H
            go_wp2
            go_roundg k1
            case measure => omega
            case rel => exact ⟨_, acc, _, rfl, HA, ⟨by have := HK.out; omega⟩, HV, ⟨by simpa using Kd.R_below HO.out (pw_below_drewN (Below.refl _ _) _)⟩, ⟨by exact pw_below_drewN HB.out _⟩⟩
          | false =>
            rw [if_neg (by decide)] at H
            by_cases hl : acc.length < 1000000
            · rw [if_pos hl] at H
              have HA := Aside0.mk H
              clear H
              go_wp2_with fail
              have hltw := blk_lt HV.out
              refine (ring_put w.heap.size w.heap.size (.slice Av acc.length cv) acc [i] (some ⟨wr.heap.size, 0, none⟩) 1 _ (Nat.le_refl _) ?h1 ?h2 ?h3 ?h4 ?h5).mono ?_
              case h1 => exact ((below_alloc (pw_below_drewN (Below.refl _ _) _) _).block _ hltw).trans HV.out
              case h2 => exact Kd.R_below HO.out (below_alloc (pw_below_drewN (Below.refl _ _) _) _)
              case h3 => exact C_one _ _ _ ((blk_cell (heap_alloc_new (wr.drewN (n2 + n3)) _) 0).trans rfl)
              case h4 => simp; omega
              case h5 => simp; omega
              rintro e w4 ⟨rfl, v4, hb4, ho4, hB4⟩
              have HV4 := Aside0.mk hb4
              have HO4 := Aside0.mk ho4
              have HB4 := Aside0.mk hB4
              clear hb4 ho4 hB4
              go_wp2
              go_roundg k1
              case measure => omega
              case rel => exact ⟨_, acc ++ [i], v4, rfl, HA, ⟨by have := HK.out; omega⟩, HV4, HO4, ⟨(below_then HB.out hsz (below_alloc (pw_below_drewN (Below.refl _ _) _) _)).trans HB4.out⟩⟩
            · rw [if_neg hl] at H
              cases H
        · rw [if_neg hlt] at H
          have hltb : decide (d < a0) = false := decide_eq_false hlt
          have HA := Aside0.mk H
          clear H hlt
          have hcell : wr.cell? ⟨w.heap.size, 0, none⟩ = some (.slice Av acc.length cv) := (blk_cell HV.out 0).trans rfl
          obtain ⟨A9, c9, he9, hl9, hC9⟩ := Kd.R_reads HO.out
          injection he9 with he1 he2 he3
          subst he1 he3
          go_wp2_with fail
          refine (slices_Clone_int_int.calls Av cv acc r _ hC9 hl9 HA.out).mono ?_
          rintro e w5 ⟨v5, rfl, ho5, hB5⟩
          have HO5 := Aside0.mk (Kd.R_lower ho5 hsz)
          have HB5 := Aside0.mk (below_then HB.out hsz hB5)
          clear ho5 hB5 hC9
          go_wp2
          go_ret
          exact ⟨_, rfl, HO5.out, HB5.out⟩

end Go.Proofs.Ytdkbalaphblobaa.P
