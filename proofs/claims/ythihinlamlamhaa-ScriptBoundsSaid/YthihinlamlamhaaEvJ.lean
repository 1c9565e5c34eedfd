/- Conversions; all operations that write nothing that was there. -/
import Derived.Test.YthihinlamlamhaaEvI
namespace Go.Proofs.YthihinlamlamhaaE
open Go

section
variable {P : Program} {E : En}

theorem push_all : ∀ (ns : List Int) (r : ByteArray), ns.foldl (fun r n => r.push (UInt8.ofNat n.toNat)) r = ⟨r.data ++ (ns.map fun n => UInt8.ofNat n.toNat).toArray⟩
  | [], r => by simp
  | n :: ns, r => by
    rw [List.foldl_cons, push_all ns]
    simp [ByteArray.push]

theorem bytes_run {b off cap : Nat} {rs : List (List AV)} (hrow : ∀ r ∈ rs, rowOk [.int .u8] r) (hRR : RR E b 1 off rs) :
    (Conv.bytesToString (.slice (some ⟨b, off, none⟩) rs.length cap)).run P E.w = .ok (.string ⟨(rowsBytes rs).toArray⟩) E.w := by
  have hl : (loadCells ⟨b, off, none⟩ rs.length).run P E.w = .ok ((rs.map fun r => AV.toI (r.getD 0 .gone)).map (Value.int .u8)).toArray E.w := by
    have := run_loadCells_list (P := P) (w := E.w) ⟨b, off, none⟩ ((rs.map fun r => AV.toI (r.getD 0 .gone)).map (Value.int .u8)) fun j v hv => by
      rw [List.getElem?_map, List.getElem?_map] at hv
      cases hr : rs[j]? with
      | none => simp [hr] at hv
      | some r =>
        simp [hr] at hv
        have hro := hrow r (List.mem_of_getElem? hr)
        have hc := hRR.get j r hr
        match r, hro, hc, hv with
        | [], hro, _, _ => simp [rowOk] at hro
        | [u], hro, hc, hv =>
          have hk : kOk (.int .u8) u = true := hro.k (j := 0) rfl rfl
          cases u <;> simp [kOk] at hk
          subst hk
          simp only [CR, VR] at hc
          obtain ⟨⟨cv, h1, _, rfl⟩, _⟩ := hc
          simp [AV.toI] at hv
          subst hv
          rw [Addr.add_lit]
          simpa using h1
        | _ :: _ :: _, hro, _, _ => simp [rowOk] at hro
    simpa using this
  rw [run_bytesToString E.w _ _ cap _ hl, push_all]
  simp [rowsBytes, List.map_map, Function.comp_def]

theorem conv_ok {ix : Nat} {src dst : TypeId} {x v : AV} {cx : Value} {ob : Option AObj} (hx : VR E x cx) (h : convA P E.h ix src dst x = some (v, ob)) (hs : Sim E) : Does P E ix (convert src dst cx) v ob := by
  unfold convA at h
  split at h
  · rename_i k0 k k1 n hu1 hu2
    cases h
    simp only [VR] at hx; subst hx
    exact ⟨_, by simp [convert, run_underlying hu1, run_underlying hu2, Conv.intToInt]; rfl, by simp [VR]⟩
  · rename_i k0 k1 n hu1 hu2
    cases h
    simp only [VR] at hx; subst hx
    exact ⟨_, by simp [convert, run_underlying hu1, run_underlying hu2, Conv.intToString]; rfl, by simp [VR]⟩
  · rename_i s hu1 hu2
    cases h
    simp only [VR] at hx; subst hx
    exact ⟨.string s, by simp [convert, run_underlying hu1, run_underlying hu2], by simp [VR]⟩
  · rename_i e s hu1 hu2
    split at h
    · rename_i hu3
      split at h
      · rename_i hc
        cases h
        simp only [VR] at hx; subst hx
        have hcap := grownCap_ge E.w s.size 0 e
        have hcm := grownCap_le_maxLen E.w s.size 0 e (by unfold maxLen; omega)
        have hbl : (bytesRows s.data.toList).length = s.size := by simp [bytesRows]
        have hbsz : (bytesRow s (grownCap E.w s.size 0 e)).size = grownCap E.w s.size 0 e := by
          simp [bytesRow]; omega
        refine ⟨_, _, run_bytes_of_string E.w src dst e s hu1 hu2 hu3, ?_⟩
        have hflat : (bytesRows s.data.toList).flatten = s.data.toList.map fun b => AV.int .u8 b.toNat := by
          unfold bytesRows
          induction s.data.toList with
          | nil => rfl
          | cons b l ih => simp [ih]
        have hna := newArr (E := E) (e := e) (sh := [.int .u8]) (rs := bytesRows s.data.toList) (a := bytesRow s (grownCap E.w s.size 0 e)) (ix := ix) (md := 1) (cap := grownCap E.w s.size 0 e)
          (fr := ((bytesRow s (grownCap E.w s.size 0 e)).size, (bytesRow s (grownCap E.w s.size 0 e)).size + 1)) (by simp)
          (fun r hr => by simp [bytesRows] at hr; obtain ⟨b, _, rfl⟩ := hr; exact ⟨rfl, by simp [kOk]⟩) (by simp [hbsz]) (by rw [hbl]; exact hcap) hcm (fun h => by cases h) (fun i hi => by simp only; omega)
          (fun j v hv => by
            rw [hflat, List.getElem?_map] at hv
            cases hj : s.data.toList[j]? with
            | none => simp [hj] at hv
            | some b =>
              simp [hj] at hv
              subst hv
              have hlt : j < s.data.size := by have := (List.getElem?_eq_some_iff.1 hj).1; simpa using this
              refine ⟨.int .u8 b.toNat, ?_, rfl, by simp [VR]⟩
              have hj' : s.data[j]? = some b := by simpa using hj
              unfold bytesRow
              rw [Array.getElem?_append_left (by simpa using hlt), Array.getElem?_map, hj']
              rfl)
          (w' := E.w.drew.alloc (.cells (bytesRow s (grownCap E.w s.size 0 e)) e ((bytesRow s (grownCap E.w s.size 0 e)).size, (bytesRow s (grownCap E.w s.size 0 e)).size + 1))) rfl rfl rfl rfl
        rw [hbl] at hna
        exact hna
      · cases h
    · cases h
  · rename_i e nl sh rs hu1 hu2
    split at h
    · rename_i hu3
      split at h
      · rename_i hsh
        cases h; subst hsh
        simp only [VR] at hx
        obtain ⟨a, cap, rfl, _, _, _, _, hrest⟩ := hx
        refine ⟨.string ⟨(rowsBytes rs).toArray⟩, ?_, by simp [VR]⟩
        have hconv : (convert src dst (.slice a rs.length cap)).run P E.w = (Conv.bytesToString (.slice a rs.length cap)).run P E.w := run_convert_bytes_string E.w src dst e a rs.length cap hu1 hu3 hu2
        rw [hconv]
        rcases hrest with rfl | ⟨_, b, off, rfl, _, hrow, _, hRR⟩
        · cases a with
          | none => simp [Conv.bytesToString, rowsBytes]; rfl
          | some a =>
            have h2 : (⟨(rowsBytes []).toArray⟩ : ByteArray) = ByteArray.empty := rfl
            rw [h2]
            exact run_bytesToString (P := P) E.w a 0 cap [] (by simp [loadCells, loadCellsFrom])
        · exact bytes_run hrow hRR
      · cases h
    · cases h
  · rename_i e o off len hu1 hu2
    split at h
    · rename_i md e' sh rs hu3 ho
      split at h
      · rename_i hc
        obtain ⟨rfl, hol⟩ := hc
        cases h
        simp only [VR, ho] at hx
        obtain ⟨b, c, cap, hι, rfl, _, _, _⟩ := hx
        obtain ⟨h0, a, lo, hi, hb, hsz, hlc, hcm, hrow, hRR, _⟩ := hs.obj o b c _ hι ho
        have hlen : ((rs.drop off).take len).length = len := by simp; omega
        refine ⟨.string ⟨(rowsBytes ((rs.drop off).take len)).toArray⟩, ?_, by simp [VR]⟩
        have hconv := run_convert_bytes_string (P := P) E.w src dst e (some ⟨b, off * 1, none⟩) len cap hu1 hu3 hu2
        have hby := bytes_run (P := P) (E := E) (b := b) (off := off * 1) (cap := cap) (rs := (rs.drop off).take len) (fun r hr => hrow r (List.mem_of_mem_drop (List.mem_of_mem_take hr))) (by
          have h5 := (hRR.drop off).take len
          simp only [List.length_singleton, Nat.mul_one, Nat.zero_add] at h5
          rw [Nat.mul_one]; exact h5)
        rw [hlen] at hby
        simp only [List.length_singleton]
        rw [hconv, hby]
      · cases h
    · cases h
  · rename_i e hu1 hu2
    split at h
    · rename_i hu3
      cases h
      simp only [VR] at hx; subst hx
      refine ⟨.string .empty, ?_, by simp [VR]⟩
      rw [run_convert_bytes_string E.w src dst e none 0 0 hu1 hu3 hu2]
      simp [Conv.bytesToString]
    · cases h
  · cases h

/-- What an operation comes to in the model. -/
def DoesN (P : Program) (E : En) (ix : Nat) (s : Sem Next) (v : AV) : Option AObj → Prop
  | none => ∃ cv, s.run P E.w = .ok (.value cv) E.w ∧ VR E v cv
  | some ob => ∃ cv w', s.run P E.w = .ok (.value cv) w' ∧ NewO E v ob ix cv w'
theorem Does.n {ix : Nat} {s : Sem Value} {v : AV} {ob : Option AObj} (h : Does P E ix s v ob) : DoesN P E ix (do pure (.value (← s))) v ob := by
  cases ob with
  | none => obtain ⟨cv, h1, h2⟩ := h; exact ⟨cv, by simp [h1], h2⟩
  | some ob => obtain ⟨cv, w', h1, h2⟩ := h; exact ⟨cv, w', by simp [h1], h2⟩
theorem Does.pure {ix : Nat} {cv : Value} {v : AV} (h : VR E v cv) : DoesN P E ix (pure (.value cv)) v none := ⟨cv, rfl, h⟩
theorem ov_ok {t : List AV} {a : Act} (h : VL E t a.tmps.toList) (x : Option Operand) : OV E (x.map (ev t)) (x.map a.eval) := by
  cases x with
  | none => trivial
  | some x => exact ev_ok h x

theorem nw_ok {t : List AV} {a : Act} {ix : Nat} {o : Oper} {v : AV} {ob : Option AObj} (hs : Sim E) (ht : VL E t a.tmps.toList) (h : nwA P (ev t) E.h ix o = some (v, ob)) :
    DoesN P E ix (execOp a.eval o) v ob := by
  have hv := fun x => ev_ok ht x
  have noneOb : ∀ {u : Option AV}, (u.map fun v => (v, (none : Option AObj))) = some (v, ob) → u = some v ∧ ob = none := fun hu => by
    rw [Option.map_eq_some_iff] at hu
    obtain ⟨w, hw, he⟩ := hu
    cases he
    exact ⟨hw, rfl⟩
  unfold nwA at h
  split at h
  case h_1 x hop => cases h; simp only [execOp, hop]; exact Does.pure (hv x)
  case h_2 x hop => cases h; simp only [execOp, hop]; exact Does.pure (hv x)
  case h_3 c x y hop =>
    split at h
    · rename_i b hb
      have hc := hv c
      rw [hb] at hc
      simp only [VR] at hc
      simp only [execOp, hop, hc, asBool, pure_bind]
      cases b
      · rw [if_neg (by simp)] at h; cases h; simpa using Does.pure (hv y)
      · rw [if_pos rfl] at h; cases h; simpa using Does.pure (hv x)
    · cases h
  case h_4 e hop =>
    rw [Option.bind_eq_some_iff] at h
    obtain ⟨z, hz, h⟩ := h
    split at h
    · cases h; simp only [execOp, hop]; exact (alloc_ok hz).n
    · cases h
  case h_5 e x hop =>
    rw [Option.map_eq_some_iff] at h
    obtain ⟨cs, hc, he⟩ := h
    cases he; simp only [execOp, hop]; exact (box_ok (hv x) hc).n
  case h_6 ty ps hop =>
    rw [Option.bind_eq_some_iff] at h
    obtain ⟨z, hz, h⟩ := h
    rw [Option.bind_eq_some_iff] at h
    obtain ⟨pl, hpl, h⟩ := h
    rw [Option.map_eq_some_iff] at h
    obtain ⟨cs, hc, he⟩ := h
    cases he
    simp only [execOp, hop]
    exact (build_ok hz hpl (by simpa using PV.of _ _ hv ps.toList) hc).n
  case h_7 ty len ps hop =>
    split at h
    · rename_i e hu
      split at h
      · rename_i sh z hsh hz
        split at h
        · rename_i hc
          rw [Option.map_eq_some_iff] at h
          obtain ⟨rs, hrs, he⟩ := h
          cases he
          simp only [execOp, hop]
          exact (buildSlice_ok hu hsh hz hc.1 hc.2.1 hc.2.2 (by simpa using PV.of _ _ hv ps.toList) hrs).n
        · cases h
      · cases h
    · cases h
  case h_8 ty x hop =>
    obtain ⟨h2, rfl⟩ := noneOb h
    simp only [execOp, hop]
    exact Does.n (ob := none) (loadA_ok hs (hv x) h2)
  case h_9 x hop =>
    have hc := hv x
    have hnc : ∀ {v : AV}, VR E v (a.eval x) → (∃ q, a.eval x = .pointer (some q)) → DoesN P E ix (execOp a.eval o) v none := fun {v} h1 h2 => by
      obtain ⟨q, hq⟩ := h2
      simp only [execOp, hop, hq]
      exact Does.pure (by rw [← hq]; exact h1)
    split at h
    · rename_i o off hx
      cases h
      rw [hx] at hc
      refine hnc hc ?_
      simp only [VR] at hc
      cases ho : E.h[o]? with
      | none => simp [ho] at hc
      | some obj =>
        cases obj <;> simp only [ho] at hc <;> try (exact hc.elim)
        · obtain ⟨b, c, _, he⟩ := hc; exact ⟨_, he⟩
        · obtain ⟨b, c, _, he⟩ := hc; exact ⟨_, he⟩
        · exact hc
    · rename_i o i f hx
      cases h
      rw [hx] at hc
      refine hnc hc ?_
      simp only [VR] at hc
      cases ho : E.h[o]? with
      | none => simp [ho] at hc
      | some obj =>
        cases obj <;> simp only [ho] at hc <;> try (exact hc.elim)
        · obtain ⟨b, c, _, he⟩ := hc; exact ⟨_, he⟩
        · exact hc
    · rename_i sh cs f hx
      cases h
      rw [hx] at hc
      refine hnc hc ?_
      simp only [VR] at hc
      obtain ⟨b, off, he, _⟩ := hc
      exact ⟨_, he⟩
    · rename_i g p q hx
      cases h
      rw [hx] at hc
      have h1 := hc
      simp only [VR] at h1
      obtain ⟨xs, ys, he, _⟩ := h1
      simp only [execOp, hop, he]
      exact Does.pure (by rw [← he]; exact hc)
    · cases h
  case h_10 op ty x y yt hop =>
    obtain ⟨h2, rfl⟩ := noneOb h
    simp only [execOp, hop]
    exact Does.n (ob := none) (bin_ok (hv x) (hv y) h2)
  case h_11 op ty x hop =>
    obtain ⟨h2, rfl⟩ := noneOb h
    simp only [execOp, hop]
    exact Does.n (ob := none) (un_ok (ix := ix) (hv x) h2)
  case h_12 src dst x hop =>
    simp only [execOp, hop]
    exact (conv_ok (hv x) h hs).n
  case h_13 ty x hop =>
    have hc := hv x
    cases hu : P.underlying ty with
    | none => simp [hu] at h
    | some d =>
      have hni : ∀ ms, d ≠ .interface ms := fun ms hm => by subst hm; simp [hu] at h
      have h2 : v = .iface ty (ev t x) ∧ ob = none := by
        cases d <;> simp only [hu] at h <;> first | (cases h; done) | (cases hx : ev t x <;> simp only [hx] at h <;> first | (cases h; done) | (cases h; exact ⟨rfl, rfl⟩))
      obtain ⟨rfl, rfl⟩ := h2
      have hconc : P.concrete ty = true := by
        unfold Program.concrete
        rw [hu]
        cases d <;> first | rfl | exact absurd rfl (hni _)
      simp only [execOp, hop]
      refine Does.n (ob := none) ⟨.iface ty (a.eval x), run_makeInterface (P := P) E.w ty (a.eval x) hconc, ?_⟩
      simp only [VR]
      exact ⟨_, rfl, hc⟩
  case h_14 f first caps hop =>
    cases h
    simp only [execOp, hop]
    refine Does.n (ob := none) ⟨.func f (first.map a.eval) (caps.map a.eval), rfl, ?_⟩
    simp only [VR]
    exact ⟨_, _, rfl, by simpa using evs_ok ht first.toList, by simpa using evs_ok ht caps.toList⟩
  case h_15 ty l c hop =>
    simp only [execOp, hop]
    exact (make_ok (hv l) (hv c) h).n
  case h_16 ty x lo hi mx hop =>
    obtain ⟨h2, rfl⟩ := noneOb h
    simp only [execOp, hop]
    exact Does.n (ob := none) (slice_ok (hv x) (ov_ok ht lo) (ov_ok ht hi) (ov_ok ht mx) h2)
  case h_17 s x f hop =>
    obtain ⟨h2, rfl⟩ := noneOb h
    simp only [execOp, hop]
    exact Does.n (ob := none) (fieldAddr_ok (hv x) h2)
  case h_18 ty x f hop =>
    obtain ⟨h2, rfl⟩ := noneOb h
    simp only [execOp, hop]
    exact Does.n (ob := none) (field_ok (hv x) h2)
  case h_19 ty x i hop =>
    obtain ⟨h2, rfl⟩ := noneOb h
    simp only [execOp, hop]
    exact Does.n (ob := none) (indexAddr_ok (hv x) (hv i) h2)
  case h_20 ty x i hop =>
    obtain ⟨h2, rfl⟩ := noneOb h
    simp only [execOp, hop]
    exact Does.n (ob := none) (index_ok (hv x) (hv i) h2)
  case h_21 x xt as ok hop =>
    obtain ⟨h2, rfl⟩ := noneOb h
    simp only [execOp, hop]
    exact Does.n (ob := none) (assert_ok (hv x) h2)
  case h_22 x i hop =>
    split at h
    · rename_i vs hx
      obtain ⟨h2, rfl⟩ := noneOb h
      have hc := hv x
      rw [hx] at hc
      simp only [VR] at hc
      obtain ⟨b, he, hl⟩ := hc
      obtain ⟨c, hc2, hr⟩ := hl.get i v h2
      simp only [execOp, hop, he]
      have : b[i]? = some c := by simpa using hc2
      exact Does.n (ob := none) ⟨c, by simp [Instr.extract, this], hr⟩
    · cases h
  case h_23 ty x hop =>
    split at h
    · rename_i s hu hx
      cases h
      have hc := hv x
      rw [hx] at hc
      simp only [VR] at hc
      simp only [execOp, hop, hc]
      refine Does.n (ob := some _) ⟨_, _, run_range_string (P := P) E.w ty s hu, .stringIter s 0, 0, rfl, rfl, rfl, rfl, fun E' hX hι hob x => ⟨hX, ?_⟩⟩
      simp only [VR, hob]
      exact ⟨_, _, hι, rfl⟩
    · cases h
  case h_24 args tys hop =>
    split at h
    · rename_i x ty h1 h2
      obtain ⟨h3, rfl⟩ := noneOb h
      have e1 : args = #[x] := by apply Array.toList_inj.1; simpa using h1
      have e2 : tys = #[ty] := by apply Array.toList_inj.1; simpa using h2
      subst e1; subst e2
      simp only [execOp, hop, resolve, pure_bind, invoke, builtin]
      simpa using Does.n (ob := none) (len_ok (ix := ix) (ty := o.type) (hv x) h3)
    · cases h
  case h_25 args tys hop =>
    obtain ⟨h2, rfl⟩ := noneOb h
    simp only [execOp, hop, resolve, pure_bind, invoke, builtin]
    exact Does.n (ob := none) (min_ok (ix := ix) (by simpa using evs_ok ht args.toList) h2)
  case h_26 args tys hop =>
    obtain ⟨h2, rfl⟩ := noneOb h
    simp only [execOp, hop, resolve, pure_bind, invoke, builtin]
    exact Does.n (ob := none) (max_ok (ix := ix) (by simpa using evs_ok ht args.toList) h2)
  case h_27 => cases h
end
end Go.Proofs.YthihinlamlamhaaE
