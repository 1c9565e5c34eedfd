/- Path mode: the interpreter with continuations. Checks and branches on what is not known stand as propositions. -/
import Derived.Test.YthihinlamlamhaaEvT
namespace Go.Proofs.YthihinlamlamhaaE
open Go
set_option linter.unusedVariables false

/-- A check, a branch. -/
def chk (p : Prop) [Decidable p] (A : Prop) : Prop := Bool.rec (motive := fun _ => Prop) False A (decide p)
def br (b : Bool) (A B : Prop) : Prop := Bool.rec (motive := fun _ => Prop) B A b
theorem chk_iff {p : Prop} [Decidable p] {A : Prop} : chk p A ↔ p ∧ A := by
  unfold chk
  by_cases h : p
  · rw [decide_eq_true h]; simp [h]
  · rw [decide_eq_false h]; simp [h]
theorem br_t {A B : Prop} : br true A B ↔ A := Iff.rfl
theorem br_f {A B : Prop} : br false A B ↔ B := Iff.rfl
theorem br_iff {b : Bool} {A B : Prop} : br b A B ↔ (b = true ∧ A) ∨ (b = false ∧ B) := by cases b <;> simp [br]
theorem br_intro {b : Bool} {A B : Prop} (h1 : b = true → A) (h2 : b = false → B) : br b A B := by
  cases b
  · exact h2 rfl
  · exact h1 rfl

variable {α β : Type}
def optW (x : Option α) (Q : α → Prop) : Prop := match x with | some a => Q a | none => False
/-- The form with a continuation says what the plain one answers. -/
def OkW (x : Option α) (w : (α → Prop) → Prop) : Prop := ∀ Q, w Q → ∃ a, x = some a ∧ Q a
theorem optW_ok (x : Option α) : OkW x (optW x) := fun Q h => by
  cases x with
  | none => exact h.elim
  | some a => exact ⟨a, rfl, h⟩
theorem OkW.bind {x : Option α} {w : (α → Prop) → Prop} {f : α → Option β} {wf : α → (β → Prop) → Prop} (h1 : OkW x w) (h2 : ∀ a, OkW (f a) (wf a)) :
    OkW (x.bind f) (fun Q => w fun a => wf a Q) := fun Q h => by
  obtain ⟨a, rfl, h⟩ := h1 _ h
  exact h2 a Q h
theorem OkW.map {x : Option α} {w : (α → Prop) → Prop} (f : α → β) (h1 : OkW x w) : OkW (x.map f) (fun Q => w fun a => Q (f a)) := fun Q h => by
  obtain ⟨a, rfl, h⟩ := h1 _ h
  exact ⟨_, rfl, h⟩

/-! ### Scalars -/
def shAW (op : BinOp) (k : IntKind) (x y : Int) (Q : AV → Prop) : Prop := chk (¬ y < 0) (match op with
  | .shl => Q (.int k (k.wrap (x * 2 ^ (min y.toNat k.bits))))
  | .shr => Q (.int k (x.fdiv (2 ^ (min y.toNat k.bits))))
  | _ => False)
theorem shAW_ok (op k x y) : OkW (shA op k x y) (shAW op k x y) := fun Q h => by
  unfold shAW at h
  obtain ⟨h1, h2⟩ := chk_iff.1 h
  unfold shA
  rw [if_neg h1]
  cases op <;> first | exact h2.elim | exact ⟨_, rfl, h2⟩
def intAW (op : BinOp) (k : IntKind) (x y : Int) (Q : AV → Prop) : Prop := match op with
  | .quo => chk (y ≠ 0) (Q (.int k (k.wrap (x.tdiv y))))
  | .rem => chk (y ≠ 0) (Q (.int k (x.tmod y)))
  | op => optW (intA op k x y) Q
theorem intAW_ok (op k x y) : OkW (intA op k x y) (intAW op k x y) := fun Q h => by
  unfold intAW at h
  split at h
  · obtain ⟨h1, h2⟩ := chk_iff.1 h
    exact ⟨_, by simp [intA, h1], h2⟩
  · obtain ⟨h1, h2⟩ := chk_iff.1 h
    exact ⟨_, by simp [intA, h1], h2⟩
  · exact optW_ok _ Q h
def strAW (op : BinOp) (x y : ByteArray) (Q : AV → Prop) : Prop := match op with
  | .add => chk (Nat.ble (x.size + y.size) 9223372036854775807 = true) (Q (.str (x ++ y)))
  | op => optW (strA op x y) Q
theorem strAW_ok (op x y) : OkW (strA op x y) (strAW op x y) := fun Q h => by
  unfold strAW at h
  split at h
  · obtain ⟨h1, h2⟩ := chk_iff.1 h
    refine ⟨_, ?_, h2⟩
    unfold strA
    rw [if_neg]
    have : IntKind.i64.max = 9223372036854775807 := by decide
    rw [this]
    have h1 := Nat.le_of_ble_eq_true h1
    omega
  · exact optW_ok _ Q h
def binAW (P : Program) (op : BinOp) (t : TypeId) (x y : AV) (Q : AV → Prop) : Prop := match x, y with
  | .int k a, .int k' b => match op with
    | .shl => shAW .shl k a b Q
    | .shr => shAW .shr k a b Q
    | op => chk (k = k') (intAW op k a b Q)
  | .str a, .str b => strAW op a b Q
  | x, y => optW (binA P op t x y) Q
theorem binAW_ok (P op t x y) : OkW (binA P op t x y) (binAW P op t x y) := fun Q h => by
  unfold binAW at h
  split at h
  · rename_i k a k' b
    split at h
    · exact shAW_ok _ _ _ _ Q h
    · exact shAW_ok _ _ _ _ Q h
    · rename_i h1 h2
      obtain ⟨h3, h4⟩ := chk_iff.1 h
      subst h3
      have e : binA P op t (.int k a) (.int k b) = intA op k a b := by cases op <;> simp_all [binA]
      rw [e]; exact intAW_ok _ _ _ _ Q h4
  · rename_i a b
    exact strAW_ok op a b Q h
  · exact optW_ok _ Q h

/-! ### What writes nothing -/
def loadAW (P : Program) (h : List AObj) (t : TypeId) (a : AV) (Q : AV → Prop) : Prop := match a with
  | .eptr o i f => match h[o]? with
    | some (.arr _ _ sh rs) => chk (i < rs.length) (chk (f + szOf P t ≤ sh.length) (optW (rdCells P t (rowCells sh (rs.getD i []) f (szOf P t))) Q))
    | _ => False
  | a => optW (loadA P h t a) Q
theorem loadAW_ok (P h t a) : OkW (loadA P h t a) (loadAW P h t a) := fun Q hq => by
  unfold loadAW at hq
  split at hq
  · rename_i o i f
    split at hq
    · rename_i sh rs ho
      obtain ⟨h1, hq⟩ := chk_iff.1 hq
      obtain ⟨h2, hq⟩ := chk_iff.1 hq
      have e : loadA P h t (.eptr o i f) = rdCells P t (rowCells sh (rs.getD i []) f (szOf P t)) := by simp only [loadA, ho]; rw [if_pos ⟨h1, h2⟩]
      rw [e]; exact optW_ok _ Q hq
    · exact hq.elim
  · exact optW_ok _ Q hq
def boundAW (y : Nat) (i : Option AV) (d : Nat) (Q : Nat → Prop) : Prop := match i with
  | none => Q d
  | some (.int _ i) => chk (0 ≤ i ∧ i ≤ y) (Q i.toNat)
  | _ => False
theorem boundAW_ok (y i d) : OkW (boundA y i d) (boundAW y i d) := fun Q h => by
  unfold boundAW at h
  split at h
  · exact ⟨_, rfl, h⟩
  · obtain ⟨h1, h2⟩ := chk_iff.1 h
    exact ⟨_, if_pos h1, h2⟩
  · exact h.elim
def sliceAW (P : Program) (h : List AObj) (t : TypeId) (x : AV) (lo hi mx : Option AV) (Q : AV → Prop) : Prop :=
  match x, mx with
  | .str s, none => match P.underlying t with
    | some .string => boundAW s.size hi s.size fun b => boundAW b lo 0 fun a => Q (.str (s.extract a b))
    | _ => False
  | .row nl sh rs, none => match P.underlying t with
    | some (.slice e) => chk (szOf P e = sh.length ∧ 0 < sh.length) (boundAW rs.length hi rs.length fun b => boundAW b lo 0 fun a => Q (.row nl sh ((rs.take b).drop a)))
    | _ => False
  | .sl o off len, none => match h[o]?, P.underlying t with
    | some (.arr _ _ sh _), some (.slice e) => chk (szOf P e = sh.length ∧ 0 < sh.length) (boundAW len hi len fun b => boundAW b lo 0 fun a => chk (a < b ∨ a = 0) (Q (.sl o (off + a) (b - a))))
    | _, _ => False
  | x, mx => optW (sliceA P h t x lo hi mx) Q
theorem sliceAW_ok (P h t x lo hi mx) : OkW (sliceA P h t x lo hi mx) (sliceAW P h t x lo hi mx) := fun Q hq => by
  unfold sliceAW at hq
  split at hq
  · split at hq
    · rename_i hu
      obtain ⟨b, h1, hq⟩ := boundAW_ok _ _ _ _ hq
      obtain ⟨a, h2, hq⟩ := boundAW_ok _ _ _ _ hq
      exact ⟨_, by simp [sliceA, hu, h1, h2], hq⟩
    · exact hq.elim
  · split at hq
    · rename_i e hu
      obtain ⟨h0, hq⟩ := chk_iff.1 hq
      obtain ⟨b, h1, hq⟩ := boundAW_ok _ _ _ _ hq
      obtain ⟨a, h2, hq⟩ := boundAW_ok _ _ _ _ hq
      exact ⟨_, by simp only [sliceA, hu]; rw [if_pos h0]; simp [h1, h2], hq⟩
    · exact hq.elim
  · split at hq
    · rename_i ho hu
      obtain ⟨h0, hq⟩ := chk_iff.1 hq
      obtain ⟨b, h1, hq⟩ := boundAW_ok _ _ _ _ hq
      obtain ⟨a, h2, hq⟩ := boundAW_ok _ _ _ _ hq
      obtain ⟨h3, hq⟩ := chk_iff.1 hq
      exact ⟨_, by simp only [sliceA, hu, ho]; rw [if_pos h0, h1, Option.bind_some, h2, Option.bind_some, if_pos h3], hq⟩
    · exact hq.elim
  · exact optW_ok _ Q hq
def indexAddrAW (P : Program) (h : List AObj) (t : TypeId) (x i : AV) (Q : AV → Prop) : Prop := match i with
  | .int _ i =>
    match P.underlying t, x with
    | some (.slice e), .row _ sh rs => chk (szOf P e = sh.length) (chk (0 ≤ i ∧ i < (rs.length : Int)) (Q (.rptr sh (rs.getD i.toNat []) 0)))
    | some (.slice e), .sl o off len => match h[o]? with
      | some (.arr _ _ sh _) => chk (szOf P e = sh.length ∧ szOf P e ≠ 0) (chk (0 ≤ i ∧ i < (len : Int)) (Q (.eptr o (off + i.toNat) 0)))
      | _ => False
    | some (.array n e), .ptr o off => match h[o]? with
      | some (.box _) => chk (0 ≤ i ∧ i < (n : Int)) (chk (szOf P e ≠ 0) (Q (.ptr o (off + i.toNat * szOf P e))))
      | _ => False
    | _, _ => False
  | _ => False
theorem indexAddrAW_ok (P h t x i) : OkW (indexAddrA P h t x i) (indexAddrAW P h t x i) := fun Q hq => by
  unfold indexAddrAW at hq
  split at hq
  · rename_i i
    split at hq
    · rename_i hu
      obtain ⟨h1, hq⟩ := chk_iff.1 hq
      obtain ⟨h2, hq⟩ := chk_iff.1 hq
      exact ⟨_, by simp only [indexAddrA, hu]; rw [if_pos h1, if_pos h2], hq⟩
    · rename_i hu
      split at hq
      · rename_i ho
        obtain ⟨h1, hq⟩ := chk_iff.1 hq
        obtain ⟨h2, hq⟩ := chk_iff.1 hq
        exact ⟨_, by simp only [indexAddrA, hu, ho]; rw [if_pos h1, if_pos h2], hq⟩
      · exact hq.elim
    · rename_i hu
      split at hq
      · rename_i ho
        obtain ⟨h1, hq⟩ := chk_iff.1 hq
        obtain ⟨h2, hq⟩ := chk_iff.1 hq
        exact ⟨_, by simp only [indexAddrA, hu, ho]; rw [if_pos ⟨h1.1, h1.2, h2⟩], hq⟩
      · exact hq.elim
    · exact hq.elim
  · exact hq.elim
def indexAW (P : Program) (t : TypeId) (x i : AV) (Q : AV → Prop) : Prop := match x, i with
  | .agg cs, .int _ i => match P.underlying t with
    | some (.array n e) => chk (0 ≤ i ∧ i < (n : Int)) (optW (partA P e cs (i.toNat * szOf P e)) Q)
    | _ => False
  | .str s, .int _ i => match P.underlying t with
    | some .string => chk (0 ≤ i ∧ i < (s.size : Int)) (Q (.int .u8 ((s.data.toList.getD i.toNat 0).toNat : Int)))
    | _ => False
  | _, _ => False
theorem indexAW_ok (P t x i) : OkW (indexA P t x i) (indexAW P t x i) := fun Q hq => by
  unfold indexAW at hq
  split at hq
  · split at hq
    · rename_i hu
      obtain ⟨h1, hq⟩ := chk_iff.1 hq
      obtain ⟨a, h2, hq⟩ := optW_ok _ _ hq
      exact ⟨a, by simp only [indexA, hu]; rw [if_pos h1, h2], hq⟩
    · exact hq.elim
  · split at hq
    · rename_i hu
      obtain ⟨h1, hq⟩ := chk_iff.1 hq
      exact ⟨_, by simp only [indexA, hu]; rw [if_pos h1], hq⟩
    · exact hq.elim
  · exact hq.elim
def makeAW (P : Program) (t : TypeId) (ix : Nat) (l c : AV) (Q : AV × Option AObj → Prop) : Prop := match l, c with
  | .int _ l, .int _ c => match P.underlying t with
    | some (.slice e) => match elemSh P e, zeroA P e with
      | some sh, some z => chk (0 ≤ l ∧ l ≤ c ∧ (P.bytesOf e : Int) * c ≤ 140737488355328) (chk (c ≤ 9223372036854775807) (chk (z.length = sh.length ∧ ((sh.zip z).all fun p => kOk p.1 p.2) = true)
          (Q (.sl ix 0 l.toNat, some (.arr 2 e sh (List.replicate l.toNat z))))))
      | _, _ => False
    | _ => False
  | _, _ => False
theorem makeAW_ok (P t ix l c) : OkW (makeA P t ix l c) (makeAW P t ix l c) := fun Q hq => by
  unfold makeAW at hq
  split at hq
  · split at hq
    · rename_i hu
      split at hq
      · rename_i h1 h2
        obtain ⟨h3, hq⟩ := chk_iff.1 hq
        obtain ⟨h4, hq⟩ := chk_iff.1 hq
        obtain ⟨h5, hq⟩ := chk_iff.1 hq
        exact ⟨_, by simp only [makeA, hu, h1, h2]; rw [if_pos ⟨h3.1, h3.2.1, h3.2.2, h4, h5.1, h5.2⟩], hq⟩
      · exact hq.elim
    · exact hq.elim
  · exact hq.elim
def convAW (P : Program) (h : List AObj) (ix : Nat) (src dst : TypeId) (x : AV) (Q : AV × Option AObj → Prop) : Prop :=
  match P.underlying src, P.underlying dst, x with
  | some .string, some (.slice e), .str s => match P.underlying e with
    | some (.int .u8) => chk (szOf P e = 1) (chk (s.size ≤ 140737488355328) (Q (.sl ix 0 s.size, some (.arr 1 e [.int .u8] (bytesRows s.data.toList)))))
    | _ => False
  | some (.slice e), some .string, .sl o off len => match P.underlying e, h[o]? with
    | some (.int .u8), some (.arr _ _ sh rs) => chk (sh = [.int .u8]) (chk (off + len ≤ rs.length) (Q (.str ⟨(rowsBytes ((rs.drop off).take len)).toArray⟩, none)))
    | _, _ => False
  | _, _, _ => optW (convA P h ix src dst x) Q
theorem convAW_ok (P h ix src dst x) : OkW (convA P h ix src dst x) (convAW P h ix src dst x) := fun Q hq => by
  unfold convAW at hq
  split at hq
  · rename_i hu1 hu2
    split at hq
    · rename_i hu
      obtain ⟨h1, hq⟩ := chk_iff.1 hq
      obtain ⟨h2, hq⟩ := chk_iff.1 hq
      exact ⟨_, by simp only [convA, hu1, hu2, hu]; rw [if_pos ⟨h1, h2⟩], hq⟩
    · exact hq.elim
  · rename_i hu1 hu2
    split at hq
    · rename_i hu ho
      obtain ⟨h1, hq⟩ := chk_iff.1 hq
      obtain ⟨h2, hq⟩ := chk_iff.1 hq
      exact ⟨_, by simp only [convA, hu1, hu2, hu, ho]; rw [if_pos ⟨h1, h2⟩], hq⟩
    · exact hq.elim
  · exact optW_ok _ Q hq
def nwAW (P : Program) (ρ : Operand → AV) (h : List AObj) (ix : Nat) (o : Oper) (Q : AV × Option AObj → Prop) : Prop :=
  match o.op with
  | .pick c a b => match ρ c with | .bool t => br t (Q (ρ a, none)) (Q (ρ b, none)) | _ => False
  | .load t a => loadAW P h t (ρ a) fun v => Q (v, none)
  | .binOp op t x y _ => binAW P op t (ρ x) (ρ y) fun v => Q (v, none)
  | .convert src dst x => convAW P h ix src dst (ρ x) Q
  | .makeSlice t l c => makeAW P t ix (ρ l) (ρ c) Q
  | .slice t x lo hi mx => sliceAW P h t (ρ x) (lo.map ρ) (hi.map ρ) (mx.map ρ) fun v => Q (v, none)
  | .indexAddr t x i => indexAddrAW P h t (ρ x) (ρ i) fun v => Q (v, none)
  | .index t x i => indexAW P t (ρ x) (ρ i) fun v => Q (v, none)
  | _ => optW (nwA P ρ h ix o) Q
theorem nwAW_ok (P ρ h ix o) : OkW (nwA P ρ h ix o) (nwAW P ρ h ix o) := fun Q hq => by
  unfold nwAW at hq
  split at hq
  · rename_i c a b ho
    split at hq
    · rename_i t hc
      rcases br_iff.1 hq with ⟨rfl, hq⟩ | ⟨rfl, hq⟩
      · exact ⟨_, by simp only [nwA, ho, hc]; rfl, hq⟩
      · exact ⟨_, by simp only [nwA, ho, hc]; rfl, hq⟩
    · exact hq.elim
  · rename_i t a ho
    obtain ⟨v, h1, h2⟩ := loadAW_ok _ _ _ _ _ hq
    exact ⟨_, by simp only [nwA, ho, h1]; rfl, h2⟩
  · rename_i ho
    obtain ⟨v, h1, h2⟩ := binAW_ok _ _ _ _ _ _ hq
    exact ⟨_, by simp only [nwA, ho, h1]; rfl, h2⟩
  · rename_i ho
    obtain ⟨v, h1, h2⟩ := convAW_ok _ _ _ _ _ _ _ hq
    exact ⟨_, by simp only [nwA, ho, h1], h2⟩
  · rename_i ho
    obtain ⟨v, h1, h2⟩ := makeAW_ok _ _ _ _ _ _ hq
    exact ⟨_, by simp only [nwA, ho, h1], h2⟩
  · rename_i ho
    obtain ⟨v, h1, h2⟩ := sliceAW_ok _ _ _ _ _ _ _ _ hq
    exact ⟨_, by simp only [nwA, ho, h1]; rfl, h2⟩
  · rename_i ho
    obtain ⟨v, h1, h2⟩ := indexAddrAW_ok _ _ _ _ _ _ hq
    exact ⟨_, by simp only [nwA, ho, h1]; rfl, h2⟩
  · rename_i ho
    obtain ⟨v, h1, h2⟩ := indexAW_ok _ _ _ _ _ hq
    exact ⟨_, by simp only [nwA, ho, h1]; rfl, h2⟩
  · exact optW_ok _ Q hq

/-! ### Writers -/
def storeAW (P : Program) (h : List AObj) (t : TypeId) (a v : AV) (Q : List AObj → Prop) : Prop := match a with
  | .eptr o i f => match v.cells?, h[o]? with
    | some new, some (.arr md e sh rs) => chk (new.length = szOf P t ∧ 0 < new.length) (chk (md ≠ 0 ∧ f + new.length ≤ sh.length ∧ (((sh.drop f).zip new).all fun p => kOk p.1 p.2) = true) (chk (i < rs.length)
          (Q (h.set o (.arr md e sh (rs.set i (setAll (rs.getD i []) f new)))))))
    | _, _ => False
  | a => optW (storeA P h t a v) Q
theorem storeAW_ok (P h t a v) : OkW (storeA P h t a v) (storeAW P h t a v) := fun Q hq => by
  unfold storeAW at hq
  split at hq
  · split at hq
    · rename_i hc ho
      obtain ⟨h1, hq⟩ := chk_iff.1 hq
      obtain ⟨h2, hq⟩ := chk_iff.1 hq
      obtain ⟨h3, hq⟩ := chk_iff.1 hq
      exact ⟨_, by simp only [storeA, hc, ho]; rw [if_pos h1, if_pos ⟨h2.1, h3, h2.2.1, h2.2.2⟩], hq⟩
    · exact hq.elim
  · exact optW_ok _ Q hq
def nextAW (h : List AObj) (a : AV) (Q : AV × List AObj → Prop) : Prop := match a with
  | .ptr o 0 => match h[o]? with
    | some (.iter s pos) => br (decide (pos < s.size)) (Q (.tup [.bool true, .int .i64 pos, .int .i32 (Utf8.decode s pos).1], h.set o (.iter s (pos + (Utf8.decode s pos).2)))) (Q (.tup [.bool false], h))
    | _ => False
  | _ => False
theorem nextAW_ok (h a) : OkW (nextA h a) (nextAW h a) := fun Q hq => by
  unfold nextAW at hq
  split at hq
  · split at hq
    · rename_i ho
      rcases br_iff.1 hq with ⟨h1, hq⟩ | ⟨h1, hq⟩
      · exact ⟨_, by simp only [nextA, ho]; rw [if_pos (of_decide_eq_true h1)], hq⟩
      · exact ⟨_, by simp only [nextA, ho]; rw [if_neg (of_decide_eq_false h1)], hq⟩
    · exact hq.elim
  · exact hq.elim
def rowsOfW (h : List AObj) (sh : List K) (x : AV) (Q : List (List AV) → Prop) : Prop := match x with
  | .sl o off len => match h[o]? with
    | some (.arr _ _ sh' rs) => chk (sh' = sh) (chk (off + len ≤ rs.length) (Q ((rs.drop off).take len)))
    | _ => False
  | x => optW (rowsOf h sh x) Q
theorem rowsOfW_ok (h sh x) : OkW (rowsOf h sh x) (rowsOfW h sh x) := fun Q hq => by
  unfold rowsOfW at hq
  split at hq
  · split at hq
    · rename_i ho
      obtain ⟨h1, hq⟩ := chk_iff.1 hq
      obtain ⟨h2, hq⟩ := chk_iff.1 hq
      exact ⟨_, by simp only [rowsOf, ho]; rw [if_pos ⟨h1, h2⟩], hq⟩
    · exact hq.elim
  · exact optW_ok _ Q hq
def appendAW (P : Program) (h : List AObj) (ts : List TypeId) (s x : AV) (Q : AV × List AObj → Prop) : Prop :=
  match ts with
  | [st, xt] => match P.underlying st, P.underlying xt with
    | some (.slice e), some d => match elemSh P e, zeroA P e with
      | some sh, some z => chk (okSrc d ≠ false ∧ z.length = sh.length) (rowsOfW h sh x fun news => match s with
          | .nils => br news.isEmpty (Q (.nils, h)) (chk (news.length * P.bytesOf e ≤ 140737488355328) (chk (news.length ≤ 9223372036854775807) (Q (.sl h.length 0 news.length, h ++ [.arr 2 e sh news]))))
          | .sl o 0 len => match h[o]? with
            | some (.arr 2 e' sh' rs) => chk (e' = e ∧ sh' = sh) (chk (len = rs.length) (chk ((rs.length + news.length) * P.bytesOf e ≤ 140737488355328) (chk (rs.length + news.length ≤ 9223372036854775807)
                (Q (.sl h.length 0 (rs.length + news.length), h.set o .dead ++ [.arr 2 e sh (rs ++ news)])))))
            | _ => False
          | _ => False)
      | _, _ => False
    | _, _ => False
  | _ => False
theorem appendAW_ok (P h ts s x) : OkW (appendA P h ts s x) (appendAW P h ts s x) := fun Q hq => by
  unfold appendAW at hq
  split at hq
  · split at hq
    · rename_i hu1 hu2
      split at hq
      · rename_i h1 h2
        obtain ⟨h3, hq⟩ := chk_iff.1 hq
        obtain ⟨news, h4, hq⟩ := rowsOfW_ok _ _ _ _ hq
        split at hq
        · rcases br_iff.1 hq with ⟨h5, hq⟩ | ⟨h5, hq⟩
          · have h5 := List.isEmpty_iff.1 h5; subst h5
            exact ⟨_, by simp only [appendA, hu1, hu2, h1, h2, h4]; rw [if_neg h3.1, if_pos h3.2], hq⟩
          · obtain ⟨h6, hq⟩ := chk_iff.1 hq
            obtain ⟨h7, hq⟩ := chk_iff.1 hq
            refine ⟨_, ?_, hq⟩
            simp only [appendA, hu1, hu2, h1, h2, h4]; rw [if_neg h3.1, if_pos h3.2]
            cases news with
            | nil => simp at h5
            | cons a l => simp only []; rw [if_pos ⟨h6, h7⟩]
        · split at hq
          · rename_i ho
            obtain ⟨h5, hq⟩ := chk_iff.1 hq
            obtain ⟨h6, hq⟩ := chk_iff.1 hq
            obtain ⟨h7, hq⟩ := chk_iff.1 hq
            obtain ⟨h8, hq⟩ := chk_iff.1 hq
            exact ⟨_, by simp only [appendA, hu1, hu2, h1, h2, h4, ho]; rw [if_neg h3.1, if_pos h3.2, if_pos ⟨h5.1, h5.2, h6, h7, h8⟩], hq⟩
          · exact hq.elim
        · exact hq.elim
      · exact hq.elim
    · exact hq.elim
  · exact hq.elim

/-! ### Freezing, calls -/
mutual
def frVW (h : List AObj) : AV → (AV → Prop) → Prop
  | .sl o off len, Q => match h[o]? with
    | some (.arr _ _ sh rs) => br (rowsPure sh rs) (chk (off + len ≤ rs.length) (Q (.row false sh ((rs.drop off).take len)))) (Q (.sl o off len))
    | _ => Q (.sl o off len)
  | .fn g a b, Q => frLW h a fun a' => frLW h b fun b' => Q (.fn g a' b')
  | .iface t v, Q => frVW h v fun v' => Q (.iface t v')
  | .agg cs, Q => frLW h cs fun cs' => Q (.agg cs')
  | .tup vs, Q => frLW h vs fun vs' => Q (.tup vs')
  | v, Q => Q v
def frLW (h : List AObj) : List AV → (List AV → Prop) → Prop
  | [], Q => Q []
  | v :: l, Q => frVW h v fun v' => frLW h l fun l' => Q (v' :: l')
end
mutual
theorem frVW_ok (h : List AObj) : ∀ (v : AV) (Q : AV → Prop), frVW h v Q → Q (frV h v)
  | .sl o off len, Q, hq => by
    simp only [frVW] at hq
    simp only [frV]
    split at hq
    · rename_i ho
      simp only [ho]
      rcases br_iff.1 hq with ⟨h1, hq⟩ | ⟨h1, hq⟩
      · obtain ⟨h2, hq⟩ := chk_iff.1 hq
        rw [if_pos (by simp [h1, h2])]; exact hq
      · rw [if_neg (by simp [h1])]; exact hq
    · rename_i ho
      split
      · rename_i h1; exact absurd h1 (ho _ _ _ _)
      · exact hq
  | .fn g a b, Q, hq => by simp only [frVW] at hq; simp only [frV]; exact frLW_ok h b _ (frLW_ok h a _ hq)
  | .iface t v, Q, hq => by simp only [frVW] at hq; simp only [frV]; exact frVW_ok h v _ hq
  | .agg cs, Q, hq => by simp only [frVW] at hq; simp only [frV]; exact frLW_ok h cs _ hq
  | .tup vs, Q, hq => by simp only [frVW] at hq; simp only [frV]; exact frLW_ok h vs _ hq
  | .int _ _, Q, hq | .bool _, Q, hq | .str _, Q, hq | .nilp, Q, hq | .ptr _ _, Q, hq | .eptr _ _ _, Q, hq | .rptr _ _ _, Q, hq | .nils, Q, hq | .row _ _ _, Q, hq | .nilf, Q, hq | .nili, Q, hq | .gone, Q, hq => by
    simpa only [frVW, frV] using hq
theorem frLW_ok (h : List AObj) : ∀ (l : List AV) (Q : List AV → Prop), frLW h l Q → Q (frL h l)
  | [], Q, hq => by simpa only [frLW, frL] using hq
  | v :: l, Q, hq => by simp only [frLW] at hq; simp only [frL]; exact frLW_ok h l _ (frVW_ok h v _ hq)
end
end Go.Proofs.YthihinlamlamhaaE
