/- Regions of code, those that draw their order among them, run in the abstract machine as in the model: first part. Condition: none. -/
import Derived.Test.YtejhenloolgmkaaGreatDoorMb
import Derived.LoopN
namespace Go.Proofs.YtejhenloolgmkaaGreatDoor
open Go
set_option linter.all false
noncomputable section
namespace AM
section
/-! ## Code -/
/-- What is so of a frame. -/
structure FR (σ : Sg) (nt : Nat) (f : Frame) (a : Act) : Prop where
  size : a.tmps.size = nt
  val : ∀ n, n < 512 → VR σ (getT n f) (a.eval (.tmp n))

theorem FR.mono {σ σ' : Sg} {nt : Nat} {f : Frame} {a : Act} (h : FR σ nt f a) (hm : ∀ id l, σ id = some l → σ' id = some l) : FR σ' nt f a := ⟨h.size, fun n hn => (h.val n hn).mono hm⟩
theorem FR.put {σ : Sg} {nt : Nat} {f : Frame} {a : Act} (h : FR σ nt f a) {s : Sel} (hs : s.n < nt) {v : AV} {v' : Value} (hv : VR σ v v') : FR σ nt (s.set v f) (a.put (some s.n) v') := by
  refine ⟨by simp [Act.put, h.size], fun n hn => ?_⟩
  rw [s.setE]
  by_cases he : s.n = n
  · subst he
    rw [getT_setT_same]
    have : s.n < a.tmps.size := by rw [h.size]; exact hs
    simp only [Act.eval, Act.put]
    rw [Array.getD_eq_getD_getElem?, Array.getElem?_setIfInBounds_self_of_lt this]
    exact hv
  · rw [getT_setT_ne _ _ _ _ he s.lt hn]
    have := h.val n hn
    simp only [Act.eval, Act.put] at this ⊢
    rw [Array.getD_eq_getD_getElem?, Array.getElem?_setIfInBounds_ne he, ← Array.getD_eq_getD_getElem?]
    exact this

inductive ItOk (P : Program) (nt : Nat) (ops : Array Oper) : It → Oper → Prop
  | o (d : Sel) (l : LOp) (o : Oper) (hg : o.guard = none) (hd : o.dst = some d.n) (hn : d.n < nt) (h : OpOk P l o.op) : ItOk P nt ops (.o d l) o
  | n (l : LOp) (o : Oper) (hg : o.guard = none) (hd : o.dst = none) (h : OpOk P l o.op) : ItOk P nt ops (.n l) o
  | g (s : Sel) (want : Bool) (d : Sel) (l : LOp) (o : Oper) (j : Nat) (hg : o.guard = some (j, want)) (hj : (ops[j]?).bind (·.dst) = some s.n) (hs : s.n < nt) (hd : o.dst = some d.n) (hn : d.n < nt) (h : OpOk P l o.op) : ItOk P nt ops (.g s want d l) o
  | gn (s : Sel) (want : Bool) (l : LOp) (o : Oper) (j : Nat) (hg : o.guard = some (j, want)) (hj : (ops[j]?).bind (·.dst) = some s.n) (hs : s.n < nt) (hd : o.dst = none) (h : OpOk P l o.op) : ItOk P nt ops (.gn s want l) o
inductive ItsOk (P : Program) (nt : Nat) (ops : Array Oper) : List It → List Nat → Prop
  | nil : ItsOk P nt ops [] []
  | cons (x : It) (i : Nat) (o : Oper) (xs : List It) (is : List Nat) (ho : ops[i]? = some o) (h : ItOk P nt ops x o) (hs : ItsOk P nt ops xs is) : ItsOk P nt ops (x :: xs) (i :: is)

section
variable {X : Par} {σ : Sg} {A : AW} {w : World} {CE : Nat → List AV → AW → CRes}

theorem lands_upon {r : Result Next} {p : AV × AW} {o : Oper} {a : Act} {next : Act → World → Prop} {Q : Exit → Act → World → Prop} (h : Lands X σ A w r p)
    (hn : ∀ σ' v' w', VR σ' p.1 v' → HR X σ' p.2 w' → Ext σ A w σ' p.2 w' → next (a.put o.dst v') w') : o.upon X.P a next Q r := by
  cases r with
  | halt x w' => exact h.elim
  | ok n w' =>
    cases n with
    | value v => obtain ⟨σ', h1, h2, h3⟩ := h; exact hn σ' v w' h1 h2 h3
    | skip => obtain ⟨σ', h1, h2, h3⟩ := h; exact hn σ' undef w' h1 h2 h3
    | enter f args =>
      refine Calls.mono h fun e w'' he => ?_
      obtain ⟨v', σ', rfl, h1, h2, h3⟩ := he
      exact hn σ' v' w'' h1 h2 h3
    | _ => exact h.elim

theorem gdV_cases {v : AV} {v' : Value} (hv : VR σ v v') (want : Bool) (K0 K1 : Res) :
    gdV v want K0 K1 = .fail ∨ (gdV v want K0 K1 = K1 ∧ v' = .bool want) ∨ (gdV v want K0 K1 = K0 ∧ v' ≠ .bool want) := by
  cases hv with
  | any v h => exact .inl rfl
  | num i l h => exact .inl rfl
  | b t => cases t <;> cases want <;> first | exact .inr (.inl ⟨rfl, rfl⟩) | exact .inr (.inr ⟨rfl, by simp⟩)
  | _ => exact .inr (.inr ⟨rfl, by simp⟩)
theorem yielded_eq {nt : Nat} {f : Frame} {a : Act} (hf : FR σ nt f a) {ops : Array Oper} {j : Nat} {s : Sel} (hj : (ops[j]?).bind (·.dst) = some s.n) (hs : s.n < nt) :
    ∃ v', a.eval (.tmp s.n) = v' ∧ yielded ops a.tmps j = (match v' with | .bool b => some b | _ => none) := by
  refine ⟨_, rfl, ?_⟩
  have hlt : s.n < a.tmps.size := by rw [hf.size]; exact hs
  simp only [yielded, hj, Option.bind_some, Act.eval, Array.getElem?_eq_getElem hlt, Array.getD_eq_getD_getElem?, Option.getD_some]
  cases a.tmps[s.n] <;> rfl

/-- A result and the exit that it stands for. -/
inductive RMatch : Res → Exit → Frame → AW → Prop
  | nrm (f : Frame) (A : AW) : RMatch (.nrm f A) .normal f A
  | ret (f : Frame) (A : AW) : RMatch (.ret f A) .ret f A
  | ex (id : Nat) (f : Frame) (A : AW) : RMatch (.ex id f A) (.exit id) f A
def CPost (X : Par) (nt : Nat) (σ : Sg) (A : AW) (w : World) (r : Res) (e : Exit) (a' : Act) (w' : World) : Prop :=
  ∃ σ' f' A', RMatch r e f' A' ∧ HR X σ' A' w' ∧ FR σ' nt f' a' ∧ a'.defers = [] ∧ Ext σ A w σ' A' w'
theorem CPost.trans {nt : Nat} {σ σ' : Sg} {A A' : AW} {w w' : World} {r : Res} {e : Exit} {a'' : Act} {w'' : World} (h : Ext σ A w σ' A' w') (k : CPost X nt σ' A' w' r e a'' w'') : CPost X nt σ A w r e a'' w'' :=
  let ⟨σ2, f2, A2, h1, h2, h3, h4, h5⟩ := k; ⟨σ2, f2, A2, h1, h2, h3, h4, h.trans h5⟩

theorem its_sound (hCE : CEok X CE) {nt : Nat} {ops : Array Oper} {items : List It} {is : List Nat} (hi : ItsOk X.P nt ops items is) {r : Res} (hr : r ≠ .fail) :
    ∀ {σ : Sg} {f : Frame} {A : AW} {a : Act} {w : World}, HR X σ A w → FR σ nt f a → a.defers = [] → runIts X.G CE items f A = r → ∀ (Q : Exit → Act → World → Prop), (∀ e a' w', CPost X nt σ A w r e a' w' → Q e a' w') → wpOps X.P ops Q is a w := by
  induction hi with
  | nil => intro σ f A a w h hf hd he Q hq; exact hq _ _ _ ⟨σ, f, A, he ▸ .nrm f A, h, hf, hd, .refl _ _ _⟩
  | cons x i o xs is ho hx hs ih =>
    intro σ f A a w h hf hd he Q hq
    have hA : ∀ x y, ArgOk x y → y ∈ o.op.operands → VR σ (x.ev f) (a.eval y) := fun x y hxy _ => hxy.rel fun n _ hn => hf.val n hn
    -- carried out
    have go : ∀ {l : LOp} (F : AV → Frame), OpOk X.P l o.op → Region.wanted o (yielded ops a.tmps) = true →
        (∀ σ' v v', VR σ' v v' → (∀ id l, σ id = some l → σ' id = some l) → FR σ' nt (F v) (a.put o.dst v')) →
        (stepOp X.G CE l f A fun v A' => runIts X.G CE xs (F v) A') = r → wpOps X.P ops Q (i :: is) a w := by
      intro l F hop hw hF heq
      rcases step_sound (w := w) hCE hop h hA with hfail | ⟨v, A', hK, hl⟩
      · exact absurd (heq.symm.trans (hfail _)) hr
      · rw [hK] at heq
        simp only [wpOps, ho, hw, if_true]
        exact .inl (lands_upon hl fun σ' v' w' h1 h2 h3 => ih h2 (hF σ' v v' h1 h3.mono) (by cases o.dst <;> exact hd) heq Q fun e a'' w'' hc => hq e a'' w'' (hc.trans h3))
    -- not wanted
    have skip : ∀ (F : Frame), Region.wanted o (yielded ops a.tmps) = false → FR σ nt F (a.put o.dst undef) → runIts X.G CE xs F A = r → wpOps X.P ops Q (i :: is) a w := by
      intro F hw hF heq
      simp only [wpOps, ho, hw, Bool.false_eq_true, if_false]
      exact ih h hF (by cases o.dst <;> exact hd) heq Q hq
    have hund : VR σ undefA undef := .tup _ _ .nil
    cases hx with
    | o d l _ hg hd' hn hop =>
      exact go (fun v => d.set v f) hop (by simp [Region.wanted, hg]) (fun σ' v v' hv hm => by rw [hd']; exact (hf.mono hm).put hn hv) he
    | n l _ hg hd' hop =>
      exact go (fun _ => f) hop (by simp [Region.wanted, hg]) (fun σ' v v' hv hm => by rw [hd']; exact hf.mono hm) he
    | g s want d l _ j hg hj hs' hd' hn hop =>
      obtain ⟨v', hv', hy⟩ := yielded_eq hf hj hs'
      have hvr := hf.val s.n s.lt
      rw [hv', ← s.getE] at hvr
      have he' : gdV (s.get f) want (runIts X.G CE xs (d.set undefA f) A) (stepOp X.G CE l f A fun v A' => runIts X.G CE xs (d.set v f) A') = r := he
      rcases gdV_cases hvr want (runIts X.G CE xs (d.set undefA f) A) (stepOp X.G CE l f A fun v A' => runIts X.G CE xs (d.set v f) A') with h1 | ⟨h1, h2⟩ | ⟨h1, h2⟩
      · exact absurd (he'.symm.trans h1) hr
      · exact go (fun v => d.set v f) hop (by simp [Region.wanted, hg, hy, h2]) (fun σ' v v' hv hm => by rw [hd']; exact (hf.mono hm).put hn hv) (h1.symm.trans he')
      · refine skip (d.set undefA f) ?_ (by rw [hd']; exact hf.put hn hund) (h1.symm.trans he')
        simp only [Region.wanted, hg, hy]
        cases v' <;> simp_all
    | gn s want l _ j hg hj hs' hd' hop =>
      obtain ⟨v', hv', hy⟩ := yielded_eq hf hj hs'
      have hvr := hf.val s.n s.lt
      rw [hv', ← s.getE] at hvr
      have he' : gdV (s.get f) want (runIts X.G CE xs f A) (stepOp X.G CE l f A fun _ A' => runIts X.G CE xs f A') = r := he
      rcases gdV_cases hvr want (runIts X.G CE xs f A) (stepOp X.G CE l f A fun _ A' => runIts X.G CE xs f A') with h1 | ⟨h1, h2⟩ | ⟨h1, h2⟩
      · exact absurd (he'.symm.trans h1) hr
      · exact go (fun _ => f) hop (by simp [Region.wanted, hg, hy, h2]) (fun σ' v v' hv hm => by rw [hd']; exact hf.mono hm) (h1.symm.trans he')
      · refine skip f ?_ (by rw [hd']; exact hf) (h1.symm.trans he')
        simp only [Region.wanted, hg, hy]
        cases v' <;> simp_all
end
end
section
/-! ## Regions that draw their order: objects that are not yet, and no more, in the abstract heap -/
section
variable {X : Par} {σ : Sg} {A : AW} {w : World}

theorem HR.congr {A2 : AW} (h : HR X σ A w) (hl : ∀ id o, Lv A2 id o ↔ Lv A id o) (hn : A2.next = A.next) (hf : A2.frag = A.frag) : HR X σ A2 w where
  obj id o hh := h.obj id o ((hl id o).1 hh)
  inj id id' o o' l l' h1 h2 := h.inj id id' o o' l l' ((hl _ _).1 h1) ((hl _ _).1 h2)
  dom id l hs := by rw [hn]; exact h.dom id l hs
  next := by rw [hn]; exact h.next
  base := h.base
  glob := h.glob
  val := h.val
  fdom i id hi := by
    rw [hf] at hi
    obtain ⟨l, h1, h2⟩ := h.fdom i id hi
    exact ⟨l, h1, fun id' o' l' hh hs => h2 id' o' l' ((hl _ _).1 hh) hs⟩
  frag := by
    have : locF σ A2 = locF σ A := by funext i; unfold locF; rw [hf]
    rw [this, hf]; exact h.frag
theorem Ext.congr {σ0 : Sg} {A0 A2 : AW} {w0 : World} (h : Ext σ0 A0 w0 σ A w) (hl : ∀ id o, Lv A2 id o ↔ Lv A id o) (hn : A2.next = A.next) (hf : A2.frag = A.frag) : Ext σ0 A0 w0 σ A2 w where
  mono := h.mono
  low := h.low
  nx := by rw [hn]; exact h.nx
  size := h.size
  so := h.so
  keep b hb hn' hf' := h.keep b hb hn' (by rw [hf] at hf'; exact hf')
  blocks id o l hh hs := h.blocks id o l ((hl _ _).1 hh) hs
  fk := by rw [hf]; exact h.fk
  fblocks i l hl' := h.fblocks i l (by unfold locF at hl' ⊢; rw [hf] at hl'; exact hl')

theorem Lv_put_iff {i : Nat} (hi : i < 32768) {o : Option AO} {id : Nat} {o' : AO} : Lv (put A i o) id o' ↔ (id = i ∧ o = some o') ∨ (id ≠ i ∧ Lv A id o') := by
  constructor
  · intro h
    rcases Lv_put hi h with ⟨h1, h2⟩ | h1
    · exact .inl ⟨h1, h2.symm⟩
    · exact .inr h1
  · rintro (⟨rfl, rfl⟩ | ⟨h1, h2, h3⟩)
    · exact ⟨hi, by simp only [put]; rw [getH_setH_same]⟩
    · exact ⟨h2, by simp only [put]; rw [getH_setH_ne _ _ _ _ (Ne.symm h1) hi h2]; exact h3⟩

/-- What is so of an object that stands in the model's heap and not yet in the abstract one. -/
structure PendAt (X : Par) (σ : Sg) (A : AW) (w : World) (id : Nat) (o : AO) (l : Loc) : Prop where
  loc : σ id = some l
  ob : ∃ ob, w.heap[l.block]? = some ob ∧ OR σ l o ob
  base : X.B ≤ l.block
  apart : ∀ id' o' l', Lv A id' o' → σ id' = some l' → l'.block ≠ l.block
  apartF : ∀ i l', locF σ A i = some l' → l'.block ≠ l.block

/-- It is put into the abstract heap. -/
theorem HR.add (h : HR X σ A w) {id : Nat} {o : AO} {l : Loc} (p : PendAt X σ A w id o l) : HR X σ (put A id (some o)) w := by
  have hi : id < 32768 := Nat.lt_of_lt_of_le (h.dom _ _ p.loc).1 h.next
  have hlv : ∀ id' o', Lv (put A id (some o)) id' o' → (id' = id ∧ o' = o) ∨ (id' ≠ id ∧ Lv A id' o') := fun id' o' hh => by
    rcases (Lv_put_iff hi).1 hh with ⟨h1, h2⟩ | h1
    · cases h2; exact .inl ⟨h1, rfl⟩
    · exact .inr h1
  refine ⟨fun id' o' hh => ?_, fun id1 id2 o1 o2 l1 l2 k1 k2 s1 s2 he => ?_, h.dom, h.next, h.base, h.glob, h.val, fun i id' hi' => ?_, h.frag⟩
  · rcases hlv _ _ hh with ⟨rfl, rfl⟩ | ⟨_, h2⟩
    · obtain ⟨ob, h3, h4⟩ := p.ob
      exact ⟨l, ob, p.loc, h3, h4, p.base⟩
    · exact h.obj _ _ h2
  · rcases hlv _ _ k1 with ⟨rfl, rfl⟩ | ⟨_, h1⟩ <;> rcases hlv _ _ k2 with ⟨rfl, rfl⟩ | ⟨_, h2⟩
    · rfl
    · rw [p.loc] at s1; cases s1
      exact absurd he.symm (p.apart _ _ _ h2 s2)
    · rw [p.loc] at s2; cases s2
      exact absurd he (p.apart _ _ _ h1 s1)
    · exact h.inj _ _ _ _ _ _ h1 h2 s1 s2 he
  · obtain ⟨l1, h1, h2⟩ := h.fdom i id' hi'
    refine ⟨l1, h1, fun id2 o2 l2 hh hs => ?_⟩
    rcases hlv _ _ hh with ⟨rfl, _⟩ | ⟨_, h3⟩
    · rw [p.loc] at hs; cases hs
      exact fun he => p.apartF i l1 (by show (A.frag.ix i).bind σ = _; rw [show A.frag.ix i = some id' from hi']; exact h1) he.symm
    · exact h2 id2 o2 l2 h3 hs
theorem Ext.add {σ0 : Sg} {A0 : AW} {w0 : World} (h : Ext σ0 A0 w0 σ A w) {id : Nat} (hi : id < 32768) {o : AO} {l : Loc} (hl : σ id = some l) (hb : w0.heap.size ≤ l.block) : Ext σ0 A0 w0 σ (put A id (some o)) w where
  mono := h.mono
  low := h.low
  nx := h.nx
  size := h.size
  keep := h.keep
  so := h.so
  fk := h.fk
  fblocks := h.fblocks
  blocks id' o' l' hh hs := by
    rcases (Lv_put_iff hi).1 hh with ⟨rfl, _⟩ | ⟨_, h2⟩
    · rw [hl] at hs; cases hs; exact .inl hb
    · exact h.blocks id' o' l' h2 hs

/-- A new object that is not put into the abstract heap yet. -/
theorem HR.pend {w' : World} (h : HR X σ A w) {id : Nat} (hid : id < A.next) (hs : σ id = none) {ob : Obj} (hw : w'.heap = w.heap.push ob) (sz : Nat) :
    HR X (ext σ id ⟨w.heap.size, 0, sz⟩) A w' := by
  have hmono := ext_mono (l := ⟨w.heap.size, 0, sz⟩) hs
  have hself : ext σ id ⟨w.heap.size, 0, sz⟩ id = some ⟨w.heap.size, 0, sz⟩ := by simp [ext]
  have hother : ∀ i, i ≠ id → ext σ id ⟨w.heap.size, 0, sz⟩ i = σ i := fun i hi => by simp [ext, hi]
  have hlive : ∀ id' o, Lv A id' o → id' ≠ id := fun id' o hl he => by
    obtain ⟨l, _, h1, _⟩ := h.obj id' o hl
    rw [he, hs] at h1; cases h1
  refine ⟨fun id' o hl => ?_, fun id1 id2 o1 o2 l1 l2 k1 k2 s1 s2 he => ?_, fun id' l hl => ?_, h.next, by rw [hw, Array.size_push]; have := h.base; omega, fun g hg => ?_, fun l hl => hmono _ _ (h.val l hl), fun i id' hi => ?_, ?_⟩
  · obtain ⟨l, ob', h1, h2, h3, h4⟩ := h.obj id' o hl
    refine ⟨l, ob', hmono _ _ h1, ?_, h3.mono hmono, h4⟩
    have := (h.dom _ _ h1).2
    rw [hw, Array.getElem?_push, if_neg (by omega), h2]
  · rw [hother _ (hlive _ _ k1)] at s1
    rw [hother _ (hlive _ _ k2)] at s2
    exact h.inj _ _ _ _ _ _ k1 k2 s1 s2 he
  · by_cases h1 : id' = id
    · rw [h1, hself] at hl; cases hl
      exact ⟨by rw [h1]; exact hid, by rw [hw, Array.size_push]; exact Nat.lt_succ_self _⟩
    · rw [hother _ h1] at hl
      have := h.dom _ _ hl
      exact ⟨this.1, by rw [hw, Array.size_push]; omega⟩
  · obtain ⟨hB, c, e, fr, h1, h2⟩ := h.glob g hg
    refine ⟨hB, c, e, fr, ?_, h2⟩
    have := h.base
    rw [hw, Array.getElem?_push, if_neg (by omega), h1]
  · obtain ⟨l1, h1, h2⟩ := h.fdom i id' hi
    exact ⟨l1, hmono _ _ h1, fun id2 o2 l2 hl2 hs2 => h2 id2 o2 l2 hl2 (by rw [hother _ (hlive _ _ hl2)] at hs2; exact hs2)⟩
  · rw [h.fsame hmono rfl]
    refine X.loc _ _ _ _ h.frag fun i l hl => ?_
    obtain ⟨id', h1, h2⟩ := Option.bind_eq_some_iff.1 hl
    have := (h.dom _ _ h2).2
    rw [hw, Array.getElem?_push, if_neg (by omega)]
theorem Ext.pend {σ0 : Sg} {A0 : AW} {w0 w' : World} (h : Ext σ0 A0 w0 σ A w) (hh : HR X σ A w) {id : Nat} (hs : σ id = none) (hid : A0.next ≤ id) {ob : Obj} (hw : w'.heap = w.heap.push ob) (so : SameOut w w') (sz : Nat) :
    Ext σ0 A0 w0 (ext σ id ⟨w.heap.size, 0, sz⟩) A w' := by
  have hmono := ext_mono (l := ⟨w.heap.size, 0, sz⟩) hs
  have hother : ∀ i, i ≠ id → ext σ id ⟨w.heap.size, 0, sz⟩ i = σ i := fun i hi => by simp [ext, hi]
  have hlive : ∀ id' o, Lv A id' o → id' ≠ id := fun id' o hl he => by
    obtain ⟨l, _, h1, _⟩ := hh.obj id' o hl
    rw [he, hs] at h1; cases h1
  refine ⟨fun i l hl => hmono _ _ (h.mono i l hl), fun i hi => by rw [hother i (by omega)]; exact h.low i hi, h.nx, by rw [hw, Array.size_push]; have := h.size; omega, fun b hb hn hf => ?_, fun id' o l hl hsl => ?_, h.fk, fun i l hl => h.fblocks i l (by rw [← hh.fsame hmono rfl]; exact hl), h.so.trans so⟩
  · have := h.size
    rw [hw, Array.getElem?_push, if_neg (by omega)]; exact h.keep b hb hn hf
  · rw [hother _ (hlive _ _ hl)] at hsl; exact h.blocks id' o l hl hsl
/-- What waits, waits on through a step that knows nothing of it. -/
theorem PendAt.step {σ' : Sg} {A' : AW} {w' : World} {id : Nat} {o : AO} {l : Loc} (p : PendAt X σ A w id o l) (h : HR X σ A w) (k : Ext σ A w σ' A' w') : PendAt X σ' A' w' id o l := by
  have hlt := (h.dom _ _ p.loc).2
  refine ⟨k.mono _ _ p.loc, ?_, p.base, fun id' o' l' hl hs he => ?_, fun i l' hl he => ?_⟩
  · obtain ⟨ob, h1, h2⟩ := p.ob
    refine ⟨ob, ?_, h2.mono k.mono⟩
    rw [k.keep l.block hlt (fun id' o' l' hl hs => p.apart id' o' l' hl hs) (.inr p.apartF), h1]
  · rcases k.blocks id' o' l' hl hs with h1 | ⟨id0, o0, l0, h1, h2, h3⟩
    · omega
    · exact p.apart id0 o0 l0 h1 h2 (by rw [h3, he])
  · rcases k.fblocks i l' hl with h1 | ⟨id0, o0, l0, h1, h2, h3⟩ | ⟨i0, l0, h1, h2⟩
    · omega
    · exact p.apart id0 o0 l0 h1 h2 (by rw [h3, he])
    · exact p.apartF i0 l0 h1 (by rw [h2, he])
theorem PendAt.pend {w' : World} {id : Nat} {o : AO} {l : Loc} (p : PendAt X σ A w id o l) (h : HR X σ A w) {id2 : Nat} (hs : σ id2 = none) {ob : Obj} (hw : w'.heap = w.heap.push ob) (sz : Nat) :
    PendAt X (ext σ id2 ⟨w.heap.size, 0, sz⟩) A w' id o l := by
  have hmono := ext_mono (l := ⟨w.heap.size, 0, sz⟩) hs
  have hlt := (h.dom _ _ p.loc).2
  refine ⟨hmono _ _ p.loc, ?_, p.base, fun id' o' l' hl hsl => ?_, fun i l' hl => p.apartF i l' (by rw [← h.fsame hmono rfl]; exact hl)⟩
  · obtain ⟨ob', h1, h2⟩ := p.ob
    exact ⟨ob', by rw [hw, Array.getElem?_push, if_neg (by omega), h1], h2.mono hmono⟩
  · have : id' ≠ id2 := fun he => by
      obtain ⟨l1, _, h1, _⟩ := h.obj id' o' hl
      rw [he, hs] at h1; cases h1
    exact p.apart id' o' l' hl (by simpa [ext, this] using hsl)
end
end
section
section
variable {G : Nat → List AV} {CE : Nat → List AV → AW → CRes} {f : Frame} {A A2 : AW}

/-! ## Which operations look at the heap -/
theorem pure_step {l : LOp} (hp : pureOp l = true) {K K2 : AV → AW → Res} (h : ∀ v, K v A = K2 v A2) : stepOp G CE l f A K = stepOp G CE l f A2 K2 := by
  cases l <;> first | (cases hp; done) | (simp only [stepOp, h])
theorem read_step {l : LOp} (hp : readOp l = true) {K K2 : AV → AW → Res} (h : ∀ v, K v A = K2 v A) : stepOp G CE l f A K = stepOp G CE l f A K2 := by
  cases l <;> first | (cases hp; done) | (simp only [stepOp, h])
theorem alloc_step {l : LOp} (hp : allocOp l = true) {K : AV → AW → Res} : stepOp G CE l f A K = astep l f fun o mk => newO A o fun id A' => K (mk id) A' := by
  cases l <;> first | (cases hp; done) | rfl
end

section
variable {X : Par} {σ : Sg} {A : AW} {w : World} {f : Frame}

theorem newRow_run {P : Program} (e : TypeId) (c : Array Value) : (newRow e c).run P w = .ok ⟨w.heap.size, 0, none⟩ { w with heap := w.heap.push (.cells c e) } := by simp [newRow]

def ALands (_X : Par) (σ : Sg) (w : World) (r : Result Next) (p : AO × (Nat → AV)) : Prop :=
  ∃ v' w' obj sz, r = .ok (.value v') w' ∧ (w'.heap = w.heap.push obj ∧ SameOut w w') ∧ OR σ ⟨w.heap.size, 0, sz⟩ p.1 obj ∧ ∀ (σ2 : Sg) id, σ2 id = some ⟨w.heap.size, 0, sz⟩ → VR σ2 (p.2 id) v'

/-- An allocation, apart from the abstract heap. -/
theorem alloc_good {lop : LOp} {o : Oper} (ha : allocOp lop = true) (hop : OpOk X.P lop o.op) {ρ : Operand → Value} (hA : ∀ x y, ArgOk x y → y ∈ o.op.operands → VR σ (x.ev f) (ρ y)) :
    Good (fun K : AO × (Nat → AV) → Res => astep lop f fun ob mk => K (ob, mk)) (ALands X σ w ((execOp ρ o).run X.P w)) := by
  obtain ⟨dst, op, type, pos, after, guard⟩ := o
  simp only at hop hA
  have prow : ∀ (c : Array Value) (σ2 : Sg) id, σ2 id = some ⟨w.heap.size, 0, c.size⟩ → VR σ2 (.p id 0) (.pointer (some ⟨w.heap.size, 0, none⟩)) := fun c σ2 id hs => .p id 0 ⟨w.heap.size, 0, c.size⟩ hs
  cases hop <;> try (cases ha; done)
  case alloc zero t hz =>
    obtain ⟨i, z, i1, i2, i3, i4⟩ := hz
    refine Good.ret ⟨.pointer (some ⟨w.heap.size, 0, none⟩), { w with heap := w.heap.push (.cells z.cells t) }, .cells z.cells t, z.cells.size, ?_, ⟨rfl, rfl, rfl⟩, OR.fresh i3.lit i4, prow z.cells⟩
    simp [execOp, Instr.alloc, run_zeroOf i1 i2, newVar, newRow]
  case box t x y hx =>
    refine Good.asCells (r := fun cs (K : AO × (Nat → AV) → Res) => (K : AO × (Nat → AV) → Res) (AO.cells cs t 2, fun id => AV.p id 0)) fun hn => Good.ret ?_
    obtain ⟨k1, k2⟩ := acells_rel (hA x y hx (by simp [Op.operands])) hn
    refine ⟨.pointer (some ⟨w.heap.size, 0, none⟩), { w with heap := w.heap.push (.cells (ρ y).cells t) }, .cells (ρ y).cells t, (ρ y).cells.size, ?_, ⟨rfl, rfl, rfl⟩, OR.fresh k1 k2, prow _⟩
    simp [execOp, Instr.box, newVar, newRow]
  case bslice t e zero len es ps ps' ht hz hzl he hsm hp zeros hzs =>
    subst hzs
    obtain ⟨i, z, i1, i2, i3, i4⟩ := hz
    have hzs : z.cells.size = es := by have := i3.length; simp at this; omega
    have hrel := rep_rel (σ := σ) i3.lit len
    rw [hzs] at hrel
    have hp' : Parts0 σ f (fun off size j => off = j * es ∧ size = es) ps (ps'.map fun (i, x) => (i, ρ x)).toList := by
      rw [Array.toList_map]
      exact hp.rel fun x y hx hm => hA x y hx (by simp only [Op.operands]; simpa using hm)
    refine Good.fillP (hp'.place (place := fun j => some (j * es, es)) fun off size j ⟨h1, h2⟩ => by rw [h1, h2]) (r := fun cs (K : AO × (Nat → AV) → Res) => K (AO.cells cs e 2, fun id => AV.sk id 0 len len)) hrel (rep_flat i4 len)
      fun cs' c' hc hr hf _ => Good.ret ⟨.slice (some ⟨w.heap.size, 0, none⟩) len len, { w with heap := w.heap.push (.cells c' e) }, .cells c' e, c'.size, ?_, ⟨rfl, rfl, rfl⟩, OR.fresh hr hf, fun σ2 id hs => .sk id 0 len len 0 _ hs (Nat.le_refl _) (.inl rfl)⟩
    simp only [execOp, Instr.buildSlice, Sem.run_bind, run_und ht, Result.andThen_ok, he.run]
    rw [Sem.run_ite, if_neg (by omega)]
    by_cases h0 : len * es = 0
    · simp only [Sem.run_bind, Sem.run_ite]
      rw [if_pos h0]
      simp only [Sem.run_pure, Result.andThen_ok]
      have harr : (Array.range (len * es)).map ((#[] : Array Value)[· % (#[] : Array Value).size]!) = (Array.range (len * es)).map fun i => z.cells[i % es]! := by
        rw [h0]
        have r0 : Array.range 0 = #[] := rfl
        simp [r0]
      rw [harr, hc]
      simp [newRow]
    · simp only [Sem.run_bind, Sem.run_ite]
      rw [if_neg h0]
      simp only [Sem.run_bind, run_zeroOf i1 i2, Sem.run_pure, Result.andThen_ok, hzs]
      rw [hc]
      simp [newRow]
  case mkm t =>
    refine Good.ret ⟨.map (some w.heap.size), { w with heap := w.heap.push (.map #[] 0) }, .map #[] 0, 0, ?_, ⟨rfl, rfl, rfl⟩, .map [] 0 #[] .nil, fun σ2 id hs => .m id ⟨w.heap.size, 0, 0⟩ hs⟩
    simp [execOp, Instr.makeMap]
  case mks e es zero l c l' c' t ht he hz hl hb hx hy =>
    have hvx := hA l l' hx (by simp [Op.operands])
    have hvy := hA c c' hy (by simp [Op.operands])
    refine Good.asN (r := fun n (K : AO × (Nat → AV) → Res) => asN (c.ev f) fun m => AM.iff (Nat.ble n m) .fail (AM.iff (lt m 1048576) .fail (AM.repl m zero fun cs => K (AO.cells cs e 2, fun id => AV.sk id 0 n m)))) fun k n e1 hn =>
      Good.asN (r := fun m (K : AO × (Nat → AV) → Res) => AM.iff (Nat.ble n m) .fail (AM.iff (lt m 1048576) .fail (AM.repl m zero fun cs => K (AO.cells cs e 2, fun id => AV.sk id 0 n m)))) fun k' m e2 hm => Good.iff fun hnm => Good.iff fun hms =>
      Good.repl (r := fun cs (K : AO × (Nat → AV) → Res) => K (AO.cells cs e 2, fun id => AV.sk id 0 n m)) (Good.ret ?_)
    rw [e1] at hvx
    rw [e2] at hvy
    generalize hq1 : ρ l' = u1 at hvx
    generalize hq2 : ρ c' = u2 at hvy
    cases hvx; cases hvy
    have hnm' := ble_iff.1 hnm
    have hms' := lt_iff.1 hms
    obtain ⟨i, z, i1, i2, i3, i4⟩ := hz
    obtain ⟨i', j1, j2⟩ := hb
    rw [i1] at j1; cases j1
    have hzl : z.cells.size = es := by have := i3.length; simp at this; omega
    have hrel := rep_rel (σ := σ) i3.lit m
    rw [hzl] at hrel
    refine ⟨.slice (some ⟨w.heap.size, 0, none⟩) n m, { w with heap := w.heap.push (.cells ((Array.range (m * es)).map fun i => z.cells[i % es]!) e) }, _, _, ?_, ⟨rfl, rfl, rfl⟩, OR.fresh hrel (rep_flat i4 m), fun σ2 id hs => .sk id 0 n m 0 _ hs hnm' (.inl rfl)⟩
    have w1 : IntKind.i64.wrap (n : Int) = n := wrap_nat (k := .i64) (by show n < 0x8000000000000000; omega)
    have w2 : IntKind.i64.wrap (m : Int) = m := wrap_nat (k := .i64) (by show m < 0x8000000000000000; omega)
    have c1 : ¬ ((i.bytes : Int) * (m : Int) > 2 ^ 48) := by
      have : i.bytes * m ≤ 1048576 * 1048576 := Nat.mul_le_mul j2 (by omega)
      have h4 : ((i.bytes * m : Nat) : Int) = (i.bytes : Int) * (m : Int) := by simp
      rw [← h4]; omega
    have hcond : (decide ((m : Int) < 0) || decide ((i.bytes : Int) * (m : Int) > 2 ^ 48) || decide ((n : Int) < 0) || decide ((n : Int) > (m : Int))) = false := by
      simp only [decide_eq_false c1, Bool.or_false, Bool.or_eq_false_iff, decide_eq_false_iff_not]
      omega
    simp only [execOp, Instr.makeSlice, hq1, hq2, Go.asInt, asIntOf, Sem.run_bind, Sem.run_pure, Result.andThen_ok, run_und ht, run_tyInfo i1, wrap_nat hn, wrap_nat hm, w1, w2]
    rw [Sem.run_ite, if_neg (by rw [hcond]; simp)]
    simp only [Sem.run_bind, run_askRoom, Result.andThen_ok, he.run, Int.toNat_natCast]
    by_cases h0 : m * es = 0
    · rw [Sem.run_ite, if_pos h0]
      simp only [Sem.run_pure, Result.andThen_ok, newRow, Sem.run_bind, run_newObj]
      rw [h0]
      have r0 : Array.range 0 = #[] := rfl
      simp [r0]
    · rw [Sem.run_ite, if_neg h0]
      simp only [Sem.run_bind, run_zeroOf i1 i2, Sem.run_pure, Result.andThen_ok, newRow, run_newObj, hzl]

/-! ## The values that a drawn step tells -/
theorem s0_get_set (v : AV) : s0.get (s0.set v e3) = v := s0.get_set v e3
/-- In every state that is related, a step is told by its value and world. -/
theorem wstep_eq {CE : Nat → List AV → AW → CRes} {l : LOp} {A A' : AW} {v : AV} (hK : ∀ K, stepOp X.G CE l f A K = K v A') (K : AV → AW → Res) : wstep X.G CE l f A K = K v A' := by
  unfold wstep
  rw [hK]
  show K (s0.get (s0.set v e3)) A' = _
  rw [s0_get_set]
theorem vstep_eq {CE : Nat → List AV → AW → CRes} {l : LOp} {A A' : AW} {v : AV} (hK : ∀ K, stepOp X.G CE l f A K = K v A') (K : AV → Res) : vstep X.G CE l f A K = K v := by
  unfold vstep
  rw [hK]
  show K (s0.get (s0.set v e3)) = _
  rw [s0_get_set]
/-- What a step told: some value and world. -/
def Told (G : Nat → List AV) (CE : Nat → List AV → AW → CRes) (l : LOp) (f : Frame) (A : AW) (v : AV) (A' : AW) : Prop := ∃ f', stepOp G CE l f A (fun v A' => .nrm (s0.set v e3) A') = .nrm f' A' ∧ s0.get f' = v
def ToldV (G : Nat → List AV) (CE : Nat → List AV → AW → CRes) (l : LOp) (f : Frame) (A : AW) (v : AV) : Prop := ∃ f' A', stepOp G CE l f A (fun v _ => .nrm (s0.set v e3) A00) = .nrm f' A' ∧ s0.get f' = v
theorem wstep_told {G : Nat → List AV} {CE : Nat → List AV → AW → CRes} {l : LOp} {A : AW} (K : AV → AW → Res) : wstep G CE l f A K = .fail ∨ ∃ v A', Told G CE l f A v A' ∧ wstep G CE l f A K = K v A' := by
  unfold wstep
  cases h : stepOp G CE l f A (fun v A' => .nrm (s0.set v e3) A') with
  | nrm f' A' => exact .inr ⟨s0.get f', A', ⟨f', h, rfl⟩, rfl⟩
  | _ => exact .inl rfl
theorem vstep_told {G : Nat → List AV} {CE : Nat → List AV → AW → CRes} {l : LOp} {A : AW} (K : AV → Res) : vstep G CE l f A K = .fail ∨ ∃ v, ToldV G CE l f A v ∧ vstep G CE l f A K = K v := by
  unfold vstep
  cases h : stepOp G CE l f A (fun v _ => .nrm (s0.set v e3) A00) with
  | nrm f' A' => exact .inr ⟨s0.get f', ⟨f', A', h, rfl⟩, rfl⟩
  | _ => exact .inl rfl
theorem Told.eq {G : Nat → List AV} {CE : Nat → List AV → AW → CRes} {l : LOp} {A A' A'' : AW} {v v' : AV} (h : Told G CE l f A v A') (hK : ∀ K, stepOp G CE l f A K = K v' A'') : v = v' ∧ A' = A'' := by
  obtain ⟨f', h1, h2⟩ := h
  rw [hK] at h1
  cases h1
  exact ⟨by rw [← h2, s0_get_set], rfl⟩
theorem ToldV.eq {G : Nat → List AV} {CE : Nat → List AV → AW → CRes} {l : LOp} {A A'' : AW} {v v' : AV} (h : ToldV G CE l f A v) (hK : ∀ K, stepOp G CE l f A K = K v' A'') : v = v' := by
  obtain ⟨f', A', h1, h2⟩ := h
  rw [hK] at h1
  cases h1
  rw [← h2, s0_get_set]
theorem ToldV.pure {G : Nat → List AV} {CE : Nat → List AV → AW → CRes} {l : LOp} (hp : pureOp l = true) {A A2 : AW} {v : AV} (h : ToldV G CE l f A v) : ToldV G CE l f A2 v := by
  obtain ⟨f', A', h1, h2⟩ := h
  exact ⟨f', A', by rw [← h1]; exact pure_step hp fun _ => rfl, h2⟩
/-- A pure step, and a step that only reads, leave the world. -/
theorem quiet_world {G : Nat → List AV} {CE : Nat → List AV → AW → CRes} {l : LOp} (hp : pureOp l = true ∨ readOp l = true) {A A' : AW} {v : AV} (hK : ∀ K, stepOp G CE l f A K = K v A') : A' = A := by
  have h1 := hK fun v B => .nrm (s0.set v e3) B
  have h2 := hK fun v _ => .nrm (s0.set v e3) A
  have h3 : stepOp G CE l f A (fun v B => .nrm (s0.set v e3) B) = stepOp G CE l f A (fun v _ => .nrm (s0.set v e3) A) := by
    rcases hp with hp | hp
    · exact pure_step hp fun _ => rfl
    · exact read_step hp fun _ => rfl
  rw [h1, h2] at h3
  cases h3; rfl
end
end
section
/-! ## What a run of a drawn region tells of each of its operations -/
theorem and_true' {a b : Bool} (h : andB a b = true) : a = true ∧ b = true := by cases a <;> cases b <;> first | exact ⟨rfl, rfl⟩ | cases h
theorem eqFlat_sound {a b : AV} (h : eqFlat false a b = true) : a = b := by
  cases a <;> first | (cases h; done) | skip
  all_goals (cases b <;> first | (cases h; done) | skip)
  case b.b v v' => cases v <;> cases v' <;> first | rfl | cases h
  case i.i k n k' n' => obtain ⟨h1, h2⟩ := and_true' h; rw [sameK_iff.1 h1, beq_iff.1 h2]
  case s.s a b a' b' => obtain ⟨h1, h2⟩ := and_true' h; rw [beq_iff.1 h1, beq_iff.1 h2]
  case any.any a a' => rw [beq_iff.1 h]
  case p0.p0 => rfl
  case p.p a b a' b' => obtain ⟨h1, h2⟩ := and_true' h; rw [beq_iff.1 h1, beq_iff.1 h2]
  case g.g a b a' b' => obtain ⟨h1, h2⟩ := and_true' h; rw [beq_iff.1 h1, beq_iff.1 h2]
  case sl0.sl0 => rfl
  case sk.sk a b c d a' b' c' d' =>
    obtain ⟨h1, h2⟩ := and_true' h
    obtain ⟨h3, h4⟩ := and_true' h1
    obtain ⟨h5, h6⟩ := and_true' h2
    rw [beq_iff.1 h3, beq_iff.1 h4, beq_iff.1 h5, beq_iff.1 h6]
  case su.su a b c d a' b' c' d' =>
    obtain ⟨h1, h2⟩ := and_true' h
    obtain ⟨h3, h4⟩ := and_true' h1
    obtain ⟨h5, h6⟩ := and_true' h2
    rw [beq_iff.1 h3, beq_iff.1 h4, beq_iff.1 h5, beq_iff.1 h6]
  case m0.m0 => rfl
  case m.m a a' => rw [beq_iff.1 h]
  case f0.f0 => rfl
  case if0.if0 => rfl
theorem eqFlats_sound : ∀ {a b : List AV}, eqFlats a b = true → a = b
  | [], [], _ => rfl
  | [], _ :: _, h => by cases h
  | _ :: _, [], h => by cases h
  | x :: a, y :: b, h => by
    obtain ⟨h1, h2⟩ := and_true' (show andB (eqFlat false x y) (eqFlats a b) = true from h)
    rw [eqFlat_sound h1, eqFlats_sound h2]
theorem eqAV_sound {a b : AV} (h : eqAV a b = true) : a = b := by
  cases a with
  | agg cs => cases b <;> first | (cases h; done) | (rw [eqFlats_sound h])
  | tup cs => cases b <;> first | (cases h; done) | (rw [eqFlats_sound h])
  | _ => exact eqFlat_sound h

/-- The guard of an item, read. -/
def gst (x : It) (f : Frame) : Option Bool :=
  match x with
  | .o _ _ | .n _ => some true
  | .g s want _ _ | .gn s want _ => match s.get f with
    | .any _ => none
    | .b t => some (t == want)
    | _ => some false
def itSet (x : It) (v : AV) (f : Frame) : Frame :=
  match x with
  | .o d _ | .g _ _ d _ => d.set v f
  | .n _ | .gn _ _ _ => f
def itOp : It → LOp
  | .o _ l | .n l | .g _ _ _ l | .gn _ _ l => l
theorem gdV_eq (v : AV) (want : Bool) (K0 K1 : Res) : gdV v want K0 K1 = match (match v with | .any _ => none | .b t => some (t == want) | _ => some false : Option Bool) with | none => .fail | some true => K1 | some false => K0 := by
  cases v <;> first | rfl | skip
  case b t => cases t <;> cases want <;> rfl
theorem evIt_eq (x : It) (f : Frame) (Ks : Frame → Res) (K : LOp → (AV → Frame) → Res) :
    evIt x f Ks K = match gst x f with | none => .fail | some true => K (itOp x) (fun v => itSet x v f) | some false => Ks (itSet x undefA f) := by
  cases x with
  | o d l => rfl
  | n l => rfl
  | g s want d l => exact gdV_eq _ _ _ _
  | gn s want l => exact gdV_eq _ _ _ _

theorem bitB_eq (m i : Nat) : bitB m i = m.testBit i := by
  unfold bitB
  rw [Nat.testBit_eq_decide_div_mod_eq, show Nat.shiftRight m i = m / 2 ^ i from Nat.shiftRight_eq_div_pow m i, show Nat.land (m / 2 ^ i) 1 = m / 2 ^ i % 2 from Nat.and_two_pow_sub_one_eq_mod _ 1]
  rw [Bool.eq_iff_iff, beq_iff, decide_eq_true_iff]
def keepP (anc : Nat) (p : Pend) : Pend := p.filter fun e => !bitB anc e.1
def putsP (anc : Nat) : Pend → AW → AW
  | [], A => A
  | e :: p, A => if bitB anc e.1 then putsP anc p (put A e.2.1 (some e.2.2)) else putsP anc p A
def putsAll : Pend → AW → AW
  | [], A => A
  | e :: p, A => putsAll p (put A e.2.1 (some e.2.2))
theorem mergeA_eq (anc : Nat) : ∀ (p : Pend) (A : AW) (K : Pend → AW → Res), mergeA anc p A K = K (keepP anc p) (putsP anc p A)
  | [], A, K => rfl
  | e :: p, A, K => by
    show Bool.rec (motive := fun _ => Res) (mergeA anc p A fun p' A' => K (e :: p') A') (mergeA anc p (put A e.2.1 (some e.2.2)) K) (bitB anc e.1) = _
    simp only [keepP, putsP, List.filter_cons]
    cases h : bitB anc e.1 with
    | true => exact mergeA_eq anc p _ K
    | false => exact mergeA_eq anc p A fun p' A' => K (e :: p') A'
theorem mergeAll_eq : ∀ (p : Pend) (A : AW) (K : AW → Res), mergeAll p A K = K (putsAll p A)
  | [], A, K => rfl
  | e :: p, A, K => mergeAll_eq p (put A e.2.1 (some e.2.2)) K
def keepC (anc : Nat) (c : Chk) : Chk := c.filter fun e => !bitB anc e.1
theorem dropChk_eq (anc : Nat) : ∀ (c : Chk) (K : Chk → Res), dropChk anc c K = K (keepC anc c)
  | [], K => rfl
  | e :: c, K => by
    show Bool.rec (motive := fun _ => Res) (dropChk anc c fun c' => K (e :: c')) (dropChk anc c K) (bitB anc e.1) = _
    simp only [keepC, List.filter_cons]
    cases h : bitB anc e.1 with
    | true => exact dropChk_eq anc c K
    | false => exact dropChk_eq anc c fun c' => K (e :: c')
theorem recheck_told {G : Nat → List AV} {CE : Nat → List AV → AW → CRes} {A : AW} {K : Res} : ∀ (c : Chk), recheck G CE c A K = .fail ∨ (recheck G CE c A K = K ∧ ∀ e, e ∈ c → ToldV G CE e.2.1 e.2.2.1 A e.2.2.2)
  | [] => .inr ⟨rfl, fun e h => by cases h⟩
  | e :: c => by
    have hrw : recheck G CE (e :: c) A K = vstep G CE e.2.1 e.2.2.1 A fun v => AM.iff (eqAV e.2.2.2 v) .fail (recheck G CE c A K) := rfl
    rw [hrw]
    rcases vstep_told (fun v => AM.iff (eqAV e.2.2.2 v) .fail (recheck G CE c A K)) with h | ⟨v, h1, h2⟩
    · exact .inl h
    · rw [h2]
      cases hq : eqAV e.2.2.2 v with
      | false => exact .inl rfl
      | true =>
        have := eqAV_sound hq
        subst this
        rw [iff_true rfl]
        rcases recheck_told c with h | ⟨h3, h4⟩
        · exact .inl h
        · exact .inr ⟨h3, fun e' he => by
            rcases List.mem_cons.1 he with rfl | he
            · exact h1
            · exact h4 e' he⟩
/-- The pending map that gets an entry. -/
def insOk (id : Nat) (key val : AV) (str : Bool) (p p' : Pend) : Prop :=
  ∃ (pre post : Pend) (i : Nat) (es : List (AV × AV × Nat)) (clock : Nat), p = pre ++ (i, id, .map es clock) :: post ∧ p' = pre ++ (i, id, .map (es ++ [(key, val, clock)]) (Nat.succ clock)) :: post ∧
    (∀ e, e ∈ pre → e.2.1 ≠ id) ∧ ∀ (Kf : Nat → AV → Res) (K : Res), Kf = (fun _ _ => .fail) → findK str key es 0 Kf K = K ∨ findK str key es 0 Kf K = .fail
theorem insP_told {id : Nat} {key val : AV} {str : Bool} : ∀ (p : Pend) (K : Pend → Res), insP id key val str p K = .fail ∨ ∃ (pre post : Pend) (i : Nat) (es : List (AV × AV × Nat)) (clock : Nat),
      p = pre ++ (i, id, .map es clock) :: post ∧ (∀ e, e ∈ pre → e.2.1 ≠ id) ∧
      insP id key val str p K = findK str key es 0 (fun _ _ => .fail) (K (pre ++ (i, id, .map (es ++ [(key, val, clock)]) (Nat.succ clock)) :: post))
  | [], K => .inl rfl
  | e :: p, K => by
    have hrw : insP id key val str (e :: p) K = Bool.rec (motive := fun _ => Res) (insP id key val str p fun p' => K (e :: p'))
      (AO.rec (motive := fun _ => Res) (fun _ _ _ => .fail) (fun es clock => findK str key es 0 (fun _ _ => .fail) (K ((e.1, e.2.1, .map (es ++ [(key, val, clock)]) (Nat.succ clock)) :: p))) (fun _ _ _ _ => .fail) (fun _ _ _ => .fail) e.2.2)
      (Nat.beq e.2.1 id) := rfl
    rw [hrw]
    cases hb : Nat.beq e.2.1 id with
    | true =>
      obtain ⟨i, id', o⟩ := e
      have := beq_iff.1 hb
      simp only at this
      subst this
      cases o with
      | map es clock => exact .inr ⟨[], p, i, es, clock, rfl, (fun e he => by cases he), rfl⟩
      | cells => exact .inl rfl
      | miter => exact .inl rfl
      | siter => exact .inl rfl
    | false =>
      rcases insP_told p (fun p' => K (e :: p')) with h | ⟨pre, post, i, es, clock, h1, h2, h3⟩
      · exact .inl h
      · refine .inr ⟨e :: pre, post, i, es, clock, by rw [h1]; rfl, fun e' he => ?_, h3⟩
        rcases List.mem_cons.1 he with rfl | he
        · intro hh; rw [beq_iff.2 hh] at hb; cases hb
        · exact h2 e' he
end
section
/-! ## The trace of a drawn region -/
theorem eqKey_unif (str : Bool) (a b : AV) : (∀ K, eqKey str a b K = .fail) ∨ ∃ c, ∀ K, eqKey str a b K = K c := by
  cases str with
  | true =>
    cases a <;> first | (exact .inl fun _ => rfl) | skip
    cases b <;> first | (exact .inl fun _ => rfl) | exact .inr ⟨_, fun _ => rfl⟩
  | false =>
    cases a <;> first | (exact .inl fun _ => rfl) | skip
    cases b <;> first | (exact .inl fun _ => rfl) | skip
    rename_i k n k' n'
    cases hk : sameK k k' with
    | true => exact .inr ⟨Nat.beq n n', fun K => by show AM.iff (sameK k k') .fail (K (Nat.beq n n')) = _; rw [hk]; rfl⟩
    | false => exact .inl fun K => by show AM.iff (sameK k k') .fail (K (Nat.beq n n')) = _; rw [hk]; rfl
theorem findK_unif (str : Bool) (key : AV) : ∀ (es : List (AV × AV × Nat)) (i : Nat), (∀ Kf K0, findK str key es i Kf K0 = .fail) ∨ (∃ j v, ∀ Kf K0, findK str key es i Kf K0 = Kf j v) ∨ ∀ Kf K0, findK str key es i Kf K0 = K0
  | [], i => .inr (.inr fun _ _ => rfl)
  | e :: es, i => by
    have hrw : ∀ Kf K0, findK str key (e :: es) i Kf K0 = eqKey str key e.1 fun c => Bool.rec (motive := fun _ => Res) (findK str key es (Nat.succ i) Kf K0) (Kf i e.2.1) c := fun _ _ => rfl
    rcases eqKey_unif str key e.1 with h | ⟨c, h⟩
    · exact .inl fun Kf K0 => by rw [hrw, h]
    · cases c with
      | true => exact .inr (.inl ⟨i, e.2.1, fun Kf K0 => by rw [hrw, h]⟩)
      | false =>
        rcases findK_unif str key es (Nat.succ i) with h2 | ⟨j, v, h2⟩ | h2
        · exact .inl fun Kf K0 => by rw [hrw, h]; exact h2 _ _
        · exact .inr (.inl ⟨j, v, fun Kf K0 => by rw [hrw, h]; exact h2 _ _⟩)
        · exact .inr (.inr fun Kf K0 => by rw [hrw, h]; exact h2 _ _)
theorem asCells_unif (v : AV) : (∀ K : List AV → Res, asCells .fail v K = .fail) ∨ ∃ cs, ∀ K : List AV → Res, asCells .fail v K = K cs := by
  cases v <;> first | exact .inl fun _ => rfl | exact .inr ⟨_, fun _ => rfl⟩
theorem setR_unif : ∀ (cs : List AV) (off : Nat) (vs : List AV), (∀ K : List AV → Res, setR .fail cs off vs K = .fail) ∨ ∃ cs', ∀ K : List AV → Res, setR .fail cs off vs K = K cs'
  | [], 0, [] => .inr ⟨[], fun _ => rfl⟩
  | [], 0, _ :: _ => .inl fun _ => rfl
  | [], _ + 1, _ => .inl fun _ => rfl
  | c :: cs, 0, [] => .inr ⟨c :: cs, fun _ => rfl⟩
  | c :: cs, 0, v :: vs => (setR_unif cs 0 vs).imp (fun h K => h fun r => K (v :: r)) fun ⟨l, h⟩ => ⟨v :: l, fun K => h fun r => K (v :: r)⟩
  | c :: cs, off + 1, vs => (setR_unif cs off vs).imp (fun h K => h fun r => K (c :: r)) fun ⟨l, h⟩ => ⟨c :: l, fun K => h fun r => K (c :: r)⟩
theorem fillP_unif (f : Frame) : ∀ (ps : List (Nat × Nat × Arg)) (cs : List AV), (∀ K : List AV → Res, fillP f ps cs K = .fail) ∨ ∃ cs', ∀ K : List AV → Res, fillP f ps cs K = K cs'
  | [], cs => .inr ⟨cs, fun _ => rfl⟩
  | p :: ps, cs => by
    have hrw : ∀ K, fillP f (p :: ps) cs K = asCells .fail (p.2.2.ev f) fun vs => AM.iff (Nat.beq (lenL vs) p.2.1) .fail (setR .fail cs p.1 vs fun cs' => fillP f ps cs' K) := fun _ => rfl
    rcases asCells_unif (p.2.2.ev f) with h | ⟨vs, h⟩
    · exact .inl fun K => by rw [hrw, h]
    · cases hb : Nat.beq (lenL vs) p.2.1 with
      | false => exact .inl fun K => by rw [hrw, h, hb]; rfl
      | true =>
        rcases setR_unif cs p.1 vs with h2 | ⟨cs', h2⟩
        · exact .inl fun K => by rw [hrw, h, hb, iff_true rfl, h2]
        · rcases fillP_unif f ps cs' with h3 | ⟨cs'', h3⟩
          · exact .inl fun K => by rw [hrw, h, hb, iff_true rfl, h2, h3]
          · exact .inr ⟨cs'', fun K => by rw [hrw, h, hb, iff_true rfl, h2, h3]⟩
theorem asN_unif (v : AV) : (∀ K : Nat → Res, asN v K = .fail) ∨ ∃ n, ∀ K : Nat → Res, asN v K = K n := by
  cases v <;> first | (exact .inl fun _ => rfl) | skip
  rename_i k n
  cases h : lt n (halfK k) with
  | true => exact .inr ⟨n, fun K => by show AM.iff (lt n (halfK k)) .fail (K n) = _; rw [h]; rfl⟩
  | false => exact .inl fun K => by show AM.iff (lt n (halfK k)) .fail (K n) = _; rw [h]; rfl
theorem astep_unif (l : LOp) (f : Frame) : (∀ K, astep l f K = .fail) ∨ ∃ ob mk, ∀ K, astep l f K = K ob mk := by
  cases l <;> first | (exact .inl fun _ => rfl) | (exact .inr ⟨_, _, fun _ => rfl⟩) | skip
  case box elem x =>
    rcases asCells_unif (x.ev f) with h | ⟨cs, h⟩
    · exact .inl fun K => by show asCells .fail (x.ev f) (fun cs => K (.cells cs elem 2) (fun id => .p id 0)) = _; exact h _
    · exact .inr ⟨.cells cs elem 2, fun id => .p id 0, fun K => by show asCells .fail (x.ev f) (fun cs => K (.cells cs elem 2) (fun id => .p id 0)) = _; exact h _⟩
  case bslice elem len es zeros parts =>
    rcases fillP_unif f parts zeros with h | ⟨cs, h⟩
    · exact .inl fun K => by show fillP f parts zeros (fun cs => K (.cells cs elem 2) (fun id => .sk id 0 len len)) = _; exact h _
    · exact .inr ⟨.cells cs elem 2, fun id => .sk id 0 len len, fun K => by show fillP f parts zeros (fun cs => K (.cells cs elem 2) (fun id => .sk id 0 len len)) = _; exact h _⟩
  case mks elem es zero x y =>
    have hrw : ∀ K, astep (.mks elem es zero x y) f K = asN (x.ev f) fun n => asN (y.ev f) fun m => AM.iff (Nat.ble n m) .fail (AM.iff (lt m 1048576) .fail (repl m zero fun cs => K (.cells cs elem 2) (fun id => .sk id 0 n m))) := fun _ => rfl
    rcases asN_unif (x.ev f) with h | ⟨n, h⟩
    · exact .inl fun K => by rw [hrw, h]
    · rcases asN_unif (y.ev f) with h2 | ⟨m, h2⟩
      · exact .inl fun K => by rw [hrw, h, h2]
      · cases h3 : Nat.ble n m with
        | false => exact .inl fun K => by rw [hrw, h, h2, h3]; rfl
        | true =>
          cases h4 : lt m 1048576 with
          | false => exact .inl fun K => by rw [hrw, h, h2, h3, h4]; rfl
          | true => exact .inr ⟨.cells (List.replicate m zero).flatten elem 2, fun id => .sk id 0 n m, fun K => by rw [hrw, h, h2, h3, h4, iff_true rfl, iff_true rfl, repl_eq]⟩
def Mupd (l : LOp) (str : Bool) (m k x : Arg) : Prop := l = .mupd str m k x
theorem asMupd_unif (l : LOp) : (∀ K, asMupd l K = .fail) ∨ ∃ str m k x, l = .mupd str m k x ∧ ∀ K, asMupd l K = K str m k x := by
  cases l <;> first | (exact .inl fun _ => rfl) | (exact .inr ⟨_, _, _, _, rfl, fun _ => rfl⟩)

def ixD (d : DI) : Nat := match d with
  | .q j _ _ | .r j _ _ | .a j _ _ _ | .i j _ _ _ | .s j _ _ => j
def anD (d : DI) : Nat := match d with
  | .q _ n _ | .r _ n _ | .a _ n _ _ | .i _ n _ _ | .s _ n _ => n
def itD (d : DI) : It := match d with
  | .q _ _ x | .r _ _ x | .a _ _ _ x | .i _ _ _ x | .s _ _ x => x

structure Rec where
  d : DI
  f : Frame
  v : AV
  A : AW
  A' : AW
  ob : AO
  wn : Bool

/-- The trace: for every operation, in the abstract order, the frame, the value, the heaps. -/
inductive Trace (G : Nat → List AV) (CE : Nat → List AV → AW → CRes) (base : Nat) : List DI → Frame → AW → Pend → Chk → List Rec → Frame → AW → Prop
  | nil (f : Frame) (A : AW) (p : Pend) (c : Chk) : Trace G CE base [] f A p c [] f (putsAll p A)
  | skip (d : DI) (rest : List DI) (f : Frame) (A : AW) (p : Pend) (c : Chk) (rs : List Rec) (ff : Frame) (FF : AW) (hd : ∀ i n x, d ≠ .s i n x) (hg : gst (itD d) f = some false) (ob : AO)
      (ht : Trace G CE base rest (itSet (itD d) undefA f) A p c rs ff FF) : Trace G CE base (d :: rest) f A p c (⟨d, f, undefA, A, A, ob, false⟩ :: rs) ff FF
  | q (i anc : Nat) (x : It) (rest : List DI) (f : Frame) (A : AW) (p : Pend) (c : Chk) (v : AV) (rs : List Rec) (ff : Frame) (FF : AW) (ob : AO) (hg : gst x f = some true) (hv : ToldV G CE (itOp x) f A v)
      (ht : Trace G CE base rest (itSet x v f) A p c rs ff FF) : Trace G CE base (.q i anc x :: rest) f A p c (⟨.q i anc x, f, v, A, A, ob, true⟩ :: rs) ff FF
  | r (i anc : Nat) (x : It) (rest : List DI) (f : Frame) (A : AW) (p : Pend) (c : Chk) (v : AV) (rs : List Rec) (ff : Frame) (FF : AW) (ob : AO) (hg : gst x f = some true) (hv : ToldV G CE (itOp x) f A v)
      (ht : Trace G CE base rest (itSet x v f) A p ((i, itOp x, f, v) :: c) rs ff FF) : Trace G CE base (.r i anc x :: rest) f A p c (⟨.r i anc x, f, v, A, A, ob, true⟩ :: rs) ff FF
  | a (i anc q : Nat) (x : It) (rest : List DI) (f : Frame) (A : AW) (p : Pend) (c : Chk) (rs : List Rec) (ff : Frame) (FF : AW) (ob : AO) (mk : Nat → AV) (hg : gst x f = some true) (hv : ∀ K, astep (itOp x) f K = K ob mk)
      (ht : Trace G CE base rest (itSet x (mk (base + q)) f) A ((i, base + q, ob) :: p) c rs ff FF) : Trace G CE base (.a i anc q x :: rest) f A p c (⟨.a i anc q x, f, mk (base + q), A, A, ob, true⟩ :: rs) ff FF
  | i (i anc q : Nat) (x : It) (rest : List DI) (f : Frame) (A : AW) (p : Pend) (c : Chk) (rs : List Rec) (ff : Frame) (FF : AW) (str : Bool) (m k y : Arg) (pre post : Pend) (j : Nat) (es : List (AV × AV × Nat)) (clock : Nat)
      (hg : gst x f = some true) (hl : itOp x = .mupd str m k y) (hm : m.ev f = .m (base + q)) (hp : p = pre ++ (j, base + q, .map es clock) :: post) (hpre : ∀ e, e ∈ pre → e.2.1 ≠ base + q)
      (hf : ∀ Kf K0, findK str (k.ev f) es 0 Kf K0 = K0)
      (ht : Trace G CE base rest (itSet x undefA f) A (pre ++ (j, base + q, .map (es ++ [(k.ev f, y.ev f, clock)]) (Nat.succ clock)) :: post) c rs ff FF) :
      Trace G CE base (.i i anc q x :: rest) f A p c (⟨.i i anc q x, f, undefA, A, A, .map (es ++ [(k.ev f, y.ev f, clock)]) (Nat.succ clock), true⟩ :: rs) ff FF
  | s (i anc : Nat) (x : It) (rest : List DI) (f : Frame) (A : AW) (p : Pend) (c : Chk) (v : AV) (A' : AW) (rs : List Rec) (ff : Frame) (FF : AW) (ob : AO) (hg : gst x f = some true) (hv : Told G CE (itOp x) f (putsP anc p A) v A')
      (hc : ∀ e, e ∈ keepC anc c → ToldV G CE e.2.1 e.2.2.1 A' e.2.2.2)
      (ht : Trace G CE base rest (itSet x v f) A' (keepP anc p) (keepC anc c) rs ff FF) : Trace G CE base (.s i anc x :: rest) f A p c (⟨.s i anc x, f, v, putsP anc p A, A', ob, true⟩ :: rs) ff FF
  | sskip (i anc : Nat) (x : It) (rest : List DI) (f : Frame) (A : AW) (p : Pend) (c : Chk) (rs : List Rec) (ff : Frame) (FF : AW) (ob : AO) (hg : gst x f = some false) (hc : ∀ e, e ∈ keepC anc c → ToldV G CE e.2.1 e.2.2.1 (putsP anc p A) e.2.2.2)
      (ht : Trace G CE base rest (itSet x undefA f) (putsP anc p A) (keepP anc p) (keepC anc c) rs ff FF) : Trace G CE base (.s i anc x :: rest) f A p c (⟨.s i anc x, f, undefA, putsP anc p A, putsP anc p A, ob, false⟩ :: rs) ff FF

def o00 : AO := .siter 0 0 0
theorem runD_trace {G : Nat → List AV} {CE : Nat → List AV → AW → CRes} {base : Nat} : ∀ (l : List DI) (f : Frame) (A : AW) (p : Pend) (c : Chk) (r : Res), runD G CE base l f A p c = r → r ≠ .fail →
    ∃ rs ff FF, r = .nrm ff FF ∧ Trace G CE base l f A p c rs ff FF
  | [], f, A, p, c, r, h, _ => ⟨[], f, putsAll p A, by rw [← h]; exact mergeAll_eq p A _, .nil f A p c⟩
  | d :: l, f, A, p, c, r, h, hr => by
    have ih := fun f A p c h => runD_trace (G := G) (CE := CE) (base := base) l f A p c r h hr
    cases d with
    | q i anc x =>
      have h' : evIt x f (fun f' => runD G CE base l f' A p c) (fun o F => vstep G CE o f A fun v => runD G CE base l (F v) A p c) = r := h
      rw [evIt_eq] at h'
      cases hg : gst x f with
      | none => rw [hg] at h'; exact absurd h'.symm hr
      | some t =>
        rw [hg] at h'
        cases t with
        | false => obtain ⟨rs, ff, FF, h1, h2⟩ := ih _ _ _ _ h'; exact ⟨_, ff, FF, h1, .skip (.q i anc x) l f A p c rs ff FF (fun _ _ _ hh => by cases hh) hg o00 h2⟩
        | true =>
          rcases vstep_told (G := G) (CE := CE) (l := itOp x) (f := f) (A := A) (fun v => runD G CE base l (itSet x v f) A p c) with hf | ⟨v, hv, he⟩
          · exact absurd (h'.symm.trans hf) hr
          · obtain ⟨rs, ff, FF, h1, h2⟩ := ih _ _ _ _ (he.symm.trans h'); exact ⟨_, ff, FF, h1, .q i anc x l f A p c v rs ff FF o00 hg hv h2⟩
    | r i anc x =>
      have h' : evIt x f (fun f' => runD G CE base l f' A p c) (fun o F => vstep G CE o f A fun v => runD G CE base l (F v) A p ((i, o, f, v) :: c)) = r := h
      rw [evIt_eq] at h'
      cases hg : gst x f with
      | none => rw [hg] at h'; exact absurd h'.symm hr
      | some t =>
        rw [hg] at h'
        cases t with
        | false => obtain ⟨rs, ff, FF, h1, h2⟩ := ih _ _ _ _ h'; exact ⟨_, ff, FF, h1, .skip (.r i anc x) l f A p c rs ff FF (fun _ _ _ hh => by cases hh) hg o00 h2⟩
        | true =>
          rcases vstep_told (G := G) (CE := CE) (l := itOp x) (f := f) (A := A) (fun v => runD G CE base l (itSet x v f) A p ((i, itOp x, f, v) :: c)) with hf | ⟨v, hv, he⟩
          · exact absurd (h'.symm.trans hf) hr
          · obtain ⟨rs, ff, FF, h1, h2⟩ := ih _ _ _ _ (he.symm.trans h'); exact ⟨_, ff, FF, h1, .r i anc x l f A p c v rs ff FF o00 hg hv h2⟩
    | a i anc q x =>
      have h' : evIt x f (fun f' => runD G CE base l f' A p c) (fun o F => astep o f fun ob mk => AM.force (Nat.add base q) fun id => runD G CE base l (F (mk id)) A ((i, id, ob) :: p) c) = r := h
      rw [evIt_eq] at h'
      cases hg : gst x f with
      | none => rw [hg] at h'; exact absurd h'.symm hr
      | some t =>
        rw [hg] at h'
        cases t with
        | false => obtain ⟨rs, ff, FF, h1, h2⟩ := ih _ _ _ _ h'; exact ⟨_, ff, FF, h1, .skip (.a i anc q x) l f A p c rs ff FF (fun _ _ _ hh => by cases hh) hg o00 h2⟩
        | true =>
          rcases astep_unif (itOp x) f with hf | ⟨ob, mk, hv⟩
          · exact absurd (h'.symm.trans (hf _)) hr
          · have h3 := (hv _).symm.trans h'
            rw [force_eq] at h3
            obtain ⟨rs, ff, FF, h1, h2⟩ := ih _ _ _ _ h3
            exact ⟨_, ff, FF, h1, .a i anc q x l f A p c rs ff FF ob mk hg hv h2⟩
    | i i anc q x =>
      have h' : evIt x f (fun f' => runD G CE base l f' A p c) (fun o F => asMupd o fun str m k y => AM.asM .fail (m.ev f) fun id => AM.iff (Nat.beq id (Nat.add base q)) .fail (insP id (k.ev f) (y.ev f) str p fun p' => runD G CE base l (F undefA) A p' c)) = r := h
      rw [evIt_eq] at h'
      cases hg : gst x f with
      | none => rw [hg] at h'; exact absurd h'.symm hr
      | some t =>
        rw [hg] at h'
        cases t with
        | false => obtain ⟨rs, ff, FF, h1, h2⟩ := ih _ _ _ _ h'; exact ⟨_, ff, FF, h1, .skip (.i i anc q x) l f A p c rs ff FF (fun _ _ _ hh => by cases hh) hg o00 h2⟩
        | true =>
          rcases asMupd_unif (itOp x) with hf | ⟨str, m, k, y, hl, hv⟩
          · exact absurd (h'.symm.trans (hf _)) hr
          · have h3 := (hv _).symm.trans h'
            cases hmv : m.ev f with
            | m id =>
              rw [hmv] at h3
              have h4 : AM.iff (Nat.beq id (Nat.add base q)) .fail (insP id (k.ev f) (y.ev f) str p fun p' => runD G CE base l (itSet x undefA f) A p' c) = r := h3
              cases hb : Nat.beq id (Nat.add base q) with
              | false => rw [hb] at h4; exact absurd h4.symm hr
              | true =>
                rw [hb, iff_true rfl] at h4
                have hid : id = base + q := beq_iff.1 hb
                subst hid
                rcases insP_told p (fun p' => runD G CE base l (itSet x undefA f) A p' c) with hf | ⟨pre, post, j, es, clock, hp, hpre, he⟩
                · exact absurd (h4.symm.trans hf) hr
                · rw [he] at h4
                  rcases findK_unif str (k.ev f) es 0 with h5 | ⟨j', v', h5⟩ | h5
                  · rw [h5] at h4; exact absurd h4.symm hr
                  · rw [h5] at h4; exact absurd h4.symm hr
                  · rw [h5] at h4
                    obtain ⟨rs, ff, FF, h1, h2⟩ := ih _ _ _ _ h4
                    exact ⟨_, ff, FF, h1, .i i anc q x l f A p c rs ff FF str m k y pre post j es clock hg hl hmv hp hpre h5 h2⟩
            | _ => rw [hmv] at h3; exact absurd h3.symm hr
    | s i anc x =>
      have h' : dropChk anc c (fun c' => mergeA anc p A fun p' A' => evIt x f (fun f' => recheck G CE c' A' (runD G CE base l f' A' p' c')) fun o F => wstep G CE o f A' fun v A'' => recheck G CE c' A'' (runD G CE base l (F v) A'' p' c')) = r := h
      rw [dropChk_eq, mergeA_eq, evIt_eq] at h'
      cases hg : gst x f with
      | none => rw [hg] at h'; exact absurd h'.symm hr
      | some t =>
        rw [hg] at h'
        cases t with
        | false =>
          rcases recheck_told (G := G) (CE := CE) (A := putsP anc p A) (K := runD G CE base l (itSet x undefA f) (putsP anc p A) (keepP anc p) (keepC anc c)) (keepC anc c) with h4 | ⟨h4, h5⟩
          · exact absurd (h'.symm.trans h4) hr
          · obtain ⟨rs, ff, FF, h1, h2⟩ := ih _ _ _ _ (h4.symm.trans h'); exact ⟨_, ff, FF, h1, .sskip i anc x l f A p c rs ff FF o00 hg h5 h2⟩
        | true =>
          rcases wstep_told (G := G) (CE := CE) (l := itOp x) (f := f) (A := putsP anc p A) (fun v A'' => recheck G CE (keepC anc c) A'' (runD G CE base l (itSet x v f) A'' (keepP anc p) (keepC anc c))) with hf | ⟨v, A'', hv, he⟩
          · exact absurd (h'.symm.trans hf) hr
          · have h3 := he.symm.trans h'
            rcases recheck_told (G := G) (CE := CE) (A := A'') (K := runD G CE base l (itSet x v f) A'' (keepP anc p) (keepC anc c)) (keepC anc c) with h4 | ⟨h4, h5⟩
            · exact absurd (h3.symm.trans h4) hr
            · obtain ⟨rs, ff, FF, h1, h2⟩ := ih _ _ _ _ (h4.symm.trans h3)
              exact ⟨_, ff, FF, h1, .s i anc x l f A p c v A'' rs ff FF o00 hg hv h5 h2⟩
end
section
/-! ## Reading a trace anywhere -/
def isS : DI → Bool
  | .s _ _ _ => true
  | _ => false
def isR : DI → Bool
  | .r _ _ _ => true
  | _ => false
def frameOf (f : Frame) : List Rec → Frame
  | [] => f
  | r :: rs => frameOf (itSet (itD r.d) r.v f) rs
def coreOf (A : AW) : List Rec → AW
  | [] => A
  | r :: rs => coreOf (if isS r.d = true then r.A' else A) rs
/-- The first entry with that number gets the object. -/
def replP (id : Nat) (ob : AO) : Pend → Pend
  | [] => []
  | e :: p => if e.2.1 = id then (e.1, id, ob) :: p else e :: replP id ob p
def pendStep (base : Nat) (p : Pend) (r : Rec) : Pend :=
  match r.d with
  | .a i _ q _ => if r.wn = true then (i, base + q, r.ob) :: p else p
  | .i _ _ q _ => if r.wn = true then replP (base + q) r.ob p else p
  | .s _ anc _ => keepP anc p
  | _ => p
def pendOf (base : Nat) (p : Pend) : List Rec → Pend
  | [] => p
  | r :: rs => pendOf base (pendStep base p r) rs
def chkStep (c : Chk) (r : Rec) : Chk :=
  match r.d with
  | .r i _ x => if r.wn = true then (i, itOp x, r.f, r.v) :: c else c
  | .s _ anc _ => keepC anc c
  | _ => c
def chkOf (c : Chk) : List Rec → Chk
  | [] => c
  | r :: rs => chkOf (chkStep c r) rs

/-- What a record tells, where frame, heap, waiting objects and checks are these. -/
inductive RecOk (G : Nat → List AV) (CE : Nat → List AV → AW → CRes) (base : Nat) (f : Frame) (A : AW) (p : Pend) (c : Chk) : Rec → Prop
  | skip (d : DI) (hd : ∀ i n x, d ≠ .s i n x) (hg : gst (itD d) f = some false) (ob : AO) : RecOk G CE base f A p c ⟨d, f, undefA, A, A, ob, false⟩
  | q (i anc : Nat) (x : It) (v : AV) (ob : AO) (hg : gst x f = some true) (hv : ToldV G CE (itOp x) f A v) : RecOk G CE base f A p c ⟨.q i anc x, f, v, A, A, ob, true⟩
  | r (i anc : Nat) (x : It) (v : AV) (ob : AO) (hg : gst x f = some true) (hv : ToldV G CE (itOp x) f A v) : RecOk G CE base f A p c ⟨.r i anc x, f, v, A, A, ob, true⟩
  | a (i anc q : Nat) (x : It) (ob : AO) (mk : Nat → AV) (hg : gst x f = some true) (hv : ∀ K, astep (itOp x) f K = K ob mk) : RecOk G CE base f A p c ⟨.a i anc q x, f, mk (base + q), A, A, ob, true⟩
  | i (i anc q : Nat) (x : It) (str : Bool) (m k y : Arg) (j : Nat) (es : List (AV × AV × Nat)) (clock : Nat) (hg : gst x f = some true) (hl : itOp x = .mupd str m k y) (hm : m.ev f = .m (base + q))
      (hp : (j, base + q, AO.map es clock) ∈ p) (hf : ∀ Kf K0, findK str (k.ev f) es 0 Kf K0 = K0) :
      RecOk G CE base f A p c ⟨.i i anc q x, f, undefA, A, A, .map (es ++ [(k.ev f, y.ev f, clock)]) (Nat.succ clock), true⟩
  | s (i anc : Nat) (x : It) (v : AV) (A' : AW) (ob : AO) (hg : gst x f = some true) (hv : Told G CE (itOp x) f (putsP anc p A) v A') (hc : ∀ e, e ∈ keepC anc c → ToldV G CE e.2.1 e.2.2.1 A' e.2.2.2) :
      RecOk G CE base f A p c ⟨.s i anc x, f, v, putsP anc p A, A', ob, true⟩
  | sskip (i anc : Nat) (x : It) (ob : AO) (hg : gst x f = some false) (hc : ∀ e, e ∈ keepC anc c → ToldV G CE e.2.1 e.2.2.1 (putsP anc p A) e.2.2.2) : RecOk G CE base f A p c ⟨.s i anc x, f, undefA, putsP anc p A, putsP anc p A, ob, false⟩

theorem replP_eq {id : Nat} {ob : AO} : ∀ (pre : Pend) {j : Nat} {o : AO} {post : Pend}, (∀ e, e ∈ pre → e.2.1 ≠ id) → replP id ob (pre ++ (j, id, o) :: post) = pre ++ (j, id, ob) :: post
  | [], j, o, post, _ => by simp [replP]
  | e :: pre, j, o, post, h => by
    have h1 : e.2.1 ≠ id := h e (by simp)
    have h2 := replP_eq (id := id) (ob := ob) pre (j := j) (o := o) (post := post) fun e he => h e (by simp [he])
    show (if e.2.1 = id then _ else e :: replP id ob (pre ++ (j, id, o) :: post)) = _
    rw [if_neg h1, h2]; rfl

theorem trace_split {G : Nat → List AV} {CE : Nat → List AV → AW → CRes} {base : Nat} {l : List DI} {f : Frame} {A : AW} {p : Pend} {c : Chk} {rs : List Rec} {ff : Frame} {FF : AW} (h : Trace G CE base l f A p c rs ff FF) :
    l = rs.map (·.d) ∧ ff = frameOf f rs ∧ FF = putsAll (pendOf base p rs) (coreOf A rs) ∧
      ∀ pre r post, rs = pre ++ r :: post → RecOk G CE base (frameOf f pre) (coreOf A pre) (pendOf base p pre) (chkOf c pre) r := by
  have head : ∀ {f : Frame} {A : AW} {p : Pend} {c : Chk} {r : Rec} {rs : List Rec}, RecOk G CE base f A p c r →
      (∀ pre r' post, rs = pre ++ r' :: post → RecOk G CE base (frameOf (itSet (itD r.d) r.v f) pre) (coreOf (if isS r.d = true then r.A' else A) pre) (pendOf base (pendStep base p r) pre) (chkOf (chkStep c r) pre) r') →
      ∀ pre r' post, r :: rs = pre ++ r' :: post → RecOk G CE base (frameOf f pre) (coreOf A pre) (pendOf base p pre) (chkOf c pre) r' := by
    intro f A p c r rs h1 h2 pre r' post he
    cases pre with
    | nil => simp at he; rw [← he.1]; exact h1
    | cons x pre =>
      simp at he
      rw [← he.1]
      exact h2 pre r' post he.2
  induction h with
  | nil f A p c => exact ⟨rfl, rfl, rfl, fun pre r post he => by simp at he⟩
  | skip d rest f A p c rs ff FF hd hg ob ht ih =>
    obtain ⟨h1, h2, h3, h4⟩ := ih
    have e1 : isS d = false := by cases d <;> first | rfl | exact absurd rfl (hd _ _ _)
    have e2 : pendStep base p ⟨d, f, undefA, A, A, ob, false⟩ = p := by cases d <;> first | rfl | exact absurd rfl (hd _ _ _)
    have e3 : chkStep c ⟨d, f, undefA, A, A, ob, false⟩ = c := by cases d <;> first | rfl | exact absurd rfl (hd _ _ _)
    refine ⟨by simp [h1], h2, ?_, head (.skip d hd hg ob) ?_⟩
    · rw [h3]; simp [pendOf, coreOf, e1, e2]
    · simp only [e1, e2, e3, Bool.false_eq_true, if_false]; exact h4
  | q i anc x rest f A p c v rs ff FF ob hg hv ht ih =>
    obtain ⟨h1, h2, h3, h4⟩ := ih
    exact ⟨by simp [h1], h2, h3, head (.q i anc x v ob hg hv) h4⟩
  | r i anc x rest f A p c v rs ff FF ob hg hv ht ih =>
    obtain ⟨h1, h2, h3, h4⟩ := ih
    exact ⟨by simp [h1], h2, h3, head (.r i anc x v ob hg hv) h4⟩
  | a i anc q x rest f A p c rs ff FF ob mk hg hv ht ih =>
    obtain ⟨h1, h2, h3, h4⟩ := ih
    exact ⟨by simp [h1], h2, h3, head (.a i anc q x ob mk hg hv) h4⟩
  | i i anc q x rest f A p c rs ff FF str m k y pre post j es clock hg hl hm hp hpre hf ht ih =>
    obtain ⟨h1, h2, h3, h4⟩ := ih
    have e2 : pendStep base p ⟨.i i anc q x, f, undefA, A, A, .map (es ++ [(k.ev f, y.ev f, clock)]) (Nat.succ clock), true⟩ = pre ++ (j, base + q, .map (es ++ [(k.ev f, y.ev f, clock)]) (Nat.succ clock)) :: post := by
      simp only [pendStep, if_true]
      rw [hp, replP_eq pre hpre]
    refine ⟨by simp [h1], h2, ?_, head (.i i anc q x str m k y j es clock hg hl hm (by rw [hp]; simp) hf) ?_⟩
    · rw [h3]; simp only [pendOf, e2]; rfl
    · rw [e2]; exact h4
  | s i anc x rest f A p c v A' rs ff FF ob hg hv hc ht ih =>
    obtain ⟨h1, h2, h3, h4⟩ := ih
    exact ⟨by simp [h1], h2, h3, head (.s i anc x v A' ob hg hv hc) h4⟩
  | sskip i anc x rest f A p c rs ff FF ob hg hc ht ih =>
    obtain ⟨h1, h2, h3, h4⟩ := ih
    exact ⟨by simp [h1], h2, h3, head (.sskip i anc x ob hg hc) h4⟩

def dstIt : It → Option Nat
  | .o d _ | .g _ _ d _ => some d.n
  | _ => none

/-- What is asked of the items of a drawn region. -/
structure DrawOk (P : Program) (nt : Nat) (ops : Array Oper) (n : Nat) (items : List DI) : Prop where
  all : ∀ i, i < ops.size → ∃ d, d ∈ items ∧ ixD d = i
  nodup : (items.map ixD).Nodup
  item : ∀ d, d ∈ items → ∃ o, ops[ixD d]? = some o ∧ ItOk P nt ops (itD d) o
  kq : ∀ i an x, DI.q i an x ∈ items → pureOp (itOp x) = true
  kr : ∀ i an x, DI.r i an x ∈ items → readOp (itOp x) = true
  ka : ∀ i an q x, DI.a i an q x ∈ items → allocOp (itOp x) = true ∧ q < n
  anc : ∀ d, d ∈ items → ∀ o, ops[ixD d]? = some o → ∀ e, e ∈ o.after → Region.binds .any e = true → (anD d).testBit e.on = true
  gen : ∀ d, d ∈ items → ∀ j, (anD d).testBit j = true → ∃ o e, ops[ixD d]? = some o ∧ e ∈ o.after ∧ Region.binds .any e = true ∧ (e.on = j ∨ ∃ d', d' ∈ items ∧ ixD d' = e.on ∧ (anD d').testBit j = true)
  topo : ∀ pre d post, items = pre ++ d :: post → ∀ j, (anD d).testBit j = true → ∃ d', d' ∈ pre ∧ ixD d' = j
  spine : ∀ pre d post, items = pre ++ d :: post → isS d = true ∨ isR d = true → ∀ s, s ∈ pre → isS s = true → (anD d).testBit (ixD s) = true
  data : ∀ d, d ∈ items → ∀ o, ops[ixD d]? = some o → ∀ d', d' ∈ items → ∀ t, dstIt (itD d') = some t → t ∈ o.looksAt ops → ixD d = ixD d' ∨ (anD d).testBit (ixD d') = true ∨ (anD d').testBit (ixD d) = true
  uniq : ∀ d, d ∈ items → ∀ d', d' ∈ items → ∀ t, dstIt (itD d) = some t → dstIt (itD d') = some t → ixD d = ixD d'
  qs : ∀ i an q x i' an' x', DI.a i an q x ∈ items → DI.a i' an' q x' ∈ items → i = i'
  ins : ∀ i an q x, DI.i i an q x ∈ items → ∃ j an' x', DI.a j an' q x' ∈ items ∧ an.testBit j = true ∧ (∀ s, s ∈ items → isS s = true → (anD s).testBit j = true → (anD s).testBit i = true) ∧ ∀ i2 an2 x2, DI.i i2 an2 q x2 ∈ items → i2 = i
end
section
/-! ## The region in any order -/
theorem itSet_get {x : It} {v : AV} {f : Frame} {t : Nat} (ht : t < 512) : getT t (itSet x v f) = if dstIt x = some t then v else getT t f := by
  have key : ∀ (d : Sel), getT t (d.set v f) = if some d.n = some t then v else getT t f := by
    intro d
    rw [d.setE]
    by_cases h : d.n = t
    · subst h; rw [getT_setT_same, if_pos rfl]
    · rw [getT_setT_ne _ _ _ _ h d.lt ht, if_neg (by simpa using h)]
  cases x with
  | o d l => exact key d
  | g s want d l => exact key d
  | n l => simp [itSet, dstIt]
  | gn s want l => simp [itSet, dstIt]
theorem frameOf_none : ∀ (l : List Rec) (f : Frame) (t : Nat), t < 512 → (∀ r, r ∈ l → dstIt (itD r.d) ≠ some t) → getT t (frameOf f l) = getT t f
  | [], f, t, _, _ => rfl
  | r :: l, f, t, ht, h => by
    show getT t (frameOf (itSet (itD r.d) r.v f) l) = _
    rw [frameOf_none l _ t ht fun r' hr => h r' (by simp [hr]), itSet_get ht, if_neg (h r (by simp))]
theorem frameOf_append : ∀ (l m : List Rec) (f : Frame), frameOf f (l ++ m) = frameOf (frameOf f l) m
  | [], m, f => rfl
  | r :: l, m, f => frameOf_append l m _
theorem frameOf_one {pre post : List Rec} {r : Rec} {f : Frame} {t : Nat} (ht : t < 512) (hr : dstIt (itD r.d) = some t) (hp : ∀ r', r' ∈ post → dstIt (itD r'.d) ≠ some t) : getT t (frameOf f (pre ++ r :: post)) = r.v := by
  rw [frameOf_append]
  show getT t (frameOf (itSet (itD r.d) r.v (frameOf f pre)) post) = _
  rw [frameOf_none post _ t ht hp, itSet_get ht, if_pos hr]
theorem coreOf_append : ∀ (l m : List Rec) (A : AW), coreOf A (l ++ m) = coreOf (coreOf A l) m
  | [], m, A => rfl
  | r :: l, m, A => coreOf_append l m _
theorem coreOf_none : ∀ (l : List Rec) (A : AW), (∀ r, r ∈ l → isS r.d = false) → coreOf A l = A
  | [], A, _ => rfl
  | r :: l, A, h => by
    show coreOf (if isS r.d = true then r.A' else A) l = _
    rw [h r (by simp)]
    exact coreOf_none l A fun r' hr => h r' (by simp [hr])
/-- Two ways to cut a list. -/
theorem cuts {α : Type} : ∀ {a b c d : List α}, a ++ b = c ++ d → (∃ m, c = a ++ m ∧ b = m ++ d) ∨ ∃ m, a = c ++ m ∧ d = m ++ b
  | [], b, c, d, h => .inl ⟨c, rfl, h⟩
  | x :: a, b, [], d, h => .inr ⟨x :: a, rfl, h.symm⟩
  | x :: a, b, y :: c, d, h => by
    simp only [List.cons_append, List.cons.injEq] at h
    rcases cuts h.2 with ⟨m, h1, h2⟩ | ⟨m, h1, h2⟩
    · exact .inl ⟨m, by rw [h.1, h1]; rfl, h2⟩
    · exact .inr ⟨m, by rw [h.1, h1]; rfl, h2⟩
/-- Where the operations with effect of a set come first, the heap is told by where they end. -/
theorem core_unique {A : AW} {L : Rec → Prop} {a b c d : List Rec} (he : a ++ b = c ++ d) (ha : ∀ r, r ∈ a → isS r.d = true → L r) (hb : ∀ r, r ∈ b → isS r.d = true → ¬ L r)
    (hc : ∀ r, r ∈ c → isS r.d = true → L r) (hd : ∀ r, r ∈ d → isS r.d = true → ¬ L r) : coreOf A a = coreOf A c := by
  rcases cuts he with ⟨m, h1, h2⟩ | ⟨m, h1, h2⟩
  · rw [h1, coreOf_append, coreOf_none m _ fun r hr => ?_]
    cases hs : isS r.d with
    | false => rfl
    | true => exact absurd (hc r (by rw [h1]; simp [hr]) hs) (hb r (by rw [h2]; simp [hr]) hs)
  · rw [h1, coreOf_append, coreOf_none m _ fun r hr => ?_]
    cases hs : isS r.d with
    | false => rfl
    | true => exact absurd (ha r (by rw [h1]; simp [hr]) hs) (hd r (by rw [h2]; simp [hr]) hs)
theorem chkOf_keep {e : Nat × LOp × Frame × AV} : ∀ (l : List Rec) (c : Chk), e ∈ c → (∀ r, r ∈ l → isS r.d = true → bitB (anD r.d) e.1 = false) → e ∈ chkOf c l
  | [], c, h, _ => h
  | r :: l, c, h, hn => by
    show e ∈ chkOf (chkStep c r) l
    refine chkOf_keep l _ ?_ fun r' hr => hn r' (by simp [hr])
    have hs := hn r (by simp)
    obtain ⟨d, f, v, A, A', ob, wn⟩ := r
    cases d with
    | s i an x =>
      have := hs rfl
      simp only [chkStep, keepC, List.mem_filter]
      exact ⟨h, by rw [show bitB an e.1 = false from this]; rfl⟩
    | r i an x => simp only [chkStep]; split <;> simp [h]
    | _ => exact h
/-- The last operation with effect of a list. -/
theorem last_spine : ∀ (l : List Rec), (∀ r, r ∈ l → isS r.d = false) ∨ ∃ m1 s m2, l = m1 ++ s :: m2 ∧ isS s.d = true ∧ ∀ r, r ∈ m2 → isS r.d = false
  | [] => .inl fun r h => by cases h
  | r :: l => by
    rcases last_spine l with h | ⟨m1, s, m2, h1, h2, h3⟩
    · cases hs : isS r.d with
      | false =>
        refine .inl fun r' hr => ?_
        rcases List.mem_cons.1 hr with rfl | hr
        · exact hs
        · exact h r' hr
      | true => exact .inr ⟨[], r, l, rfl, hs, h⟩
    · exact .inr ⟨r :: m1, s, m2, by rw [h1]; rfl, h2, h3⟩
theorem coreOf_last {A : AW} {m1 m2 : List Rec} {s : Rec} (hs : isS s.d = true) (h : ∀ r, r ∈ m2 → isS r.d = false) : coreOf A (m1 ++ s :: m2) = s.A' := by
  rw [coreOf_append]
  show coreOf (if isS s.d = true then s.A' else _) m2 = _
  rw [if_pos hs, coreOf_none m2 _ h]
end
section
/-- A drawn region and its trace. -/
structure Ctx (X : Par) (CE : Nat → List AV → AW → CRes) (nt : Nat) (ops : Array Oper) (n : Nat) (items : List DI) (base : Nat) (f0 : Frame) (A0 : AW) (rs : List Rec) : Prop where
  ok : DrawOk X.P nt ops n items
  its : items = rs.map (·.d)
  rc : ∀ pre r post, rs = pre ++ r :: post → RecOk X.G CE base (frameOf f0 pre) (coreOf A0 pre) (pendOf base [] pre) (chkOf [] pre) r

section
variable {X : Par} {CE : Nat → List AV → AW → CRes} {nt : Nat} {ops : Array Oper} {n : Nat} {items : List DI} {base : Nat} {f0 : Frame} {A0 : AW} {rs : List Rec}

theorem Ctx.nodup (C : Ctx X CE nt ops n items base f0 A0 rs) : (rs.map fun r => ixD r.d).Nodup := by
  have := C.ok.nodup
  rw [C.its, List.map_map] at this
  exact this
theorem Ctx.ne {pre post : List Rec} {r : Rec} (C : Ctx X CE nt ops n items base f0 A0 rs) (h : rs = pre ++ r :: post) : (∀ r', r' ∈ pre → ixD r'.d ≠ ixD r.d) ∧ ∀ r', r' ∈ post → ixD r'.d ≠ ixD r.d := by
  have := C.nodup
  rw [h, List.map_append, List.map_cons, List.nodup_append] at this
  obtain ⟨_, h2, h3⟩ := this
  refine ⟨fun r' hr he => ?_, fun r' hr he => ?_⟩
  · exact h3 _ (List.mem_map.2 ⟨r', hr, rfl⟩) _ (by simp) he
  · exact (List.nodup_cons.1 h2).1 (List.mem_map.2 ⟨r', hr, he⟩)
theorem Ctx.inj (C : Ctx X CE nt ops n items base f0 A0 rs) {r r' : Rec} (h : r ∈ rs) (h' : r' ∈ rs) (he : ixD r.d = ixD r'.d) : r = r' := by
  obtain ⟨pre, post, hs⟩ := List.append_of_mem h
  obtain ⟨h1, h2⟩ := C.ne hs
  rw [hs] at h'
  rcases List.mem_append.1 h' with h3 | h3
  · exact absurd he.symm (h1 _ h3)
  · rcases List.mem_cons.1 h3 with rfl | h3
    · rfl
    · exact absurd he.symm (h2 _ h3)
theorem Ctx.mem (C : Ctx X CE nt ops n items base f0 A0 rs) {r : Rec} (h : r ∈ rs) : r.d ∈ items := by rw [C.its]; exact List.mem_map.2 ⟨r, h, rfl⟩
theorem Ctx.recOf (C : Ctx X CE nt ops n items base f0 A0 rs) {d : DI} (h : d ∈ items) : ∃ r, r ∈ rs ∧ r.d = d := by rw [C.its] at h; obtain ⟨r, h1, h2⟩ := List.mem_map.1 h; exact ⟨r, h1, h2⟩
theorem Ctx.topo (C : Ctx X CE nt ops n items base f0 A0 rs) {pre post : List Rec} {r : Rec} (h : rs = pre ++ r :: post) {j : Nat} (hj : (anD r.d).testBit j = true) : ∃ r', r' ∈ pre ∧ ixD r'.d = j := by
  obtain ⟨d', h1, h2⟩ := C.ok.topo (pre.map (·.d)) r.d (post.map (·.d)) (by rw [C.its, h]; simp) j hj
  obtain ⟨r', h3, rfl⟩ := List.mem_map.1 h1
  exact ⟨r', h3, h2⟩
theorem Ctx.spine (C : Ctx X CE nt ops n items base f0 A0 rs) {pre post : List Rec} {r : Rec} (h : rs = pre ++ r :: post) (hr : isS r.d = true ∨ isR r.d = true) {s : Rec} (hs : s ∈ pre) (hss : isS s.d = true) : (anD r.d).testBit (ixD s.d) = true :=
  C.ok.spine (pre.map (·.d)) r.d (post.map (·.d)) (by rw [C.its, h]; simp) hr s.d (List.mem_map.2 ⟨s, hs, rfl⟩) hss

/-- Of two records of which one lies in the other's set, it lies before. -/
theorem Ctx.before (C : Ctx X CE nt ops n items base f0 A0 rs) {pre post : List Rec} {r : Rec} (h : rs = pre ++ r :: post) {r' : Rec} (hr' : r' ∈ rs) (hb : (anD r.d).testBit (ixD r'.d) = true) : r' ∈ pre := by
  obtain ⟨r2, h1, h2⟩ := C.topo h hb
  have : r2 = r' := C.inj (by rw [h]; simp [h1]) hr' h2
  exact this ▸ h1
theorem Ctx.notBefore (C : Ctx X CE nt ops n items base f0 A0 rs) {pre post : List Rec} {r : Rec} (h : rs = pre ++ r :: post) {r' : Rec} (hr' : r' ∈ pre) : (anD r'.d).testBit (ixD r.d) = false := by
  cases hb : (anD r'.d).testBit (ixD r.d) with
  | false => rfl
  | true =>
    obtain ⟨p1, p2, hp⟩ := List.append_of_mem hr'
    have h2 : rs = p1 ++ r' :: (p2 ++ r :: post) := by rw [h, hp]; simp
    have hin := C.before h2 (r' := r) (by rw [h]; simp) hb
    exact absurd rfl ((C.ne h).1 r (by rw [hp]; simp [hin]))

/-- A waiting object of the abstract order: whose it is. -/
structure PE (base : Nat) (rs pre : List Rec) (e : Nat × Nat × AO) : Prop where
  al : ∃ r an q x, r ∈ pre ∧ r.d = .a e.1 an q x ∧ r.wn = true ∧ e.2.1 = base + q ∧
    ((∃ ri i2 an2 x2, ri ∈ pre ∧ ri.d = .i i2 an2 q x2 ∧ ri.wn = true ∧ e.2.2 = ri.ob) ∨ ((∀ ri i2 an2 x2, ri ∈ pre → ri.d = .i i2 an2 q x2 → ri.wn = false) ∧ e.2.2 = r.ob))
  sp : ∀ s, s ∈ pre → isS s.d = true → (anD s.d).testBit e.1 = false
theorem pendOf_snoc (base : Nat) : ∀ (pre : List Rec) (r : Rec) (p : Pend), pendOf base p (pre ++ [r]) = pendStep base (pendOf base p pre) r
  | [], _, _ => rfl
  | _ :: pre, r, _ => pendOf_snoc base pre r _
theorem mem_replP {id : Nat} {ob : AO} : ∀ {p : Pend} {e : Nat × Nat × AO}, e ∈ replP id ob p → e ∈ p ∧ (e.2.1 ≠ id ∨ True) ∨ ∃ e', e' ∈ p ∧ e'.2.1 = id ∧ e = (e'.1, id, ob)
  | [], e, h => by cases h
  | a :: p, e, h => by
    simp only [replP] at h
    split at h
    · rename_i ha
      rcases List.mem_cons.1 h with rfl | h
      · exact .inr ⟨a, by simp, ha, rfl⟩
      · exact .inl ⟨by simp [h], .inr trivial⟩
    · rcases List.mem_cons.1 h with rfl | h
      · exact .inl ⟨by simp, .inr trivial⟩
      · rcases mem_replP h with h1 | ⟨e', h1, h2, h3⟩
        · exact .inl ⟨by simp [h1.1], .inr trivial⟩
        · exact .inr ⟨e', by simp [h1], h2, h3⟩
end
end
section
section
variable {X : Par} {CE : Nat → List AV → AW → CRes} {nt : Nat} {ops : Array Oper} {n : Nat} {items : List DI} {base : Nat} {f0 : Frame} {A0 : AW} {rs : List Rec}

theorem mem_replP' {id : Nat} {ob : AO} : ∀ {p : Pend} {e : Nat × Nat × AO}, (p.map (·.2.1)).Nodup → e ∈ replP id ob p → (e ∈ p ∧ e.2.1 ≠ id) ∨ ∃ e', e' ∈ p ∧ e'.2.1 = id ∧ e = (e'.1, id, ob)
  | [], _, _, h => by cases h
  | a :: p, e, hn, h => by
    simp only [List.map_cons, List.nodup_cons] at hn
    simp only [replP] at h
    split at h
    · rename_i ha
      rcases List.mem_cons.1 h with rfl | h
      · exact .inr ⟨a, by simp, ha, rfl⟩
      · refine .inl ⟨by simp [h], fun he => hn.1 ?_⟩
        rw [ha, ← he]
        exact List.mem_map.2 ⟨e, h, rfl⟩
    · rename_i ha
      rcases List.mem_cons.1 h with rfl | h
      · exact .inl ⟨by simp, ha⟩
      · rcases mem_replP' hn.2 h with ⟨h1, h2⟩ | ⟨e', h1, h2, h3⟩
        · exact .inl ⟨by simp [h1], h2⟩
        · exact .inr ⟨e', by simp [h1], h2, h3⟩
theorem replP_ids {id : Nat} {ob : AO} : ∀ (p : Pend), (replP id ob p).map (·.2.1) = p.map (·.2.1)
  | [] => rfl
  | a :: p => by
    simp only [replP]
    split
    · rename_i ha; simp [ha]
    · simp [replP_ids p]

/-- What waits in the abstract order, and whose it is. -/
theorem pend_PE (C : Ctx X CE nt ops n items base f0 A0 rs) : ∀ (k : Nat) (pre post : List Rec), pre.length = k → rs = pre ++ post → ((pendOf base [] pre).map (·.2.1)).Nodup ∧ ∀ e, e ∈ pendOf base [] pre → PE base rs pre e := by
  intro k
  induction k with
  | zero =>
    intro pre post hl h
    have : pre = [] := List.length_eq_zero_iff.1 hl
    subst this
    exact ⟨List.nodup_nil, fun e he => by cases he⟩
  | succ k ih =>
    intro pre post hl h
    rcases List.eq_nil_or_concat pre with rfl | ⟨pre0, r, rfl⟩
    · simp at hl
    · have hs : rs = pre0 ++ r :: post := by rw [h]; simp
      obtain ⟨ihn, ihe⟩ := ih pre0 (r :: post) (by simpa using hl) hs
      rw [List.concat_eq_append, pendOf_snoc]
      have hmem : r ∈ rs := by rw [hs]; simp
      have hpm : ∀ r', r' ∈ pre0 → r' ∈ rs := fun r' hr => by rw [hs]; simp [hr]
      have hne := (C.ne hs).1
      -- an old entry, where the record changes nothing of it
      have keep : ∀ e, e ∈ pendOf base [] pre0 → (isS r.d = true → (anD r.d).testBit e.1 = false) → (∀ i an q x, r.d = .i i an q x → r.wn = true → e.2.1 ≠ base + q) → PE base rs (pre0 ++ [r]) e := by
        intro e he h1 h2
        obtain ⟨⟨ra, an, q, x, a1, a2, a3, a4, a5⟩, b⟩ := ihe e he
        refine ⟨⟨ra, an, q, x, by simp [a1], a2, a3, a4, ?_⟩, fun s hs' hss => ?_⟩
        · rcases a5 with ⟨ri, i2, an2, x2, c1, c2, c3, c4⟩ | ⟨c1, c2⟩
          · exact .inl ⟨ri, i2, an2, x2, by simp [c1], c2, c3, c4⟩
          · refine .inr ⟨fun ri i2 an2 x2 hri hd => ?_, c2⟩
            rcases List.mem_append.1 hri with h3 | h3
            · exact c1 ri i2 an2 x2 h3 hd
            · rw [List.mem_singleton] at h3
              subst h3
              cases hw : ri.wn with
              | false => rfl
              | true => exact absurd a4 (h2 i2 an2 q x2 hd hw)
        · rcases List.mem_append.1 hs' with h3 | h3
          · exact b s h3 hss
          · rw [List.mem_singleton] at h3
            subst h3
            exact h1 hss
      unfold pendStep
      split
      · -- an allocation
        rename_i i an q x hd
        split
        · rename_i hw
          have hfresh : ∀ e, e ∈ pendOf base [] pre0 → e.2.1 ≠ base + q := by
            intro e he hc
            obtain ⟨⟨ra, an', q', x', a1, a2, _, a4, _⟩, _⟩ := ihe e he
            have hqq : q' = q := by omega
            subst hqq
            have := C.ok.qs i an q' x e.1 an' x' (hd ▸ C.mem hmem) (a2 ▸ C.mem (hpm ra a1))
            exact hne ra a1 (by rw [a2, hd]; exact this.symm)
          refine ⟨?_, fun e he => ?_⟩
          · simp only [List.map_cons, List.nodup_cons]
            refine ⟨fun hc => ?_, ihn⟩
            obtain ⟨e, h1, h2⟩ := List.mem_map.1 hc
            exact hfresh e h1 h2
          · rcases List.mem_cons.1 he with rfl | he
            · refine ⟨⟨r, an, q, x, by simp, hd, hw, rfl, .inr ⟨fun ri i2 an2 x2 hri hdi => ?_, rfl⟩⟩, fun s hs' hss => ?_⟩
              · rcases List.mem_append.1 hri with h3 | h3
                · exfalso
                  obtain ⟨j, an', x', c1, c2, _, _⟩ := C.ok.ins i2 an2 q x2 (hdi ▸ C.mem (hpm ri h3))
                  have := C.ok.qs i an q x j an' x' (hd ▸ C.mem hmem) c1
                  subst this
                  have hb := C.notBefore hs h3
                  rw [hdi, hd] at hb
                  have hb' : an2.testBit i = false := hb
                  rw [hb'] at c2; cases c2
                · rw [List.mem_singleton] at h3
                  subst h3
                  rw [hd] at hdi; cases hdi
              · rcases List.mem_append.1 hs' with h3 | h3
                · have hb := C.notBefore hs h3
                  rw [hd] at hb; exact hb
                · rw [List.mem_singleton] at h3
                  subst h3
                  rw [hd] at hss; cases hss
            · exact keep e he (fun hss => by rw [hd] at hss; cases hss) (fun _ _ _ _ hdi => by rw [hd] at hdi; cases hdi)
        · exact ⟨ihn, fun e he => keep e he (fun hss => by rw [hd] at hss; cases hss) (fun _ _ _ _ hdi => by rw [hd] at hdi; cases hdi)⟩
      · -- an insert
        rename_i i an q x hd
        split
        · rename_i hw
          refine ⟨by rw [replP_ids]; exact ihn, fun e he => ?_⟩
          rcases mem_replP' ihn he with ⟨h1, h2⟩ | ⟨e', h1, h2, rfl⟩
          · exact keep e h1 (fun hss => by rw [hd] at hss; cases hss) (fun i' an' q' x' hdi _ => by rw [hd] at hdi; cases hdi; exact h2)
          · obtain ⟨⟨ra, an', q', x', a1, a2, a3, a4, _⟩, b⟩ := ihe e' h1
            have hqq : q' = q := by omega
            subst hqq
            refine ⟨⟨ra, an', q', x', by simp [a1], a2, a3, rfl, .inl ⟨r, i, an, x, by simp, hd, hw, rfl⟩⟩, fun s hs' hss => ?_⟩
            rcases List.mem_append.1 hs' with h3 | h3
            · exact b s h3 hss
            · rw [List.mem_singleton] at h3
              subst h3
              rw [hd] at hss; cases hss
        · rename_i hw
          exact ⟨ihn, fun e he => keep e he (fun hss => by rw [hd] at hss; cases hss) (fun _ _ _ _ _ hw' => absurd hw' hw)⟩
      · -- an effect
        rename_i i an x hd
        refine ⟨?_, fun e he => ?_⟩
        · exact (List.filter_sublist.map _).nodup ihn
        · simp only [keepP, List.mem_filter] at he
          refine keep e he.1 (fun _ => ?_) (fun _ _ _ _ hdi => by rw [hd] at hdi; cases hdi)
          have hb := he.2
          rw [bitB_eq] at hb
          rw [hd]
          show an.testBit e.1 = false
          simpa using hb
      · rename_i h1 h2 h3
        exact ⟨ihn, fun e he => keep e he (fun hss => by
          cases hd : r.d with
          | s i an x => exact absurd hd (h3 i an x)
          | _ => rw [hd] at hss; cases hss) (fun i an q x hdi _ => absurd hdi (h2 i an q x))⟩
end
end
section
section
variable {X : Par} {CE : Nat → List AV → AW → CRes} {nt : Nat} {ops : Array Oper} {n : Nat} {items : List DI} {base : Nat} {f0 : Frame} {A0 : AW} {rs : List Rec}

theorem ItOk.dst {P : Program} {x : It} {o : Oper} (h : ItOk P nt ops x o) : o.dst = dstIt x ∧ ∀ t, dstIt x = some t → t < nt ∧ t < 512 := by
  cases h with
  | o d l _ hg hd hn h => exact ⟨hd, fun t ht => by cases ht; exact ⟨hn, d.lt⟩⟩
  | n l _ hg hd h => exact ⟨hd, fun t ht => by cases ht⟩
  | g s want d l _ j hg hj hs hd hn h => exact ⟨hd, fun t ht => by cases ht; exact ⟨hn, d.lt⟩⟩
  | gn s want l _ j hg hj hs hd h => exact ⟨hd, fun t ht => by cases ht⟩
theorem eval_put {a : Act} {dst : Option Nat} {v : Value} {t : Nat} (ht : dst = some t → t < a.tmps.size) : (a.put dst v).eval (.tmp t) = if dst = some t then v else a.eval (.tmp t) := by
  cases dst with
  | none => simp [Act.put]
  | some d =>
    by_cases h : d = t
    · subst h
      rw [if_pos rfl]
      simp only [Act.eval, Act.put, Array.getD_eq_getD_getElem?]
      rw [Array.getElem?_setIfInBounds_self_of_lt (ht rfl)]; rfl
    · rw [if_neg (by simpa using h)]
      simp only [Act.eval, Act.put, Array.getD_eq_getD_getElem?]
      rw [Array.getElem?_setIfInBounds_ne h]

/-- The content of a waiting object, where the operations of L have come up. -/
def Content (rs : List Rec) (L : Nat → Bool) (q : Nat) (r : Rec) (ob : AO) : Prop :=
  (∃ ri i2 an2 x2, ri ∈ rs ∧ ri.d = .i i2 an2 q x2 ∧ ri.wn = true ∧ L i2 = true ∧ ob = ri.ob) ∨ ((∀ ri i2 an2 x2, ri ∈ rs → ri.d = .i i2 an2 q x2 → ri.wn = true → L i2 = false) ∧ ob = r.ob)

/-- What is so when the operations of L have come up. -/
structure Inv (X : Par) (nt base : Nat) (f0 : Frame) (A0 : AW) (rs : List Rec) (σ0 : Sg) (As : AW) (w0 : World) (L : Nat → Bool) (σ : Sg) (A : AW) (a : Act) (w : World) : Prop where
  hr : HR X σ A w
  ex : Ext σ0 As w0 σ A w
  nx : A0.next ≤ A.next
  core : ∃ pre post, rs = pre ++ post ∧ A = coreOf A0 pre ∧ (∀ s, s ∈ pre → isS s.d = true → L (ixD s.d) = true) ∧ ∀ s, s ∈ post → isS s.d = true → L (ixD s.d) = false
  size : a.tmps.size = nt
  defers : a.defers = []
  t1 : ∀ t, t < 512 → (∀ r, r ∈ rs → L (ixD r.d) = true → dstIt (itD r.d) ≠ some t) → VR σ (getT t f0) (a.eval (.tmp t))
  t2 : ∀ r, r ∈ rs → L (ixD r.d) = true → ∀ t, dstIt (itD r.d) = some t → VR σ r.v (a.eval (.tmp t))
  p1 : ∀ r i an q x, r ∈ rs → r.d = .a i an q x → r.wn = true → L i = true → (∀ s, s ∈ rs → isS s.d = true → L (ixD s.d) = true → (anD s.d).testBit i = false) →
    ∀ ob, Content rs L q r ob → ∃ l, PendAt X σ A w (base + q) ob l ∧ w0.heap.size ≤ l.block
  p2 : ∀ r i an q x r' i' an' q' x', r ∈ rs → r.d = .a i an q x → r.wn = true → L i = true → r' ∈ rs → r'.d = .a i' an' q' x' → r'.wn = true → L i' = true → q ≠ q' →
    ∀ l l', σ (base + q) = some l → σ (base + q') = some l' → l.block ≠ l'.block
  p3 : ∀ r i an q x, r ∈ rs → r.d = .a i an q x → r.wn = true → L i = false → σ (base + q) = none

/-- L is closed: with an operation it has all that must come before. -/
def Closed (items : List DI) (L : Nat → Bool) : Prop := ∀ d, d ∈ items → L (ixD d) = true → ∀ j, (anD d).testBit j = true → L j = true

theorem Ctx.ancIn (C : Ctx X CE nt ops n items base f0 A0 rs) {L : Nat → Bool} (hL : Closed items L) {d : DI} (hd : d ∈ items) {o : Oper} (ho : ops[ixD d]? = some o) (hr : ∀ e, e ∈ o.after → Region.binds .any e = true → L e.on = true) :
    ∀ j, (anD d).testBit j = true → L j = true := by
  intro j hj
  obtain ⟨o', e, h1, h2, h3, h4⟩ := C.ok.gen d hd j hj
  rw [ho] at h1; cases h1
  have he := hr e h2 h3
  rcases h4 with rfl | ⟨d', h5, h6, h7⟩
  · exact he
  · exact hL d' h5 (by rw [h6]; exact he) j h7

/-- What an operation looks at stands in its temporaries as the abstract order has it. -/
theorem Inv.looks (C : Ctx X CE nt ops n items base f0 A0 rs) {σ0 σ : Sg} {As A : AW} {w0 w : World} {L : Nat → Bool} {a : Act} (I : Inv X nt base f0 A0 rs σ0 As w0 L σ A a w) (hL : Closed items L)
    {pre post : List Rec} {r : Rec} (h : rs = pre ++ r :: post) (hr : L (ixD r.d) = false) (hanc : ∀ j, (anD r.d).testBit j = true → L j = true) {o : Oper} (ho : ops[ixD r.d]? = some o) {t : Nat} (ht : t < 512) (hlk : t ∈ o.looksAt ops) :
    VR σ (getT t (frameOf f0 pre)) (a.eval (.tmp t)) := by
  have hmem : r ∈ rs := by rw [h]; simp
  by_cases hw : ∃ r', r' ∈ rs ∧ dstIt (itD r'.d) = some t
  · obtain ⟨r', h1, h2⟩ := hw
    have huniq : ∀ r2, r2 ∈ rs → dstIt (itD r2.d) = some t → r2 = r' := fun r2 hm hd => C.inj hm h1 (C.ok.uniq r2.d (C.mem hm) r'.d (C.mem h1) t hd h2)
    have old : L (ixD r'.d) = false → r' ∉ pre → VR σ (getT t (frameOf f0 pre)) (a.eval (.tmp t)) := by
      intro hl hp
      rw [frameOf_none pre f0 t ht fun r2 hr2 hd => hp (huniq r2 (by rw [h]; simp [hr2]) hd ▸ hr2)]
      exact I.t1 t ht fun r2 hr2 hl2 hd => by
        rw [huniq r2 hr2 hd, hl] at hl2; cases hl2
    rcases C.ok.data r.d (C.mem hmem) o ho r'.d (C.mem h1) t h2 hlk with he | he | he
    · have : r = r' := C.inj hmem h1 he
      subst this
      exact old hr fun hp => (C.ne h).1 r hp rfl
    · have hp := C.before h h1 he
      obtain ⟨p1, p2, hp'⟩ := List.append_of_mem hp
      have hs : rs = p1 ++ r' :: (p2 ++ r :: post) := by rw [h, hp']; simp
      rw [hp', frameOf_one ht h2 fun r2 hr2 hd => (C.ne hs).2 r2 (by simp [hr2]) (by rw [huniq r2 (by rw [hs]; simp [hr2]) hd])]
      exact I.t2 r' h1 (hanc _ he) t h2
    · refine old ?_ fun hp => ?_
      · cases hl : L (ixD r'.d) with
        | false => rfl
        | true => rw [hL r'.d (C.mem h1) hl _ he] at hr; cases hr
      · rw [C.notBefore h hp] at he; cases he
  · rw [frameOf_none pre f0 t ht fun r2 hr2 hd => hw ⟨r2, by rw [h]; simp [hr2], hd⟩]
    exact I.t1 t ht fun r2 hr2 _ hd => hw ⟨r2, hr2, hd⟩

/-- The heap where an operation with effect, or one that reads, comes up. -/
theorem Inv.coreAt (C : Ctx X CE nt ops n items base f0 A0 rs) {σ0 σ : Sg} {As A : AW} {w0 w : World} {L : Nat → Bool} {a : Act} (I : Inv X nt base f0 A0 rs σ0 As w0 L σ A a w) (hL : Closed items L)
    {pre post : List Rec} {r : Rec} (h : rs = pre ++ r :: post) (hr : L (ixD r.d) = false) (hanc : ∀ j, (anD r.d).testBit j = true → L j = true) (hs : isS r.d = true) : A = coreOf A0 pre := by
  obtain ⟨p1, p2, h1, h2, h3, h4⟩ := I.core
  rw [h2]
  refine core_unique (L := fun r => L (ixD r.d) = true) (a := p1) (b := p2) (c := pre) (d := r :: post) (by rw [← h1, h]) h3 (fun s hs' hss => by rw [h4 s hs' hss]; simp) (fun s hs' hss => hanc _ (C.spine h (.inl hs) hs' hss)) fun s hs' hss => ?_
  rcases List.mem_cons.1 hs' with rfl | hs'
  · rw [hr]; simp
  · intro hl
    obtain ⟨q1, q2, hq⟩ := List.append_of_mem hs'
    have hsp : rs = (pre ++ r :: q1) ++ s :: q2 := by rw [h, hq]; simp
    have hb := C.spine hsp (.inl hss) (s := r) (by simp) hs
    have := hL s.d (C.mem (by rw [hsp]; simp)) hl _ hb
    rw [hr] at this; cases this

theorem PendAt.put {σ : Sg} {A : AW} {w : World} {id : Nat} {o : AO} {l : Loc} (p : PendAt X σ A w id o l) {id2 : Nat} (hi : id2 < 32768) {o2 : AO} {l2 : Loc} (h2 : σ id2 = some l2) (hne : l2.block ≠ l.block) : PendAt X σ (put A id2 (some o2)) w id o l :=
  ⟨p.loc, p.ob, p.base, fun id' o' l' hl hs => by
    rcases (Lv_put_iff hi).1 hl with ⟨rfl, _⟩ | ⟨_, h⟩
    · rw [h2] at hs; cases hs; exact hne
    · exact p.apart id' o' l' h hs, p.apartF⟩
/-- What must be there is put into the abstract heap. -/
theorem merge_sound {anc : Nat} {σ0 σ : Sg} {As : AW} {w0 w : World} : ∀ (p : Pend) {A : AW}, HR X σ A w → Ext σ0 As w0 σ A w → (p.map (·.2.1)).Nodup →
    (∀ e, e ∈ p → bitB anc e.1 = true → ∃ l, PendAt X σ A w e.2.1 e.2.2 l ∧ w0.heap.size ≤ l.block) →
    (∀ e e', e ∈ p → e' ∈ p → bitB anc e.1 = true → bitB anc e'.1 = true → e.2.1 ≠ e'.2.1 → ∀ l l', σ e.2.1 = some l → σ e'.2.1 = some l' → l.block ≠ l'.block) →
    HR X σ (putsP anc p A) w ∧ Ext σ0 As w0 σ (putsP anc p A) w ∧ (putsP anc p A).next = A.next ∧
      ∀ id o l, PendAt X σ A w id o l → (∀ e l', e ∈ p → bitB anc e.1 = true → σ e.2.1 = some l' → l'.block ≠ l.block) → PendAt X σ (putsP anc p A) w id o l
  | [], A, h, k, _, _, _ => ⟨h, k, rfl, fun _ _ _ hp _ => hp⟩
  | e :: p, A, h, k, hn, hp, hd => by
    simp only [List.map_cons, List.nodup_cons] at hn
    simp only [putsP]
    by_cases hb : bitB anc e.1 = true
    · rw [if_pos hb]
      obtain ⟨l, h1, h2⟩ := hp e (by simp) hb
      have hi : e.2.1 < 32768 := Nat.lt_of_lt_of_le (h.dom _ _ h1.loc).1 h.next
      have rest := merge_sound (anc := anc) (σ0 := σ0) (As := As) (w0 := w0) p (h.add h1) (k.add hi h1.loc h2) hn.2
        (fun e' he' hb' => by
          obtain ⟨l', g1, g2⟩ := hp e' (by simp [he']) hb'
          have hne : e.2.1 ≠ e'.2.1 := fun hc => hn.1 (hc ▸ List.mem_map.2 ⟨e', he', rfl⟩)
          exact ⟨l', g1.put hi h1.loc (hd e e' (by simp) (by simp [he']) hb hb' hne l l' h1.loc g1.loc), g2⟩)
        (fun a b ha hb' => hd a b (by simp [ha]) (by simp [hb']))
      refine ⟨rest.1, rest.2.1, rest.2.2.1, fun id o l' hp' hne => rest.2.2.2 id o l' (hp'.put hi h1.loc (hne e l (by simp) hb h1.loc)) fun e' l2 he' hb' hl2 => hne e' l2 (by simp [he']) hb' hl2⟩
    · rw [if_neg hb]
      have rest := merge_sound (anc := anc) (σ0 := σ0) (As := As) (w0 := w0) p h k hn.2 (fun e' he' => hp e' (by simp [he'])) (fun a b ha hb' => hd a b (by simp [ha]) (by simp [hb']))
      exact ⟨rest.1, rest.2.1, rest.2.2.1, fun id o l' hp' hne => rest.2.2.2 id o l' hp' fun e' l2 he' hb' hl2 => hne e' l2 (by simp [he']) hb' hl2⟩
end
end
end AM
end
end Go.Proofs.YtejhenloolgmkaaGreatDoor
