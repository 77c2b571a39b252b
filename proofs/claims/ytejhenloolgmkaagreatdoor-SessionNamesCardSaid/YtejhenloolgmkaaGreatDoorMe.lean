/- The checker of abstract functions is sound; a call on a part of the heap runs so anywhere. Condition: none. -/
import Derived.Test.YtejhenloolgmkaaGreatDoorMd
namespace Go.Proofs.YtejhenloolgmkaaGreatDoor
open Go
set_option linter.all false
noncomputable section
namespace AM
section
/-! ## The checker: regions, code, functions -/
def nthO {α : Type} (l : List α) (n : Nat) : Option α := match l with
  | [] => none
  | x :: l => match n with | 0 => some x | n + 1 => nthO l n
theorem nthO_eq {α : Type} : ∀ (l : List α) (n : Nat), nthO l n = l[n]?
  | [], _ => by simp [nthO]
  | _ :: _, 0 => rfl
  | _ :: l, n + 1 => by simpa [nthO] using nthO_eq l n
theorem nthO_arr {α : Type} (a : Array α) (n : Nat) : nthO a.toList n = a[n]? := by rw [nthO_eq]; simp
def dstIs (o : Oper) (n : Nat) : Bool := match o.dst with | some t => Nat.beq t n | none => false
theorem dstIs_sound {o : Oper} {n : Nat} (h : dstIs o n = true) : o.dst = some n := by
  unfold dstIs at h
  cases hd : o.dst with
  | none => rw [hd] at h; cases h
  | some t => rw [hd] at h; rw [beq_iff.1 h]
def guardIs (ops : List Oper) (o : Oper) (n : Nat) (want : Bool) : Bool := match o.guard with
  | some (j, w) => !(w ^^ want) && (match nthO ops j with | some p => dstIs p n | none => false)
  | none => false
theorem guardIs_sound {ops : Array Oper} {o : Oper} {n : Nat} {want : Bool} (h : guardIs ops.toList o n want = true) : ∃ j, o.guard = some (j, want) ∧ (ops[j]?).bind (·.dst) = some n := by
  unfold guardIs at h
  cases hg : o.guard with
  | none => rw [hg] at h; cases h
  | some p =>
    obtain ⟨j, w⟩ := p
    rw [hg] at h
    simp only [Bool.and_eq_true, nthO_arr] at h
    obtain ⟨h1, h2⟩ := h
    have : w = want := by cases w <;> cases want <;> first | rfl | cases h1
    subst this
    cases ho : ops[j]? with
    | none => rw [ho] at h2; cases h2
    | some p => rw [ho] at h2; exact ⟨j, rfl, by rw [ho]; exact dstIs_sound h2⟩
def chkIt (T : Nat → Option TypeInfo) (nt : Nat) (ops : List Oper) (x : It) (o : Oper) : Bool := match x with
  | .o d l => o.guard.isNone && dstIs o d.n && lt d.n nt && chkOp T l o.op
  | .n l => o.guard.isNone && o.dst.isNone && chkOp T l o.op
  | .g s want d l => guardIs ops o s.n want && lt s.n nt && dstIs o d.n && lt d.n nt && chkOp T l o.op
  | .gn s want l => guardIs ops o s.n want && lt s.n nt && o.dst.isNone && chkOp T l o.op
def chkIts (T : Nat → Option TypeInfo) (nt : Nat) (ops : List Oper) (xs : List It) (os : List Oper) : Bool := match xs, os with
  | [], [] => true
  | x :: xs, o :: os => chkIt T nt ops x o && chkIts T nt ops xs os
  | _, _ => false
section
variable {P : Program} {T : Nat → Option TypeInfo} {nt : Nat}
theorem chkIt_sound (hT : TOk P T) {ops : Array Oper} {x : It} {o : Oper} (h : chkIt T nt ops.toList x o = true) : ItOk P nt ops x o := by
  cases x with
  | o d l =>
    simp only [chkIt, Bool.and_eq_true] at h
    exact .o d l o (by simpa using h.1.1.1) (dstIs_sound h.1.1.2) (lt_iff.1 h.1.2) (chkOp_sound hT h.2)
  | n l =>
    simp only [chkIt, Bool.and_eq_true] at h
    exact .n l o (by simpa using h.1.1) (by simpa using h.1.2) (chkOp_sound hT h.2)
  | g s want d l =>
    simp only [chkIt, Bool.and_eq_true] at h
    obtain ⟨j, h1, h2⟩ := guardIs_sound h.1.1.1.1
    exact .g s want d l o j h1 h2 (lt_iff.1 h.1.1.1.2) (dstIs_sound h.1.1.2) (lt_iff.1 h.1.2) (chkOp_sound hT h.2)
  | gn s want l =>
    simp only [chkIt, Bool.and_eq_true] at h
    obtain ⟨j, h1, h2⟩ := guardIs_sound h.1.1.1
    exact .gn s want l o j h1 h2 (lt_iff.1 h.1.1.2) (by simpa using h.1.2) (chkOp_sound hT h.2)
theorem chkIts_sound (hT : TOk P T) {ops : Array Oper} : ∀ {xs : List It} {os : List Oper} {k : Nat}, ops.toList.drop k = os → chkIts T nt ops.toList xs os = true → ItsOk P nt ops xs (List.range' k os.length)
  | [], [], _, _, _ => .nil
  | [], _ :: _, _, _, h => nomatch h
  | _ :: _, [], _, _, h => nomatch h
  | x :: xs, o :: os, k, hd, h => by
    obtain ⟨h1, h2⟩ := Bool.and_eq_true_iff.1 (show (chkIt T nt ops.toList x o && chkIts T nt ops.toList xs os) = true from h)
    have hk : ops[k]? = some o := by
      have : ops.toList[k]? = (ops.toList.drop k)[0]? := by rw [List.getElem?_drop]; simp
      rw [← Array.getElem?_toList, this, hd]; rfl
    have hd' : ops.toList.drop (k + 1) = os := by rw [← List.drop_drop, hd]; rfl
    rw [List.length_cons, List.range'_succ]
    exact .cons x k o xs _ hk (chkIt_sound hT h1) (chkIts_sound hT hd' h2)
end

def nodupB (l : List Nat) : Bool := match l with
  | [] => true
  | x :: l => l.all (fun y => !Nat.beq x y) && nodupB l
theorem nodupB_sound : ∀ {l : List Nat}, nodupB l = true → l.Nodup
  | [], _ => List.nodup_nil
  | x :: l, h => by
    obtain ⟨h1, h2⟩ := Bool.and_eq_true_iff.1 (show (l.all (fun y => !Nat.beq x y) && nodupB l) = true from h)
    refine List.nodup_cons.2 ⟨fun hm => ?_, nodupB_sound h2⟩
    have := List.all_eq_true.1 h1 x hm
    simp [beq_iff] at this
def ancOf (items : List DI) (k : Nat) : Nat := match items with
  | [] => 0
  | d :: items => Bool.rec (motive := fun _ => Nat) (ancOf items k) (anD d) (Nat.beq (ixD d) k)
theorem ancOf_bit : ∀ {items : List DI} {k j : Nat}, (ancOf items k).testBit j = true → ∃ d, d ∈ items ∧ ixD d = k ∧ (anD d).testBit j = true
  | [], _, _, h => by simp [ancOf] at h
  | d :: items, k, j, h => by
    have he : ancOf (d :: items) k = Bool.rec (motive := fun _ => Nat) (ancOf items k) (anD d) (Nat.beq (ixD d) k) := rfl
    rw [he] at h
    cases hb : Nat.beq (ixD d) k with
    | false =>
      rw [hb] at h
      obtain ⟨d', h1, h2⟩ := ancOf_bit (items := items) h
      exact ⟨d', List.mem_cons_of_mem _ h1, h2⟩
    | true => rw [hb] at h; exact ⟨d, by simp, beq_iff.1 hb, h⟩
def orAnc (items : List DI) (es : List Edge) : Nat := match es with
  | [] => 0
  | e :: es => Bool.rec (motive := fun _ => Nat) (orAnc items es) (Nat.lor (Nat.lor (Nat.pow 2 e.on) (ancOf items e.on)) (orAnc items es)) (Region.binds .any e)
theorem orAnc_cons (items : List DI) (e : Edge) (es : List Edge) : orAnc items (e :: es) = if Region.binds .any e = true then 2 ^ e.on ||| ancOf items e.on ||| orAnc items es else orAnc items es := by
  have he : orAnc items (e :: es) = Bool.rec (motive := fun _ => Nat) (orAnc items es) (Nat.lor (Nat.lor (Nat.pow 2 e.on) (ancOf items e.on)) (orAnc items es)) (Region.binds .any e) := rfl
  rw [he]
  cases Region.binds .any e <;> rfl
theorem orAnc_on {items : List DI} : ∀ {es : List Edge} {e : Edge}, e ∈ es → Region.binds .any e = true → (orAnc items es).testBit e.on = true
  | [], _, h, _ => nomatch h
  | x :: es, e, h, hb => by
    rw [orAnc_cons]
    rcases List.mem_cons.1 h with rfl | h
    · rw [if_pos hb]; simp [Nat.testBit_or, Nat.testBit_two_pow]
    · split
      · simp [Nat.testBit_or, orAnc_on h hb]
      · exact orAnc_on h hb
theorem orAnc_bit {items : List DI} : ∀ {es : List Edge} {j : Nat}, (orAnc items es).testBit j = true → ∃ e, e ∈ es ∧ Region.binds .any e = true ∧ (e.on = j ∨ ∃ d', d' ∈ items ∧ ixD d' = e.on ∧ (anD d').testBit j = true)
  | [], _, h => by simp [orAnc] at h
  | x :: es, j, h => by
    rw [orAnc_cons] at h
    by_cases hb : Region.binds .any x = true
    · rw [if_pos hb] at h
      simp only [Nat.testBit_or, Bool.or_eq_true, Nat.testBit_two_pow, decide_eq_true_iff] at h
      rcases h with (h | h) | h
      · exact ⟨x, by simp, hb, .inl h⟩
      · exact ⟨x, by simp, hb, .inr (ancOf_bit h)⟩
      · obtain ⟨e, h1, h2⟩ := orAnc_bit h; exact ⟨e, by simp [h1], h2⟩
    · rw [if_neg hb] at h
      obtain ⟨e, h1, h2⟩ := orAnc_bit h; exact ⟨e, by simp [h1], h2⟩
def subB (a m : Nat) : Bool := Nat.beq (Nat.land a m) a
theorem subB_sound {a m : Nat} (h : subB a m = true) {j : Nat} (hj : a.testBit j = true) : m.testBit j = true := by
  have e : a &&& m = a := beq_iff.1 h
  rw [← e, Nat.testBit_and] at hj
  exact (Bool.and_eq_true_iff.1 hj).2
def topoB (l : List DI) (m : Nat) : Bool := match l with
  | [] => true
  | d :: l => subB (anD d) m && topoB l (Nat.lor m (Nat.pow 2 (ixD d)))
theorem topoB_sound : ∀ {l : List DI} {m : Nat}, topoB l m = true → ∀ pre d post, l = pre ++ d :: post → ∀ j, (anD d).testBit j = true → m.testBit j = true ∨ ∃ d', d' ∈ pre ∧ ixD d' = j
  | [], _, _, pre, d, post, he, _, _ => by simp at he
  | x :: l, m, h, pre, d, post, he, j, hj => by
    obtain ⟨h1, h2⟩ := Bool.and_eq_true_iff.1 (show (subB (anD x) m && topoB l (Nat.lor m (Nat.pow 2 (ixD x)))) = true from h)
    cases pre with
    | nil =>
      simp at he
      rw [← he.1] at hj
      exact .inl (subB_sound h1 hj)
    | cons y pre =>
      simp at he
      rcases topoB_sound h2 pre d post he.2 j hj with h3 | ⟨d', h3, h4⟩
      · have h3' : (m ||| 2 ^ ixD x).testBit j = true := h3
        simp only [Nat.testBit_or, Nat.testBit_two_pow, Bool.or_eq_true, decide_eq_true_iff] at h3'
        rcases h3' with h4 | h4
        · exact .inl h4
        · exact .inr ⟨y, by simp, by rw [← he.1]; exact h4⟩
      · exact .inr ⟨d', by simp [h3], h4⟩
def spineB (l : List DI) (m : Nat) : Bool := match l with
  | [] => true
  | d :: l => (!(isS d || isR d) || subB m (anD d)) && spineB l (Bool.rec (motive := fun _ => Nat) m (Nat.lor m (Nat.pow 2 (ixD d))) (isS d))
theorem spineB_sound : ∀ {l : List DI} {m : Nat}, spineB l m = true → ∀ pre d post, l = pre ++ d :: post → isS d = true ∨ isR d = true → (∀ j, m.testBit j = true → (anD d).testBit j = true) ∧ ∀ s, s ∈ pre → isS s = true → (anD d).testBit (ixD s) = true
  | [], _, _, pre, d, post, he, _ => by simp at he
  | x :: l, m, h, pre, d, post, he, hd => by
    obtain ⟨h1, h2⟩ := Bool.and_eq_true_iff.1 (show ((!(isS x || isR x) || subB m (anD x)) && spineB l (Bool.rec (motive := fun _ => Nat) m (Nat.lor m (Nat.pow 2 (ixD x))) (isS x))) = true from h)
    cases pre with
    | nil =>
      simp at he
      rw [← he.1] at hd ⊢
      have : (isS x || isR x) = true := by simpa using hd
      rw [this] at h1
      exact ⟨fun j hj => subB_sound (by simpa using h1) hj, fun s hs => nomatch hs⟩
    | cons y pre =>
      simp at he
      obtain ⟨h3, h4⟩ := spineB_sound h2 pre d post he.2 hd
      rw [he.1] at h3
      cases hy : isS y with
      | false =>
        rw [hy] at h3
        refine ⟨h3, fun s hs hss => ?_⟩
        rcases List.mem_cons.1 hs with rfl | hs
        · rw [hy] at hss; cases hss
        · exact h4 s hs hss
      | true =>
        rw [hy] at h3
        have h3' : ∀ j, (m ||| 2 ^ ixD y).testBit j = true → (anD d).testBit j = true := h3
        refine ⟨fun j hj => h3' j (by simp [Nat.testBit_or, hj]), fun s hs hss => ?_⟩
        rcases List.mem_cons.1 hs with rfl | hs
        · exact h3' _ (by simp [Nat.testBit_or, Nat.testBit_two_pow])
        · exact h4 s hs hss

/-- The temporaries that an operation looks at, worked out. -/
def seqL (l : List Nat) (K : List Nat → Bool) : Bool := match l with
  | [] => K []
  | x :: l => force x fun y => seqL l fun r => K (y :: r)
theorem seqL_eq : ∀ (l : List Nat) (K : List Nat → Bool), seqL l K = K l
  | [], _ => rfl
  | x :: l, K => by
    show force x (fun y => seqL l fun r => K (y :: r)) = _
    rw [force_eq, seqL_eq]
def memL (l : List Nat) (t : Nat) : Bool := match l with
  | [] => false
  | x :: l => Nat.beq x t || memL l t
theorem memL_of : ∀ {l : List Nat} {t : Nat}, t ∈ l → memL l t = true
  | [], _, h => nomatch h
  | x :: l, t, h => by
    rcases List.mem_cons.1 h with rfl | h
    · show (Nat.beq t t || memL l t) = true
      rw [beq_iff.2 rfl]; rfl
    · show (Nat.beq x t || memL l t) = true
      rw [memL_of h]; simp
def optL (o : Option Operand) : List Operand := match o with | some x => [x] | none => []
def callL (c : Call) : List Operand := match c.callee with
  | .value f => f :: c.args.toList
  | .invoke r _ => r :: c.args.toList
  | .builtin _ => c.args.toList
def operL (o : Op) : List Operand := match o with
  | .call c => callL c
  | .slice _ x l h m => x :: (optL l ++ (optL h ++ optL m))
  | .build _ ps | .buildSlice _ _ ps => ps.toList.map (·.2)
  | .makeFunc _ a b => a.toList ++ b.toList
  | .move x | .assign x | .box _ x | .load _ x | .nilCheck x | .unOp _ _ x | .convert _ _ x | .makeInterface _ x
  | .fieldAddr _ x _ | .field _ x _ | .range _ x | .next x _ | .entry x | .extract x _ => [x]
  | .pick c a b => [c, a, b]
  | .store _ a v | .binOp _ _ a v _ | .makeSlice _ a v | .indexAddr _ a v | .index _ a v | .lookup _ a v _ => [a, v]
  | .mapUpdate _ m k v | .insert _ m k v => [m, k, v]
  | .alloc _ => []
  | o => o.operands.toList
theorem optL_eq (o : Option Operand) : optL o = o.toArray.toList := by cases o <;> rfl
theorem operL_eq (o : Op) : operL o = o.operands.toList := by
  cases o with
  | call c => obtain ⟨callee, args, ts⟩ := c; cases callee <;> simp [operL, callL, Op.operands, Call.operands]
  | slice t x l h m => simp [operL, Op.operands, optL_eq]
  | build t ps => simp [operL, Op.operands]
  | buildSlice t n ps => simp [operL, Op.operands]
  | makeFunc f a b => simp [operL, Op.operands]
  | _ => rfl
def tmpsL (l : List Operand) (r : List Nat) : List Nat := match l with
  | [] => r
  | .tmp t :: l => t :: tmpsL l r
  | _ :: l => tmpsL l r
theorem tmpsL_mem : ∀ {l : List Operand} {r : List Nat} {t : Nat}, (t ∈ (l.filterMap fun | .tmp t => some t | _ => none) ∨ t ∈ r) → t ∈ tmpsL l r
  | [], r, t, h => by simpa [tmpsL] using h
  | x :: l, r, t, h => by
    cases x with
    | tmp n =>
      show t ∈ n :: tmpsL l r
      simp only [List.filterMap_cons, List.mem_cons] at h
      rcases h with (rfl | h) | h
      · simp
      · exact List.mem_cons_of_mem _ (tmpsL_mem (.inl h))
      · exact List.mem_cons_of_mem _ (tmpsL_mem (.inr h))
    | _ => exact tmpsL_mem (l := l) (by simpa using h)
def lookL (ops : List Oper) (o : Oper) : List Nat := tmpsL (operL o.op) (match o.guard with
  | some (g, _) => (match nthO ops g with | some p => (match p.dst with | some t => [t] | none => []) | none => [])
  | none => [])
theorem lookL_mem {ops : Array Oper} {o : Oper} {t : Nat} (h : t ∈ o.looksAt ops) : t ∈ lookL ops.toList o := by
  unfold Oper.looksAt at h
  unfold lookL
  refine tmpsL_mem ?_
  rw [operL_eq]
  rcases List.mem_append.1 h with h | h
  · exact .inl h
  · refine .inr ?_
    cases hg : o.guard with
    | none => rw [hg] at h; cases h
    | some p =>
      obtain ⟨g, b⟩ := p
      rw [hg] at h
      simp only [nthO_arr] at h ⊢
      cases ho : ops[g]? with
      | none => rw [ho] at h; simp at h
      | some p =>
        rw [ho] at h
        simp only [Option.bind_some] at h ⊢
        cases hd : p.dst with
        | none => rw [hd] at h; simp at h
        | some t' => rw [hd] at h; simpa using h

def kindB (n : Nat) (d : DI) : Bool := match d with
  | .q _ _ x => pureOp (itOp x)
  | .r _ _ x => readOp (itOp x)
  | .a _ _ q x => allocOp (itOp x) && lt q n
  | _ => true
def dataB (items : List DI) (ops : List Oper) (d : DI) (o : Oper) : Bool :=
  seqL (lookL ops o) fun lk => items.all fun d' => match dstIt (itD d') with
    | none => true
    | some t => !(memL lk t) || (Nat.beq (ixD d) (ixD d') || (bitB (anD d) (ixD d') || bitB (anD d') (ixD d)))
def uniqB (items : List DI) (d : DI) : Bool := match dstIt (itD d) with
  | none => true
  | some t => items.all fun d' => match dstIt (itD d') with
    | none => true
    | some t' => !Nat.beq t t' || Nat.beq (ixD d) (ixD d')
def allocB (items : List DI) (d : DI) : Bool := match d with
  | .a i _ q _ => items.all fun d' => match d' with
    | .a i' _ q' _ => !Nat.beq q q' || Nat.beq i i'
    | _ => true
  | .i i an q _ => (items.any fun d' => match d' with
    | .a j _ q' _ => Nat.beq q q' && bitB an j && items.all fun s => !(isS s) || (!(bitB (anD s) j) || bitB (anD s) i)
    | _ => false) && items.all fun d' => match d' with
    | .i i2 _ q2 _ => !Nat.beq q q2 || Nat.beq i2 i
    | _ => true
  | _ => true
def chkDI (T : Nat → Option TypeInfo) (nt : Nat) (ops : List Oper) (n : Nat) (items : List DI) (d : DI) : Bool :=
  (match nthO ops (ixD d) with
  | none => false
  | some o => chkIt T nt ops (itD d) o && Nat.beq (orAnc items o.after.toList) (anD d) && dataB items ops d o) && kindB n d && uniqB items d && allocB items d
def chkDraw (T : Nat → Option TypeInfo) (nt : Nat) (ops : List Oper) (n : Nat) (items : List DI) : Bool :=
  (List.range ops.length).all (fun i => items.any fun d => Nat.beq (ixD d) i) && nodupB (items.map ixD) && items.all (chkDI T nt ops n items) && topoB items 0 && spineB items 0
section
variable {P : Program} {T : Nat → Option TypeInfo} {nt : Nat}
theorem chkDraw_sound (hT : TOk P T) {ops : Array Oper} {n : Nat} {items : List DI} (h : chkDraw T nt ops.toList n items = true) : DrawOk P nt ops n items := by
  simp only [chkDraw, Bool.and_eq_true] at h
  obtain ⟨⟨⟨⟨h1, h2⟩, h3⟩, h4⟩, h5⟩ := h
  have hd : ∀ d, d ∈ items → ∃ o, ops[ixD d]? = some o ∧ chkIt T nt ops.toList (itD d) o = true ∧ orAnc items o.after.toList = anD d ∧ dataB items ops.toList d o = true ∧ kindB n d = true ∧ uniqB items d = true ∧ allocB items d = true := fun d hd => by
    have := List.all_eq_true.1 h3 d hd
    simp only [chkDI, Bool.and_eq_true, nthO_arr] at this
    obtain ⟨⟨⟨g1, g2⟩, g3⟩, g4⟩ := this
    cases ho : ops[ixD d]? with
    | none => rw [ho] at g1; cases g1
    | some o =>
      rw [ho] at g1
      simp only [Bool.and_eq_true] at g1
      exact ⟨o, rfl, g1.1.1, beq_iff.1 g1.1.2, g1.2, g2, g3, g4⟩
  refine ⟨fun i hi => ?_, nodupB_sound h2, fun d hm => ?_, fun i an x hm => ?_, fun i an x hm => ?_, fun i an q x hm => ?_, fun d hm o ho e he hb => ?_, fun d hm j hj => ?_, fun pre d post he j hj => ?_, fun pre d post he hsr s hs hss => ?_, fun d hm o ho d' hm' t ht hl => ?_, fun d hm d' hm' t ht ht' => ?_, fun i an q x i' an' x' hm hm' => ?_, fun i an q x hm => ?_⟩
  · have := List.all_eq_true.1 h1 i (List.mem_range.2 (by simpa using hi))
    obtain ⟨d, g1, g2⟩ := List.any_eq_true.1 this
    exact ⟨d, g1, beq_iff.1 g2⟩
  · obtain ⟨o, g1, g2, _⟩ := hd d hm
    exact ⟨o, g1, chkIt_sound hT g2⟩
  · exact (hd _ hm).elim fun o g => g.2.2.2.2.1
  · exact (hd _ hm).elim fun o g => g.2.2.2.2.1
  · obtain ⟨o, _, _, _, _, g, _⟩ := hd _ hm
    simp only [kindB, Bool.and_eq_true] at g
    exact ⟨g.1, lt_iff.1 g.2⟩
  · obtain ⟨o', g1, _, g3, _⟩ := hd d hm
    rw [ho] at g1; cases g1
    rw [← g3]
    exact orAnc_on (by simpa using he) hb
  · obtain ⟨o, g1, _, g3, _⟩ := hd d hm
    rw [← g3] at hj
    obtain ⟨e, k1, k2, k3⟩ := orAnc_bit hj
    exact ⟨o, e, g1, by simpa using k1, k2, k3⟩
  · rcases topoB_sound h4 pre d post he j hj with g | g
    · simp at g
    · exact g
  · exact (spineB_sound h5 pre d post he hsr).2 s hs hss
  · obtain ⟨o', g1, _, _, g4, _⟩ := hd d hm
    rw [ho] at g1; cases g1
    unfold dataB at g4
    rw [seqL_eq] at g4
    have := List.all_eq_true.1 g4 d' hm'
    simp only [ht, memL_of (lookL_mem hl), Bool.not_true, Bool.false_or, Bool.or_eq_true, bitB_eq] at this
    rcases this with g | g | g
    · exact .inl (beq_iff.1 g)
    · exact .inr (.inl g)
    · exact .inr (.inr g)
  · obtain ⟨_, _, _, _, _, _, g, _⟩ := hd d hm
    unfold uniqB at g
    rw [ht] at g
    have := List.all_eq_true.1 g d' hm'
    simp only [ht', beq_iff.2 rfl, Bool.not_true, Bool.false_or] at this
    exact beq_iff.1 this
  · obtain ⟨_, _, _, _, _, _, _, g⟩ := hd _ hm
    have := List.all_eq_true.1 (show (items.all fun d' => match d' with
      | .a i' _ q' _ => !Nat.beq q q' || Nat.beq i i'
      | _ => true) = true from g) _ hm'
    simp only [beq_iff.2 rfl, Bool.not_true, Bool.false_or] at this
    exact beq_iff.1 this
  · obtain ⟨_, _, _, _, _, _, _, g⟩ := hd _ hm
    simp only [allocB, Bool.and_eq_true] at g
    obtain ⟨g1, g2⟩ := g
    obtain ⟨d', k1, k2⟩ := List.any_eq_true.1 g1
    cases d' with
    | a j an' q' x' =>
      simp only [Bool.and_eq_true] at k2
      obtain ⟨⟨k3, k4⟩, k5⟩ := k2
      have := beq_iff.1 k3; subst this
      refine ⟨j, an', x', k1, by rw [← bitB_eq]; exact k4, fun s hs hss hj => ?_, fun i2 an2 x2 hm2 => ?_⟩
      · have := List.all_eq_true.1 k5 s hs
        simp only [hss, bitB_eq, hj, Bool.not_true, Bool.false_or] at this
        exact this
      · have := List.all_eq_true.1 g2 _ hm2
        simp only [beq_iff.2 rfl, Bool.not_true, Bool.false_or] at this
        exact beq_iff.1 this
    | _ => cases k2
end

def unscope (c : Code) : Code := match c with
  | .scope b => unscope b
  | c => c
theorem unscope_ok {P : Program} {nt : Nat} {l : LCode} : ∀ {c : Code}, CodeOk P nt l (unscope c) → CodeOk P nt l c := by
  intro c
  induction c with
  | scope b ih => intro h; exact .scope _ _ (ih h)
  | _ => intro h; exact h
def chkC (T : Nat → Option TypeInfo) (nt : Nat) (l : LCode) (c : Code) : Bool := match l with
  | .bad => true
  | .skip => (match unscope c with | .skip | .label _ => true | _ => false)
  | .region items => (match unscope c with | .region _ ops false => chkIts T nt ops.toList items ops.toList | _ => false)
  | .draw n items => (match unscope c with | .region _ ops true => chkDraw T nt ops.toList n items | _ => false)
  | .seq a b => (match unscope c with | .seq a' b' => chkC T nt a a' && chkC T nt b b' | _ => false)
  | .cond x a b => (match unscope c with | .cond y a' b' => chkArg x y && chkC T nt a a' && chkC T nt b b' | _ => false)
  | .block id b => (match unscope c with | .block id' b' => Nat.beq id id' && chkC T nt b b' | _ => false)
  | .loop b => (match unscope c with | .loop b' => chkC T nt b b' | _ => false)
  | .exit id => (match unscope c with | .exit id' => Nat.beq id id' | _ => false)
  | .ret => (match unscope c with | .ret => true | _ => false)
def chkRv (T : Nat → Option TypeInfo) (x : RV) (y : ResultVar) : Bool := match x with
  | .tmp s => (match y with | .tmp n => Nat.beq s.n n | _ => false)
  | .c1 s => (match y with | .cell n t => Nat.beq s.n n && oneT T t | _ => false)
  | .cn s n => (match y with | .cell a t => Nat.beq s.n a && aggT T t && sizeT T t n && lt 0 n | _ => false)
def chkRvs (T : Nat → Option TypeInfo) (x : List RV) (y : List ResultVar) : Bool := match x, y with
  | [], [] => true
  | a :: x, b :: y => chkRv T a b && chkRvs T x y
  | _, _ => false
def chkPs (k : Nat) (l : List Sel) : Bool := match l with
  | [] => true
  | s :: l => Nat.beq s.n k && chkPs (Nat.succ k) l
def chkFun (T : Nat → Option TypeInfo) (L : LFun) (fn : Func) : Bool := match fn.body with
  | some c => chkC T fn.ntmps L.body c && Nat.ble L.params.length fn.ntmps && chkPs 0 L.params && chkRvs T L.results fn.results.toList
  | none => false
section
variable {P : Program} {T : Nat → Option TypeInfo} {nt : Nat}
theorem chkC_sound (hT : TOk P T) : ∀ {l : LCode} {c : Code}, chkC T nt l c = true → CodeOk P nt l c := by
  intro l
  induction l with
  | bad => intro c _; exact .bad c
  | skip =>
    intro c h
    refine unscope_ok ?_
    unfold chkC at h
    generalize unscope c = c at h ⊢
    cases c <;> first | exact .skip | exact .label _ | cases h
  | region items =>
    intro c h
    refine unscope_ok ?_
    unfold chkC at h
    generalize unscope c = c at h ⊢
    cases c with
    | region id ops d =>
      cases d with
      | false =>
        refine .region items id ops ?_
        have := chkIts_sound (P := P) (nt := nt) hT (ops := ops) (k := 0) rfl h
        rw [List.drop_zero] at this
        rw [List.range_eq_range']; simpa using this
      | true => cases h
    | _ => cases h
  | draw n items =>
    intro c h
    refine unscope_ok ?_
    unfold chkC at h
    generalize unscope c = c at h ⊢
    cases c with
    | region id ops d =>
      cases d with
      | false => cases h
      | true => exact .draw n items id ops (chkDraw_sound hT h)
    | _ => cases h
  | seq a b iha ihb =>
    intro c h
    refine unscope_ok ?_
    unfold chkC at h
    generalize unscope c = c at h ⊢
    cases c with
    | seq a' b' => simp only [Bool.and_eq_true] at h; exact .seq _ _ _ _ (iha h.1) (ihb h.2)
    | _ => cases h
  | cond x a b iha ihb =>
    intro c h
    refine unscope_ok ?_
    unfold chkC at h
    generalize unscope c = c at h ⊢
    cases c with
    | cond y a' b' => simp only [Bool.and_eq_true] at h; exact .cond _ _ _ _ _ _ (chkArg_sound h.1.1) (iha h.1.2) (ihb h.2)
    | _ => cases h
  | block id b ih =>
    intro c h
    refine unscope_ok ?_
    unfold chkC at h
    generalize unscope c = c at h ⊢
    cases c with
    | block id' b' => simp only [Bool.and_eq_true] at h; have := beq_iff.1 h.1; subst this; exact .block _ _ _ (ih h.2)
    | _ => cases h
  | loop b ih =>
    intro c h
    refine unscope_ok ?_
    unfold chkC at h
    generalize unscope c = c at h ⊢
    cases c with
    | loop b' => exact .loop _ _ (ih h)
    | _ => cases h
  | exit id =>
    intro c h
    refine unscope_ok ?_
    unfold chkC at h
    generalize unscope c = c at h ⊢
    cases c with
    | exit id' => have := beq_iff.1 (show Nat.beq id id' = true from h); subst this; exact .exit _
    | _ => cases h
  | ret =>
    intro c h
    refine unscope_ok ?_
    unfold chkC at h
    generalize unscope c = c at h ⊢
    cases c <;> first | exact .ret | cases h
theorem chkRvs_sound (hT : TOk P T) : ∀ {x : List RV} {y : List ResultVar}, chkRvs T x y = true → RvsOk P nt x y
  | [], [], _ => .nil
  | [], _ :: _, h => nomatch h
  | _ :: _, [], h => nomatch h
  | a :: x, b :: y, h => by
    obtain ⟨h1, h2⟩ := Bool.and_eq_true_iff.1 (show (chkRv T a b && chkRvs T x y) = true from h)
    refine .cons _ _ _ _ ?_ (chkRvs_sound hT h2)
    cases a with
    | tmp s => cases b with
      | tmp n => have := beq_iff.1 (show Nat.beq s.n n = true from h1); subst this; exact .tmp s
      | cell _ _ => cases h1
    | c1 s => cases b with
      | tmp n => cases h1
      | cell n t =>
        simp only [chkRv, Bool.and_eq_true] at h1
        have := beq_iff.1 h1.1; subst this; exact .c1 s t (oneT_sound hT h1.2)
    | cn s n => cases b with
      | tmp n => cases h1
      | cell a t =>
        simp only [chkRv, Bool.and_eq_true] at h1
        have := beq_iff.1 h1.1.1.1; subst this; exact .cn s n t (aggT_sound hT h1.1.1.2) (sizeT_sound hT h1.1.2) (lt_iff.1 h1.2)
theorem chkPs_sound : ∀ {l : List Sel} {k : Nat}, chkPs k l = true → ∀ (i : Nat) s, l[i]? = some s → s.n = k + i
  | [], _, _, i, s, hi => by simp at hi
  | x :: l, k, h, i, s, hi => by
    obtain ⟨h1, h2⟩ := Bool.and_eq_true_iff.1 (show (Nat.beq x.n k && chkPs (Nat.succ k) l) = true from h)
    cases i with
    | zero => simp at hi; subst hi; exact beq_iff.1 h1
    | succ i => simp at hi; have := chkPs_sound h2 i s hi; omega
theorem chkFun_sound (hT : TOk P T) {L : LFun} {fn : Func} (h : chkFun T L fn = true) (hn : fn.name ≠ "runtime.NumGoroutine") : FunOk P L fn := by
  unfold chkFun at h
  cases hb : fn.body with
  | none => rw [hb] at h; cases h
  | some c =>
    rw [hb] at h
    simp only [Bool.and_eq_true] at h
    obtain ⟨⟨⟨h1, h2⟩, h3⟩, h4⟩ := h
    exact ⟨⟨c, hb, chkC_sound hT h1⟩, ble_iff.1 h2, fun i s hi => by have := chkPs_sound h3 i s hi; omega, chkRvs_sound hT h4, hn⟩
end
end
section
/-! ## A part of the heap, run by itself -/
/-- What is known of a world apart from a fragment. -/
def Par.bare (X : Par) : Par := { P := X.P, B := X.B, G := X.G, v0 := none, FP := fun _ _ _ => True, loc := fun _ _ _ _ _ _ => trivial }

theorem Lands.map {X : Par} {τ σ : Sg} {B A : AW} {w : World} {r : Result Next} {p q : AV × AW} (h : Lands X.bare τ B w r p)
    (f : ∀ τ' v' w', VR τ' p.1 v' → HR X.bare τ' p.2 w' → Ext τ B w τ' p.2 w' → ∃ σ', VR σ' q.1 v' ∧ HR X σ' q.2 w' ∧ Ext σ A w σ' q.2 w') : Lands X σ A w r q := by
  unfold Lands at h ⊢
  split at h
  · obtain ⟨τ', h1, h2, h3⟩ := h; exact f τ' _ _ h1 h2 h3
  · obtain ⟨τ', h1, h2, h3⟩ := h; exact f τ' _ _ h1 h2 h3
  · refine Calls.mono h fun e w' hh => ?_
    obtain ⟨v', τ', he, h1, h2, h3⟩ := hh
    obtain ⟨σ', k⟩ := f τ' v' w' h1 h2 h3
    exact ⟨v', σ', he, k⟩
  · exact h

/-- A value that names no object. -/
def flatC (v : AV) : Bool := match v with
  | .any 0 | .b _ | .i _ _ | .s _ _ | .p0 | .g _ _ | .sl0 | .m0 | .f0 | .if0 => true
  | .f _ [] [] => true
  | _ => false
def closedV (v : AV) : Bool := match v with
  | .tup l => l.all flatC
  | v => flatC v
theorem VRs.nil_of {τ σ : Sg} {u : List Value} (h : VRs τ [] u) : VRs σ [] u := by
  generalize he : ([] : List AV) = l at h
  cases h with
  | nil => exact .nil
  | cons _ _ _ _ _ _ => cases he
theorem flatC_rel {v : AV} (h : flatC v = true) {τ σ : Sg} {u : Value} (hr : VR τ v u) : VR σ v u := by
  cases hr with
  | any u hu => exact .any u hu
  | b x => exact .b x
  | i k n hn => exact .i k n hn
  | s a b hs => exact .s a b hs
  | p0 => exact .p0
  | g a b => exact .g a b
  | sl0 => exact .sl0
  | m0 => exact .m0
  | f0 => exact .f0
  | if0 => exact .if0
  | f fid a b a' b' h1 h2 =>
    cases a with
    | nil => cases b with
      | nil => exact .f fid [] [] a' b' (VRs.nil_of h1) (VRs.nil_of h2)
      | cons _ _ => cases h
    | cons _ _ => cases h
  | _ => cases h
theorem flatCs_rel {σ τ : Sg} : ∀ {l : List AV} {u : List Value}, l.all flatC = true → VRs τ l u → VRs σ l u
  | [], _, _, .nil => .nil
  | _ :: _, _, h, .cons _ _ _ _ h1 h2 => by
    simp only [List.all_cons, Bool.and_eq_true] at h
    exact .cons _ _ _ _ (flatC_rel h.1 h1) (flatCs_rel h.2 h2)
theorem closed_rel {v : AV} (h : closedV v = true) {τ σ : Sg} {u : Value} (hr : VR τ v u) : VR σ v u := by
  cases hr with
  | tup cs vs hc => exact .tup _ _ (flatCs_rel h hc)
  | any u hu => exact .any u hu
  | num i l hl => cases h
  | b x => exact .b x
  | i k n hn => exact .i k n hn
  | s a b hs => exact .s a b hs
  | p0 => exact .p0
  | g a b => exact .g a b
  | sl0 => exact .sl0
  | m0 => exact .m0
  | f0 => exact .f0
  | if0 => exact .if0
  | f fid a b a' b' h1 h2 => exact flatC_rel h (.f fid a b a' b' h1 h2)
  | _ => cases h

theorem getH_h5 (n : Nat) : getH n h5 = none := by
  unfold getH h5
  rw [ng8_const]
  unfold h4
  rw [ng8_const]
  unfold h3
  rw [ng8_const]
  unfold h2
  rw [ng8_const]
  unfold h1
  rw [ng8_const]

section
variable {X : Par} {σ : Sg} {A : AW} {w : World}
/-- The empty heap. -/
theorem HR.empty (h : HR X σ A w) : HR X.bare (fun _ => none) ⟨h5, 1, fr0⟩ w where
  obj id o hl := by have := hl.2; rw [show getH id h5 = none from getH_h5 id] at this; cases this
  inj id id' o o' l l' hl := by have := hl.2; rw [show getH id h5 = none from getH_h5 id] at this; cases this
  dom _ _ hs := nomatch hs
  next := by decide
  base := h.base
  glob := h.glob
  val _ hl := nomatch hl
  fdom _ _ hi := nomatch hi
  frag := trivial
/-- **A call on plain values that runs in the empty heap runs so anywhere**: what lay there stays. -/
theorem pure_lands (h : HR X σ A w) {v : AV} {B' : AW} (hv : closedV v = true) {r : Result Next} (hl : Lands X.bare (fun _ => none) ⟨h5, 1, fr0⟩ w r (v, B')) : Lands X σ A w r (v, A) := by
  refine hl.map fun τ' v' w' h1 h2 h3 => ⟨σ, closed_rel hv h1, ?_⟩
  have hkeep : ∀ b, b < w.heap.size → w'.heap[b]? = w.heap[b]? := fun b hb => h3.keep b hb (fun id o l hlv => by have := hlv.2; rw [show getH id h5 = none from getH_h5 id] at this; cases this) (.inr fun i l hl => nomatch hl)
  have k : Ext σ A w σ A w' := Ext.of h rfl (fun _ _ h => h) (fun _ _ => rfl) (Nat.le_refl _) h3.size (fun b hb _ => hkeep b hb) (fun id o l h h' => .inr ⟨id, o, l, h, h', rfl⟩) h3.so
  refine ⟨h.mk' k rfl (fun id o hlv => ?_) h.inj (fun id l hs => ⟨(h.dom id l hs).1, Nat.lt_of_lt_of_le (h.dom id l hs).2 h3.size⟩) h.next, k⟩
  obtain ⟨l, ob, a1, a2, a3, a4⟩ := h.obj id o hlv
  exact ⟨l, ob, a1, by rw [hkeep _ (h.dom _ _ a1).2, a2], a3, a4⟩
end

/-! ## Heaps as lists; one heap within another -/
def mkH (l : List (Nat × AO)) : Heap := match l with
  | [] => h5
  | e :: l => setH e.1 (some e.2) (mkH l)
theorem mkH_mem : ∀ {l : List (Nat × AO)} {id : Nat} {o : AO}, (∀ e, e ∈ l → e.1 < 32768) → id < 32768 → getH id (mkH l) = some o → (id, o) ∈ l
  | [], id, o, _, _, h => by rw [show getH id (mkH []) = none from getH_h5 id] at h; cases h
  | e :: l, id, o, hb, hi, h => by
    have he : getH id (setH e.1 (some e.2) (mkH l)) = some o := h
    by_cases hc : e.1 = id
    · subst hc; rw [getH_setH_same] at he; cases he; simp
    · rw [getH_setH_ne _ _ _ _ hc (hb e (by simp)) hi] at he
      exact List.mem_cons_of_mem _ (mkH_mem (fun e' he' => hb e' (by simp [he'])) hi he)
def mapsTo (m : Nat → Option Nat) (i j : Nat) : Bool := match m i with | some k => Nat.beq k j | none => false
/-- The value a of the one heap tells less than, or the same as, b of the other. -/
def wkF (m : Nat → Option Nat) (a b : AV) : Bool := match a with
  | .any 0 => flatA b
  | .b x => (match b with | .b y => !(x ^^ y) | _ => false)
  | .i k n => (match b with | .i k' n' => sameK k k' && Nat.beq n n' | _ => false)
  | .s x y => (match b with | .s x' y' => Nat.beq x x' && Nat.beq y y' | _ => false)
  | .p0 => (match b with | .p0 => true | _ => false)
  | .sl0 => (match b with | .sl0 => true | _ => false)
  | .m0 => (match b with | .m0 => true | _ => false)
  | .f0 => (match b with | .f0 => true | _ => false)
  | .if0 => (match b with | .if0 => true | _ => false)
  | .p x o => (match b with | .p x' o' => mapsTo m x x' && Nat.beq o o' | _ => false)
  | .m x => (match b with | .m x' => mapsTo m x x' | _ => false)
  | .sk x o n c => (match b with | .sk x' o' n' c' => mapsTo m x x' && Nat.beq o o' && Nat.beq n n' && Nat.beq c c' | _ => false)
  | .su x o n e => (match b with | .su x' o' n' e' => mapsTo m x x' && Nat.beq o o' && Nat.beq n n' && Nat.beq e e' | _ => false)
  | _ => false
def wkFs (m : Nat → Option Nat) (a b : List AV) : Bool := match a, b with
  | [], [] => true
  | x :: a, y :: b => wkF m x y && wkFs m a b
  | _, _ => false
def wkV (m : Nat → Option Nat) (a b : AV) : Bool := match a with
  | .agg x => (match b with | .agg y => wkFs m x y | _ => false)
  | a => wkF m a b
def wkE (m : Nat → Option Nat) (a b : List (AV × AV × Nat)) : Bool := match a, b with
  | [], [] => true
  | x :: a, y :: b => wkV m x.1 y.1 && wkV m x.2.1 y.2.1 && Nat.beq x.2.2 y.2.2 && wkE m a b
  | _, _ => false
def wkO (m : Nat → Option Nat) (a b : AO) : Bool := match a with
  | .cells x e z => (match b with | .cells y e' z' => wkFs m x y && Nat.beq e e' && Nat.beq z z' | _ => false)
  | .map x c => (match b with | .map y c' => wkE m x y && Nat.beq c c' | _ => false)
  | _ => false
section
variable {m : Nat → Option Nat} {τ ρ : Sg}
theorem mapsTo_iff {i j : Nat} : mapsTo m i j = true ↔ m i = some j := by
  unfold mapsTo
  cases m i with
  | none => simp
  | some k => simp [beq_iff]
theorem wkF_rel (hm : ∀ i j, m i = some j → ρ i = τ j) {a b : AV} (h : wkF m a b = true) {v : Value} (hr : VR τ b v) : VR ρ a v ∧ flatA a = true := by
  cases a with
  | any i => cases i with
    | zero => exact ⟨.any v (hr.flat h), rfl⟩
    | succ _ => cases h
  | b x => cases hr <;> first | (cases h; done) | skip
           rename_i y
           have : x = y := by cases x <;> cases y <;> first | rfl | cases h
           subst this; exact ⟨.b _, rfl⟩
  | i k n =>
    cases hr <;> first | (cases h; done) | skip
    rename_i k' n' hn
    simp only [wkF, Bool.and_eq_true] at h
    have e1 := sameK_iff.1 h.1; have e2 := beq_iff.1 h.2
    subst e1 e2; exact ⟨.i _ _ hn, rfl⟩
  | s x y =>
    cases hr <;> first | (cases h; done) | skip
    rename_i hs
    simp only [wkF, Bool.and_eq_true] at h
    have e1 := beq_iff.1 h.1; have e2 := beq_iff.1 h.2
    subst e1 e2; exact ⟨.s _ _ hs, rfl⟩
  | p0 => cases hr <;> first | (cases h; done) | exact ⟨.p0, rfl⟩
  | sl0 => cases hr <;> first | (cases h; done) | exact ⟨.sl0, rfl⟩
  | m0 => cases hr <;> first | (cases h; done) | exact ⟨.m0, rfl⟩
  | f0 => cases hr <;> first | (cases h; done) | exact ⟨.f0, rfl⟩
  | if0 => cases hr <;> first | (cases h; done) | exact ⟨.if0, rfl⟩
  | p x o =>
    cases hr <;> first | (cases h; done) | skip
    rename_i x' o' l hl
    simp only [wkF, Bool.and_eq_true] at h
    have e2 := beq_iff.1 h.2
    subst e2
    exact ⟨.p _ _ _ (by rw [hm _ _ (mapsTo_iff.1 h.1)]; exact hl), rfl⟩
  | m x =>
    cases hr <;> first | (cases h; done) | skip
    rename_i x' l hl
    exact ⟨.m _ _ (by rw [hm _ _ (mapsTo_iff.1 (show mapsTo m x x' = true from h))]; exact hl), rfl⟩
  | sk x o n c =>
    cases hr <;> first | (cases h; done) | skip
    rename_i x' o' n' c' oo l hl hc ho
    simp only [wkF, Bool.and_eq_true] at h
    obtain ⟨⟨⟨h1, h2⟩, h3⟩, h4⟩ := h
    have e2 := beq_iff.1 h2; have e3 := beq_iff.1 h3; have e4 := beq_iff.1 h4
    subst e2 e3 e4
    exact ⟨.sk _ _ _ _ _ l (by rw [hm _ _ (mapsTo_iff.1 h1)]; exact hl) hc ho, rfl⟩
  | su x o n e =>
    cases hr <;> first | (cases h; done) | skip
    rename_i x' o' n' e' cap oo l hl hc hs ho
    simp only [wkF, Bool.and_eq_true] at h
    obtain ⟨⟨⟨h1, h2⟩, h3⟩, h4⟩ := h
    have e2 := beq_iff.1 h2; have e3 := beq_iff.1 h3; have e4 := beq_iff.1 h4
    subst e2 e3 e4
    exact ⟨.su _ _ _ _ _ _ l (by rw [hm _ _ (mapsTo_iff.1 h1)]; exact hl) hc hs ho, rfl⟩
  | _ => cases h
theorem wkFs_get (hm : ∀ i j, m i = some j → ρ i = τ j) : ∀ {a b : List AV}, wkFs m a b = true → a.length = b.length ∧ ∀ (i : Nat) (x : AV), a[i]? = some x → ∃ y, b[i]? = some y ∧ wkF m x y = true
  | [], [], _ => ⟨rfl, fun i x hx => by simp at hx⟩
  | [], _ :: _, h => nomatch h
  | _ :: _, [], h => nomatch h
  | x :: a, y :: b, h => by
    obtain ⟨h1, h2⟩ := Bool.and_eq_true_iff.1 (show (wkF m x y && wkFs m a b) = true from h)
    obtain ⟨g1, g2⟩ := wkFs_get hm h2
    refine ⟨by simp [g1], fun i z hz => ?_⟩
    cases i with
    | zero => simp at hz; subst hz; exact ⟨y, rfl, h1⟩
    | succ i => simp at hz; simpa using g2 i z hz
theorem wkFs_rel (hm : ∀ i j, m i = some j → ρ i = τ j) : ∀ {a b : List AV} {v : List Value}, wkFs m a b = true → VRs τ b v → VRs ρ a v ∧ ∀ x, x ∈ a → flatA x = true
  | [], [], _, _, .nil => ⟨.nil, fun _ h => nomatch h⟩
  | [], _ :: _, _, h, _ => nomatch h
  | _ :: _, [], _, h, _ => nomatch h
  | x :: a, y :: b, _, h, .cons _ v _ vs h1 h2 => by
    obtain ⟨k1, k2⟩ := Bool.and_eq_true_iff.1 (show (wkF m x y && wkFs m a b) = true from h)
    obtain ⟨g1, g2⟩ := wkF_rel hm k1 h1
    obtain ⟨g3, g4⟩ := wkFs_rel hm k2 h2
    exact ⟨.cons _ _ _ _ g1 g3, fun z hz => by rcases List.mem_cons.1 hz with rfl | hz; exact g2; exact g4 z hz⟩
theorem wkV_rel (hm : ∀ i j, m i = some j → ρ i = τ j) {a b : AV} (h : wkV m a b = true) {v : Value} (hr : VR τ b v) : VR ρ a v := by
  have flat : (∀ cs, a ≠ .agg cs) → wkV m a b = wkF m a b := fun hn => by cases a <;> first | rfl | exact absurd rfl (hn _)
  by_cases hc : ∃ cs, a = .agg cs
  · obtain ⟨cs, rfl⟩ := hc
    cases hr with
    | agg cs' vs h1 h2 => exact .agg _ _ (wkFs_rel hm h h1).1 (wkFs_rel hm h h1).2
    | _ => cases h
  · rw [flat fun cs he => hc ⟨cs, he⟩] at h
    exact (wkF_rel hm h hr).1
theorem wkE_rel (hm : ∀ i j, m i = some j → ρ i = τ j) : ∀ {a b : List (AV × AV × Nat)} {v : List MapEntry}, wkE m a b = true → MRs τ b v → MRs ρ a v
  | [], [], _, _, .nil => .nil
  | [], _ :: _, _, h, _ => nomatch h
  | _ :: _, [], _, h, _ => nomatch h
  | (k, x, n) :: a, (k', y, n') :: b, _, h, .cons _ _ _ kv xv _ es' h1 h2 h3 => by
    obtain ⟨g12, g3⟩ := Bool.and_eq_true_iff.1 (show ((wkV m k k' && wkV m x y && Nat.beq n n') && wkE m a b) = true from h)
    simp only [Bool.and_eq_true] at g12
    have := beq_iff.1 g12.2; subst this
    exact .cons _ _ _ _ _ _ _ (wkV_rel hm g12.1.1 h1) (wkV_rel hm g12.1.2 h2) (wkE_rel hm g3 h3)
theorem wkO_rel (hm : ∀ i j, m i = some j → ρ i = τ j) {a b : AO} (h : wkO m a b = true) {l : Loc} {ob : Obj} (hr : OR τ l b ob) : OR ρ l a ob := by
  cases a with
  | cells x e z =>
    cases hr with
    | cells y e' z' c fr hs hc hz hw =>
      simp only [wkO, Bool.and_eq_true] at h
      obtain ⟨⟨h1, h2⟩, h3⟩ := h
      have e2 := beq_iff.1 h2; have e3 := beq_iff.1 h3
      subst e2 e3
      obtain ⟨g1, g2⟩ := wkFs_get hm h1
      refine .cells x e z c fr hs (fun i a ha => ?_) hz (fun hz2 => ⟨(hw hz2).1, by rw [g1]; exact (hw hz2).2⟩)
      obtain ⟨b, k1, k2⟩ := g2 i a ha
      obtain ⟨_, v, k3, k4⟩ := hc i b k1
      exact ⟨(wkF_rel hm k2 k4).2, v, k3, (wkF_rel hm k2 k4).1⟩
    | _ => cases h
  | map x c =>
    cases hr with
    | map y c' es' hh =>
      simp only [wkO, Bool.and_eq_true] at h
      have e2 := beq_iff.1 h.2; subst e2
      exact .map _ _ _ (wkE_rel hm h.1 hh)
    | _ => cases h
  | _ => cases h
end

/-- What is known of a fragment: its objects. -/
structure StR (B : Nat) (l : List (Nat × AO)) (ρ : Sg) (w : World) : Prop where
  obj : ∀ j o, (j, o) ∈ l → j < 64 ∧ ∃ lc ob, ρ j = some lc ∧ w.heap[lc.block]? = some ob ∧ OR ρ lc o ob ∧ B ≤ lc.block
  inj : ∀ j j' o o' lc lc', (j, o) ∈ l → (j', o') ∈ l → ρ j = some lc → ρ j' = some lc' → lc.block = lc'.block → j = j'
  dom : ∀ j lc, ρ j = some lc → j < 64
theorem StR.loc {B : Nat} {l : List (Nat × AO)} {ρ : Sg} {w w' : World} (h : StR B l ρ w) (hh : ∀ i lc, ρ i = some lc → w'.heap[lc.block]? = w.heap[lc.block]?) : StR B l ρ w' :=
  ⟨fun j o hj => by
    obtain ⟨h1, lc, ob, h2, h3, h4⟩ := h.obj j o hj
    exact ⟨h1, lc, ob, h2, by rw [hh j lc h2]; exact h3, h4⟩, h.inj, h.dom⟩
def covOne (m : Nat → Option Nat) (hp : Heap) (e : Nat × AO) : Bool := lt e.1 64 && (match m e.1 with
  | some i => lt i 32768 && (match getH i hp with | some o' => wkO m e.2 o' | none => false)
  | none => false)
def covers (m : Nat → Option Nat) (l : List (Nat × AO)) (hp : Heap) : Bool :=
  nodupB (l.map fun e => match m e.1 with | some i => i | none => 0) && l.all (covOne m hp)
section
variable {X : Par} {σ : Sg} {A : AW} {w : World}
theorem nodup_map_inj {α β : Type} {f : α → β} : ∀ {l : List α}, (l.map f).Nodup → ∀ {x y : α}, x ∈ l → y ∈ l → f x = f y → x = y
  | [], _, _, _, h, _, _ => nomatch h
  | a :: l, hn, x, y, hx, hy, he => by
    simp only [List.map_cons, List.nodup_cons] at hn
    rcases List.mem_cons.1 hx with h1 | h1 <;> rcases List.mem_cons.1 hy with h2 | h2
    · rw [h1, h2]
    · exact absurd (List.mem_map.2 ⟨y, h2, by rw [← he, h1]⟩) hn.1
    · exact absurd (List.mem_map.2 ⟨x, h1, by rw [he, h2]⟩) hn.1
    · exact nodup_map_inj hn.2 h1 h2 he
theorem cov_one {m : Nat → Option Nat} {l : List (Nat × AO)} (hc : covers m l A.h = true) {j : Nat} {o : AO} (hj : (j, o) ∈ l) : j < 64 ∧ ∃ i o', m j = some i ∧ Lv A i o' ∧ wkO m o o' = true := by
  obtain ⟨_, h2⟩ := Bool.and_eq_true_iff.1 hc
  have := List.all_eq_true.1 h2 (j, o) hj
  simp only [covOne, Bool.and_eq_true] at this
  obtain ⟨h3, h4⟩ := this
  cases hm : m j with
  | none => rw [hm] at h4; cases h4
  | some i =>
    rw [hm] at h4
    simp only [Bool.and_eq_true] at h4
    cases hg : getH i A.h with
    | none => rw [hg] at h4; cases h4.2
    | some o' => rw [hg] at h4; exact ⟨lt_iff.1 h3, i, o', rfl, ⟨lt_iff.1 h4.1, hg⟩, h4.2⟩
/-- What a heap holds is told of a smaller heap within it. -/
theorem cov_sound (h : HR X σ A w) {m : Nat → Option Nat} {l : List (Nat × AO)} (hc : covers m l A.h = true) {ρ : Sg} (hρ : ∀ i j, m i = some j → ρ i = σ j) (hd : ∀ j lc, ρ j = some lc → j < 64) : StR X.B l ρ w := by
  have hn := nodupB_sound (Bool.and_eq_true_iff.1 hc).1
  refine ⟨fun j o hj => ?_, fun j j' o o' lc lc' hj hj' hs hs' he => ?_, hd⟩
  · obtain ⟨h1, i, o', h2, h3, h4⟩ := cov_one hc hj
    obtain ⟨lc, ob, a1, a2, a3, a4⟩ := h.obj i o' h3
    exact ⟨h1, lc, ob, by rw [hρ j i h2, a1], a2, wkO_rel hρ h4 a3, a4⟩
  · obtain ⟨_, i, p, h2, h3, _⟩ := cov_one hc hj
    obtain ⟨_, i', p', h2', h3', _⟩ := cov_one hc hj'
    rw [hρ j i h2] at hs; rw [hρ j' i' h2'] at hs'
    have hi := h.inj i i' p p' lc lc' h3 h3' hs hs' he
    have := nodup_map_inj hn hj hj' (by simp only [h2, h2', hi])
    exact congrArg Prod.fst this
/-- A fragment, as a heap of its own. -/
theorem StR.hr (h : HR X σ A w) {l : List (Nat × AO)} {ρ : Sg} (s : StR X.B l ρ w) (hb : ∀ j lc, ρ j = some lc → lc.block < w.heap.size) : HR X.bare ρ ⟨mkH l, 64, fr0⟩ w where
  obj id o hl := by
    have := mkH_mem (fun e he => Nat.lt_trans (s.obj e.1 e.2 he).1 (by decide)) hl.1 hl.2
    exact (s.obj id o this).2
  inj id id' o o' lc lc' hl hl' := s.inj id id' o o' lc lc' (mkH_mem (fun e he => Nat.lt_trans (s.obj e.1 e.2 he).1 (by decide)) hl.1 hl.2) (mkH_mem (fun e he => Nat.lt_trans (s.obj e.1 e.2 he).1 (by decide)) hl'.1 hl'.2)
  dom id lc hs := ⟨s.dom id lc hs, hb id lc hs⟩
  next := by show 64 ≤ 32768; decide
  base := h.base
  glob := h.glob
  val _ hl := nomatch hl
  fdom _ _ hi := nomatch hi
  frag := trivial
end
end
section
/-! ## A call that changes a fragment -/
def lookA (ch : List (Nat × Nat)) (j : Nat) : Option Nat := match ch with
  | [] => none
  | e :: ch => Bool.rec (motive := fun _ => Option Nat) (lookA ch j) (some e.2) (Nat.beq e.1 j)
def posA (ch : List (Nat × Nat)) (q j : Nat) : Option Nat := match ch with
  | [] => none
  | e :: ch => Bool.rec (motive := fun _ => Option Nat) (posA ch (Nat.succ q) j) (some q) (Nat.beq e.1 j)
def mch (ch : List (Nat × Nat)) (j : Nat) : Option Nat := Bool.rec (motive := fun _ => Option Nat) none (match lookA ch j with | some b => some b | none => some j) (lt j 64)
theorem posA_some : ∀ {ch : List (Nat × Nat)} {q j id : Nat}, posA ch q j = some id → q ≤ id ∧ ∃ e, ch[id - q]? = some e ∧ e.1 = j ∧ lookA ch j = some e.2
  | [], _, _, _, h => nomatch h
  | e :: ch, q, j, id, h => by
    have he : Bool.rec (motive := fun _ => Option Nat) (posA ch (Nat.succ q) j) (some q) (Nat.beq e.1 j) = some id := h
    have hl : lookA (e :: ch) j = Bool.rec (motive := fun _ => Option Nat) (lookA ch j) (some e.2) (Nat.beq e.1 j) := rfl
    rw [hl]
    cases hb : Nat.beq e.1 j with
    | true =>
      rw [hb] at he
      cases he
      exact ⟨Nat.le_refl _, e, by simp, beq_iff.1 hb, rfl⟩
    | false =>
      rw [hb] at he
      obtain ⟨h1, e', h2, h3, h4⟩ := posA_some (ch := ch) he
      refine ⟨by omega, e', ?_, h3, h4⟩
      rw [show id - q = (id - (q + 1)) + 1 by omega]; simpa using h2
theorem posA_none : ∀ {ch : List (Nat × Nat)} {q j : Nat}, posA ch q j = none → lookA ch j = none
  | [], _, _, _ => rfl
  | e :: ch, q, j, h => by
    have he : Bool.rec (motive := fun _ => Option Nat) (posA ch (Nat.succ q) j) (some q) (Nat.beq e.1 j) = none := h
    have hl : lookA (e :: ch) j = Bool.rec (motive := fun _ => Option Nat) (lookA ch j) (some e.2) (Nat.beq e.1 j) := rfl
    rw [hl]
    cases hb : Nat.beq e.1 j with
    | true => rw [hb] at he; cases he
    | false => rw [hb] at he; exact posA_none (ch := ch) he
def ixA (src : Nat → Option Nat) (q : Nat) (ch : List (Nat × Nat)) (j : Nat) : Option Nat := match posA ch q j with
  | some id => some id
  | none => src j
def sgA (σ τ : Sg) (q : Nat) (ch : List (Nat × Nat)) : Sg := fun id => if q ≤ id then (match ch[id - q]? with | some e => τ e.2 | none => σ id) else σ id
def dropA (dr : List Nat) (A : AW) : AW := match dr with
  | [] => A
  | d :: dr => put (dropA dr A) d none
theorem dropA_lv : ∀ {dr : List Nat} {A : AW} {id : Nat} {o : AO}, (∀ d, d ∈ dr → d < 32768) → Lv (dropA dr A) id o → Lv A id o ∧ id ∉ dr
  | [], _, _, _, _, h => ⟨h, by simp⟩
  | d :: dr, A, id, o, hd, h => by
    rcases Lv_put (hd d (by simp)) (show Lv (put (dropA dr A) d none) id o from h) with ⟨_, h2⟩ | ⟨h1, h2⟩
    · cases h2
    · obtain ⟨g1, g2⟩ := dropA_lv (fun e he => hd e (by simp [he])) h2
      exact ⟨g1, by simp [h1, g2]⟩
/-- What is asked of the new numbers. -/
def chOk (ch : List (Nat × Nat)) (hp : Heap) : Bool := ch.all fun e => lt e.1 64 && lt e.2 32768 && (getH e.2 hp).isSome

section
variable {X : Par} {σ : Sg} {A : AW} {w : World}
theorem frag_lands (h : HR X σ A w) {l : List (Nat × AO)} {src : Nat → Option Nat} {dr : List Nat}
    (hsrc : ∀ j id, src j = some id → ∃ lc, σ id = some lc)
    (hblk : ∀ j lc, (src j).bind σ = some lc → (∃ i l0, locF σ A i = some l0 ∧ l0.block = lc.block) ∨ ∃ id o l0, id ∈ dr ∧ Lv A id o ∧ σ id = some l0 ∧ l0.block = lc.block)
    (hdr : ∀ d, d ∈ dr → d < 32768) (hst : StR X.B l (fun j => (src j).bind σ) w)
    {r : Result Next} {v : AV} {B' : AW} (hl : Lands X.bare (fun j => (src j).bind σ) ⟨mkH l, 64, fr0⟩ w r (v, B')) (hv : closedV v = true)
    {k' : Nat} (hk : A.frag.k < k') {l' : List (Nat × AO)} {ch : List (Nat × Nat)} (hcov : covers (mch ch) l' B'.h = true) (hch : chOk ch B'.h = true)
    (hn : A.next + ch.length ≤ 32768) (hFP : ∀ ρ w, StR X.B l' ρ w → X.FP k' ρ w) :
    Lands X σ A w r (v, ⟨(dropA dr A).h, A.next + ch.length, ⟨k', ixA src A.next ch⟩⟩) := by
  refine hl.map fun τ v' w' h1 h2 h3 => ?_
  have hchk : ∀ e, e ∈ ch → e.1 < 64 ∧ ∃ o, Lv B' e.2 o := fun e he => by
    have := List.all_eq_true.1 hch e he
    simp only [Bool.and_eq_true] at this
    obtain ⟨⟨g1, g2⟩, g3⟩ := this
    obtain ⟨o, ho⟩ := Option.isSome_iff_exists.1 g3
    exact ⟨lt_iff.1 g1, o, lt_iff.1 g2, ho⟩
  have hlow : ∀ id, id < A.next → sgA σ τ A.next ch id = σ id := fun id hi => by unfold sgA; rw [if_neg (by omega)]
  have hsome : ∀ id lc, σ id = some lc → id < A.next := fun id lc hs => (h.dom _ _ hs).1
  have hmono : ∀ id lc, σ id = some lc → sgA σ τ A.next ch id = some lc := fun id lc hs => by rw [hlow id (hsome id lc hs), hs]
  -- a fresh number's place
  have hfresh : ∀ id e, A.next ≤ id → ch[id - A.next]? = some e → sgA σ τ A.next ch id = τ e.2 := fun id e hi he => by unfold sgA; rw [if_pos hi, he]
  have hlvB : ∀ id o l0, Lv ⟨mkH l, 64, fr0⟩ id o → (src id).bind σ = some l0 → (∃ i l1, locF σ A i = some l1 ∧ l1.block = l0.block) ∨ ∃ d o l1, d ∈ dr ∧ Lv A d o ∧ σ d = some l1 ∧ l1.block = l0.block := fun id _ l0 _ hs => hblk id l0 hs
  have hapart : ∀ b, ((∃ i l1, locF σ A i = some l1 ∧ l1.block = b) ∨ ∃ d o l1, d ∈ dr ∧ Lv A d o ∧ σ d = some l1 ∧ l1.block = b) → ∀ id' o' l', Lv (dropA dr A) id' o' → σ id' = some l' → l'.block ≠ b := by
    intro b hb id' o' l' hlv hs he
    obtain ⟨g1, g2⟩ := dropA_lv hdr hlv
    rcases hb with ⟨i, l1, k1, k2⟩ | ⟨d, o, l1, k1, k2, k3, k4⟩
    · obtain ⟨id, k3, k4⟩ := Option.bind_eq_some_iff.1 k1
      obtain ⟨l2, k5, k6⟩ := h.fdom i id k3
      rw [k4] at k5; cases k5
      exact k6 id' o' l' g1 hs (by rw [he, k2])
    · exact g2 (h.inj id' d o' o l' l1 g1 k2 hs k3 (by rw [he, k4]) ▸ k1)
  -- where an object of the run lies
  have hrun : ∀ b o lc, Lv B' b o → τ b = some lc → w.heap.size ≤ lc.block ∨ (∃ i l1, locF σ A i = some l1 ∧ l1.block = lc.block) ∨ ∃ d o l1, d ∈ dr ∧ Lv A d o ∧ σ d = some l1 ∧ l1.block = lc.block := by
    intro b o lc hlv hs
    rcases h3.blocks b o lc hlv hs with g1 | ⟨id0, o0, l0, g1, g2, g3⟩
    · exact .inl g1
    · right; rw [← g3]; exact hlvB id0 o0 l0 g1 g2
  have hkeep : ∀ b, b < w.heap.size → (∀ j lc, (src j).bind σ = some lc → lc.block ≠ b) → w'.heap[b]? = w.heap[b]? := fun b hb hne =>
    h3.keep b hb (fun id o l0 _ hs => hne id l0 hs) (.inr fun i l0 hl0 => nomatch hl0)
  have hix : ∀ j id, ixA src A.next ch j = some id → (∃ e o lc, e ∈ ch ∧ e.1 = j ∧ lookA ch j = some e.2 ∧ Lv B' e.2 o ∧ τ e.2 = some lc ∧ sgA σ τ A.next ch id = some lc) ∨
      (lookA ch j = none ∧ src j = some id ∧ ∃ lc, σ id = some lc ∧ sgA σ τ A.next ch id = some lc) := by
    intro j id hi
    unfold ixA at hi
    cases hp : posA ch A.next j with
    | some id' =>
      rw [hp] at hi; cases hi
      obtain ⟨g1, e, g2, g3, g4⟩ := posA_some hp
      have hmem := List.mem_of_getElem? g2
      obtain ⟨_, o, g5⟩ := hchk e hmem
      obtain ⟨lc, _, g6, _⟩ := h2.obj e.2 o g5
      exact .inl ⟨e, o, lc, hmem, g3, g4, g5, g6, by rw [hfresh id e g1 g2, g6]⟩
    | none =>
      rw [hp] at hi
      obtain ⟨lc, g1⟩ := hsrc j id hi
      exact .inr ⟨posA_none hp, hi, lc, g1, hmono _ _ g1⟩
  have hloc : ∀ j lc, locF (sgA σ τ A.next ch) ⟨(dropA dr A).h, A.next + ch.length, ⟨k', ixA src A.next ch⟩⟩ j = some lc →
      w.heap.size ≤ lc.block ∨ (∃ i l1, locF σ A i = some l1 ∧ l1.block = lc.block) ∨ ∃ d o l1, d ∈ dr ∧ Lv A d o ∧ σ d = some l1 ∧ l1.block = lc.block := by
    intro j lc hj
    obtain ⟨id, k1, k2⟩ := Option.bind_eq_some_iff.1 hj
    rcases hix j id k1 with ⟨e, o, lc', _, _, _, g4, g5, g6⟩ | ⟨_, g2, lc', g3, g4⟩
    · rw [k2] at g6; cases g6
      exact hrun _ _ _ g4 g5
    · rw [k2] at g4; cases g4
      exact .inr (hblk j lc (by rw [g2]; exact g3))
  have hsub : ∀ id o, Lv ⟨(dropA dr A).h, A.next + ch.length, ⟨k', ixA src A.next ch⟩⟩ id o → Lv (dropA dr A) id o := fun id o hh => hh
  have hρ : ∀ i j, mch ch i = some j → locF (sgA σ τ A.next ch) ⟨(dropA dr A).h, A.next + ch.length, ⟨k', ixA src A.next ch⟩⟩ i = τ j := by
    intro i j hm
    have hm' : Bool.rec (motive := fun _ => Option Nat) none (match lookA ch i with | some b => some b | none => some i) (lt i 64) = some j := hm
    cases hlt : lt i 64 with
    | false => rw [hlt] at hm'; cases hm'
    | true =>
      rw [hlt] at hm'
      show (ixA src A.next ch i).bind (sgA σ τ A.next ch) = τ j
      cases hx : ixA src A.next ch i with
      | some id =>
        rcases hix i id hx with ⟨e, o, lc, _, _, g3, _, g5, g6⟩ | ⟨g1, g2, lc, g3, g4⟩
        · have hm2 : (match lookA ch i with | some b => some b | none => some i) = some j := hm'
          rw [g3] at hm2; cases hm2
          show sgA σ τ A.next ch id = _
          rw [g5]; exact g6
        · have hm2 : (match lookA ch i with | some b => some b | none => some i) = some j := hm'
          rw [g1] at hm2; cases hm2
          show sgA σ τ A.next ch id = _
          rw [g4, h3.low i (lt_iff.1 hlt)]
          show _ = (src i).bind σ
          rw [g2]; exact g3.symm
      | none =>
        unfold ixA at hx
        cases hp : posA ch A.next i with
        | some id => rw [hp] at hx; cases hx
        | none =>
          rw [hp] at hx
          have hm2 : (match lookA ch i with | some b => some b | none => some i) = some j := hm'
          rw [posA_none hp] at hm2; cases hm2
          rw [h3.low i (lt_iff.1 hlt)]
          show none = (src i).bind σ
          rw [show src i = none from hx]; rfl
  have hdomF : ∀ j lc, locF (sgA σ τ A.next ch) ⟨(dropA dr A).h, A.next + ch.length, ⟨k', ixA src A.next ch⟩⟩ j = some lc → j < 64 := by
    intro j lc hj
    obtain ⟨id, k1, k2⟩ := Option.bind_eq_some_iff.1 hj
    rcases hix j id k1 with ⟨e, o, lc', g1, g2, _, _, _, _⟩ | ⟨_, g2, lc', g3, _⟩
    · rw [← g2]; exact (hchk e g1).1
    · exact hst.dom j lc' (by show (src j).bind σ = _; rw [g2]; exact g3)
  have hstR := cov_sound (ρ := locF (sgA σ τ A.next ch) ⟨(dropA dr A).h, A.next + ch.length, ⟨k', ixA src A.next ch⟩⟩) h2 hcov hρ hdomF
  refine ⟨sgA σ τ A.next ch, closed_rel hv h1, ⟨fun id o hlv => ?_, fun id id' o o' lc lc' hlv hlv' hs hs' he => ?_, fun id lc hs => ?_, hn, Nat.le_trans h.base h3.size, h2.glob, fun lc hlc => hmono _ _ (h.val lc hlc), fun j id hj => ?_, hFP _ _ hstR⟩,
    ⟨hmono, hlow, Nat.le_add_right _ _, h3.size, fun b hb hnl hf => ?_, fun id o lc hlv hs => ?_, ⟨Nat.le_of_lt hk, fun he => by have : k' = A.frag.k := he; omega⟩, fun j lc hj => ?_, h3.so⟩⟩
  · obtain ⟨g1, g2⟩ := dropA_lv hdr (hsub id o hlv)
    obtain ⟨lc, ob, a1, a2, a3, a4⟩ := h.obj id o g1
    refine ⟨lc, ob, hmono _ _ a1, ?_, a3.mono hmono, a4⟩
    rw [hkeep lc.block (h.dom _ _ a1).2 fun j l0 hs he => hapart lc.block (by rw [← he]; exact hblk j l0 hs) id o lc hlv a1 rfl, a2]
  · have g := dropA_lv hdr (hsub id o hlv)
    have g' := dropA_lv hdr (hsub id' o' hlv')
    rw [hlow id (h.lt g.1)] at hs
    rw [hlow id' (h.lt g'.1)] at hs'
    exact h.inj id id' o o' lc lc' g.1 g'.1 hs hs' he
  · by_cases hi : id < A.next
    · rw [hlow id hi] at hs
      exact ⟨Nat.lt_of_lt_of_le hi (Nat.le_add_right _ _), Nat.lt_of_lt_of_le (h.dom _ _ hs).2 h3.size⟩
    · unfold sgA at hs
      rw [if_pos (by omega)] at hs
      cases hc : ch[id - A.next]? with
      | none => rw [hc] at hs; exact absurd (hsome id lc hs) hi
      | some e =>
        rw [hc] at hs
        have := (List.getElem?_eq_some_iff.1 hc).1
        exact ⟨by show id < A.next + ch.length; omega, (h2.dom _ _ hs).2⟩
  · rcases hix j id hj with ⟨e, o, lc, g1, g2, g3, g4, g5, g6⟩ | ⟨_, g2, lc, g3, g4⟩
    · refine ⟨lc, g6, fun id' o' l' hlv hs => ?_⟩
      rw [hlow id' (h.lt (dropA_lv hdr (hsub id' o' hlv)).1)] at hs
      rcases hrun _ _ _ g4 g5 with k1 | k1
      · have := (h.dom _ _ hs).2; omega
      · exact hapart lc.block k1 id' o' l' hlv hs
    · refine ⟨lc, g4, fun id' o' l' hlv hs => ?_⟩
      rw [hlow id' (h.lt (dropA_lv hdr (hsub id' o' hlv)).1)] at hs
      exact hapart lc.block (hblk j lc (by rw [g2]; exact g3)) id' o' l' hlv hs
  · have hf' : ∀ i l0, locF σ A i = some l0 → l0.block ≠ b := by
      rcases hf with he | hf
      · have : k' = A.frag.k := congrArg Fr.k he
        omega
      · exact hf
    refine hkeep b hb fun j lc hs he => ?_
    rcases hblk j lc hs with ⟨i, l0, g1, g2⟩ | ⟨d, o, l0, g1, g2, g3, g4⟩
    · exact hf' i l0 g1 (by rw [g2, he])
    · exact hnl d o l0 g2 g3 (by rw [g4, he])
  · have g := dropA_lv hdr (hsub id o hlv)
    rw [hlow id (h.lt g.1)] at hs
    exact .inr ⟨id, o, lc, g.1, hs, rfl⟩
  · rcases hloc j lc hj with g | ⟨i, l1, g1, g2⟩ | ⟨d, o, l1, g1, g2, g3, g4⟩
    · exact .inl g
    · exact .inr (.inr ⟨i, l1, g1, g2⟩)
    · exact .inr (.inl ⟨d, o, l1, g2, g3, g4⟩)
end
end
end AM
end
end Go.Proofs.YtejhenloolgmkaaGreatDoor
