/- Regions of code, those that draw their order among them, run in the abstract machine as in the model: second part; calls; the checker's first parts. Condition: none. -/
import Derived.Test.YtejhenloolgmkaaGreatDoorMc
import Derived.Scope
namespace Go.Proofs.YtejhenloolgmkaaGreatDoor
open Go
set_option linter.all false
noncomputable section
namespace AM
section
section
variable {X : Par} {CE : Nat → List AV → AW → CRes} {nt : Nat} {ops : Array Oper} {n : Nat} {items : List DI} {base : Nat} {f0 : Frame} {A0 : AW} {rs : List Rec} {σ0 σ : Sg} {As A : AW} {w0 w : World} {L : Nat → Bool} {a : Act}

theorem looks_tmp {o : Oper} {t : Nat} (h : Operand.tmp t ∈ o.op.operands) : t ∈ o.looksAt ops := by
  unfold Oper.looksAt
  exact List.mem_append_left _ (List.mem_filterMap.2 ⟨.tmp t, by simpa using h, rfl⟩)
/-- The guard, read in the abstract frame and in the model's. -/
theorem wanted_gst {P : Program} {x : It} {o : Oper} (hi : ItOk P nt ops x o) (hs : a.tmps.size = nt) {f : Frame} (hv : ∀ t, t < 512 → t ∈ o.looksAt ops → VR σ (getT t f) (a.eval (.tmp t))) {b : Bool} (hg : gst x f = some b) :
    Region.wanted o (yielded ops a.tmps) = b := by
  have key : ∀ (s : Sel) (want : Bool) (j : Nat), o.guard = some (j, want) → (ops[j]?).bind (·.dst) = some s.n → s.n < nt →
      (match s.get f with | .any _ => none | .b t => some (t == want) | _ => some false : Option Bool) = some b → Region.wanted o (yielded ops a.tmps) = b := by
    intro s want j hgd hj hn hm
    have hlk : s.n ∈ o.looksAt ops := by
      unfold Oper.looksAt
      refine List.mem_append_right _ ?_
      rw [hgd]; simp [hj]
    have hvr := hv s.n s.lt hlk
    rw [← s.getE] at hvr
    have hlt : s.n < a.tmps.size := by rw [hs]; exact hn
    have hy : yielded ops a.tmps j = (match a.eval (.tmp s.n) with | .bool b => some b | _ => none) := by
      simp only [yielded, hj, Option.bind_some, Act.eval, Array.getElem?_eq_getElem hlt, Array.getD_eq_getD_getElem?, Option.getD_some]
      cases a.tmps[s.n] <;> rfl
    simp only [Region.wanted, hgd, hy]
    generalize a.eval (.tmp s.n) = u at hvr
    generalize s.get f = y at hvr hm
    cases hvr <;> first | (cases hm; done) | (cases hm; rfl) | skip
    all_goals (cases hm; simp)
  cases hi with
  | o d l _ hgd hd hn h => cases hg; simp [Region.wanted, hgd]
  | n l _ hgd hd h => cases hg; simp [Region.wanted, hgd]
  | g s want d l _ j hgd hj hs' hd hn h => exact key s want j hgd hj hs' hg
  | gn s want l _ j hgd hj hs' hd h => exact key s want j hgd hj hs' hg
theorem ItOk.op {P : Program} {x : It} {o : Oper} (h : ItOk P nt ops x o) : OpOk P (itOp x) o.op := by cases h <;> assumption

/-- The frame, one operation further. -/
theorem Inv.frame (C : Ctx X CE nt ops n items base f0 A0 rs) (I : Inv X nt base f0 A0 rs σ0 As w0 L σ A a w) {r : Rec} (hr : r ∈ rs) {dst : Option Nat} (hd : dst = dstIt (itD r.d)) (hlt : ∀ t, dst = some t → t < nt) {σ' : Sg}
    (hm : ∀ id l, σ id = some l → σ' id = some l) {v' : Value} (hv : VR σ' r.v v') :
    (a.put dst v').tmps.size = nt ∧ (a.put dst v').defers = [] ∧
    (∀ t, t < 512 → (∀ r2, r2 ∈ rs → (ixD r2.d == ixD r.d || L (ixD r2.d)) = true → dstIt (itD r2.d) ≠ some t) → VR σ' (getT t f0) ((a.put dst v').eval (.tmp t))) ∧
    ∀ r2, r2 ∈ rs → (ixD r2.d == ixD r.d || L (ixD r2.d)) = true → ∀ t, dstIt (itD r2.d) = some t → VR σ' r2.v ((a.put dst v').eval (.tmp t)) := by
  have hsz : ∀ t, dst = some t → t < a.tmps.size := fun t ht => by rw [I.size]; exact hlt t ht
  refine ⟨?_, ?_, fun t ht hn => ?_, fun r2 h2 hl t ht => ?_⟩
  · cases dst <;> simp [Act.put, I.size]
  · cases dst <;> exact I.defers
  · rw [eval_put (hsz t), if_neg (by rw [hd]; exact hn r hr (by simp))]
    exact (I.t1 t ht fun r2 h2 hl => hn r2 h2 (by simp [hl])).mono hm
  · rw [eval_put (hsz t)]
    by_cases he : ixD r2.d = ixD r.d
    · have := C.inj h2 hr he
      subst this
      rw [if_pos (hd.trans ht)]; exact hv
    · have hl' : L (ixD r2.d) = true := by simpa [he] using hl
      rw [if_neg fun hc => he (C.ok.uniq r2.d (C.mem h2) r.d (C.mem hr) t ht (hd ▸ hc))]
      exact (I.t2 r2 h2 hl' t ht).mono hm

/-- A quiet operation has come up. -/
theorem Inv.quiet (C : Ctx X CE nt ops n items base f0 A0 rs) (hb : A0.next = base + n) (I : Inv X nt base f0 A0 rs σ0 As w0 L σ A a w) {r : Rec} (hr : r ∈ rs) (hns : isS r.d = false) (hna : ∀ i an q x, r.d = .a i an q x → r.wn = false)
    (hni : ∀ i an q x, r.d = .i i an q x → r.wn = false) {dst : Option Nat} (hd : dst = dstIt (itD r.d)) (hlt : ∀ t, dst = some t → t < nt) {σ' : Sg} {w' : World} (h' : HR X σ' A w') (k : Ext σ A w σ' A w') {v' : Value} (hv : VR σ' r.v v') :
    Inv X nt base f0 A0 rs σ0 As w0 (fun j => j == ixD r.d || L j) σ' A (a.put dst v') w' := by
  obtain ⟨f1, f2, f3, f4⟩ := I.frame C hr hd hlt k.mono hv
  have hq : ∀ i an q x, DI.a i an q x ∈ items → σ' (base + q) = σ (base + q) := fun i an q x hm => k.low _ (by
    have := (C.ok.ka i an q x hm).2
    have := I.nx
    omega)
  have noR : ∀ r2 i an q x, r2 ∈ rs → r2.d = .a i an q x → r2.wn = true → i ≠ ixD r.d := fun r2 i an q x h2 hd2 hw he => by
    have : r2 = r := C.inj h2 hr (by rw [hd2]; exact he)
    subst this
    rw [hna i an q x hd2] at hw; cases hw
  have noI : ∀ r2 i an q x, r2 ∈ rs → r2.d = .i i an q x → r2.wn = true → i ≠ ixD r.d := fun r2 i an q x h2 hd2 hw he => by
    have : r2 = r := C.inj h2 hr (by rw [hd2]; exact he)
    subst this
    rw [hni i an q x hd2] at hw; cases hw
  refine ⟨h', I.ex.trans k, I.nx, ?_, f1, f2, f3, f4, fun r2 i an q x h2 hd2 hw hl hsp ob hc => ?_, fun r1 i an q x r2 i' an' q' x' h1 hd1 hw1 hl1 h2 hd2 hw2 hl2 hqq l l' hl3 hl4 => ?_, fun r2 i an q x h2 hd2 hw hl => ?_⟩
  · obtain ⟨pre, post, c1, c2, c3, c4⟩ := I.core
    refine ⟨pre, post, c1, c2, fun s hs hss => by simp [c3 s hs hss], fun s hs hss => ?_⟩
    have : ixD s.d ≠ ixD r.d := fun he => by
      have := C.inj (by rw [c1]; simp [hs]) hr he
      rw [this, hns] at hss; cases hss
    simp [c4 s hs hss, this]
  · have hl' : L i = true := by simpa [noR r2 i an q x h2 hd2 hw] using hl
    have hc' : Content rs L q r2 ob := by
      rcases hc with ⟨ri, i2, an2, x2, g1, g2, g3, g4, g5⟩ | ⟨g1, g2⟩
      · exact .inl ⟨ri, i2, an2, x2, g1, g2, g3, by simpa [noI ri i2 an2 q x2 g1 g2 g3] using g4, g5⟩
      · exact .inr ⟨fun ri i2 an2 x2 m1 m2 m3 => by
          have := g1 ri i2 an2 x2 m1 m2 m3
          simpa [noI ri i2 an2 q x2 m1 m2 m3] using this, g2⟩
    obtain ⟨l, p1, p2⟩ := I.p1 r2 i an q x h2 hd2 hw hl' (fun s hs hss hls => hsp s hs hss (by simp [hls])) ob hc'
    exact ⟨l, p1.step I.hr k, p2⟩
  · rw [hq i an q x (hd1 ▸ C.mem h1)] at hl3
    rw [hq i' an' q' x' (hd2 ▸ C.mem h2)] at hl4
    exact I.p2 r1 i an q x r2 i' an' q' x' h1 hd1 hw1 (by simpa [noR r1 i an q x h1 hd1 hw1] using hl1) h2 hd2 hw2 (by simpa [noR r2 i' an' q' x' h2 hd2 hw2] using hl2) hqq l l' hl3 hl4
  · rw [hq i an q x (hd2 ▸ C.mem h2)]
    refine I.p3 r2 i an q x h2 hd2 hw ?_
    cases hli : L i with
    | false => rfl
    | true => simp [hli] at hl
end
end
section
section
variable {X : Par} {CE : Nat → List AV → AW → CRes} {nt : Nat} {ops : Array Oper} {n : Nat} {items : List DI} {base : Nat} {f0 : Frame} {A0 : AW} {rs : List Rec} {σ0 σ : Sg} {As A : AW} {w0 w : World} {L : Nat → Bool} {a : Act}

theorem wpOp_skip {o : Oper} {i : Nat} (ho : ops[i]? = some o) (hw : Region.wanted o (yielded ops a.tmps) = false) {K : Act → World → Prop} {Q : Exit → Act → World → Prop} {P : Program} (h : K (a.put o.dst undef) w) : wpOp P ops Q i K a w := by
  unfold wpOp
  simp only [ho, hw, Bool.false_eq_true, if_false]
  exact h
theorem wpOp_do {o : Oper} {i : Nat} (ho : ops[i]? = some o) (hw : Region.wanted o (yielded ops a.tmps) = true) {K : Act → World → Prop} {Q : Exit → Act → World → Prop} {P : Program} (h : o.wp P a w K Q) : wpOp P ops Q i K a w := by
  unfold wpOp
  simp only [ho, hw, if_true]
  exact .inl h

/-- A read value is the same in every heap where the read may come up. -/
theorem Inv.readAt (C : Ctx X CE nt ops n items base f0 A0 rs) (I : Inv X nt base f0 A0 rs σ0 As w0 L σ A a w) (hL : Closed items L) {pre post : List Rec} {i an : Nat} {x : It} {f : Frame} {v : AV} {A1 A1' : AW} {ob : AO}
    (h : rs = pre ++ ⟨.r i an x, f, v, A1, A1', ob, true⟩ :: post) (hr : L i = false) (hanc : ∀ j, an.testBit j = true → L j = true) (hv : ToldV X.G CE (itOp x) f (coreOf A0 pre) v) : ToldV X.G CE (itOp x) f A v := by
  obtain ⟨p1, p2, h1, h2, h3, h4⟩ := I.core
  have hpre : ∀ s, s ∈ pre → isS s.d = true → L (ixD s.d) = true := fun s hs hss => hanc _ (C.spine h (.inr rfl) hs hss)
  rcases cuts (h1.symm.trans h) with ⟨m, c1, c2⟩ | ⟨m, c1, c2⟩
  · -- nothing with effect between
    rw [h2]
    rw [c1, coreOf_append, coreOf_none m _ fun s hs => ?_] at hv
    · exact hv
    · cases hss : isS s.d with
      | false => rfl
      | true =>
        have e1 := hpre s (by rw [c1]; simp [hs]) hss
        have e2 := h4 s (by rw [c2]; simp [hs]) hss
        rw [e1] at e2; cases e2
  · cases m with
    | nil =>
      rw [h2, c1, List.append_nil]; exact hv
    | cons r1 m =>
      simp only [List.cons_append, List.cons.injEq] at c2
      obtain ⟨c2, c3⟩ := c2
      rcases last_spine m with hno | ⟨m1, s, m2, g1, g2, g3⟩
      · rw [h2, c1, coreOf_append]
        show ToldV X.G CE (itOp x) f (coreOf (if isS r1.d = true then r1.A' else coreOf A0 pre) m) v
        rw [← c2, if_neg (by simp [isS]), coreOf_none m _ hno]
        exact hv
      · have hsp : rs = (pre ++ r1 :: m1) ++ s :: (m2 ++ p2) := by rw [h1, c1, g1]; simp
        have hsL : L (ixD s.d) = true := h3 s (by rw [c1, g1]; simp) g2
        have hne : ∀ s', s' ∈ rs → L (ixD s'.d) = true → bitB (anD s'.d) i = false := fun s' hs' hl => by
          rw [bitB_eq]
          cases hb : (anD s'.d).testBit i with
          | false => rfl
          | true => have := hL s'.d (C.mem hs') hl _ hb; rw [hr] at this; cases this
        have hA : A = s.A' := by rw [h2, c1, g1, show pre ++ r1 :: (m1 ++ s :: m2) = (pre ++ r1 :: m1) ++ s :: m2 by simp, coreOf_last g2 g3]
        have hin : (i, itOp x, f, v) ∈ chkOf [] (pre ++ r1 :: m1) := by
          have e : chkOf [] (pre ++ r1 :: m1) = chkOf (chkStep (chkOf [] pre) r1) m1 := by
            have app : ∀ (l m : List Rec) (c : Chk), chkOf c (l ++ m) = chkOf (chkOf c l) m := by
              intro l
              induction l with
              | nil => intro m c; rfl
              | cons y l ih => intro m c; exact ih m _
            rw [app]; rfl
          rw [e]
          refine chkOf_keep m1 _ ?_ fun s' hs' hss => hne s' (by rw [hsp]; simp [hs']) (h3 s' (by rw [c1, g1]; simp [hs']) hss)
          rw [← c2]
          simp [chkStep]
        have hrec := C.rc _ _ _ hsp
        have hkeep : (i, itOp x, f, v) ∈ keepC (anD s.d) (chkOf [] (pre ++ r1 :: m1)) := by
          simp only [keepC, List.mem_filter]
          exact ⟨hin, by rw [hne s (by rw [hsp]; simp) hsL]; rfl⟩
        rw [hA]
        generalize hq : chkOf [] (pre ++ r1 :: m1) = ck at hrec hkeep
        cases hrec with
        | s _ _ _ _ _ _ _ _ hc => exact hc _ hkeep
        | sskip _ _ _ _ _ hc => exact hc _ hkeep
        | skip d hd _ _ => cases d <;> first | (cases g2; done) | exact absurd rfl (hd _ _ _)
        | _ => cases g2

theorem Inv.stepQuiet (hCE : CEok X CE) (C : Ctx X CE nt ops n items base f0 A0 rs) (hb : A0.next = base + n) (I : Inv X nt base f0 A0 rs σ0 As w0 L σ A a w) (hL : Closed items L) {pre post : List Rec} {r : Rec} (h : rs = pre ++ r :: post)
    (hrL : L (ixD r.d) = false) {o : Oper} (ho : ops[ixD r.d]? = some o) (hanc : ∀ j, (anD r.d).testBit j = true → L j = true)
    (hk : (r.wn = false ∧ isS r.d = false ∧ r.v = undefA ∧ gst (itD r.d) (frameOf f0 pre) = some false) ∨ (isS r.d = false ∧ (∀ i an q x, r.d ≠ .a i an q x) ∧ (∀ i an q x, r.d ≠ .i i an q x) ∧ (pureOp (itOp (itD r.d)) = true ∨ readOp (itOp (itD r.d)) = true) ∧
      gst (itD r.d) (frameOf f0 pre) = some true ∧ ToldV X.G CE (itOp (itD r.d)) (frameOf f0 pre) A r.v)) (Q : Exit → Act → World → Prop) :
    wpOp X.P ops Q (ixD r.d) (fun a' w' => ∃ σ' A', Inv X nt base f0 A0 rs σ0 As w0 (fun j => j == ixD r.d || L j) σ' A' a' w') a w := by
  have hmem : r ∈ rs := by rw [h]; simp
  obtain ⟨o', ho', hit⟩ := C.ok.item r.d (C.mem hmem)
  rw [ho] at ho'; cases ho'
  have hlk : ∀ t, t < 512 → t ∈ o.looksAt ops → VR σ (getT t (frameOf f0 pre)) (a.eval (.tmp t)) := fun t ht hl => I.looks C hL h hrL hanc ho ht hl
  obtain ⟨hd1, hd2⟩ := hit.dst
  have hlt : ∀ t, o.dst = some t → t < nt := fun t ht => (hd2 t (hd1 ▸ ht)).1
  rcases hk with ⟨hw, hns, hv, hg⟩ | ⟨hns, hna, hni, hpr, hg, hv⟩
  · refine wpOp_skip ho (wanted_gst hit I.size hlk hg) ⟨σ, A, ?_⟩
    exact I.quiet C hb hmem hns (fun _ _ _ _ _ => hw) (fun _ _ _ _ _ => hw) hd1 hlt I.hr (.refl _ _ _) (by rw [hv]; exact .tup _ _ .nil)
  · refine wpOp_do ho (wanted_gst hit I.size hlk hg) ?_
    have hA : ∀ x y, ArgOk x y → y ∈ o.op.operands → VR σ (x.ev (frameOf f0 pre)) (a.eval y) := fun x y hxy hm => hxy.rel fun t ht hlt' => hlk t hlt' (looks_tmp (ht ▸ hm))
    rcases step_sound (w := w) hCE hit.op I.hr hA with hf | ⟨v, A', hK, hl⟩
    · obtain ⟨f', A1, g1, _⟩ := hv
      rw [hf] at g1; cases g1
    · have e1 := hv.eq hK
      have e2 := quiet_world hpr hK
      subst e2
      refine lands_upon hl fun σ' v' w' h1 h2 h3 => ⟨σ', A', ?_⟩
      exact I.quiet C hb hmem hns (fun i an q x hd => absurd hd (hna i an q x)) (fun i an q x hd => absurd hd (hni i an q x)) hd1 hlt h2 h3 (by rw [e1]; exact h1)
end
end
section
section
variable {X : Par} {CE : Nat → List AV → AW → CRes} {nt : Nat} {ops : Array Oper} {n : Nat} {items : List DI} {base : Nat} {f0 : Frame} {A0 : AW} {rs : List Rec} {σ0 σ : Sg} {As A : AW} {w0 w : World} {L : Nat → Bool} {a : Act}

theorem Good.told {α : Type} {r : (α → Res) → Res} {Q : α → Prop} (h : Good r Q) {x : α} (hx : ∀ K, r K = K x) : Q x := by
  rcases h with h | ⟨y, hy, hq⟩
  · have h1 := hx fun _ => .nrm e3 A00
    rw [h] at h1; cases h1
  · classical
    have h1 := hx fun z => if z = y then .nrm e3 A00 else .fail
    rw [hy] at h1
    simp only [if_true] at h1
    by_cases he : x = y
    · rw [he]; exact hq
    · rw [if_neg he] at h1; cases h1

theorem Inv.stepAlloc (C : Ctx X CE nt ops n items base f0 A0 rs) (hb : A0.next = base + n) (hAs : As.next = base) (I : Inv X nt base f0 A0 rs σ0 As w0 L σ A a w) (hL : Closed items L) {pre post : List Rec} {r : Rec} (h : rs = pre ++ r :: post)
    (hrL : L (ixD r.d) = false) {o : Oper} (ho : ops[ixD r.d]? = some o) (hanc : ∀ j, (anD r.d).testBit j = true → L j = true)
    {i an q : Nat} {x : It} (hd : r.d = .a i an q x) (hw : r.wn = true) (hg : gst x (frameOf f0 pre) = some true) {mk : Nat → AV} (hv : r.v = mk (base + q)) (hst : ∀ K, astep (itOp x) (frameOf f0 pre) K = K r.ob mk) (Q : Exit → Act → World → Prop) :
    wpOp X.P ops Q (ixD r.d) (fun a' w' => ∃ σ' A', Inv X nt base f0 A0 rs σ0 As w0 (fun j => j == ixD r.d || L j) σ' A' a' w') a w := by
  have hmem : r ∈ rs := by rw [h]; simp
  obtain ⟨o', ho', hit⟩ := C.ok.item r.d (C.mem hmem)
  rw [ho] at ho'; cases ho'
  have hlk : ∀ t, t < 512 → t ∈ o.looksAt ops → VR σ (getT t (frameOf f0 pre)) (a.eval (.tmp t)) := fun t ht hl => I.looks C hL h hrL hanc ho ht hl
  obtain ⟨hdA, hdB⟩ := hit.dst
  have hlt : ∀ t, o.dst = some t → t < nt := fun t ht => (hdB t (hdA ▸ ht)).1
  have hix : ixD r.d = i := by rw [hd]; rfl
  have hix' : itD r.d = x := by rw [hd]; rfl
  have hitem : DI.a i an q x ∈ items := hd ▸ C.mem hmem
  obtain ⟨hal, hqn⟩ := C.ok.ka i an q x hitem
  refine wpOp_do ho (wanted_gst hit I.size hlk (by rw [hix']; exact hg)) ?_
  have hA : ∀ x y, ArgOk x y → y ∈ o.op.operands → VR σ (x.ev (frameOf f0 pre)) (a.eval y) := fun x y hxy hm => hxy.rel fun t ht hlt' => hlk t hlt' (looks_tmp (ht ▸ hm))
  have hop := hit.op
  rw [hix'] at hop
  have hal2 := (alloc_good (X := X) (σ := σ) (w := w) (f := frameOf f0 pre) hal hop (ρ := a.eval) hA).told (x := (r.ob, mk)) fun K => hst fun ob mk => K (ob, mk)
  obtain ⟨v', w', obj, sz, e1, ⟨e2, e2o⟩, e3, e4⟩ := hal2
  unfold Oper.wp
  rw [e1]
  show ∃ σ' A', Inv X nt base f0 A0 rs σ0 As w0 (fun j => j == ixD r.d || L j) σ' A' (a.put o.dst v') w'
  have hnone : σ (base + q) = none := I.p3 r i an q x hmem hd hw (hix ▸ hrL)
  have hidlt : base + q < A.next := by have := I.nx; omega
  have hself : ext σ (base + q) ⟨w.heap.size, 0, sz⟩ (base + q) = some ⟨w.heap.size, 0, sz⟩ := by simp [ext]
  have hoth : ∀ id, id ≠ base + q → ext σ (base + q) ⟨w.heap.size, 0, sz⟩ id = σ id := fun id hi => by simp [ext, hi]
  have hmono := ext_mono (l := ⟨w.heap.size, 0, sz⟩) hnone
  have hsame : ∀ r2 i2 an2 q2 x2, r2 ∈ rs → r2.d = .a i2 an2 q2 x2 → i2 = i → r2 = r := fun r2 i2 an2 q2 x2 h2 hd2 he => C.inj h2 hmem (by rw [hd2, hix]; exact he)
  have hq2 : ∀ r2 i2 an2 q2 x2, r2 ∈ rs → r2.d = .a i2 an2 q2 x2 → i2 ≠ i → q2 ≠ q := fun r2 i2 an2 q2 x2 h2 hd2 hne he => by
    subst he
    exact hne (C.ok.qs i2 an2 q2 x2 i an x (hd2 ▸ C.mem h2) hitem)
  have noI : ∀ r2 i2 an2 q2 x2, r2 ∈ rs → r2.d = .i i2 an2 q2 x2 → i2 ≠ i := fun r2 i2 an2 q2 x2 h2 hd2 he => by
    have : r2 = r := C.inj h2 hmem (by rw [hd2, hix]; exact he)
    rw [this, hd] at hd2; cases hd2
  obtain ⟨f1, f2, f3, f4⟩ := I.frame C hmem hdA hlt hmono (v' := v') (by rw [hv]; exact e4 _ _ hself)
  refine ⟨ext σ (base + q) ⟨w.heap.size, 0, sz⟩, A, I.hr.pend hidlt hnone e2 sz, I.ex.pend I.hr hnone (by omega) e2 e2o sz, I.nx, ?_, f1, f2, f3, f4, fun r2 i2 an2 q2 x2 h2 hd2 hw2 hl hsp ob hc => ?_,
    fun r1 i1 an1 q1 x1 r2 i2 an2 q2 x2 h1 hd1' hw1 hl1 h2 hd2 hw2 hl2 hqq l l' hl3 hl4 => ?_, fun r2 i2 an2 q2 x2 h2 hd2 hw2 hl => ?_⟩
  · obtain ⟨p1, p2, c1, c2, c3, c4⟩ := I.core
    refine ⟨p1, p2, c1, c2, fun s hs hss => by simp [c3 s hs hss], fun s hs hss => ?_⟩
    have : ixD s.d ≠ ixD r.d := fun he => by
      have := C.inj (by rw [c1]; simp [hs]) hmem he
      rw [this, hd] at hss; cases hss
    simp [c4 s hs hss, this]
  · by_cases hi : i2 = i
    · have := hsame r2 i2 an2 q2 x2 h2 hd2 hi
      subst this
      rw [hd] at hd2; cases hd2
      have hob : ob = r2.ob := by
        rcases hc with ⟨ri, i3, an3, x3, g1, g2, g3, g4, g5⟩ | ⟨_, g2⟩
        · exfalso
          have hne := noI ri i3 an3 q x3 g1 g2
          have hl3 : L i3 = true := by rw [hix] at g4; simpa [hne] using g4
          obtain ⟨j, an', x', m1, m2, _, _⟩ := C.ok.ins i3 an3 q x3 (g2 ▸ C.mem g1)
          have hj := C.ok.qs i an q x j an' x' hitem m1
          subst hj
          have := hL ri.d (C.mem g1) (by rw [g2]; exact hl3) i (by rw [g2]; exact m2)
          rw [hix] at hrL
          rw [hrL] at this; cases this
        · exact g2
      subst hob
      refine ⟨⟨w.heap.size, 0, sz⟩, ⟨hself, ⟨obj, by rw [e2]; simp, e3.mono hmono⟩, I.hr.base, fun id' o' l' hl hs he => ?_, fun i' l' hl he => by
        rw [I.hr.fsame hmono rfl] at hl
        obtain ⟨id', _, h2⟩ := Option.bind_eq_some_iff.1 hl
        have := (I.hr.dom _ _ h2).2
        simp at he; omega⟩, I.ex.size⟩
      have hne : id' ≠ base + q := fun hc => by
        obtain ⟨l1, _, h1, _⟩ := I.hr.obj id' o' hl
        rw [hc, hnone] at h1; cases h1
      rw [hoth _ hne] at hs
      have := (I.hr.dom _ _ hs).2
      simp at he; omega
    · have hl' : L i2 = true := by rw [hix] at hl; simpa [hi] using hl
      have hc' : Content rs L q2 r2 ob := by
        rcases hc with ⟨ri, i3, an3, x3, g1, g2, g3, g4, g5⟩ | ⟨g1, g2⟩
        · exact .inl ⟨ri, i3, an3, x3, g1, g2, g3, by rw [hix] at g4; simpa [noI ri i3 an3 q2 x3 g1 g2] using g4, g5⟩
        · exact .inr ⟨fun ri i3 an3 x3 m1 m2 m3 => by
            have := g1 ri i3 an3 x3 m1 m2 m3
            rw [hix] at this
            simpa [noI ri i3 an3 q2 x3 m1 m2] using this, g2⟩
      obtain ⟨l, p1, p2⟩ := I.p1 r2 i2 an2 q2 x2 h2 hd2 hw2 hl' (fun s hs hss hls => hsp s hs hss (by simp [hls])) ob hc'
      exact ⟨l, p1.pend I.hr hnone e2 sz, p2⟩
  · by_cases hi1 : i1 = i
    · have := hsame r1 i1 an1 q1 x1 h1 hd1' hi1
      subst this
      rw [hd] at hd1'; cases hd1'
      rw [hself] at hl3; cases hl3
      rw [hoth _ (by omega)] at hl4
      have := (I.hr.dom _ _ hl4).2
      simp; omega
    · by_cases hi2 : i2 = i
      · have := hsame r2 i2 an2 q2 x2 h2 hd2 hi2
        subst this
        rw [hd] at hd2; cases hd2
        rw [hself] at hl4; cases hl4
        rw [hoth _ (by omega)] at hl3
        have := (I.hr.dom _ _ hl3).2
        simp; omega
      · have k1 := hq2 r1 i1 an1 q1 x1 h1 hd1' hi1
        have k2 := hq2 r2 i2 an2 q2 x2 h2 hd2 hi2
        rw [hoth _ (by omega)] at hl3
        rw [hoth _ (by omega)] at hl4
        rw [hix] at hl1 hl2
        exact I.p2 r1 i1 an1 q1 x1 r2 i2 an2 q2 x2 h1 hd1' hw1 (by simpa [hi1] using hl1) h2 hd2 hw2 (by simpa [hi2] using hl2) hqq l l' hl3 hl4
  · rw [hix] at hl
    have hi : i2 ≠ i := fun he => by simp [he] at hl
    rw [hoth _ (by have := hq2 r2 i2 an2 q2 x2 h2 hd2 hi; omega)]
    refine I.p3 r2 i2 an2 q2 x2 h2 hd2 hw2 ?_
    simpa [hi] using hl
end
end
section
section
variable {X : Par} {CE : Nat → List AV → AW → CRes} {nt : Nat} {ops : Array Oper} {n : Nat} {items : List DI} {base : Nat} {f0 : Frame} {A0 : AW} {rs : List Rec} {σ0 σ : Sg} {As A : AW} {w0 w : World} {L : Nat → Bool} {a : Act}

/-- An operation with effect: first what it needs is put into the heap, then it comes up. -/
theorem Inv.stepSpine (hCE : CEok X CE) (C : Ctx X CE nt ops n items base f0 A0 rs) (hb : A0.next = base + n) (I : Inv X nt base f0 A0 rs σ0 As w0 L σ A a w) (hL : Closed items L) {pre post : List Rec} {r : Rec} (h : rs = pre ++ r :: post)
    (hrL : L (ixD r.d) = false) {o : Oper} (ho : ops[ixD r.d]? = some o) (hanc : ∀ j, (anD r.d).testBit j = true → L j = true)
    {i an : Nat} {x : It} (hd : r.d = .s i an x) (hA1 : r.A = putsP an (pendOf base [] pre) (coreOf A0 pre))
    (hk : (gst x (frameOf f0 pre) = some false ∧ r.v = undefA ∧ r.A' = r.A) ∨ (gst x (frameOf f0 pre) = some true ∧ Told X.G CE (itOp x) (frameOf f0 pre) r.A r.v r.A')) (Q : Exit → Act → World → Prop) :
    wpOp X.P ops Q (ixD r.d) (fun a' w' => ∃ σ' A', Inv X nt base f0 A0 rs σ0 As w0 (fun j => j == ixD r.d || L j) σ' A' a' w') a w := by
  have hmem : r ∈ rs := by rw [h]; simp
  have hpm : ∀ r', r' ∈ pre → r' ∈ rs := fun r' hr => by rw [h]; simp [hr]
  obtain ⟨o', ho', hit⟩ := C.ok.item r.d (C.mem hmem)
  rw [ho] at ho'; cases ho'
  have hlk : ∀ t, t < 512 → t ∈ o.looksAt ops → VR σ (getT t (frameOf f0 pre)) (a.eval (.tmp t)) := fun t ht hl => I.looks C hL h hrL hanc ho ht hl
  obtain ⟨hdA, hdB⟩ := hit.dst
  have hlt : ∀ t, o.dst = some t → t < nt := fun t ht => (hdB t (hdA ▸ ht)).1
  have hix : ixD r.d = i := by rw [hd]; rfl
  have hix' : itD r.d = x := by rw [hd]; rfl
  have hax : anD r.d = an := by rw [hd]; rfl
  have hss : isS r.d = true := by rw [hd]; rfl
  have hcore := I.coreAt C hL h hrL hanc hss
  rw [hax] at hanc
  obtain ⟨hnd, hPE⟩ := pend_PE C pre.length pre (r :: post) rfl h
  -- with an operation of effect in L, it lies before
  have spre : ∀ s, s ∈ rs → isS s.d = true → L (ixD s.d) = true → s ∈ pre := by
    intro s hs hs2 hl
    rw [h] at hs
    rcases List.mem_append.1 hs with h1 | h1
    · exact h1
    · rcases List.mem_cons.1 h1 with rfl | h1
      · rw [hrL] at hl; cases hl
      · obtain ⟨q1, q2, hq⟩ := List.append_of_mem h1
        have hsp : rs = (pre ++ r :: q1) ++ s :: q2 := by rw [h, hq]; simp
        have hbb := C.spine hsp (.inl hs2) (s := r) (by simp) hss
        have := hL s.d (C.mem (by rw [hsp]; simp)) hl _ hbb
        rw [hrL] at this; cases this
  -- what waits in the abstract order and is needed now, waits here
  have need : ∀ e, e ∈ pendOf base [] pre → bitB an e.1 = true → ∃ ra an' q x', ra ∈ rs ∧ ra.d = .a e.1 an' q x' ∧ ra.wn = true ∧ L e.1 = true ∧ e.2.1 = base + q ∧ ∃ l, PendAt X σ A w e.2.1 e.2.2 l ∧ w0.heap.size ≤ l.block := by
    intro e he hbe
    rw [bitB_eq] at hbe
    obtain ⟨⟨ra, an', q, x', a1, a2, a3, a4, a5⟩, b⟩ := hPE e he
    have hLe : L e.1 = true := hanc _ hbe
    have hcont : Content rs L q ra e.2.2 := by
      have insIn : ∀ ri i2 an2 x2, ri ∈ rs → ri.d = .i i2 an2 q x2 → an.testBit i2 = true := by
        intro ri i2 an2 x2 h1 h2
        obtain ⟨j, an3, x3, c1, c2, c3, c4⟩ := C.ok.ins i2 an2 q x2 (h2 ▸ C.mem h1)
        have := C.ok.qs j an3 q x3 e.1 an' x' c1 (a2 ▸ C.mem (hpm _ a1))
        subst this
        have := c3 r.d (C.mem hmem) hss (by rw [hax]; exact hbe)
        rwa [hax] at this
      rcases a5 with ⟨ri, i2, an2, x2, c1, c2, c3, c4⟩ | ⟨c1, c2⟩
      · exact .inl ⟨ri, i2, an2, x2, hpm _ c1, c2, c3, hanc _ (insIn ri i2 an2 x2 (hpm _ c1) c2), c4⟩
      · refine .inr ⟨fun ri i2 an2 x2 h1 h2 h3 => ?_, c2⟩
        have hbi := insIn ri i2 an2 x2 h1 h2
        have hp := C.before h (r' := ri) h1 (by rw [hax, h2]; exact hbi)
        rw [c1 ri i2 an2 x2 hp h2] at h3; cases h3
    obtain ⟨l, p1, p2⟩ := I.p1 ra e.1 an' q x' (hpm _ a1) a2 a3 hLe (fun s hs hs2 hl => b s (spre s hs hs2 hl) hs2) e.2.2 hcont
    exact ⟨ra, an', q, x', hpm _ a1, a2, a3, hLe, a4, l, a4 ▸ p1, p2⟩
  have hdist : ∀ e e', e ∈ pendOf base [] pre → e' ∈ pendOf base [] pre → bitB an e.1 = true → bitB an e'.1 = true → e.2.1 ≠ e'.2.1 → ∀ l l', σ e.2.1 = some l → σ e'.2.1 = some l' → l.block ≠ l'.block := by
    intro e e' he he' hb1 hb2 hne l l' hl hl'
    obtain ⟨ra, an1, q1, x1, a1, a2, a3, a4, a5, _⟩ := need e he hb1
    obtain ⟨rb, an2, q2, x2, b1, b2, b3, b4, b5, _⟩ := need e' he' hb2
    rw [a5] at hl; rw [b5] at hl'
    exact I.p2 ra e.1 an1 q1 x1 rb e'.1 an2 q2 x2 a1 a2 a3 a4 b1 b2 b3 b4 (by omega) l l' hl hl'
  obtain ⟨m1, m2, m3, m4⟩ := merge_sound (anc := an) (σ0 := σ0) (As := As) (w0 := w0) (pendOf base [] pre) I.hr I.ex hnd (fun e he hbe => by obtain ⟨_, _, _, _, _, _, _, _, _, l, g1, g2⟩ := need e he hbe; exact ⟨l, g1, g2⟩) hdist
  have hAeq : putsP an (pendOf base [] pre) A = r.A := by rw [hA1, hcore]
  rw [hAeq] at m1 m2 m3 m4
  have hnx : A0.next ≤ r.A.next := by rw [m3]; exact I.nx
  -- the end of all cases
  have fin : ∀ (σ' : Sg) (v' : Value) (w' : World), VR σ' r.v v' → HR X σ' r.A' w' → Ext σ r.A w σ' r.A' w' → Inv X nt base f0 A0 rs σ0 As w0 (fun j => j == ixD r.d || L j) σ' r.A' (a.put o.dst v') w' := by
    intro σ' v' w' g1 g2 g3
    obtain ⟨f1, f2, f3, f4⟩ := I.frame C hmem hdA hlt g3.mono g1
    have hq : ∀ i an q x, DI.a i an q x ∈ items → σ' (base + q) = σ (base + q) := fun i an q x hm => g3.low _ (by
      have := (C.ok.ka i an q x hm).2
      omega)
    have noR : ∀ r2 i2 an2 q2 x2, r2 ∈ rs → r2.d = .a i2 an2 q2 x2 → i2 ≠ i := fun r2 i2 an2 q2 x2 h2 hd2 he => by
      have : r2 = r := C.inj h2 hmem (by rw [hd2, hix]; exact he)
      rw [this, hd] at hd2; cases hd2
    have noI : ∀ r2 i2 an2 q2 x2, r2 ∈ rs → r2.d = .i i2 an2 q2 x2 → i2 ≠ i := fun r2 i2 an2 q2 x2 h2 hd2 he => by
      have : r2 = r := C.inj h2 hmem (by rw [hd2, hix]; exact he)
      rw [this, hd] at hd2; cases hd2
    refine ⟨g2, m2.trans g3, Nat.le_trans hnx g3.nx, ⟨pre ++ [r], post, by rw [h]; simp, ?_, fun s hs hs2 => ?_, fun s hs hs2 => ?_⟩, f1, f2, f3, f4, fun r2 i2 an2 q2 x2 h2 hd2 hw2 hl hsp ob hc => ?_,
      fun r1 i1 an1 q1 x1 r2 i2 an2 q2 x2 h1 hd1' hw1 hl1 h2 hd2 hw2 hl2 hqq l l' hl3 hl4 => ?_, fun r2 i2 an2 q2 x2 h2 hd2 hw2 hl => ?_⟩
    · rw [coreOf_last (m2 := []) hss fun _ h => by cases h]
    · rcases List.mem_append.1 hs with h1 | h1
      · simp [hanc _ (hax ▸ C.spine h (.inl hss) h1 hs2)]
      · rw [List.mem_singleton] at h1; subst h1; simp
    · have hsr : s ∈ rs := by rw [h]; simp [hs]
      have hne : ixD s.d ≠ ixD r.d := (C.ne h).2 s hs
      cases hl : L (ixD s.d) with
      | false => simp [hne, hl]
      | true =>
        have hp := spre s hsr hs2 hl
        obtain ⟨p1, p2, hp'⟩ := List.append_of_mem hp
        have := (C.ne (pre := p1) (post := p2 ++ r :: post) (r := s) (by rw [h, hp']; simp)).2 s (by simp [hs])
        exact absurd rfl this
    · rw [hix] at hl
      have hl' : L i2 = true := by simpa [noR r2 i2 an2 q2 x2 h2 hd2] using hl
      have hnb : an.testBit i2 = false := by
        have := hsp r hmem hss (by simp)
        rwa [hax] at this
      have hc' : Content rs L q2 r2 ob := by
        rcases hc with ⟨ri, i3, an3, x3, c1, c2, c3, c4, c5⟩ | ⟨c1, c2⟩
        · exact .inl ⟨ri, i3, an3, x3, c1, c2, c3, by rw [hix] at c4; simpa [noI ri i3 an3 q2 x3 c1 c2] using c4, c5⟩
        · exact .inr ⟨fun ri i3 an3 x3 b1 b2 b3 => by
            have := c1 ri i3 an3 x3 b1 b2 b3
            rw [hix] at this
            simpa [noI ri i3 an3 q2 x3 b1 b2] using this, c2⟩
      obtain ⟨l, p1, p2⟩ := I.p1 r2 i2 an2 q2 x2 h2 hd2 hw2 hl' (fun s hs hs2 hls => hsp s hs hs2 (by simp [hls])) ob hc'
      have p3 := m4 _ _ _ p1 fun e l' he hbe hle => by
        obtain ⟨ra, an1, q1, x1, a1, a2, a3, a4, a5, _⟩ := need e he hbe
        have hne : q1 ≠ q2 := fun hc => by
          subst hc
          have := C.ok.qs e.1 an1 q1 x1 i2 an2 x2 (a2 ▸ C.mem a1) (hd2 ▸ C.mem h2)
          rw [bitB_eq, this, hnb] at hbe; cases hbe
        rw [a5] at hle
        exact I.p2 ra e.1 an1 q1 x1 r2 i2 an2 q2 x2 a1 a2 a3 a4 h2 hd2 hw2 hl' hne l' l hle p1.loc
      exact ⟨l, p3.step m1 g3, p2⟩
    · rw [hq i1 an1 q1 x1 (hd1' ▸ C.mem h1)] at hl3
      rw [hq i2 an2 q2 x2 (hd2 ▸ C.mem h2)] at hl4
      rw [hix] at hl1 hl2
      exact I.p2 r1 i1 an1 q1 x1 r2 i2 an2 q2 x2 h1 hd1' hw1 (by simpa [noR r1 i1 an1 q1 x1 h1 hd1'] using hl1) h2 hd2 hw2 (by simpa [noR r2 i2 an2 q2 x2 h2 hd2] using hl2) hqq l l' hl3 hl4
    · rw [hq i2 an2 q2 x2 (hd2 ▸ C.mem h2)]
      rw [hix] at hl
      exact I.p3 r2 i2 an2 q2 x2 h2 hd2 hw2 (by simpa [noR r2 i2 an2 q2 x2 h2 hd2] using hl)
  rcases hk with ⟨hg, hv, hAA⟩ | ⟨hg, hv⟩
  · refine wpOp_skip ho (wanted_gst hit I.size hlk (by rw [hix']; exact hg)) ⟨σ, r.A', ?_⟩
    refine fin σ undef w (by rw [hv]; exact .tup _ _ .nil) (by rw [hAA]; exact m1) (by rw [hAA]; exact .refl _ _ _)
  · refine wpOp_do ho (wanted_gst hit I.size hlk (by rw [hix']; exact hg)) ?_
    have hA : ∀ x y, ArgOk x y → y ∈ o.op.operands → VR σ (x.ev (frameOf f0 pre)) (a.eval y) := fun x y hxy hm => hxy.rel fun t ht hlt' => hlk t hlt' (looks_tmp (ht ▸ hm))
    have hop := hit.op
    rw [hix'] at hop
    rcases step_sound (w := w) hCE hop m1 hA with hf | ⟨v, A', hK, hl⟩
    · obtain ⟨f', g1, _⟩ := hv
      rw [hf] at g1; cases g1
    · obtain ⟨e1, e2⟩ := hv.eq hK
      rw [← e1, ← e2] at hl
      exact lands_upon hl fun σ' v' w' h1 h2 h3 => ⟨σ', r.A', fin σ' v' w' h1 h2 h3⟩
end
end
section
section
variable {X : Par} {CE : Nat → List AV → AW → CRes} {nt : Nat} {ops : Array Oper} {n : Nat} {items : List DI} {base : Nat} {f0 : Frame} {A0 : AW} {rs : List Rec} {σ0 σ : Sg} {As A : AW} {w0 w : World} {L : Nat → Bool} {a : Act}

theorem Ext.sub {A2 : AW} (h : Ext σ0 As w0 σ A w) (hl : ∀ id o, Lv A2 id o → ∃ o', Lv A id o') (hn : A2.next = A.next) (hf : A2.frag = A.frag) : Ext σ0 As w0 σ A2 w where
  mono := h.mono
  low := h.low
  nx := by rw [hn]; exact h.nx
  size := h.size
  so := h.so
  keep b hb hn' hf' := h.keep b hb hn' (by rw [hf] at hf'; exact hf')
  blocks id o l hh hs := by obtain ⟨o', ho⟩ := hl id o hh; exact h.blocks id o' l ho hs
  fk := by rw [hf]; exact h.fk
  fblocks i l hl' := h.fblocks i l (by unfold locF at hl' ⊢; rw [hf] at hl'; exact hl')
theorem PendAt.sub {A2 : AW} {id : Nat} {o : AO} {l : Loc} (p : PendAt X σ A w id o l) (hl : ∀ id o, Lv A2 id o → ∃ o', Lv A id o') (hf : A2.frag = A.frag) : PendAt X σ A2 w id o l :=
  ⟨p.loc, p.ob, p.base, fun id' o' l' hh hs => by obtain ⟨o2, ho⟩ := hl id' o' hh; exact p.apart id' o2 l' ho hs, fun i l' hl' => p.apartF i l' (by unfold locF at hl' ⊢; rw [hf] at hl'; exact hl')⟩

theorem told_unique {r : (AV → AW → Res) → Res} {v v' : AV} {B B' : AW} (h : ∀ K, r K = K v B) (h' : ∀ K, r K = K v' B') : v = v' ∧ B = B' := by
  have h1 := h fun v B => .nrm (s0.set v e3) B
  rw [h'] at h1
  have h2 := h1
  injection h1 with e1 e2
  have := congrArg s0.get e1
  rw [s0_get_set, s0_get_set] at this
  exact ⟨this.symm, e2.symm⟩

/-- An entry comes into a map that waits. -/
theorem Inv.stepIns (hCE : CEok X CE) (C : Ctx X CE nt ops n items base f0 A0 rs) (hb : A0.next = base + n) (I : Inv X nt base f0 A0 rs σ0 As w0 L σ A a w) (hL : Closed items L) {pre post : List Rec} {r : Rec} (h : rs = pre ++ r :: post)
    (hrL : L (ixD r.d) = false) {o : Oper} (ho : ops[ixD r.d]? = some o) (hanc : ∀ j, (anD r.d).testBit j = true → L j = true)
    {i an q : Nat} {x : It} (hd : r.d = .i i an q x) (hw : r.wn = true) (hg : gst x (frameOf f0 pre) = some true) (hv : r.v = undefA)
    {str : Bool} {m k y : Arg} {j : Nat} {es : List (AV × AV × Nat)} {clock : Nat} (hl : itOp x = .mupd str m k y) (hm : m.ev (frameOf f0 pre) = .m (base + q)) (hp : (j, base + q, AO.map es clock) ∈ pendOf base [] pre)
    (hf : ∀ Kf K0, findK str (k.ev (frameOf f0 pre)) es 0 Kf K0 = K0) (hob : r.ob = .map (es ++ [(k.ev (frameOf f0 pre), y.ev (frameOf f0 pre), clock)]) (Nat.succ clock)) (Q : Exit → Act → World → Prop) :
    wpOp X.P ops Q (ixD r.d) (fun a' w' => ∃ σ' A', Inv X nt base f0 A0 rs σ0 As w0 (fun j => j == ixD r.d || L j) σ' A' a' w') a w := by
  have hmem : r ∈ rs := by rw [h]; simp
  have hpm : ∀ r', r' ∈ pre → r' ∈ rs := fun r' hr => by rw [h]; simp [hr]
  obtain ⟨o', ho', hit⟩ := C.ok.item r.d (C.mem hmem)
  rw [ho] at ho'; cases ho'
  have hlk : ∀ t, t < 512 → t ∈ o.looksAt ops → VR σ (getT t (frameOf f0 pre)) (a.eval (.tmp t)) := fun t ht hl => I.looks C hL h hrL hanc ho ht hl
  obtain ⟨hdA, hdB⟩ := hit.dst
  have hlt : ∀ t, o.dst = some t → t < nt := fun t ht => (hdB t (hdA ▸ ht)).1
  have hix : ixD r.d = i := by rw [hd]; rfl
  have hix' : itD r.d = x := by rw [hd]; rfl
  have hax : anD r.d = an := by rw [hd]; rfl
  have hns : isS r.d = false := by rw [hd]; rfl
  have hitem : DI.i i an q x ∈ items := hd ▸ C.mem hmem
  obtain ⟨ja, anA, xA, i1, i2, i3, i4⟩ := C.ok.ins i an q x hitem
  obtain ⟨⟨ra, an', q', x', a1, a2, a3, a4, a5⟩, _⟩ := (pend_PE C pre.length pre (r :: post) rfl h).2 _ hp
  have hqq : q' = q := by have : base + q = base + q' := a4; omega
  subst hqq
  have hra := hpm _ a1
  have a2' : ra.d = .a j an' q' x' := a2
  have hja := C.ok.qs ja anA q' xA j an' x' i1 (a2' ▸ C.mem hra)
  subst hja
  have hLj : L ja = true := hanc _ (by rw [hax]; exact i2)
  have insR : ∀ ri i2' an2 x2, ri ∈ rs → ri.d = .i i2' an2 q' x2 → ri = r := fun ri i2' an2 x2 h1 h2 => C.inj h1 hmem (by rw [h2, hix]; exact i4 i2' an2 x2 (h2 ▸ C.mem h1))
  have hobA : AO.map es clock = ra.ob := by
    rcases a5 with ⟨ri, i2', an2, x2, c1, c2, c3, c4⟩ | ⟨_, c2⟩
    · have := insR ri i2' an2 x2 (hpm _ c1) c2
      subst this
      exact absurd rfl ((C.ne h).1 ri c1)
    · exact c2
  obtain ⟨l, p1, p2⟩ := I.p1 ra ja an' q' x' hra a2' a3 hLj (fun s hs hs2 hl => by
    cases hbb : (anD s.d).testBit ja with
    | false => rfl
    | true =>
      have := hL s.d (C.mem hs) hl _ (i3 s.d (C.mem hs) hs2 hbb)
      rw [← hix, hrL] at this; cases this) (.map es clock) (.inr ⟨fun ri i2' an2 x2 h1 h2 _ => by
        have := insR ri i2' an2 x2 h1 h2
        subst this
        rw [h2] at hrL; exact hrL, hobA⟩)
  have hid : base + q' < 32768 := Nat.lt_of_lt_of_le (I.hr.dom _ _ p1.loc).1 I.hr.next
  have hadd := I.hr.add p1
  have hexadd := I.ex.add hid (o := .map es clock) p1.loc p2
  refine wpOp_do ho (wanted_gst hit I.size hlk (by rw [hix']; exact hg)) ?_
  have hA : ∀ x y, ArgOk x y → y ∈ o.op.operands → VR σ (x.ev (frameOf f0 pre)) (a.eval y) := fun x y hxy hm => hxy.rel fun t ht hlt' => hlk t hlt' (looks_tmp (ht ▸ hm))
  have hop := hit.op
  rw [hix'] at hop
  have hget : getH (base + q') (put A (base + q') (some (.map es clock))).h = some (.map es clock) := by simp only [put]; rw [getH_setH_same]
  have hcomp : ∀ K : AV → AW → Res, stepOp X.G CE (itOp x) (frameOf f0 pre) (put A (base + q') (some (.map es clock))) K =
      K undefA (put (put A (base + q') (some (.map es clock))) (base + q') (some (.map (es ++ [(k.ev (frameOf f0 pre), y.ev (frameOf f0 pre), clock)]) (Nat.succ clock)))) := by
    intro K
    rw [hl]
    have e1 : stepOp X.G CE (.mupd str m k y) (frameOf f0 pre) (put A (base + q') (some (.map es clock))) K = AM.asM .fail (m.ev (frameOf f0 pre)) (fun id => AM.mapOf (put A (base + q') (some (.map es clock))) id fun es2 clock2 => findK str (k.ev (frameOf f0 pre)) es2 0
        (fun i _ => K undefA (put (put A (base + q') (some (.map es clock))) id (some (.map (es2.modify i fun e => (k.ev (frameOf f0 pre), y.ev (frameOf f0 pre), e.2.2)) clock2))))
        (K undefA (put (put A (base + q') (some (.map es clock))) id (some (.map (es2 ++ [(k.ev (frameOf f0 pre), y.ev (frameOf f0 pre), clock2)]) (Nat.succ clock2)))))) := rfl
    rw [e1, hm]
    show AM.mapOf (put A (base + q') (some (.map es clock))) (base + q') _ = _
    unfold AM.mapOf
    rw [hget]
    exact hf _ _
  rcases step_sound (w := w) hCE hop hadd hA with hfl | ⟨v, A', hK, hlands⟩
  · have h1 := hcomp fun _ _ => .nrm e3 A00
    rw [hfl] at h1; cases h1
  · have e1 : v = undefA ∧ A' = put (put A (base + q') (some (.map es clock))) (base + q') (some r.ob) := by
      rw [hob]
      exact told_unique hK hcomp
    obtain ⟨rfl, rfl⟩ := e1
    refine lands_upon hlands fun σ' v' w' h1 h2 h3 => ⟨σ', A, ?_⟩
    have hnl : ∀ o', ¬ Lv A (base + q') o' := fun o' ho' => p1.apart _ _ _ ho' p1.loc rfl
    have hlvA : ∀ id o', Lv A id o' → Lv (put A (base + q') (some (.map es clock))) id o' := fun id o' hh => (Lv_put_iff hid).2 (.inr ⟨fun hc => hnl o' (hc ▸ hh), hh⟩)
    have hlvP : ∀ id o', Lv A id o' → Lv (put (put A (base + q') (some (.map es clock))) (base + q') (some r.ob)) id o' := fun id o' hh => (Lv_put_iff hid).2 (.inr ⟨fun hc => hnl o' (hc ▸ hh), hlvA id o' hh⟩)
    have hdrop : HR X σ' A w' := by
      refine (h2.drop hid).1.congr (fun id o' => ?_) rfl rfl
      rw [Lv_put_iff hid, Lv_put_iff hid, Lv_put_iff hid]
      constructor
      · intro hh; exact .inr ⟨fun hc => hnl o' (hc ▸ hh), .inr ⟨fun hc => hnl o' (hc ▸ hh), .inr ⟨fun hc => hnl o' (hc ▸ hh), hh⟩⟩⟩
      · rintro (⟨_, hc⟩ | ⟨g1, ⟨g2, _⟩ | ⟨_, ⟨g2, _⟩ | ⟨_, g3⟩⟩⟩)
        · cases hc
        · exact absurd g2 g1
        · exact absurd g2 g1
        · exact g3
    have hextA : Ext σ0 As w0 σ' A w' := (hexadd.trans h3).sub (fun id o' hh => ⟨o', hlvP id o' hh⟩) rfl rfl
    have hq : ∀ i an q x, DI.a i an q x ∈ items → σ' (base + q) = σ (base + q) := fun i an q x hm => h3.low _ (by
      have := (C.ok.ka i an q x hm).2
      have := I.nx
      show base + q < A.next
      omega)
    obtain ⟨f1, f2, f3, f4⟩ := I.frame C hmem hdA hlt h3.mono (v' := v') (by rw [hv]; exact h1)
    have noR : ∀ r2 i2 an2 q2 x2, r2 ∈ rs → r2.d = .a i2 an2 q2 x2 → i2 ≠ i := fun r2 i2 an2 q2 x2 h2 hd2 he => by
      have : r2 = r := C.inj h2 hmem (by rw [hd2, hix]; exact he)
      rw [this, hd] at hd2; cases hd2
    refine ⟨hdrop, hextA, I.nx, ?_, f1, f2, f3, f4, fun r2 i2 an2 q2 x2 g2 hd2 hw2 hl hsp ob hc => ?_, fun r1 i1 an1 q1 x1 r2 i2 an2 q2 x2 g1 hd1' hw1 hl1 g2 hd2 hw2 hl2 hqq l l' hl3 hl4 => ?_, fun r2 i2 an2 q2 x2 g2 hd2 hw2 hl => ?_⟩
    · obtain ⟨s1, s2, c1, c2, c3, c4⟩ := I.core
      refine ⟨s1, s2, c1, c2, fun s hs hss => by simp [c3 s hs hss], fun s hs hss => ?_⟩
      have : ixD s.d ≠ ixD r.d := fun he => by
        have := C.inj (by rw [c1]; simp [hs]) hmem he
        rw [this, hns] at hss; cases hss
      simp [c4 s hs hss, this]
    · rw [hix] at hl
      have hl' : L i2 = true := by simpa [noR r2 i2 an2 q2 x2 g2 hd2] using hl
      by_cases hqe : q2 = q'
      · subst hqe
        have hi2 := C.ok.qs i2 an2 q2 x2 ja an' x' (hd2 ▸ C.mem g2) (a2' ▸ C.mem hra)
        subst hi2
        have hobr : ob = r.ob := by
          rcases hc with ⟨ri, i3, an3, x3, c1, c2, c3, c4, c5⟩ | ⟨c1, _⟩
          · rw [c5, insR ri i3 an3 x3 c1 c2]
          · have := c1 r i an x hmem hd hw
            simp [hix] at this
        subst hobr
        obtain ⟨l2, ob2, k1, k2, k3, k4⟩ := h2.obj (base + q2) r.ob ((Lv_put_iff hid).2 (.inl ⟨rfl, rfl⟩))
        have : l2 = l := by
          have h5 := h3.mono _ _ p1.loc
          rw [k1] at h5; cases h5; rfl
        subst this
        refine ⟨l2, ⟨k1, ⟨ob2, k2, k3⟩, k4, fun id' o' l' hl hs he => ?_, fun i l' hl => p1.apartF i l' (by rw [← I.hr.fsame h3.mono rfl]; exact hl)⟩, p2⟩
        have := h2.inj id' (base + q2) o' r.ob l' l2 (hlvP id' o' hl) ((Lv_put_iff hid).2 (.inl ⟨rfl, rfl⟩)) hs k1 he
        exact hnl o' (this ▸ hl)
      · have hc' : Content rs L q2 r2 ob := by
          rcases hc with ⟨ri, i3, an3, x3, c1, c2, c3, c4, c5⟩ | ⟨c1, c2⟩
          · have hne : i3 ≠ i := fun he => by
              have h5 : ri = r := C.inj c1 hmem (by rw [c2, hix]; exact he)
              rw [h5, hd] at c2; cases c2; exact hqe rfl
            exact .inl ⟨ri, i3, an3, x3, c1, c2, c3, by rw [hix] at c4; simpa [hne] using c4, c5⟩
          · exact .inr ⟨fun ri i3 an3 x3 b1 b2 b3 => by
              have := c1 ri i3 an3 x3 b1 b2 b3
              have hne : i3 ≠ i := fun he => by
                have h5 : ri = r := C.inj b1 hmem (by rw [b2, hix]; exact he)
                rw [h5, hd] at b2; cases b2; exact hqe rfl
              rw [hix] at this
              simpa [hne] using this, c2⟩
        obtain ⟨l2, g5, g6⟩ := I.p1 r2 i2 an2 q2 x2 g2 hd2 hw2 hl' (fun s hs hs2 hls => hsp s hs hs2 (by simp [hls])) ob hc'
        have hne := I.p2 ra ja an' q' x' r2 i2 an2 q2 x2 hra a2' a3 hLj g2 hd2 hw2 hl' (Ne.symm hqe) l l2 p1.loc g5.loc
        exact ⟨l2, ((g5.put hid p1.loc hne).step hadd h3).sub (fun id o' hh => ⟨o', hlvP id o' hh⟩) rfl, g6⟩
    · rw [hq i1 an1 q1 x1 (hd1' ▸ C.mem g1)] at hl3
      rw [hq i2 an2 q2 x2 (hd2 ▸ C.mem g2)] at hl4
      rw [hix] at hl1 hl2
      exact I.p2 r1 i1 an1 q1 x1 r2 i2 an2 q2 x2 g1 hd1' hw1 (by simpa [noR r1 i1 an1 q1 x1 g1 hd1'] using hl1) g2 hd2 hw2 (by simpa [noR r2 i2 an2 q2 x2 g2 hd2] using hl2) hqq l l' hl3 hl4
    · rw [hq i2 an2 q2 x2 (hd2 ▸ C.mem g2)]
      rw [hix] at hl
      exact I.p3 r2 i2 an2 q2 x2 g2 hd2 hw2 (by simpa [noR r2 i2 an2 q2 x2 g2 hd2] using hl)
end
end
section
section
variable {X : Par} {CE : Nat → List AV → AW → CRes} {nt : Nat} {ops : Array Oper} {n : Nat} {items : List DI} {base : Nat} {f0 : Frame} {A0 : AW} {rs : List Rec} {σ0 σ : Sg} {As A : AW} {w0 w : World} {L : Nat → Bool} {a : Act}

/-- Any operation that may come up, comes up as it should. -/
theorem Inv.step (hCE : CEok X CE) (C : Ctx X CE nt ops n items base f0 A0 rs) (hb : A0.next = base + n) (hAs : As.next = base) (I : Inv X nt base f0 A0 rs σ0 As w0 L σ A a w) (hL : Closed items L) {i : Nat} (hi : L i = false)
    {o : Oper} (ho : ops[i]? = some o) (hr : ∀ e, e ∈ o.after → Region.binds .any e = true → L e.on = true) (Q : Exit → Act → World → Prop) :
    (∃ d, d ∈ items ∧ ixD d = i ∧ ∀ j, (anD d).testBit j = true → L j = true) ∧
    wpOp X.P ops Q i (fun a' w' => ∃ σ' A', Inv X nt base f0 A0 rs σ0 As w0 (fun j => j == i || L j) σ' A' a' w') a w := by
  have hlt : i < ops.size := (Array.getElem?_eq_some_iff.1 ho).1
  obtain ⟨d, hd, rfl⟩ := C.ok.all i hlt
  obtain ⟨r, hmem, rfl⟩ := C.recOf hd
  obtain ⟨pre, post, h⟩ := List.append_of_mem hmem
  have hanc := C.ancIn hL hd ho hr
  refine ⟨⟨r.d, hd, rfl, hanc⟩, ?_⟩
  have hrec := C.rc _ _ _ h
  generalize hp : pendOf base [] pre = p at hrec
  generalize hc : chkOf [] pre = c at hrec
  cases hrec with
  | skip d hd' hg ob =>
    refine I.stepQuiet hCE C hb hL h hi ho hanc (.inl ⟨rfl, ?_, rfl, hg⟩) Q
    cases d <;> first | rfl | exact absurd rfl (hd' _ _ _)
  | q i' an x v ob hg hv =>
    have hpu := C.ok.kq i' an x hd
    exact I.stepQuiet hCE C hb hL h hi ho hanc (.inr ⟨rfl, fun _ _ _ _ hh => (by cases hh), fun _ _ _ _ hh => (by cases hh), .inl hpu, hg, hv.pure hpu⟩) Q
  | r i' an x v ob hg hv =>
    have hre := C.ok.kr i' an x hd
    exact I.stepQuiet hCE C hb hL h hi ho hanc (.inr ⟨rfl, fun _ _ _ _ hh => (by cases hh), fun _ _ _ _ hh => (by cases hh), .inr hre, hg, I.readAt C hL h hi hanc hv⟩) Q
  | a i' an q x ob mk hg hv => exact I.stepAlloc C hb hAs hL h hi ho hanc (i := i') (an := an) (q := q) (x := x) rfl rfl hg rfl hv Q
  | i i' an q x str m k y j es clock hg hl hm hp' hf =>
    exact I.stepIns hCE C hb hL h hi ho hanc (i := i') (an := an) (q := q) (x := x) rfl rfl hg rfl hl hm (hp ▸ hp') hf rfl Q
  | s i' an x v A' ob hg hv hc' =>
    subst hp
    exact I.stepSpine hCE C hb hL h hi ho hanc (i := i') (an := an) (x := x) rfl rfl (.inr ⟨hg, hv⟩) Q
  | sskip i' an x ob hg hc' =>
    subst hp
    exact I.stepSpine hCE C hb hL h hi ho hanc (i := i') (an := an) (x := x) rfl rfl (.inl ⟨hg, rfl, rfl⟩) Q

theorem putsP_all {anc : Nat} : ∀ (p : Pend) (A : AW), (∀ e, e ∈ p → bitB anc e.1 = true) → putsP anc p A = putsAll p A
  | [], A, _ => rfl
  | e :: p, A, h => by
    simp only [putsP, putsAll]
    rw [if_pos (h e (by simp))]
    exact putsP_all p _ fun e' he => h e' (by simp [he])
theorem bits_all : ∀ (p : Pend), ∃ anc, ∀ e, e ∈ p → bitB anc e.1 = true := by
  intro p
  have : ∃ N, ∀ e, e ∈ p → e.1 < N := by
    induction p with
    | nil => exact ⟨0, fun e h => (by cases h)⟩
    | cons e p ih =>
      obtain ⟨N, hN⟩ := ih
      refine ⟨N + e.1 + 1, fun e' he => ?_⟩
      rcases List.mem_cons.1 he with rfl | he
      · omega
      · have := hN e' he; omega
  obtain ⟨N, hN⟩ := this
  exact ⟨2 ^ N - 1, fun e he => by rw [bitB_eq, Nat.testBit_two_pow_sub_one]; exact decide_eq_true (hN e he)⟩

/-- When all have come up. -/
theorem Inv.done (C : Ctx X CE nt ops n items base f0 A0 rs) (I : Inv X nt base f0 A0 rs σ0 As w0 L σ A a w) (hall : ∀ d, d ∈ items → L (ixD d) = true) :
    HR X σ (putsAll (pendOf base [] rs) (coreOf A0 rs)) w ∧ Ext σ0 As w0 σ (putsAll (pendOf base [] rs) (coreOf A0 rs)) w ∧ FR σ nt (frameOf f0 rs) a ∧ a.defers = [] := by
  have hallr : ∀ r, r ∈ rs → L (ixD r.d) = true := fun r hr => hall _ (C.mem hr)
  obtain ⟨hnd, hPE⟩ := pend_PE C rs.length rs [] rfl (by simp)
  have hA : A = coreOf A0 rs := by
    obtain ⟨p1, p2, h1, h2, h3, h4⟩ := I.core
    rw [h2, h1, coreOf_append, coreOf_none p2 _ fun s hs => ?_]
    cases hss : isS s.d with
    | false => rfl
    | true =>
      have e1 := h4 s hs hss
      rw [hallr s (by rw [h1]; simp [hs])] at e1; cases e1
  have need : ∀ e, e ∈ pendOf base [] rs → ∃ ra an' q x', ra ∈ rs ∧ ra.d = .a e.1 an' q x' ∧ ra.wn = true ∧ L e.1 = true ∧ e.2.1 = base + q ∧ ∃ l, PendAt X σ A w e.2.1 e.2.2 l ∧ w0.heap.size ≤ l.block := by
    intro e he
    obtain ⟨⟨ra, an', q, x', a1, a2, a3, a4, a5⟩, b⟩ := hPE e he
    have hLe : L e.1 = true := by have := hallr ra a1; rw [a2] at this; exact this
    have hcont : Content rs L q ra e.2.2 := by
      rcases a5 with ⟨ri, i2, an2, x2, c1, c2, c3, c4⟩ | ⟨c1, c2⟩
      · exact .inl ⟨ri, i2, an2, x2, c1, c2, c3, by have := hallr ri c1; rw [c2] at this; exact this, c4⟩
      · exact .inr ⟨fun ri i2 an2 x2 h1 h2 h3 => (by rw [c1 ri i2 an2 x2 h1 h2] at h3; cases h3), c2⟩
    obtain ⟨l, p1, p2⟩ := I.p1 ra e.1 an' q x' a1 a2 a3 hLe (fun s hs hs2 _ => b s hs hs2) e.2.2 hcont
    exact ⟨ra, an', q, x', a1, a2, a3, hLe, a4, l, a4 ▸ p1, p2⟩
  obtain ⟨anc, hanc⟩ := bits_all (pendOf base [] rs)
  obtain ⟨m1, m2, m3, m4⟩ := merge_sound (anc := anc) (σ0 := σ0) (As := As) (w0 := w0) (pendOf base [] rs) I.hr I.ex hnd (fun e he _ => by obtain ⟨_, _, _, _, _, _, _, _, _, l, g1, g2⟩ := need e he; exact ⟨l, g1, g2⟩)
    (fun e e' he he' _ _ hne l l' hl hl' => by
      obtain ⟨ra, an1, q1, x1, a1, a2, a3, a4, a5, _⟩ := need e he
      obtain ⟨rb, an2, q2, x2, b1, b2, b3, b4, b5, _⟩ := need e' he'
      rw [a5] at hl; rw [b5] at hl'
      exact I.p2 ra e.1 an1 q1 x1 rb e'.1 an2 q2 x2 a1 a2 a3 a4 b1 b2 b3 b4 (by omega) l l' hl hl')
  rw [putsP_all _ _ hanc, hA] at m1 m2
  refine ⟨m1, m2, ⟨I.size, fun t ht => ?_⟩, I.defers⟩
  by_cases hw : ∃ r, r ∈ rs ∧ dstIt (itD r.d) = some t
  · obtain ⟨r, h1, h2⟩ := hw
    obtain ⟨pre, post, hs⟩ := List.append_of_mem h1
    have huniq : ∀ r2, r2 ∈ rs → dstIt (itD r2.d) = some t → r2 = r := fun r2 hm hd => C.inj hm h1 (C.ok.uniq r2.d (C.mem hm) r.d (C.mem h1) t hd h2)
    have e1 : getT t (frameOf f0 rs) = r.v := by
      rw [hs]
      exact frameOf_one ht h2 fun r2 hr2 hd => (C.ne hs).2 r2 hr2 (by rw [huniq r2 (by rw [hs]; simp [hr2]) hd])
    rw [e1]
    exact I.t2 r h1 (hallr r h1) t h2
  · rw [frameOf_none rs f0 t ht fun r2 hr2 hd => hw ⟨r2, hr2, hd⟩]
    exact I.t1 t ht fun r2 hr2 _ hd => hw ⟨r2, hr2, hd⟩

theorem any_sound (hCE : CEok X CE) (C : Ctx X CE nt ops n items base f0 A0 rs) (hb : A0.next = base + n) (hAs : As.next = base) {Q : Exit → Act → World → Prop}
    (hQ : ∀ σ A a w L, Inv X nt base f0 A0 rs σ0 As w0 L σ A a w → (∀ d, d ∈ items → L (ixD d) = true) → Q .normal a w) :
    ∀ (fuel : Nat) {listed : Array Bool} {σ : Sg} {A : AW} {a : Act} {w : World}, listed.toList.count false ≤ fuel → listed.size = ops.size → Closed items (fun j => listed.getD j false) →
      Inv X nt base f0 A0 rs σ0 As w0 (fun j => listed.getD j false) σ A a w → wpAny X.P .any ops Q fuel listed a w := by
  have done : ∀ {listed : Array Bool} {σ : Sg} {A : AW} {a : Act} {w : World}, listed.size = ops.size → Inv X nt base f0 A0 rs σ0 As w0 (fun j => listed.getD j false) σ A a w → Region.ready .any ops listed = [] → Q .normal a w := by
    intro listed σ A a w hsz I hnil
    refine hQ σ A a w _ I fun d hd => ?_
    have key : ∀ (k : Nat) (pre post : List Rec), pre.length = k → rs = pre ++ post → ∀ r, r ∈ pre → listed.getD (ixD r.d) false = true := by
      intro k
      induction k with
      | zero => intro pre post hl _ r hr; rw [List.length_eq_zero_iff.1 hl] at hr; cases hr
      | succ k ih =>
        intro pre post hl h r hr
        rcases List.eq_nil_or_concat pre with rfl | ⟨pre0, r0, rfl⟩
        · cases hr
        · have hs : rs = pre0 ++ r0 :: post := by rw [h]; simp
          have ih' := ih pre0 (r0 :: post) (by simpa using hl) hs
          rw [List.concat_eq_append] at hr
          rcases List.mem_append.1 hr with h1 | h1
          · exact ih' r h1
          · rw [List.mem_singleton] at h1
            subst h1
            have hmem : r ∈ rs := by rw [hs]; simp
            obtain ⟨o, ho, _⟩ := C.ok.item r.d (C.mem hmem)
            have hlt : ixD r.d < ops.size := (Array.getElem?_eq_some_iff.1 ho).1
            cases hg : listed.getD (ixD r.d) false with
            | true => rfl
            | false =>
              have : ixD r.d ∈ Region.ready .any ops listed := by
                rw [mem_ready]
                refine ⟨?_, o, ho, fun e he hbn => ?_⟩
                · have hlt' : ixD r.d < listed.size := by rw [hsz]; exact hlt
                  simp [Array.getD, hlt'] at hg ⊢; exact hg
                · obtain ⟨r', h2, h3⟩ := C.topo hs (C.ok.anc r.d (C.mem hmem) o ho e he hbn)
                  rw [← h3]; exact ih' r' h2
              rw [hnil] at this; cases this
    obtain ⟨r, hr, rfl⟩ := C.recOf hd
    exact key rs.length rs [] rfl (by simp) r hr
  have fresh : ∀ {listed : Array Bool} {i : Nat}, i ∈ Region.ready .any ops listed → ∃ h : i < listed.size, listed[i] = false := by
    intro listed i hi
    have h1 := (mem_ready.1 hi).1
    by_cases hlt : i < listed.size
    · exact ⟨hlt, by simpa [Array.getD, hlt] using h1⟩
    · simp [Array.getD, hlt] at h1
  intro fuel
  induction fuel with
  | zero =>
    intro listed σ A a w hc hsz hcl I
    have hnil : Region.ready .any ops listed = [] := by
      cases hr : Region.ready .any ops listed with
      | nil => rfl
      | cons i l =>
        obtain ⟨h1, h2⟩ := fresh (listed := listed) (i := i) (by rw [hr]; simp)
        have : 0 < listed.toList.count false := List.count_pos_iff.2 (by
          rw [← h2]; simp)
        omega
    exact ⟨hnil, done hsz I hnil⟩
  | succ fuel ih =>
    intro listed σ A a w hc hsz hcl I
    refine ⟨fun hnil => done hsz I hnil, fun i hi => ?_⟩
    obtain ⟨hlt, hfalse⟩ := fresh hi
    obtain ⟨_, o, ho, hrd⟩ := mem_ready.1 hi
    have hLi : listed.getD i false = false := by simp [Array.getD, hlt, hfalse]
    obtain ⟨⟨d, hd, hix, hanc⟩, hstep⟩ := I.step hCE C hb hAs hcl hLi ho hrd Q
    refine wpOp_mono (fun a' w' ⟨σ', A', I'⟩ => ?_) hstep
    have hLeq : (fun j => (listed.setIfInBounds i true).getD j false) = fun j => j == i || listed.getD j false := by
      funext j
      by_cases hj : j = i
      · subst hj; simp [Array.getD, hlt]
      · rw [getD_set_ne false (Ne.symm hj)]; simp [hj]
    refine ih ?_ (by simp [hsz]) ?_ (by rw [hLeq]; exact I')
    · have : (listed.setIfInBounds i true).toList = listed.toList.set i true := by simp
      rw [this, List.count_set (by simpa using hlt)]
      have e : listed.toList[i]'(by simpa using hlt) = false := by simpa using hfalse
      rw [e]
      have h0 : 0 < listed.toList.count false := List.count_pos_iff.2 (by rw [← hfalse]; simp)
      generalize listed.toList.count false = cc at h0 hc ⊢
      simp only [beq_self_eq_true, if_true]
      show cc - 1 + (if (true == false) = true then 1 else 0) ≤ fuel
      simp; omega
    · rw [hLeq]
      intro d' hd' hl j hj
      simp only [Bool.or_eq_true, beq_iff_eq] at hl ⊢
      rcases hl with h1 | h1
      · have : d' = d := by
          obtain ⟨r1, g1, rfl⟩ := C.recOf hd'
          obtain ⟨r2, g2, rfl⟩ := C.recOf hd
          rw [C.inj g1 g2 (h1.trans hix.symm)]
        exact .inr (hanc j (this ▸ hj))
      · exact .inr (hcl d' hd' h1 j hj)
end

section
variable {X : Par} {σ : Sg} {A : AW} {w : World} {CE : Nat → List AV → AW → CRes}
/-- **A region that draws its order answers as the abstract order does.** -/
theorem draw_sound (hCE : CEok X CE) (hm : X.P.follows .mixedOrders = true) {nt n : Nat} {items : List DI} {id : Nat} {ops : Array Oper} (hok : DrawOk X.P nt ops n items) {f : Frame} {a : Act} {r : Res} (h : HR X σ A w) (hf : FR σ nt f a) (hd : a.defers = [])
    (he : runDraw X.G CE n items f A = r) (hr : r ≠ .fail) : (Code.region id ops true).wp X.P (CPost X nt σ A w r) a w := by
  unfold runDraw at he
  rw [force_eq] at he
  cases hbl : Nat.ble (Nat.add A.next n) 32768 with
  | false => rw [hbl] at he; exact absurd he.symm hr
  | true =>
    rw [hbl, iff_true rfl, force_eq] at he
    obtain ⟨rs, ff, FF, rfl, ht⟩ := runD_trace _ _ _ _ _ _ he hr
    obtain ⟨h1, h2, h3, h4⟩ := trace_split ht
    have C : Ctx X CE nt ops n items A.next f ⟨A.h, Nat.add A.next n, A.frag⟩ rs := ⟨hok, h1, h4⟩
    obtain ⟨hh1, hh2⟩ := h.heap (w' := { w with drawn := w.drawn + 1 }) rfl
    obtain ⟨hr1, hr2⟩ := hh1.raise (n := Nat.add A.next n) (Nat.le_add_right _ _) (ble_iff.1 hbl)
    refine wp_region_any hm (any_sound (σ0 := σ) (As := A) (w0 := { w with drawn := w.drawn + 1 }) hCE C rfl rfl (fun σ' A' a' w' L I hall => ?_) ops.size (by simp) (by simp) ?_ (σ := σ) (A := ⟨A.h, Nat.add A.next n, A.frag⟩) ?_)
    · obtain ⟨k1, k2, k3, k4⟩ := I.done C hall
      exact ⟨σ', ff, FF, .nrm ff FF, by rw [h3]; exact k1, by rw [h2]; exact k3, k4, by rw [h3]; exact hh2.trans k2⟩
    · intro d _ hl
      simp [Array.getD] at hl
    · have hL : (fun j => (Array.replicate ops.size false).getD j false) = fun _ => false := by
        funext j; simp [Array.getD]
      rw [hL]
      refine ⟨hr1, hr2, Nat.le_refl _, ⟨[], rs, rfl, rfl, fun _ hs => by (cases hs), fun _ _ _ => rfl⟩, hf.size, hd, fun t ht _ => hf.val t ht, fun r _ hl => by (cases hl), fun r i an q x _ _ _ hl => by (cases hl), fun r i an q x r' i' an' q' x' _ _ _ hl => by (cases hl), fun r i an q x _ _ _ _ => ?_⟩
      exact hh1.unset (Nat.le_add_right _ _)
end
end
section
section
variable {X : Par} {σ : Sg} {A : AW} {w : World} {CE : Nat → List AV → AW → CRes}
/-- The abstract code that stands for the program's. -/
inductive CodeOk (P : Program) (nt : Nat) : LCode → Code → Prop
  | bad (c : Code) : CodeOk P nt .bad c
  | skip : CodeOk P nt .skip .skip
  | label (l : Nat) : CodeOk P nt .skip (.label l)
  | region (items : List It) (id : Nat) (ops : Array Oper) (h : ItsOk P nt ops items (List.range ops.size)) : CodeOk P nt (.region items) (.region id ops false)
  | draw (n : Nat) (items : List DI) (id : Nat) (ops : Array Oper) (h : DrawOk P nt ops n items) : CodeOk P nt (.draw n items) (.region id ops true)
  | seq (a b : LCode) (a' b' : Code) (ha : CodeOk P nt a a') (hb : CodeOk P nt b b') : CodeOk P nt (.seq a b) (.seq a' b')
  | cond (x : Arg) (y : Operand) (a b : LCode) (a' b' : Code) (hx : ArgOk x y) (ha : CodeOk P nt a a') (hb : CodeOk P nt b b') : CodeOk P nt (.cond x a b) (.cond y a' b')
  | block (id : Nat) (b : LCode) (b' : Code) (hb : CodeOk P nt b b') : CodeOk P nt (.block id b) (.block id b')
  | loop (b : LCode) (b' : Code) (hb : CodeOk P nt b b') : CodeOk P nt (.loop b) (.loop b')
  | exit (id : Nat) : CodeOk P nt (.exit id) (.exit id)
  | ret : CodeOk P nt .ret .ret
  | scope (b : LCode) (b' : Code) (hb : CodeOk P nt b b') : CodeOk P nt b (.scope b')

theorem runC_sound (hCE : CEok X CE) (hmx : X.P.follows .mixedOrders = true) {nt : Nat} {c : LCode} {code : Code} (hc : CodeOk X.P nt c code) :
    ∀ (fuel : Nat) {σ : Sg} {f : Frame} {A : AW} {a : Act} {w : World} {r : Res}, HR X σ A w → FR σ nt f a → a.defers = [] → runC X.G CE fuel c f A = r → r ≠ .fail → code.wp X.P (CPost X nt σ A w r) a w := by
  induction hc with
  | scope b b' hb ih =>
    intro fuel σ f A a w r h hf hd he hr
    refine wp_scope_straight (wp_mono (ih fuel h hf hd he hr) fun e a1 w1 hp => ?_)
    have hp' := hp
    obtain ⟨_, _, _, hm, _⟩ := hp
    cases hm <;> exact hp'
  | bad c =>
    intro fuel σ f A a w r h hf hd he hr
    cases fuel <;> exact absurd he.symm hr
  | skip =>
    intro fuel σ f A a w r h hf hd he hr
    cases fuel with
    | zero => exact absurd he.symm hr
    | succ n => exact wp_skip ⟨σ, f, A, he ▸ .nrm f A, h, hf, hd, .refl _ _ _⟩
  | label l =>
    intro fuel σ f A a w r h hf hd he hr
    cases fuel with
    | zero => exact absurd he.symm hr
    | succ n => exact wp_label ⟨σ, f, A, he ▸ .nrm f A, h, hf, hd, .refl _ _ _⟩
  | region items id ops hi =>
    intro fuel σ f A a w r h hf hd he hr
    cases fuel with
    | zero => exact absurd he.symm hr
    | succ n => exact wp_region (its_sound hCE hi hr h hf hd he _ fun _ _ _ h => h)
  | draw n items id ops hok =>
    intro fuel σ f A a w r h hf hd he hr
    cases fuel with
    | zero => exact absurd he.symm hr
    | succ m => exact draw_sound hCE hmx hok h hf hd he hr
  | seq x y x' y' hx hy ihx ihy =>
    intro fuel σ f A a w r h hf hd he hr
    cases fuel with
    | zero => exact absurd he.symm hr
    | succ n =>
      have he' : bindN (runC X.G CE (n + 1) x f A) (runC X.G CE (n + 1) y) = r := he
      cases hx1 : runC X.G CE (n + 1) x f A with
      | fail => rw [hx1] at he'; exact absurd he'.symm hr
      | nrm f1 A1 =>
        rw [hx1] at he'
        refine wp_seq (wp_mono (ihx (n + 1) h hf hd hx1 (by simp)) fun e a1 w1 ⟨σ1, f1', A1', hm, h1, h2, h3, h4⟩ => ?_)
        cases hm
        exact wp_mono (ihy (n + 1) h1 h2 h3 he' hr) fun e a2 w2 hp => hp.trans h4
      | ret f1 A1 =>
        rw [hx1] at he'
        refine wp_seq (wp_mono (ihx (n + 1) h hf hd hx1 (by simp)) fun e a1 w1 ⟨σ1, f1', A1', hm, h1, h2, h3, h4⟩ => ?_)
        cases hm
        exact ⟨σ1, f1, A1, he' ▸ .ret f1 A1, h1, h2, h3, h4⟩
      | ex id f1 A1 =>
        rw [hx1] at he'
        refine wp_seq (wp_mono (ihx (n + 1) h hf hd hx1 (by simp)) fun e a1 w1 ⟨σ1, f1', A1', hm, h1, h2, h3, h4⟩ => ?_)
        cases hm
        exact ⟨σ1, f1, A1, he' ▸ .ex id f1 A1, h1, h2, h3, h4⟩
  | cond x y p q p' q' hxy hp hq ihp ihq =>
    intro fuel σ f A a w r h hf hd he hr
    cases fuel with
    | zero => exact absurd he.symm hr
    | succ n =>
      have he' : AM.asB .fail (x.ev f) (fun t => Bool.rec (motive := fun _ => Res) (runC X.G CE (n + 1) q f A) (runC X.G CE (n + 1) p f A) t) = r := he
      have hv : VR σ (x.ev f) (a.eval y) := hxy.rel fun n _ hn => hf.val n hn
      generalize hg : x.ev f = v at he' hv
      generalize hval : a.eval y = u at hv
      cases hv with
      | b t =>
        cases t
        · exact wp_cond (t := false) hval (ihq (n + 1) h hf hd he' hr)
        · exact wp_cond (t := true) hval (ihp (n + 1) h hf hd he' hr)
      | _ => exact absurd he'.symm hr
  | block id b b' hb ih =>
    intro fuel σ f A a w r h hf hd he hr
    cases fuel with
    | zero => exact absurd he.symm hr
    | succ n =>
      have he' : bindE id (runC X.G CE (n + 1) b f A) = r := he
      refine wp_block ?_
      cases hx1 : runC X.G CE (n + 1) b f A with
      | fail => rw [hx1] at he'; exact absurd he'.symm hr
      | nrm f1 A1 =>
        rw [hx1] at he'
        refine wp_mono (ih (n + 1) h hf hd hx1 (by simp)) fun e a1 w1 ⟨σ1, f1', A1', hm, h1, h2, h3, h4⟩ => ?_
        cases hm
        exact ⟨σ1, f1, A1, he' ▸ .nrm f1 A1, h1, h2, h3, h4⟩
      | ret f1 A1 =>
        rw [hx1] at he'
        refine wp_mono (ih (n + 1) h hf hd hx1 (by simp)) fun e a1 w1 ⟨σ1, f1', A1', hm, h1, h2, h3, h4⟩ => ?_
        cases hm
        exact ⟨σ1, f1, A1, he' ▸ .ret f1 A1, h1, h2, h3, h4⟩
      | ex id' f1 A1 =>
        rw [hx1] at he'
        refine wp_mono (ih (n + 1) h hf hd hx1 (by simp)) fun e a1 w1 ⟨σ1, f1', A1', hm, h1, h2, h3, h4⟩ => ?_
        cases hm
        have he2 : Bool.rec (motive := fun _ => Res) (.ex id' f1 A1) (.nrm f1 A1) (Nat.beq id' id) = r := he'
        simp only [Exit.inBlock]
        by_cases hid : id' = id
        · rw [if_pos hid]
          rw [beq_iff.2 hid] at he2
          exact ⟨σ1, f1, A1, he2 ▸ .nrm f1 A1, h1, h2, h3, h4⟩
        · rw [if_neg hid]
          have hb : Nat.beq id' id = false := by cases hb : Nat.beq id' id with
            | false => rfl
            | true => exact absurd (beq_iff.1 hb) hid
          rw [hb] at he2
          exact ⟨σ1, f1, A1, he2 ▸ .ex id' f1 A1, h1, h2, h3, h4⟩
  | loop b b' hb ih =>
    intro fuel σ f A a w r h hf hd he hr
    refine wp_loop_rounds fuel ?_
    -- round by round
    have key : ∀ (fuel : Nat) {σ1 : Sg} {f1 : Frame} {A1 : AW} {a1 : Act} {w1 : World}, HR X σ1 A1 w1 → FR σ1 nt f1 a1 → a1.defers = [] → runC X.G CE fuel (.loop b) f1 A1 = r → Ext σ A w σ1 A1 w1 →
        Code.rounds X.P b' (CPost X nt σ A w r) fuel a1 w1 := by
      intro fuel
      induction fuel with
      | zero => intro σ1 f1 A1 a1 w1 _ _ _ he1 _; exact absurd he1.symm hr
      | succ n ihn =>
        intro σ1 f1 A1 a1 w1 h1 hf1 hd1 he1 hx1
        have he' : bindN (runC X.G CE (n + 1) b f1 A1) (fun f' A' => runC X.G CE n (.loop b) f' A') = r := he1
        rw [rounds_succ]
        cases hxb : runC X.G CE (n + 1) b f1 A1 with
        | fail => rw [hxb] at he'; exact absurd he'.symm hr
        | nrm f2 A2 =>
          rw [hxb] at he'
          refine wp_mono (ih (n + 1) h1 hf1 hd1 hxb (by simp)) fun e a2 w2 ⟨σ2, f2', A2', hm, k1, k2, k3, k4⟩ => ?_
          cases hm
          exact ihn k1 k2 k3 he' (hx1.trans k4)
        | ret f2 A2 =>
          rw [hxb] at he'
          refine wp_mono (ih (n + 1) h1 hf1 hd1 hxb (by simp)) fun e a2 w2 ⟨σ2, f2', A2', hm, k1, k2, k3, k4⟩ => ?_
          cases hm
          exact ⟨σ2, f2, A2, he' ▸ .ret f2 A2, k1, k2, k3, hx1.trans k4⟩
        | ex id f2 A2 =>
          rw [hxb] at he'
          refine wp_mono (ih (n + 1) h1 hf1 hd1 hxb (by simp)) fun e a2 w2 ⟨σ2, f2', A2', hm, k1, k2, k3, k4⟩ => ?_
          cases hm
          exact ⟨σ2, f2, A2, he' ▸ .ex id f2 A2, k1, k2, k3, hx1.trans k4⟩
    exact key fuel h hf hd he (.refl _ _ _)
  | exit id =>
    intro fuel σ f A a w r h hf hd he hr
    cases fuel with
    | zero => exact absurd he.symm hr
    | succ n => exact wp_exit ⟨σ, f, A, he ▸ .ex id f A, h, hf, hd, .refl _ _ _⟩
  | ret =>
    intro fuel σ f A a w r h hf hd he hr
    cases fuel with
    | zero => exact absurd he.symm hr
    | succ n => exact wp_ret ⟨σ, f, A, he ▸ .ret f A, h, hf, hd, .refl _ _ _⟩
end
end
section
/-! ## Calls -/
inductive RvOk (P : Program) (nt : Nat) : RV → ResultVar → Prop
  | tmp (s : Sel) : RvOk P nt (.tmp s) (.tmp s.n)
  | c1 (s : Sel) (t : TypeId) (ht : TyOne P t) : RvOk P nt (.c1 s) (.cell s.n t)
  | cn (s : Sel) (n : Nat) (t : TypeId) (ht : TyAgg P t) (hn : TySize P t n) (h0 : 0 < n) : RvOk P nt (.cn s n) (.cell s.n t)
inductive RvsOk (P : Program) (nt : Nat) : List RV → List ResultVar → Prop
  | nil : RvsOk P nt [] []
  | cons (x : RV) (y : ResultVar) (xs : List RV) (ys : List ResultVar) (h : RvOk P nt x y) (hs : RvsOk P nt xs ys) : RvsOk P nt (x :: xs) (y :: ys)
def ParamsOk (l : List Sel) : Prop := ∀ (i : Nat) s, l[i]? = some s → s.n = i
structure FunOk (P : Program) (L : LFun) (fn : Func) : Prop where
  body : ∃ code, fn.body = some code ∧ CodeOk P fn.ntmps L.body code
  nt : L.params.length ≤ fn.ntmps
  params : ParamsOk L.params
  results : RvsOk P fn.ntmps L.results fn.results.toList
  name : fn.name ≠ "runtime.NumGoroutine"
def FunsOk (P : Program) (F : Nat → Option LFun) : Prop := ∀ fid L, F fid = some L → ∃ fn, P.funcs[fid]? = some fn ∧ FunOk P L fn

theorem nthC (cs : List AV) : ∀ (n : Nat) , (∀ K : AV → CRes, AM.nthL .fail cs n K = .fail) ∨ ∃ v, cs[n]? = some v ∧ ∀ K : AV → CRes, AM.nthL .fail cs n K = K v := by
  induction cs with
  | nil => intro n; exact .inl fun _ => rfl
  | cons a cs ih =>
    intro n
    cases n with
    | zero => exact .inr ⟨a, rfl, fun _ => rfl⟩
    | succ n => exact (ih n).imp id fun ⟨v, h1, h2⟩ => ⟨v, by simpa using h1, h2⟩
theorem takeC : ∀ (n : Nat) (cs : List AV), (∀ K : List AV → CRes, AM.takeL .fail n cs K = .fail) ∨ (n ≤ cs.length ∧ ∀ K : List AV → CRes, AM.takeL .fail n cs K = K (cs.take n))
  | 0, cs => .inr ⟨Nat.zero_le _, fun _ => rfl⟩
  | n + 1, [] => .inl fun _ => rfl
  | n + 1, a :: cs => (takeC n cs).imp (fun h K => h fun r => K (a :: r)) fun ⟨h1, h2⟩ => ⟨by simpa using h1, fun K => h2 fun r => K (a :: r)⟩
theorem dropC : ∀ (n : Nat) (cs : List AV), (∀ K : List AV → CRes, AM.dropL .fail n cs K = .fail) ∨ (n ≤ cs.length ∧ ∀ K : List AV → CRes, AM.dropL .fail n cs K = K (cs.drop n))
  | 0, cs => .inr ⟨Nat.zero_le _, fun _ => rfl⟩
  | n + 1, [] => .inl fun _ => rfl
  | n + 1, a :: cs => (dropC n cs).imp (fun h K => h K) fun ⟨h1, h2⟩ => ⟨by simpa using h1, fun K => h2 K⟩

section
variable {X : Par} {σ : Sg} {A : AW} {w : World}

def rvSem (tmps : Array Value) : ResultVar → Sem Value
  | .tmp t => pure (tmps.getD t undef)
  | .cell a t => do loadVar t (← Go.asAddr (tmps.getD a undef))
theorem resV_sound {nt : Nat} {f : Frame} {a : Act} (h : HR X σ A w) (hf : FR σ nt f a) {x : RV} {y : ResultVar} (hx : RvOk X.P nt x y) :
    (∀ K, resV f A x K = .fail) ∨ ∃ v v', (∀ K, resV f A x K = K v) ∧ VR σ v v' ∧ (rvSem a.tmps y).run X.P w = .ok v' w := by
  cases hx with
  | tmp s =>
    refine .inr ⟨s.get f, _, fun _ => rfl, ?_, rfl⟩
    rw [s.getE]; exact hf.val s.n s.lt
  | c1 s t ht =>
    have hv := hf.val s.n s.lt
    rw [← s.getE] at hv
    have hrw : ∀ K, resV f A (.c1 s) K = AM.asP .fail (s.get f) fun id off => cellsC A id fun cs => AM.nthL .fail cs off K := fun _ => rfl
    simp only [hrw]
    generalize s.get f = v at hv
    generalize hval : a.eval (.tmp s.n) = u at hv
    have hval' : a.tmps.getD s.n undef = u := hval
    cases hv with
    | p id off l hs =>
      cases hg : getH id A.h with
      | none => exact .inl fun K => by show cellsC A id _ = _; unfold cellsC; rw [hg]
      | some o =>
        cases o with
        | cells cs e fz =>
          obtain ⟨c, fr, _, hb, _, hc, _, _⟩ := h.cells hg hs
          have hcc : ∀ K, cellsC A id K = K cs := fun K => by unfold cellsC; rw [hg]
          rcases nthC cs off with h1 | ⟨v, h1, h2⟩
          · exact .inl fun K => by show cellsC A id _ = _; rw [hcc, h1]
          · obtain ⟨_, v', k1, k2⟩ := hc off v h1
            refine .inr ⟨v, v', fun K => by show cellsC A id _ = _; rw [hcc, h2], k2, ?_⟩
            simp only [rvSem, hval', Go.asAddr, Sem.run_bind, Sem.run_pure, Result.andThen_ok, loadVar, ht.run, Bool.false_eq_true, if_false]
            exact run_load_of hb k1
        | map => exact .inl fun K => by show cellsC A id _ = _; unfold cellsC; rw [hg]
        | miter => exact .inl fun K => by show cellsC A id _ = _; unfold cellsC; rw [hg]
        | siter => exact .inl fun K => by show cellsC A id _ = _; unfold cellsC; rw [hg]
    | _ => exact .inl fun _ => rfl
  | cn s n t ht hn h0 =>
    have hv := hf.val s.n s.lt
    rw [← s.getE] at hv
    have hrw : ∀ K, resV f A (.cn s n) K = AM.asP .fail (s.get f) fun id off => cellsC A id fun cs => AM.dropL .fail off cs fun r => AM.takeL .fail n r fun t => K (.agg t) := fun _ => rfl
    simp only [hrw]
    generalize s.get f = v at hv
    generalize hval : a.eval (.tmp s.n) = u at hv
    have hval' : a.tmps.getD s.n undef = u := hval
    cases hv with
    | p id off l hs =>
      cases hg : getH id A.h with
      | none => exact .inl fun K => by show cellsC A id _ = _; unfold cellsC; rw [hg]
      | some o =>
        cases o with
        | cells cs e fz =>
          obtain ⟨c, fr, _, hb, _, hc, _, _⟩ := h.cells hg hs
          have hcc : ∀ K, cellsC A id K = K cs := fun K => by unfold cellsC; rw [hg]
          rcases dropC off cs with h1 | ⟨h1, h2⟩
          · exact .inl fun K => by show cellsC A id _ = _; rw [hcc, h1]
          · rcases takeC n (cs.drop off) with h3 | ⟨h3, h4⟩
            · exact .inl fun K => by show cellsC A id _ = _; rw [hcc, h2, h3]
            · have hl : off + n ≤ cs.length := by rw [List.length_drop] at h3; omega
              obtain ⟨k1, k2, _⟩ := cells_rel hc hl
              have hfit := cells_fit hc (by omega)
              refine .inr ⟨.agg ((cs.drop off).take n), .agg (c.extract (l.shift + off) (l.shift + off + n)), fun K => by show cellsC A id _ = _; rw [hcc, h2, h4], .agg _ _ k1 k2, ?_⟩
              simp only [rvSem, hval', Go.asAddr, Sem.run_bind, Sem.run_pure, Result.andThen_ok, loadVar, ht.run, hn.run, if_true]
              rw [run_loadCells hb (by omega)]; rfl
        | map => exact .inl fun K => by show cellsC A id _ = _; unfold cellsC; rw [hg]
        | miter => exact .inl fun K => by show cellsC A id _ = _; unfold cellsC; rw [hg]
        | siter => exact .inl fun K => by show cellsC A id _ = _; unfold cellsC; rw [hg]
    | _ => exact .inl fun _ => rfl
theorem resVs_sound {nt : Nat} {f : Frame} {a : Act} (h : HR X σ A w) (hf : FR σ nt f a) {xs : List RV} {ys : List ResultVar} (hx : RvsOk X.P nt xs ys) :
    (∀ K, resVs f A xs K = .fail) ∨ ∃ vs vs', (∀ K, resVs f A xs K = K vs) ∧ VRs σ vs vs' ∧ (ys.mapM (rvSem a.tmps)).run X.P w = .ok vs' w := by
  induction hx with
  | nil => exact .inr ⟨[], [], fun _ => rfl, .nil, rfl⟩
  | cons x y xs ys hxy hs ih =>
    rcases resV_sound h hf hxy with h1 | ⟨v, v', h1, h2, h3⟩
    · exact .inl fun K => h1 _
    · rcases ih with k1 | ⟨vs, vs', k1, k2, k3⟩
      · exact .inl fun K => (h1 _).trans (k1 _)
      · refine .inr ⟨v :: vs, v' :: vs', fun K => (h1 _).trans (k1 _), .cons _ _ _ _ h2 k2, ?_⟩
        rw [List.mapM_cons]
        simp only [Sem.run_bind, h3, Result.andThen_ok, k3, Sem.run_pure]
theorem results_run {fn : Func} {tmps : Array Value} {vs' : List Value} (h : (fn.results.toList.mapM (rvSem tmps)).run X.P w = .ok vs' w) : (results fn tmps).run X.P w = .ok (if h : vs'.toArray.size = 1 then vs'.toArray[0] else .tuple vs'.toArray) w := by
  have e : results fn tmps = (fn.results.mapM (rvSem tmps) >>= fun vs => pure (if h : vs.size = 1 then vs[0] else .tuple vs)) := by
    unfold results
    congr 1
  rw [e, Array.mapM_eq_mapM_toList]
  simp only [Sem.run_bind, Sem.run_map, h]
  rfl
theorem oneOrTup_rel {vs : List AV} {vs' : List Value} (h : VRs σ vs vs') : VR σ (oneOrTup vs) (if h : vs'.toArray.size = 1 then vs'.toArray[0] else .tuple vs'.toArray) := by
  cases h with
  | nil => exact .tup _ _ .nil
  | cons a v as vs h hs =>
    cases hs with
    | nil => simpa [oneOrTup] using h
    | cons b u bs us h' hs' =>
      have : ¬ (v :: u :: us).toArray.size = 1 := by simp
      rw [dif_neg this]
      exact .tup _ _ (.cons _ _ _ _ h (.cons _ _ _ _ h' hs'))

theorem ng8_const {α : Type} (x : α) (d : Nat) : ng8 (Nat.mod d 8) ⟨x, x, x, x, x, x, x, x⟩ = x := by
  rcases mod8_cases d with h | h | h | h | h | h | h | h <;> rw [h] <;> rfl
theorem getT_e3 (n : Nat) : getT n e3 = undefA := by
  unfold getT
  rw [show n / 64 % 8 = Nat.mod (n / 64) 8 from rfl, show n / 8 % 8 = Nat.mod (n / 8) 8 from rfl, show n % 8 = Nat.mod n 8 from rfl]
  unfold e3
  rw [ng8_const]
  unfold e2
  rw [ng8_const]
  unfold e1
  rw [ng8_const]
theorem initF_sound : ∀ (ps : List Sel) (k : Nat) (vs : List AV) (f : Frame), (∀ (i : Nat) s, ps[i]? = some s → s.n = k + i) →
    (∀ K, initF ps vs f K = .fail) ∨ (ps.length = vs.length ∧ ∃ f', (∀ K, initF ps vs f K = K f') ∧ ∀ n, n < 512 → getT n f' = if k ≤ n ∧ n < k + vs.length then vs.getD (n - k) undefA else getT n f)
  | [], k, [], f, _ => .inr ⟨rfl, f, fun _ => rfl, fun n _ => by rw [if_neg (by simp)]⟩
  | [], k, _ :: _, f, _ => .inl fun _ => rfl
  | _ :: _, k, [], f, _ => .inl fun _ => rfl
  | s :: ps, k, v :: vs, f, h => by
    rcases initF_sound ps (k + 1) vs (s.set v f) (fun i s' hi => by have := h (i + 1) s' (by simpa using hi); omega) with h1 | ⟨h1, f', h2, h3⟩
    · exact .inl fun K => h1 K
    · refine .inr ⟨by simp [h1], f', fun K => h2 K, fun n hn => ?_⟩
      have hs : s.n = k := h 0 s rfl
      rw [h3 n hn]
      simp only [List.length_cons]
      by_cases e1 : k + 1 ≤ n ∧ n < k + 1 + vs.length
      · rw [if_pos e1, if_pos (by omega), show n - k = (n - (k + 1)) + 1 by omega]; rfl
      · rw [if_neg e1]
        by_cases e2 : n = k
        · subst e2
          rw [if_pos (by omega), Nat.sub_self, s.setE, hs, getT_setT_same]; rfl
        · rw [if_neg (by omega), s.setE, getT_setT_ne _ _ _ _ (by omega) s.lt hn]

theorem FR.init {nt : Nat} {args : List AV} {vs : Array Value} {f : Frame} (hr : VRs σ args vs.toList) (hl : args.length ≤ nt) (hf : ∀ n, n < 512 → getT n f = if 0 ≤ n ∧ n < 0 + args.length then args.getD (n - 0) undefA else getT n e3) :
    FR σ nt f { tmps := vs ++ Array.replicate (nt - vs.size) undef, defers := [] } := by
  have hsz : args.length = vs.size := by simpa using hr.length
  refine ⟨by simp; omega, fun n hn => ?_⟩
  rw [hf n hn]
  show VR σ _ ((vs ++ Array.replicate (nt - vs.size) undef).getD n undef)
  rw [Array.getD_eq_getD_getElem?]
  by_cases h1 : n < args.length
  · rw [if_pos (by omega), Nat.sub_zero]
    obtain ⟨v', k1, k2⟩ := hr.get n _ (List.getElem?_eq_getElem h1)
    rw [Array.getElem?_append_left (by omega), ← Array.getElem?_toList, k1]
    simpa [h1] using k2
  · rw [if_neg (by omega), getT_e3]
    have : ((vs ++ Array.replicate (nt - vs.size) undef)[n]?).getD undef = undef := by
      by_cases h2 : n < nt
      · rw [Array.getElem?_append_right (by omega), Array.getElem?_replicate]
        split <;> rfl
      · rw [Array.getElem?_eq_none (by simp; omega)]; rfl
    rw [this]
    exact .tup _ _ .nil

/-- **The evaluator tells what the program's calls do.** -/
theorem evalF_sound {F : Nat → Option LFun} {hk : Nat → List AV → AW → CRes} (hmx : X.P.follows .mixedOrders = true) (hF : FunsOk X.P F) (hhk : CEok X hk) (loops : Nat) : ∀ fuel, CEok X (evalF X.G F hk loops fuel) := by
  intro fuel
  induction fuel with
  | zero => intro fid args A v A' he; cases he
  | succ n ih =>
    intro fid args A v A' he σ w vs h hr
    have he' : optC (hk fid args A) (Option.rec (motive := fun _ => CRes) .fail (fun L => initF L.params args e3 fun f => endC L.results (runC X.G (evalF X.G F hk loops n) loops L.body f A)) (F fid)) = .ok v A' := he
    cases hh : hk fid args A with
    | ok v1 A1 =>
      rw [hh] at he'
      have : CRes.ok v1 A1 = .ok v A' := he'
      cases this
      exact hhk fid args A _ _ hh σ w vs h hr
    | fail =>
      rw [hh] at he'
      cases hFf : F fid with
      | none => rw [hFf] at he'; cases he'
      | some L =>
        rw [hFf] at he'
        have he2 : initF L.params args e3 (fun f => endC L.results (runC X.G (evalF X.G F hk loops n) loops L.body f A)) = .ok v A' := he'
        obtain ⟨fn, hfn, ⟨code, hb, hcode⟩, hnt, hps, hrs, hname⟩ := hF fid L hFf
        rcases initF_sound L.params 0 args e3 (fun i s hi => by rw [hps i s hi]; omega) with h1 | ⟨hl, f, h1, h2⟩
        · rw [h1] at he2; cases he2
        · rw [h1] at he2
          have hcall : (callFunc fid vs).run X.P w = .ok (.enter fid vs) w := by
            simp [callFunc, hfn, hname, hb]
          rw [hcall]
          have hfr : FR σ fn.ntmps f { tmps := vs ++ Array.replicate (fn.ntmps - vs.size) undef, defers := [] } := FR.init hr (by omega) h2
          refine calls_of_wp hfn hb ?_
          cases hrun : runC X.G (evalF X.G F hk loops n) loops L.body f A with
          | fail => rw [hrun] at he2; cases he2
          | ex id f1 A1 => rw [hrun] at he2; cases he2
          | nrm f1 A1 =>
            rw [hrun] at he2
            refine wp_mono (runC_sound ih hmx hcode loops h hfr rfl hrun (by simp)) fun e a1 w1 ⟨σ1, f1', A1', hm, k1, k2, k3, k4⟩ => ?_
            cases hm
            rcases resVs_sound k1 k2 hrs with r1 | ⟨us, us', r1, r2, r3⟩
            · have : resVs f1 A1 L.results (fun vs => CRes.ok (oneOrTup vs) A1) = .ok v A' := he2
              rw [r1] at this; cases this
            · have : resVs f1 A1 L.results (fun vs => CRes.ok (oneOrTup vs) A1) = .ok v A' := he2
              rw [r1] at this; cases this
              exact ⟨k3, _, results_run r3, _, σ1, rfl, oneOrTup_rel r2, k1, k4⟩
          | ret f1 A1 =>
            rw [hrun] at he2
            refine wp_mono (runC_sound ih hmx hcode loops h hfr rfl hrun (by simp)) fun e a1 w1 ⟨σ1, f1', A1', hm, k1, k2, k3, k4⟩ => ?_
            cases hm
            rcases resVs_sound k1 k2 hrs with r1 | ⟨us, us', r1, r2, r3⟩
            · have : resVs f1 A1 L.results (fun vs => CRes.ok (oneOrTup vs) A1) = .ok v A' := he2
              rw [r1] at this; cases this
            · have : resVs f1 A1 L.results (fun vs => CRes.ok (oneOrTup vs) A1) = .ok v A' := he2
              rw [r1] at this; cases this
              exact ⟨k3, _, results_run r3, _, σ1, rfl, oneOrTup_rel r2, k1, k4⟩
end
end
section
/-! ## A checker: does the abstract operation stand for the program's? -/
def beqL (a b : List Nat) : Bool := match a, b with
  | [], [] => true
  | x :: a, y :: b => Nat.beq x y && beqL a b
  | _, _ => false
theorem beqL_sound : ∀ {a b : List Nat}, beqL a b = true → a = b
  | [], [], _ => rfl
  | [], _ :: _, h => nomatch h
  | _ :: _, [], h => nomatch h
  | x :: a, y :: b, h => by
    obtain ⟨h1, h2⟩ := Bool.and_eq_true_iff.1 (show (Nat.beq x y && beqL a b) = true from h)
    rw [beq_iff.1 h1, beqL_sound h2]
def byteL (len val : Nat) : List Nat := match len with
  | 0 => []
  | n + 1 => Nat.land val 255 :: byteL n (Nat.shiftRight val 8)
def unbyte : List UInt8 → List Nat := List.map UInt8.toNat
theorem strOf_of {len val : Nat} {s : ByteArray} (h : beqL (byteL len val) (unbyte s.data.toList) = true) : s = strOf len val := by
  have key : ∀ (len val : Nat) (l : List UInt8), byteL len val = unbyte l → l = bytesN len val := by
    intro len
    induction len with
    | zero => intro val l h; cases l with
      | nil => rfl
      | cons a l => cases h
    | succ n ih => intro val l h; cases l with
      | nil => cases h
      | cons a l =>
        injection h with h1 h2
        have e1 : Nat.land val 255 = val % 256 := Nat.and_two_pow_sub_one_eq_mod val 8
        have e2 : Nat.shiftRight val 8 = val / 256 := Nat.shiftRight_eq_div_pow val 8
        rw [bytesN, ← ih _ _ (by rw [← e2]; exact h2), ← e1, h1]
        simp
  have := key len val s.data.toList (beqL_sound h)
  unfold strOf
  rw [← this]
def noNone : Sg := fun _ => none

def vlit (a : AV) (v : Value) : Bool := match a with
  | .b x => match v with | .bool y => !(x ^^ y) | _ => false
  | .i k n => match v with
    | .int k' (.ofNat m) => sameK k k' && Nat.beq n m && lt n (halfK k)
    | .int k' (.negSucc m) => sameK k k' && lt n (modK k) && Nat.ble (halfK k) n && Nat.beq (Nat.add n (Nat.succ m)) (modK k)
    | _ => false
  | .s len val => match v with | .string s => beqL (byteL len val) (unbyte s.data.toList) && lt val (Nat.pow 256 len) | _ => false
  | .p0 => match v with | .pointer none => true | _ => false
  | .sl0 => match v with | .slice none 0 0 => true | _ => false
  | .m0 => match v with | .map none => true | _ => false
  | .f0 => match v with | .nilFunc => true | _ => false
  | .if0 => match v with | .nilIface => true | _ => false
  | _ => false
theorem vlit_sound {a : AV} {v : Value} (h : vlit a v = true) : VR (fun _ => none) a v ∧ flatA a = true := by
  cases a with
  | b x => cases v with
    | bool y =>
      have : x = y := by cases x <;> cases y <;> first | rfl | cases h
      subst this; exact ⟨.b _, rfl⟩
    | _ => cases h
  | i k n => cases v with
    | int k' z => cases z with
      | ofNat m =>
        simp only [vlit, Bool.and_eq_true] at h
        obtain ⟨⟨h1, h2⟩, h3⟩ := h
        have := sameK_iff.1 h1; subst this
        have := beq_iff.1 h2; subst this
        have h4 := lt_iff.1 h3
        have h5 : n < modK k := Nat.lt_of_lt_of_le h4 (by cases k <;> decide)
        have := VR.i (σ := fun _ => none) k n h5
        rw [wrap_nat h4] at this
        exact ⟨this, rfl⟩
      | negSucc m =>
        simp only [vlit, Bool.and_eq_true] at h
        obtain ⟨⟨⟨h1, h2⟩, h3⟩, h4⟩ := h
        have := sameK_iff.1 h1; subst this
        have h5 := lt_iff.1 h2
        have h6 := ble_iff.1 h3
        have h7 := beq_iff.1 h4
        have := VR.i (σ := fun _ => none) k n h5
        rw [wrap_neg h5 (by omega)] at this
        have e : ((n : Int) - modK k) = Int.negSucc m := by
          have : n + (m + 1) = modK k := h7
          rw [← this]; omega
        rw [e] at this
        exact ⟨this, rfl⟩
    | _ => cases h
  | s len val => cases v with
    | string s =>
      simp only [vlit, Bool.and_eq_true] at h
      have h2 := lt_iff.1 h.2
      rw [strOf_of h.1]
      exact ⟨.s _ _ h2, rfl⟩
    | _ => cases h
  | p0 => cases v with
    | pointer p => cases p with
      | none => exact ⟨.p0, rfl⟩
      | some _ => cases h
    | _ => cases h
  | sl0 => cases v with
    | slice p l c =>
      cases p with
      | none => cases l with
        | zero => cases c with
          | zero => exact ⟨.sl0, rfl⟩
          | succ _ => cases h
        | succ _ => cases h
      | some _ => cases h
    | _ => cases h
  | m0 => cases v with
    | map p => cases p with
      | none => exact ⟨.m0, rfl⟩
      | some _ => cases h
    | _ => cases h
  | f0 => cases v with
    | nilFunc => exact ⟨.f0, rfl⟩
    | _ => cases h
  | if0 => cases v with
    | nilIface => exact ⟨.if0, rfl⟩
    | _ => cases h
  | _ => cases h
def vlits (a : List AV) (v : List Value) : Bool := match a, v with
  | [], [] => true
  | x :: a, y :: v => vlit x y && vlits a v
  | _, _ => false
theorem vlits_sound : ∀ {a : List AV} {v : List Value}, vlits a v = true → VRs (fun _ => none) a v ∧ ∀ x, x ∈ a → flatA x = true
  | [], [], _ => ⟨.nil, fun _ h => nomatch h⟩
  | [], _ :: _, h => nomatch h
  | _ :: _, [], h => nomatch h
  | x :: a, y :: v, h => by
    obtain ⟨h1, h2⟩ := Bool.and_eq_true_iff.1 (show (vlit x y && vlits a v) = true from h)
    obtain ⟨g1, g2⟩ := vlit_sound h1
    obtain ⟨g3, g4⟩ := vlits_sound h2
    exact ⟨.cons _ _ _ _ g1 g3, fun z hz => by rcases List.mem_cons.1 hz with rfl | hz; exact g2; exact g4 z hz⟩
def vlitA (a : AV) (v : Value) : Bool := match a with
  | .agg cs => match v with | .agg vs => vlits cs vs.toList | _ => false
  | _ => vlit a v
theorem vlitA_sound {a : AV} {v : Value} (h : vlitA a v = true) : VR (fun _ => none) a v := by
  have flat : (∀ cs, a ≠ .agg cs) → vlitA a v = vlit a v := fun hn => by cases a <;> first | rfl | exact absurd rfl (hn _)
  by_cases hc : ∃ cs, a = .agg cs
  · obtain ⟨cs, rfl⟩ := hc
    cases v with
    | agg vs => exact .agg _ _ (vlits_sound h).1 (vlits_sound h).2
    | _ => cases h
  · rw [flat fun cs he => hc ⟨cs, he⟩] at h
    exact (vlit_sound h).1

def chkArg (x : Arg) (y : Operand) : Bool := match x with
  | .t s => match y with | .tmp n => Nat.beq s.n n | _ => false
  | .c v => match y with
    | .const c => vlitA v c
    | .global g => match v with | .g g' 0 => Nat.beq g g' | _ => false
    | .func f => match v with | .f f' [] [] => Nat.beq f f' | _ => false
    | _ => false
theorem chkArg_sound {x : Arg} {y : Operand} (h : chkArg x y = true) : ArgOk x y := by
  cases x with
  | t s => cases y with
    | tmp n => have := beq_iff.1 (show Nat.beq s.n n = true from h); subst this; exact .t s
    | _ => cases h
  | c v => cases y with
    | tmp n => cases h
    | const c => exact .c v c (vlitA_sound h)
    | global g =>
      cases v with
      | g g' o => cases o with
        | zero => have := beq_iff.1 (show Nat.beq g g' = true from h); subst this; exact .g g
        | succ _ => cases h
      | _ => cases h
    | func f =>
      cases v with
      | f f' a b => cases a with
        | nil => cases b with
          | nil => have := beq_iff.1 (show Nat.beq f f' = true from h); subst this; exact .f f
          | cons _ _ => cases h
        | cons _ _ => cases h
      | _ => cases h
def chkOpt (x : Option Arg) (y : Option Operand) : Bool := match x, y with
  | none, none => true
  | some x, some y => chkArg x y
  | _, _ => false
theorem chkOpt_sound {x : Option Arg} {y : Option Operand} (h : chkOpt x y = true) : OptOk x y := by
  cases x <;> cases y <;> first | exact .none | exact .some _ _ (chkArg_sound h) | cases h
def chkArgs (x : List Arg) (y : List Operand) : Bool := match x, y with
  | [], [] => true
  | a :: x, b :: y => chkArg a b && chkArgs x y
  | _, _ => false
theorem chkArgs_sound : ∀ {x : List Arg} {y : List Operand}, chkArgs x y = true → ArgsOk x y
  | [], [], _ => .nil
  | [], _ :: _, h => nomatch h
  | _ :: _, [], h => nomatch h
  | a :: x, b :: y, h => by
    obtain ⟨h1, h2⟩ := Bool.and_eq_true_iff.1 (show (chkArg a b && chkArgs x y) = true from h)
    exact .cons _ _ _ _ (chkArg_sound h1) (chkArgs_sound h2)

/-! ## Types -/
/-- The types that the table tells are the program's. -/
def TOk (P : Program) (T : Nat → Option TypeInfo) : Prop := ∀ t i, T t = some i → P.info? t = some i
def undT (T : Nat → Option TypeInfo) (t : Nat) : Option TypeDesc := match T t with
  | some i => match i.desc with
    | .named _ u => match T u with | some j => some j.desc | none => none
    | d => some d
  | none => none
section
variable {P : Program} {T : Nat → Option TypeInfo}
theorem undT_sound (hT : TOk P T) {t : Nat} {d : TypeDesc} (h : undT T t = some d) : P.underlying t = some d := by
  unfold undT at h
  cases ht : T t with
  | none => rw [ht] at h; cases h
  | some i =>
    rw [ht] at h
    have hi := hT t i ht
    obtain ⟨desc, str, size, bytes, hp, al, fal, zero, cmp, ms⟩ := i
    unfold Program.underlying
    rw [hi]
    cases desc with
    | named n u =>
      simp only at h ⊢
      cases hu : T u with
      | none => rw [hu] at h; cases h
      | some j => rw [hu] at h; rw [hT u j hu]; exact h
    | _ => exact h
def sizeT (T : Nat → Option TypeInfo) (t n : Nat) : Bool := match T t with | some i => Nat.beq i.size n | none => false
theorem sizeT_sound (hT : TOk P T) {t n : Nat} (h : sizeT T t n = true) : TySize P t n := by
  unfold sizeT at h
  cases ht : T t with
  | none => rw [ht] at h; cases h
  | some i => rw [ht] at h; exact ⟨i, hT t i ht, beq_iff.1 h⟩
def zeroT (T : Nat → Option TypeInfo) (t : Nat) (cs : List AV) : Bool := match T t with
  | some i => match i.zero with | some z => vlits cs z.cells.toList | none => false
  | none => false
theorem zeroT_sound (hT : TOk P T) {t : Nat} {cs : List AV} (h : zeroT T t cs = true) : TyZero P t cs := by
  unfold zeroT at h
  cases ht : T t with
  | none => rw [ht] at h; cases h
  | some i =>
    rw [ht] at h
    cases hz : i.zero with
    | none => simp only [hz] at h; cases h
    | some z => simp only [hz] at h; exact ⟨i, z, hT t i ht, hz, (vlits_sound h).1, (vlits_sound h).2⟩
def zeroVT (T : Nat → Option TypeInfo) (t : Nat) (a : AV) : Bool := match T t with
  | some i => match i.zero with | some z => vlitA a z | none => false
  | none => false
theorem zeroVT_sound (hT : TOk P T) {t : Nat} {a : AV} (h : zeroVT T t a = true) : ZeroV P t a := by
  unfold zeroVT at h
  cases ht : T t with
  | none => rw [ht] at h; cases h
  | some i =>
    rw [ht] at h
    cases hz : i.zero with
    | none => simp only [hz] at h; cases h
    | some z => simp only [hz] at h; exact ⟨i, z, hT t i ht, hz, vlitA_sound h⟩
def aggT (T : Nat → Option TypeInfo) (t : Nat) : Bool := match undT T t with
  | some (.struct _) | some (.array _ _) => true
  | _ => false
theorem aggT_sound (hT : TOk P T) {t : Nat} (h : aggT T t = true) : TyAgg P t := by
  unfold aggT at h
  split at h
  · rename_i fs hd; exact .inl ⟨fs, undT_sound hT hd⟩
  · rename_i m e hd; exact .inr ⟨m, e, undT_sound hT hd⟩
  · cases h
def oneT (T : Nat → Option TypeInfo) (t : Nat) : Bool := match undT T t with
  | some (.struct _) | some (.array _ _) => false
  | some _ => true
  | none => false
theorem oneT_sound (hT : TOk P T) {t : Nat} (h : oneT T t = true) : TyOne P t := by
  unfold oneT at h
  split at h
  · cases h
  · cases h
  · rename_i d h1 h2 hd
    exact ⟨d, undT_sound hT hd, fun fs he => h1 fs (by rw [he]), fun m e he => h2 m e (by rw [he])⟩
  · cases h
def smallT (T : Nat → Option TypeInfo) (t : Nat) : Bool := match T t with | some i => Nat.ble i.bytes 1048576 | none => false
theorem smallT_sound (hT : TOk P T) {t : Nat} (h : smallT T t = true) : TySmall P t := by
  unfold smallT at h
  cases ht : T t with
  | none => rw [ht] at h; cases h
  | some i => rw [ht] at h; exact ⟨i, hT t i ht, ble_iff.1 h⟩

/-! What a type's description is, in the form: what is asked of its parts. -/
def isStr (T : Nat → Option TypeInfo) (t : Nat) : Bool := match undT T t with | some .string => true | _ => false
theorem isStr_sound (hT : TOk P T) {t : Nat} (h : isStr T t = true) : P.underlying t = some .string := by
  unfold isStr at h; split at h
  · rename_i hd; exact undT_sound hT hd
  · cases h
def isUns (T : Nat → Option TypeInfo) (t : Nat) : Bool := match undT T t with | some .unsafePointer => true | _ => false
theorem isUns_sound (hT : TOk P T) {t : Nat} (h : isUns T t = true) : P.underlying t = some .unsafePointer := by
  unfold isUns at h; split at h
  · rename_i hd; exact undT_sound hT hd
  · cases h
def isBool (T : Nat → Option TypeInfo) (t : Nat) : Bool := match undT T t with | some .bool => true | _ => false
theorem isBool_sound (hT : TOk P T) {t : Nat} (h : isBool T t = true) : P.underlying t = some .bool := by
  unfold isBool at h; split at h
  · rename_i hd; exact undT_sound hT hd
  · cases h
def isInt (T : Nat → Option TypeInfo) (t : Nat) (k : IntKind) : Bool := match undT T t with | some (.int k') => sameK k k' | _ => false
theorem isInt_sound (hT : TOk P T) {t : Nat} {k : IntKind} (h : isInt T t k = true) : P.underlying t = some (.int k) := by
  unfold isInt at h; split at h
  · rename_i k' hd; rw [sameK_iff.1 h]; exact undT_sound hT hd
  · cases h
def withPtr (T : Nat → Option TypeInfo) (t : Nat) (K : Nat → Bool) : Bool := match undT T t with | some (.pointer e) => K e | _ => false
theorem withPtr_sound (hT : TOk P T) {t : Nat} {K : Nat → Bool} (h : withPtr T t K = true) : ∃ e, P.underlying t = some (.pointer e) ∧ K e = true := by
  unfold withPtr at h; split at h
  · rename_i e hd; exact ⟨e, undT_sound hT hd, h⟩
  · cases h
def withSlice (T : Nat → Option TypeInfo) (t : Nat) (K : Nat → Bool) : Bool := match undT T t with | some (.slice e) => K e | _ => false
theorem withSlice_sound (hT : TOk P T) {t : Nat} {K : Nat → Bool} (h : withSlice T t K = true) : ∃ e, P.underlying t = some (.slice e) ∧ K e = true := by
  unfold withSlice at h; split at h
  · rename_i e hd; exact ⟨e, undT_sound hT hd, h⟩
  · cases h
def withArr (T : Nat → Option TypeInfo) (t : Nat) (K : Nat → Nat → Bool) : Bool := match undT T t with | some (.array n e) => K n e | _ => false
theorem withArr_sound (hT : TOk P T) {t : Nat} {K : Nat → Nat → Bool} (h : withArr T t K = true) : ∃ n e, P.underlying t = some (.array n e) ∧ K n e = true := by
  unfold withArr at h; split at h
  · rename_i n e hd; exact ⟨n, e, undT_sound hT hd, h⟩
  · cases h
def withMap (T : Nat → Option TypeInfo) (t : Nat) (K : Nat → Nat → Bool) : Bool := match undT T t with | some (.map k e) => K k e | _ => false
theorem withMap_sound (hT : TOk P T) {t : Nat} {K : Nat → Nat → Bool} (h : withMap T t K = true) : ∃ k e, P.underlying t = some (.map k e) ∧ K k e = true := by
  unfold withMap at h; split at h
  · rename_i k e hd; exact ⟨k, e, undT_sound hT hd, h⟩
  · cases h
def withStruct (T : Nat → Option TypeInfo) (t : Nat) (K : List Field → Bool) : Bool := match undT T t with | some (.struct fs) => K fs.toList | _ => false
theorem withStruct_sound (hT : TOk P T) {t : Nat} {K : List Field → Bool} (h : withStruct T t K = true) : ∃ fs, P.underlying t = some (.struct fs) ∧ K fs.toList = true := by
  unfold withStruct at h; split at h
  · rename_i fs hd; exact ⟨fs, undT_sound hT hd, h⟩
  · cases h
def nthF {α : Type} (l : List α) (n : Nat) (K : α → Bool) : Bool := match l with
  | [] => false
  | x :: l => match n with | 0 => K x | n + 1 => nthF l n K
theorem nthF_sound {α : Type} : ∀ {l : List α} {n : Nat} {K : α → Bool}, nthF l n K = true → ∃ x, l[n]? = some x ∧ K x = true
  | [], _, _, h => nomatch h
  | x :: _, 0, _, h => ⟨x, rfl, h⟩
  | _ :: l, n + 1, K, h => by simpa using nthF_sound (l := l) (n := n) (K := K) h
def keyT (T : Nat → Option TypeInfo) (kt : Nat) (str : Bool) : Bool := match undT T kt with
  | some .string => str
  | some (.int _) => !str
  | _ => false
theorem keyT_sound (hT : TOk P T) {kt : Nat} {str : Bool} (h : keyT T kt str = true) : KeyTy P kt str := by
  unfold keyT at h
  unfold KeyTy
  split at h
  · rename_i hd; subst h; exact undT_sound hT hd
  · rename_i k hd; cases str with
    | true => cases h
    | false => exact ⟨k, undT_sound hT hd⟩
  · cases h
def chkParts (ok : Nat → Nat → Nat → Bool) (x : List (Nat × Nat × Arg)) (y : List (Nat × Operand)) : Bool := match x, y with
  | [], [] => true
  | (off, size, a) :: x, (j, b) :: y => ok off size j && chkArg a b && chkParts ok x y
  | _, _ => false
theorem chkParts_sound {ok : Nat → Nat → Nat → Bool} {Ok : Nat → Nat → Nat → Prop} (hok : ∀ a b c, ok a b c = true → Ok a b c) : ∀ {x : List (Nat × Nat × Arg)} {y : List (Nat × Operand)}, chkParts ok x y = true → PartsOk Ok x y
  | [], [], _ => .nil
  | [], _ :: _, h => nomatch h
  | _ :: _, [], h => nomatch h
  | (off, size, a) :: x, (j, b) :: y, h => by
    obtain ⟨h12, h3⟩ := Bool.and_eq_true_iff.1 (show ((ok off size j && chkArg a b) && chkParts ok x y) = true from h)
    obtain ⟨h1, h2⟩ := Bool.and_eq_true_iff.1 h12
    exact .cons _ _ _ _ _ _ _ (hok _ _ _ h1) (chkArg_sound h2) (chkParts_sound hok h3)
def beqAV (a b : AV) : Bool := eqFlat false a b
def beqAVs (a b : List AV) : Bool := eqFlats a b
end
end
section
/-! ## The checker: operations -/
def beqB (a b : Builtin) : Bool := decide (a = b)
def oneCall (c : Call) (b : Builtin) (K : Operand → Nat → Bool) : Bool := match c with
  | ⟨.builtin b', args, ts⟩ => beqB b' b && (match args.toList with
    | [y] => (match ts.toList with | t :: _ => K y t | [] => false)
    | _ => false)
  | _ => false
theorem oneCall_sound {c : Call} {b : Builtin} {K : Operand → Nat → Bool} (h : oneCall c b K = true) : ∃ y ts t, c = ⟨.builtin b, #[y], ts⟩ ∧ ts[0]? = some t ∧ K y t = true := by
  obtain ⟨callee, args, ts⟩ := c
  obtain ⟨args⟩ := args
  obtain ⟨ts⟩ := ts
  cases callee with
  | builtin b' =>
    simp only [oneCall, Bool.and_eq_true] at h
    obtain ⟨h1, h2⟩ := h
    have := of_decide_eq_true h1; subst this
    cases args with
    | nil => cases h2
    | cons y r => cases r with
      | nil => cases ts with
        | nil => cases h2
        | cons t r => exact ⟨y, _, t, rfl, rfl, h2⟩
      | cons _ _ => cases h2
  | value _ => cases h
  | invoke _ _ => cases h
def twoCall (c : Call) (b : Builtin) (K : Operand → Operand → List Nat → Bool) : Bool := match c with
  | ⟨.builtin b', args, ts⟩ => beqB b' b && (match args.toList with
    | [x, y] => K x y ts.toList
    | _ => false)
  | _ => false
theorem twoCall_sound {c : Call} {b : Builtin} {K : Operand → Operand → List Nat → Bool} (h : twoCall c b K = true) : ∃ x y ts, c = ⟨.builtin b, #[x, y], ts⟩ ∧ K x y ts.toList = true := by
  obtain ⟨callee, args, ts⟩ := c
  obtain ⟨args⟩ := args
  cases callee with
  | builtin b' =>
    simp only [twoCall, Bool.and_eq_true] at h
    obtain ⟨h1, h2⟩ := h
    have := of_decide_eq_true h1; subst this
    cases args with
    | nil => cases h2
    | cons x r => cases r with
      | nil => cases h2
      | cons y r => cases r with
        | nil => exact ⟨x, y, ts, rfl, h2⟩
        | cons _ _ => cases h2
  | value _ => cases h
  | invoke _ _ => cases h
def hdT (ts : List Nat) (K : Nat → Bool) : Bool := match ts with | t :: _ => K t | [] => false
theorem hdT_sound {ts : Array Nat} {K : Nat → Bool} (h : hdT ts.toList K = true) : ∃ t, ts[0]? = some t ∧ K t = true := by
  obtain ⟨ts⟩ := ts
  cases ts with
  | nil => cases h
  | cons t r => exact ⟨t, rfl, h⟩
def hdT2 (ts : List Nat) (K : Nat → Nat → Bool) : Bool := match ts with | t :: u :: _ => K t u | _ => false
theorem hdT2_sound {ts : Array Nat} {K : Nat → Nat → Bool} (h : hdT2 ts.toList K = true) : ∃ t u, ts[0]? = some t ∧ ts[1]? = some u ∧ K t u = true := by
  obtain ⟨ts⟩ := ts
  cases ts with
  | nil => cases h
  | cons t r => cases r with
    | nil => cases h
    | cons u r => exact ⟨t, u, rfl, rfl, h⟩
def isConst : Operand → Bool
  | .const _ => true
  | _ => false
def eqKind (T : Nat → Option TypeInfo) (kind : Nat) (x y : Operand) (t : Nat) : Bool := match kind with
  | 0 => true
  | 1 => withPtr T t fun e => match T e with | some i => !Nat.beq i.size 0 | none => false
  | 2 => withSlice T t fun _ => true
  | 3 => withMap T t fun _ _ => true
  | 4 => (match undT T t with | some (.func _ _ _) => true | _ => false)
  | 5 => (match undT T t with | some (.interface _) => isConst x || isConst y | _ => false)
  | 6 => isBool T t
  | _ => false
def binIs (a b : BinOp) : Bool := decide (a = b)
section
variable {P : Program} {T : Nat → Option TypeInfo}
theorem eqKind_sound (hT : TOk P T) {kind : Nat} {x y : Operand} {t : Nat} (h : eqKind T kind x y t = true) : EqOk P x y kind t := by
  match kind with
  | 0 => exact .v t
  | 1 =>
    obtain ⟨e, h1, h2⟩ := withPtr_sound hT h
    cases he : T e with
    | none => rw [he] at h2; cases h2
    | some i => rw [he] at h2; exact .p t e i h1 (hT e i he) (fun hc => by simp only [hc] at h2; cases h2)
  | 2 => obtain ⟨e, h1, _⟩ := withSlice_sound hT h; exact .s t e h1
  | 3 => obtain ⟨k, e, h1, _⟩ := withMap_sound hT h; exact .m t k e h1
  | 4 =>
    have h' : (match undT T t with | some (.func _ _ _) => true | _ => false) = true := h
    split at h'
    · rename_i ps rs vr hd; exact .f t ps rs vr (undT_sound hT hd)
    · cases h'
  | 5 =>
    have h' : (match undT T t with | some (.interface _) => isConst x || isConst y | _ => false) = true := h
    split at h'
    · rename_i ms hd
      refine .i t ms (undT_sound hT hd) ?_
      rcases Bool.or_eq_true_iff.1 h' with h1 | h1
      · cases x <;> first | exact .inl ⟨_, rfl⟩ | cases h1
      · cases y <;> first | exact .inr ⟨_, rfl⟩ | cases h1
    · cases h'
  | 6 => exact .b t (isBool_sound hT h)
  | _ + 7 => cases h
end

def chkOp (T : Nat → Option TypeInfo) (l : LOp) (o : Op) : Bool := match l with
  | .mv x => (match o with
    | .move y => chkArg x y
    | .assign y => chkArg x y
    | .call c => (match x with | .c (.i k n) => sameK k .i64 && lt n 0x8000000000000000 && oneCall c .len (fun _ t => withArr T t (fun m _ => Nat.beq m n) || withPtr T t fun a => withArr T a fun m _ => Nat.beq m n) | _ => false)
    | _ => false)
  | .pick c a b => (match o with
    | .pick c' a' b' => chkArg c c' && chkArg a a' && chkArg b b'
    | _ => false)
  | .alloc z t => (match o with
    | .alloc t' => Nat.beq t t' && zeroT T t' z
    | _ => false)
  | .box t x => (match o with
    | .box t' y => Nat.beq t t' && chkArg x y
    | _ => false)
  | .build z ps => (match o with
    | .build t ps' => zeroT T t z && (withStruct T t (fun fs => fs.all (fun fd => (T fd.type).isSome) && chkParts (fun off size j => nthF fs j fun fd => Nat.beq fd.offset off && sizeT T fd.type size) ps ps'.toList) || withArr T t fun _ e => match T e with | some i => chkParts (fun off size j => Nat.beq off (Nat.mul j i.size) && Nat.beq size i.size) ps ps'.toList | none => false)
    | _ => false)
  | .bslice el len es zs ps => (match o with
    | .buildSlice t len' ps' => Nat.beq len len' && withSlice T t fun e => Nat.beq el e && (match T e with | some i => Nat.beq i.size es && (match i.zero with | some z => (match len with | 0 => beqAVs zs [] && z.cells.toList.all flatV && Nat.beq z.cells.toList.length es | _ + 1 => vlits (zs.take es) z.cells.toList && Nat.beq (zs.take es).length es && beqAVs zs (List.replicate len (zs.take es)).flatten) | none => beqAVs zs [] && Nat.beq len 0 && false) && Nat.ble (Nat.mul len es) 16777216 && chkParts (fun off size j => Nat.beq off (Nat.mul j es) && Nat.beq size es) ps ps'.toList | none => false)
    | _ => false)
  | .ld1 x => (match o with
    | .load t y => oneT T t && chkArg x y
    | _ => false)
  | .ldn n x => (match o with
    | .load t y => aggT T t && sizeT T t n && lt 0 n && chkArg x y
    | _ => false)
  | .st n a x => (match o with
    | .store t a' x' => sizeT T t n && chkArg a a' && chkArg x x'
    | _ => false)
  | .nilc x => (match o with
    | .nilCheck y => chkArg x y
    | _ => false)
  | .iadd x y => (match o with
    | .binOp op _ x' y' _ => binIs op .add && chkArg x x' && chkArg y y'
    | _ => false)
  | .isub x y => (match o with
    | .binOp op _ x' y' _ => binIs op .sub && chkArg x x' && chkArg y y'
    | _ => false)
  | .imul x y => (match o with
    | .binOp op _ x' y' _ => binIs op .mul && chkArg x x' && chkArg y y'
    | _ => false)
  | .iand x y => (match o with
    | .binOp op _ x' y' _ => binIs op .and && chkArg x x' && chkArg y y'
    | _ => false)
  | .ior x y => (match o with
    | .binOp op _ x' y' _ => binIs op .or && chkArg x x' && chkArg y y'
    | _ => false)
  | .ixor x y => (match o with
    | .binOp op _ x' y' _ => binIs op .xor && chkArg x x' && chkArg y y'
    | _ => false)
  | .iandn x y => (match o with
    | .binOp op _ x' y' _ => binIs op .andNot && chkArg x x' && chkArg y y'
    | _ => false)
  | .sadd x y => (match o with
    | .binOp op _ x' y' _ => binIs op .add && chkArg x x' && chkArg y y'
    | _ => false)
  | .ishl x y => (match o with
    | .binOp op _ x' y' _ => binIs op .shl && chkArg x x' && chkArg y y'
    | _ => false)
  | .ishr x y => (match o with
    | .binOp op _ x' y' _ => binIs op .shr && chkArg x x' && chkArg y y'
    | _ => false)
  | .iquo x y => (match o with
    | .binOp op _ x' y' _ => binIs op .quo && chkArg x x' && chkArg y y'
    | _ => false)
  | .irem x y => (match o with
    | .binOp op _ x' y' _ => binIs op .rem && chkArg x x' && chkArg y y'
    | _ => false)
  | .ilt x y => (match o with
    | .binOp op _ x' y' _ => binIs op .lss && chkArg x x' && chkArg y y'
    | _ => false)
  | .ile x y => (match o with
    | .binOp op _ x' y' _ => binIs op .leq && chkArg x x' && chkArg y y'
    | _ => false)
  | .igt x y => (match o with
    | .binOp op _ x' y' _ => binIs op .gtr && chkArg x x' && chkArg y y'
    | _ => false)
  | .ige x y => (match o with
    | .binOp op _ x' y' _ => binIs op .geq && chkArg x x' && chkArg y y'
    | _ => false)
  | .eq ng kind x y => (match o with
    | .binOp op t x' y' _ => binIs op (eqOp ng) && eqKind T kind x' y' t && chkArg x x' && chkArg y y'
    | _ => false)
  | .neg x => (match o with
    | .unOp op _ y => (match op with | .neg => chkArg x y | _ => false)
    | _ => false)
  | .not x => (match o with
    | .unOp op _ y => (match op with | .not => chkArg x y | _ => false)
    | _ => false)
  | .convI k x => (match o with
    | .convert src dst y => (undT T src).isSome && isInt T dst k && chkArg x y
    | _ => false)
  | .convS x => (match o with
    | .convert src dst y => (undT T src).isSome && isStr T dst && chkArg x y
    | _ => false)
  | .sToB el x => (match o with
    | .convert src dst y => isStr T src && (withSlice T dst fun e => Nat.beq el e && isInt T e .u8) && chkArg x y
    | _ => false)
  | .bToS x => (match o with
    | .convert src dst y => (withSlice T src fun e => isInt T e .u8) && isStr T dst && chkArg x y
    | _ => false)
  | .ptrU n x => (match o with
    | .convert src dst y => (withPtr T src fun t => sizeT T t n) && isUns T dst && !Nat.beq n 0 && chkArg x y
    | _ => false)
  | .uPtr el n x => (match o with
    | .convert src dst y => isUns T src && (withPtr T dst fun t => Nat.beq el t && sizeT T t n) && !Nat.beq n 0 && chkArg x y
    | _ => false)
  | .mkf fid a c => (match o with
    | .makeFunc fn a' c' => (match fn with | .func f => Nat.beq fid f && chkArgs a a'.toList && chkArgs c c'.toList | _ => false)
    | _ => false)
  | .mkm => (match o with
    | .makeMap _ r => (match r with | none => true | some _ => false)
    | _ => false)
  | .mks el es z l c => (match o with
    | .makeSlice t l' c' => (withSlice T t fun e => Nat.beq el e && sizeT T e es && zeroT T e z && Nat.beq z.length es && smallT T e) && chkArg l l' && chkArg c c'
    | _ => false)
  | .slS x lo hi => (match o with
    | .slice t y lo' hi' mx' => (match mx' with | none => isStr T t && chkArg x y && chkOpt lo lo' && chkOpt hi hi' | some _ => false)
    | _ => false)
  | .slV es x lo hi mx => (match o with
    | .slice t y lo' hi' mx' => (withSlice T t fun e => sizeT T e es) && chkArg x y && chkOpt lo lo' && chkOpt hi hi' && chkOpt mx mx' && (mx'.isNone || hi'.isSome)
    | _ => false)
  | .slA n es x lo hi => (match o with
    | .slice t y lo' hi' mx' => (match mx' with | none => (withArr T t (fun m e => Nat.beq m n && sizeT T e es) || withPtr T t fun a => withArr T a fun m e => Nat.beq m n && sizeT T e es) && chkArg x y && chkOpt lo lo' && chkOpt hi hi' | some _ => false)
    | _ => false)
  | .faddr off x => (match o with
    | .fieldAddr t y fld => (withStruct T t fun fs => nthF fs fld fun fd => Nat.beq fd.offset off && (match T fd.type with | some i => !Nat.beq i.size 0 | none => false)) && chkArg x y
    | _ => false)
  | .fld1 off x => (match o with
    | .field t y fld => (withStruct T t fun fs => nthF fs fld fun fd => Nat.beq fd.offset off && oneT T fd.type) && chkArg x y
    | _ => false)
  | .fldn off n x => (match o with
    | .field t y fld => (withStruct T t fun fs => nthF fs fld fun fd => Nat.beq fd.offset off && aggT T fd.type && sizeT T fd.type n) && chkArg x y
    | _ => false)
  | .iaddr es x ix => (match o with
    | .indexAddr t x' ix' => (withSlice T t fun e => sizeT T e es) && chkArg x x' && chkArg ix ix'
    | _ => false)
  | .iaddrA len es x ix => (match o with
    | .indexAddr t x' ix' => (withArr T t fun m e => Nat.beq m len && sizeT T e es) && chkArg x x' && chkArg ix ix'
    | _ => false)
  | .idxS x ix => (match o with
    | .index t x' ix' => isStr T t && chkArg x x' && chkArg ix ix'
    | _ => false)
  | .idxA1 len x ix => (match o with
    | .index t x' ix' => (withArr T t fun m e => Nat.beq m len && sizeT T e 1 && oneT T e) && chkArg x x' && chkArg ix ix'
    | _ => false)
  | .idxAn len es x ix => (match o with
    | .index t x' ix' => (withArr T t fun m e => Nat.beq m len && sizeT T e es && aggT T e) && chkArg x x' && chkArg ix ix'
    | _ => false)
  | .lookup str z ok x k => (match o with
    | .lookup t x' k' ok' => !(ok ^^ ok') && (withMap T t fun kt e => keyT T kt str && zeroVT T e z) && chkArg x x' && chkArg k k'
    | _ => false)
  | .mupd str m k x => (match o with
    | .mapUpdate t m' k' x' => (withMap T t fun kt _ => keyT T kt str) && chkArg m m' && chkArg k k' && chkArg x x'
    | .insert t m' k' x' => (withMap T t fun kt _ => keyT T kt str) && chkArg m m' && chkArg k k' && chkArg x x'
    | _ => false)
  | .rangeS x => (match o with
    | .range t y => isStr T t && chkArg x y
    | _ => false)
  | .rangeM x => (match o with
    | .range t y => (withMap T t fun _ _ => true) && chkArg x y
    | _ => false)
  | .nextS x => (match o with
    | .next y s => s && chkArg x y
    | _ => false)
  | .nextM x => (match o with
    | .next y s => !s && chkArg x y
    | _ => false)
  | .entry x => (match o with
    | .entry y => chkArg x y
    | _ => false)
  | .extract i x => (match o with
    | .extract y j => Nat.beq i j && chkArg x y
    | _ => false)
  | .mkif t x => (match o with
    | .makeInterface t' y => Nat.beq t t' && (match undT T t' with | some (.interface _) => false | some _ => true | none => false) && chkArg x y
    | _ => false)
  | .lenS x => (match o with
    | .call c => oneCall c .len fun y t => isStr T t && chkArg x y
    | _ => false)
  | .lenV x => (match o with
    | .call c => oneCall c .len fun y t => withSlice T t (fun _ => true) && chkArg x y
    | _ => false)
  | .lenM x => (match o with
    | .call c => oneCall c .len fun y t => withMap T t (fun _ _ => true) && chkArg x y
    | _ => false)
  | .cap x => (match o with
    | .call c => oneCall c .cap fun y t => withSlice T t (fun _ => true) && chkArg x y
    | _ => false)
  | .append es el s x => (match o with
    | .call c => twoCall c .append fun s' x' ts => hdT2 ts fun t u => (withSlice T t fun e => Nat.beq el e && (match T e with | some i => Nat.beq i.size es && (match i.zero with | some z => Nat.beq z.cells.toList.length es | none => false) && Nat.ble i.bytes 1048576 | none => false)) && (match undT T u with | some (.int _) => false | some _ => true | none => false) && chkArg s s' && chkArg x x'
    | _ => false)
  | .copy es d s => (match o with
    | .call c => twoCall c .copy fun d' s' ts => hdT ts fun t => (withSlice T t fun e => sizeT T e es) && chkArg d d' && chkArg s s'
    | _ => false)
  | .delete str m k => (match o with
    | .call c => twoCall c .delete fun m' k' ts => hdT ts fun t => (withMap T t fun kt _ => keyT T kt str) && chkArg m m' && chkArg k k'
    | _ => false)
  | .imin x y => (match o with
    | .call c => twoCall c .min fun x' y' _ => chkArg x x' && chkArg y y'
    | _ => false)
  | .imax x y => (match o with
    | .call c => twoCall c .max fun x' y' _ => chkArg x x' && chkArg y y'
    | _ => false)
  | .usd x => (match o with
    | .call c => oneCall c .unsafeSliceData fun y _ => chkArg x y
    | _ => false)
  | .ustr el p n => (match o with
    | .call c => twoCall c .unsafeString fun p' n' ts => hdT ts fun t => (withPtr T t fun e => Nat.beq el e && sizeT T e 1) && chkArg p p' && chkArg n n'
    | _ => false)
  | .call fid as => (match o with
    | .call c => (match c.callee with | .value (.func g) => Nat.beq fid g && chkArgs as c.args.toList | _ => false)
    | _ => false)
  | .callv x as => (match o with
    | .call c => (match c.callee with | .value y => chkArg x y && chkArgs as c.args.toList | _ => false)
    | _ => false)
section
variable {P : Program} {T : Nat → Option TypeInfo}
theorem chkOp_sound (hT : TOk P T) {l : LOp} {o : Op} (h : chkOp T l o = true) : OpOk P l o := by
  cases l with
  | mv x => cases o with
    | move y =>
      exact .mv x y (chkArg_sound h)
    | assign y =>
      exact .asg x y (chkArg_sound h)
    | call c =>
      cases x with
      | t s => cases h
      | c v => cases v with
        | i k n =>
          obtain ⟨h12, h3⟩ := Bool.and_eq_true_iff.1 (show (sameK k .i64 && lt n 0x8000000000000000 && oneCall c .len (fun _ t => withArr T t (fun m _ => Nat.beq m n) || withPtr T t fun a => withArr T a fun m _ => Nat.beq m n)) = true from h)
          obtain ⟨h1, h2⟩ := Bool.and_eq_true_iff.1 h12
          have := sameK_iff.1 h1; subst this
          obtain ⟨y, ts, t, rfl, h4, h5⟩ := oneCall_sound h3
          refine .lenC n y ts t h4 ?_ (lt_iff.1 h2)
          rcases Bool.or_eq_true_iff.1 h5 with h6 | h6
          · obtain ⟨m, e, h7, h8⟩ := withArr_sound hT h6
            rw [beq_iff.1 h8] at h7; exact .inl ⟨e, h7⟩
          · obtain ⟨a, h7, h8⟩ := withPtr_sound hT h6
            obtain ⟨m, e, h9, h10⟩ := withArr_sound hT h8
            rw [beq_iff.1 h10] at h9; exact .inr ⟨a, e, h7, h9⟩
        | _ => cases h
    | _ => cases h
  | pick c a b => cases o with
    | pick c' a' b' =>
      simp only [chkOp, Bool.and_eq_true] at h
      exact .pick _ _ _ _ _ _ (chkArg_sound h.1.1) (chkArg_sound h.1.2) (chkArg_sound h.2)
    | _ => cases h
  | alloc z t => cases o with
    | alloc t' =>
      simp only [chkOp, Bool.and_eq_true] at h
      have := beq_iff.1 h.1; subst this; exact .alloc _ _ (zeroT_sound hT h.2)
    | _ => cases h
  | box t x => cases o with
    | box t' y =>
      simp only [chkOp, Bool.and_eq_true] at h
      have := beq_iff.1 h.1; subst this; exact .box _ _ _ (chkArg_sound h.2)
    | _ => cases h
  | build z ps => cases o with
    | build t ps' =>
      simp only [chkOp, Bool.and_eq_true] at h
      obtain ⟨h1, h2⟩ := h
      rcases Bool.or_eq_true_iff.1 h2 with h3 | h3
      · obtain ⟨fs, h4, h5⟩ := withStruct_sound hT h3
        simp only [Bool.and_eq_true] at h5
        refine .buildS t z fs ps ps' h4 (zeroT_sound hT h1) (fun fd hf => ?_) (chkParts_sound (fun off size j hh => ?_) h5.2)
        · have := List.all_eq_true.1 h5.1 fd hf
          cases hi : T fd.type with
          | none => rw [hi] at this; cases this
          | some i => exact ⟨i.size, i, hT _ _ hi, rfl⟩
        · obtain ⟨fd, g1, g2⟩ := nthF_sound hh
          simp only [Bool.and_eq_true] at g2
          exact ⟨fd, by simpa using g1, beq_iff.1 g2.1, sizeT_sound hT g2.2⟩
      · obtain ⟨m, e, h4, h5⟩ := withArr_sound hT h3
        cases hi : T e with
        | none => rw [hi] at h5; cases h5
        | some i =>
          rw [hi] at h5
          refine .buildA t e z m i.size ps ps' h4 (zeroT_sound hT h1) ⟨i, hT _ _ hi, rfl⟩ (chkParts_sound (fun off size j hh => ?_) h5)
          simp only [Bool.and_eq_true] at hh
          exact ⟨beq_iff.1 hh.1, beq_iff.1 hh.2⟩
    | _ => cases h
  | bslice el len es zs ps => cases o with
    | buildSlice t len' ps' =>
      simp only [chkOp, Bool.and_eq_true] at h
      obtain ⟨h1, h2⟩ := h
      have := beq_iff.1 h1; subst this
      obtain ⟨e, h3, h4⟩ := withSlice_sound hT h2
      simp only [Bool.and_eq_true] at h4
      obtain ⟨h5, h6⟩ := h4
      have := beq_iff.1 h5; subst this
      cases hi : T el with
      | none => rw [hi] at h6; cases h6
      | some i =>
        rw [hi] at h6
        simp only [Bool.and_eq_true] at h6
        obtain ⟨⟨⟨h7, h8⟩, h9⟩, h10⟩ := h6
        have := beq_iff.1 h7; subst this
        cases hz : i.zero with
        | none => simp only [hz] at h8; simp at h8
        | some z =>
          have hps := chkParts_sound (Ok := fun off size j => off = j * i.size ∧ size = i.size) (fun off size j hh => by
            simp only [Bool.and_eq_true] at hh
            exact ⟨beq_iff.1 hh.1, beq_iff.1 hh.2⟩) h10
          cases len with
          | zero =>
            simp only [hz, Bool.and_eq_true] at h8
            obtain ⟨⟨g1, g2⟩, g3⟩ := h8
            refine .bslice t el (List.replicate i.size (.any 0)) 0 i.size ps ps' h3 ⟨i, z, hT _ _ hi, hz, VRs.of_get (by simp [← beq_iff.1 g3]) (fun j a hj => ?_), fun a ha => by rw [List.eq_of_mem_replicate ha]; rfl⟩ (by simp) ⟨i, hT _ _ hi, rfl⟩ (ble_iff.1 h9) hps zs (eqFlats_sound g1)
            have hjl : j < i.size := by simpa using (List.getElem?_eq_some_iff.1 hj).1
            rw [List.getElem?_replicate, if_pos hjl] at hj
            cases hj
            have hjz : j < z.cells.toList.length := by rw [beq_iff.1 g3]; exact hjl
            exact ⟨_, List.getElem?_eq_getElem hjz, .any _ (List.all_eq_true.1 g2 _ (List.getElem_mem hjz))⟩
          | succ m =>
            simp only [hz, Bool.and_eq_true] at h8
            obtain ⟨⟨g1, g2⟩, g3⟩ := h8
            exact .bslice t el (zs.take i.size) (m + 1) i.size ps ps' h3 ⟨i, z, hT _ _ hi, hz, vlits_sound g1⟩ (beq_iff.1 g2) ⟨i, hT _ _ hi, rfl⟩ (ble_iff.1 h9) hps zs (eqFlats_sound g3)
    | _ => cases h
  | ld1 x => cases o with
    | load t y =>
      simp only [chkOp, Bool.and_eq_true] at h
      exact .ld1 t x y (oneT_sound hT h.1) (chkArg_sound h.2)
    | _ => cases h
  | ldn n x => cases o with
    | load t y =>
      simp only [chkOp, Bool.and_eq_true] at h
      exact .ldn t n x y (aggT_sound hT h.1.1.1) (sizeT_sound hT h.1.1.2) (lt_iff.1 h.1.2) (chkArg_sound h.2)
    | _ => cases h
  | st n a x => cases o with
    | store t a' x' =>
      simp only [chkOp, Bool.and_eq_true] at h
      exact .st t n a x a' x' (sizeT_sound hT h.1.1) (chkArg_sound h.1.2) (chkArg_sound h.2)
    | _ => cases h
  | nilc x => cases o with
    | nilCheck y =>
      exact .nilc x y (chkArg_sound h)
    | _ => cases h
  | iadd x y => cases o with
    | binOp op t x' y' t' =>
      simp only [chkOp, Bool.and_eq_true] at h
      have := of_decide_eq_true h.1.1; subst this; exact .iadd x y x' y' t t' (chkArg_sound h.1.2) (chkArg_sound h.2)
    | _ => cases h
  | isub x y => cases o with
    | binOp op t x' y' t' =>
      simp only [chkOp, Bool.and_eq_true] at h
      have := of_decide_eq_true h.1.1; subst this; exact .isub x y x' y' t t' (chkArg_sound h.1.2) (chkArg_sound h.2)
    | _ => cases h
  | imul x y => cases o with
    | binOp op t x' y' t' =>
      simp only [chkOp, Bool.and_eq_true] at h
      have := of_decide_eq_true h.1.1; subst this; exact .imul x y x' y' t t' (chkArg_sound h.1.2) (chkArg_sound h.2)
    | _ => cases h
  | iand x y => cases o with
    | binOp op t x' y' t' =>
      simp only [chkOp, Bool.and_eq_true] at h
      have := of_decide_eq_true h.1.1; subst this; exact .iand x y x' y' t t' (chkArg_sound h.1.2) (chkArg_sound h.2)
    | _ => cases h
  | ior x y => cases o with
    | binOp op t x' y' t' =>
      simp only [chkOp, Bool.and_eq_true] at h
      have := of_decide_eq_true h.1.1; subst this; exact .ior x y x' y' t t' (chkArg_sound h.1.2) (chkArg_sound h.2)
    | _ => cases h
  | ixor x y => cases o with
    | binOp op t x' y' t' =>
      simp only [chkOp, Bool.and_eq_true] at h
      have := of_decide_eq_true h.1.1; subst this; exact .ixor x y x' y' t t' (chkArg_sound h.1.2) (chkArg_sound h.2)
    | _ => cases h
  | iandn x y => cases o with
    | binOp op t x' y' t' =>
      simp only [chkOp, Bool.and_eq_true] at h
      have := of_decide_eq_true h.1.1; subst this; exact .iandn x y x' y' t t' (chkArg_sound h.1.2) (chkArg_sound h.2)
    | _ => cases h
  | sadd x y => cases o with
    | binOp op t x' y' t' =>
      simp only [chkOp, Bool.and_eq_true] at h
      have := of_decide_eq_true h.1.1; subst this; exact .sadd x y x' y' t t' (chkArg_sound h.1.2) (chkArg_sound h.2)
    | _ => cases h
  | ishl x y => cases o with
    | binOp op t x' y' t' =>
      simp only [chkOp, Bool.and_eq_true] at h
      have := of_decide_eq_true h.1.1; subst this; exact .ishl x y x' y' t t' (chkArg_sound h.1.2) (chkArg_sound h.2)
    | _ => cases h
  | ishr x y => cases o with
    | binOp op t x' y' t' =>
      simp only [chkOp, Bool.and_eq_true] at h
      have := of_decide_eq_true h.1.1; subst this; exact .ishr x y x' y' t t' (chkArg_sound h.1.2) (chkArg_sound h.2)
    | _ => cases h
  | iquo x y => cases o with
    | binOp op t x' y' t' =>
      simp only [chkOp, Bool.and_eq_true] at h
      have := of_decide_eq_true h.1.1; subst this; exact .iquo x y x' y' t t' (chkArg_sound h.1.2) (chkArg_sound h.2)
    | _ => cases h
  | irem x y => cases o with
    | binOp op t x' y' t' =>
      simp only [chkOp, Bool.and_eq_true] at h
      have := of_decide_eq_true h.1.1; subst this; exact .irem x y x' y' t t' (chkArg_sound h.1.2) (chkArg_sound h.2)
    | _ => cases h
  | ilt x y => cases o with
    | binOp op t x' y' t' =>
      simp only [chkOp, Bool.and_eq_true] at h
      have := of_decide_eq_true h.1.1; subst this; exact .ilt x y x' y' t t' (chkArg_sound h.1.2) (chkArg_sound h.2)
    | _ => cases h
  | ile x y => cases o with
    | binOp op t x' y' t' =>
      simp only [chkOp, Bool.and_eq_true] at h
      have := of_decide_eq_true h.1.1; subst this; exact .ile x y x' y' t t' (chkArg_sound h.1.2) (chkArg_sound h.2)
    | _ => cases h
  | igt x y => cases o with
    | binOp op t x' y' t' =>
      simp only [chkOp, Bool.and_eq_true] at h
      have := of_decide_eq_true h.1.1; subst this; exact .igt x y x' y' t t' (chkArg_sound h.1.2) (chkArg_sound h.2)
    | _ => cases h
  | ige x y => cases o with
    | binOp op t x' y' t' =>
      simp only [chkOp, Bool.and_eq_true] at h
      have := of_decide_eq_true h.1.1; subst this; exact .ige x y x' y' t t' (chkArg_sound h.1.2) (chkArg_sound h.2)
    | _ => cases h
  | eq ng kind x y => cases o with
    | binOp op t x' y' t' =>
      simp only [chkOp, Bool.and_eq_true] at h
      have := of_decide_eq_true h.1.1.1; subst this; exact .eq ng kind x y x' y' t t' (eqKind_sound hT h.1.1.2) (chkArg_sound h.1.2) (chkArg_sound h.2)
    | _ => cases h
  | neg x => cases o with
    | unOp op t y =>
      cases op <;> first | exact .neg x y t (chkArg_sound h) | cases h
    | _ => cases h
  | not x => cases o with
    | unOp op t y =>
      cases op <;> first | exact .not x y t (chkArg_sound h) | cases h
    | _ => cases h
  | convI k x => cases o with
    | convert src dst y =>
      simp only [chkOp, Bool.and_eq_true] at h
      obtain ⟨⟨h1, h2⟩, h3⟩ := h
      cases hs : undT T src with
      | none => rw [hs] at h1; cases h1
      | some ds => exact .convI k x y src dst ds (undT_sound hT hs) (isInt_sound hT h2) (chkArg_sound h3)
    | _ => cases h
  | convS x => cases o with
    | convert src dst y =>
      simp only [chkOp, Bool.and_eq_true] at h
      obtain ⟨⟨h1, h2⟩, h3⟩ := h
      cases hs : undT T src with
      | none => rw [hs] at h1; cases h1
      | some ds => exact .convS x y src dst ds (undT_sound hT hs) (isStr_sound hT h2) (chkArg_sound h3)
    | _ => cases h
  | sToB el x => cases o with
    | convert src dst y =>
      simp only [chkOp, Bool.and_eq_true] at h
      obtain ⟨⟨h1, h2⟩, h3⟩ := h
      obtain ⟨e, h4, h5⟩ := withSlice_sound hT h2
      simp only [Bool.and_eq_true] at h5
      have := beq_iff.1 h5.1; subst this
      exact .sToB x y src dst el (isStr_sound hT h1) h4 (isInt_sound hT h5.2) (chkArg_sound h3)
    | _ => cases h
  | bToS x => cases o with
    | convert src dst y =>
      simp only [chkOp, Bool.and_eq_true] at h
      obtain ⟨⟨h1, h2⟩, h3⟩ := h
      obtain ⟨e, h4, h5⟩ := withSlice_sound hT h1
      exact .bToS x y src dst e h4 (isInt_sound hT h5) (isStr_sound hT h2) (chkArg_sound h3)
    | _ => cases h
  | ptrU n x => cases o with
    | convert src dst y =>
      simp only [chkOp, Bool.and_eq_true] at h
      obtain ⟨⟨⟨h1, h2⟩, h3⟩, h4⟩ := h
      obtain ⟨t, h5, h6⟩ := withPtr_sound hT h1
      exact .ptrU n x y src dst t h5 (isUns_sound hT h2) (sizeT_sound hT h6) (fun hc => by subst hc; cases h3) (chkArg_sound h4)
    | _ => cases h
  | uPtr el n x => cases o with
    | convert src dst y =>
      simp only [chkOp, Bool.and_eq_true] at h
      obtain ⟨⟨⟨h1, h2⟩, h3⟩, h4⟩ := h
      obtain ⟨t, h5, h6⟩ := withPtr_sound hT h2
      simp only [Bool.and_eq_true] at h6
      have := beq_iff.1 h6.1; subst this
      exact .uPtr n x y src dst el (isUns_sound hT h1) h5 (sizeT_sound hT h6.2) (fun hc => by subst hc; cases h3) (chkArg_sound h4)
    | _ => cases h
  | mkf fid a c => cases o with
    | makeFunc fn a' c' =>
      cases fn with
      | func f =>
        simp only [chkOp, Bool.and_eq_true] at h
        have := beq_iff.1 h.1.1; subst this
        exact .mkf fid a c a' c' (chkArgs_sound h.1.2) (chkArgs_sound h.2)
      | _ => cases h
    | _ => cases h
  | mkm => cases o with
    | makeMap t r =>
      cases r with
      | none => exact .mkm t
      | some _ => cases h
    | _ => cases h
  | mks el es z l c => cases o with
    | makeSlice t l' c' =>
      simp only [chkOp, Bool.and_eq_true] at h
      obtain ⟨⟨h1, h2⟩, h3⟩ := h
      obtain ⟨e, h4, h5⟩ := withSlice_sound hT h1
      simp only [Bool.and_eq_true] at h5
      obtain ⟨⟨⟨⟨h6, h7⟩, h8⟩, h9⟩, h10⟩ := h5
      have := beq_iff.1 h6; subst this
      exact .mks el es z l c l' c' t h4 (sizeT_sound hT h7) (zeroT_sound hT h8) (beq_iff.1 h9) (smallT_sound hT h10) (chkArg_sound h2) (chkArg_sound h3)
    | _ => cases h
  | slS x lo hi => cases o with
    | slice t y lo' hi' mx' =>
      cases mx' with
      | none =>
        simp only [chkOp, Bool.and_eq_true] at h
        exact .slS x y lo hi lo' hi' t (isStr_sound hT h.1.1.1) (chkArg_sound h.1.1.2) (chkOpt_sound h.1.2) (chkOpt_sound h.2)
      | some _ => cases h
    | _ => cases h
  | slV es x lo hi mx => cases o with
    | slice t y lo' hi' mx' =>
      simp only [chkOp, Bool.and_eq_true] at h
      obtain ⟨⟨⟨⟨⟨h1, h2⟩, h3⟩, h4⟩, h5⟩, h6⟩ := h
      obtain ⟨e, h7, h8⟩ := withSlice_sound hT h1
      refine .slV es x y lo hi mx lo' hi' mx' t e h7 (sizeT_sound hT h8) (chkArg_sound h2) (chkOpt_sound h3) (chkOpt_sound h4) (chkOpt_sound h5) (fun hm hh => ?_)
      subst hh
      cases mx' with
      | none => exact hm rfl
      | some _ => cases h6
    | _ => cases h
  | slA n es x lo hi => cases o with
    | slice t y lo' hi' mx' =>
      cases mx' with
      | none =>
        simp only [chkOp, Bool.and_eq_true] at h
        obtain ⟨⟨⟨h1, h2⟩, h3⟩, h4⟩ := h
        rcases Bool.or_eq_true_iff.1 h1 with h6 | h6
        · obtain ⟨m, e, h7, h8⟩ := withArr_sound hT h6
          simp only [Bool.and_eq_true] at h8
          rw [beq_iff.1 h8.1] at h7
          exact .slA n es x y lo hi lo' hi' t e (.inl h7) (sizeT_sound hT h8.2) (chkArg_sound h2) (chkOpt_sound h3) (chkOpt_sound h4)
        · obtain ⟨a, h7, h8⟩ := withPtr_sound hT h6
          obtain ⟨m, e, h9, h10⟩ := withArr_sound hT h8
          simp only [Bool.and_eq_true] at h10
          rw [beq_iff.1 h10.1] at h9
          exact .slA n es x y lo hi lo' hi' t e (.inr ⟨a, h7, h9⟩) (sizeT_sound hT h10.2) (chkArg_sound h2) (chkOpt_sound h3) (chkOpt_sound h4)
      | some _ => cases h
    | _ => cases h
  | faddr off x => cases o with
    | fieldAddr t y fld =>
      simp only [chkOp, Bool.and_eq_true] at h
      obtain ⟨h1, h2⟩ := h
      obtain ⟨fs, h3, h4⟩ := withStruct_sound hT h1
      obtain ⟨fd, h5, h6⟩ := nthF_sound h4
      simp only [Bool.and_eq_true] at h6
      obtain ⟨h7, h8⟩ := h6
      cases hi : T fd.type with
      | none => rw [hi] at h8; cases h8
      | some i => rw [hi] at h8; exact .faddr off fld i.size x y t fs fd h3 (by simpa using h5) (beq_iff.1 h7) ⟨i, hT _ _ hi, rfl⟩ (fun hc => by simp only [hc] at h8; cases h8) (chkArg_sound h2)
    | _ => cases h
  | fld1 off x => cases o with
    | field t y fld =>
      simp only [chkOp, Bool.and_eq_true] at h
      obtain ⟨h1, h2⟩ := h
      obtain ⟨fs, h3, h4⟩ := withStruct_sound hT h1
      obtain ⟨fd, h5, h6⟩ := nthF_sound h4
      simp only [Bool.and_eq_true] at h6
      exact .fld1 off fld x y t fs fd h3 (by simpa using h5) (beq_iff.1 h6.1) (oneT_sound hT h6.2) (chkArg_sound h2)
    | _ => cases h
  | fldn off n x => cases o with
    | field t y fld =>
      simp only [chkOp, Bool.and_eq_true] at h
      obtain ⟨h1, h2⟩ := h
      obtain ⟨fs, h3, h4⟩ := withStruct_sound hT h1
      obtain ⟨fd, h5, h6⟩ := nthF_sound h4
      simp only [Bool.and_eq_true] at h6
      exact .fldn off n fld x y t fs fd h3 (by simpa using h5) (beq_iff.1 h6.1.1) (aggT_sound hT h6.1.2) (sizeT_sound hT h6.2) (chkArg_sound h2)
    | _ => cases h
  | iaddr es x ix => cases o with
    | indexAddr t x' ix' =>
      simp only [chkOp, Bool.and_eq_true] at h
      obtain ⟨e, h3, h4⟩ := withSlice_sound hT h.1.1
      exact .iaddr es x ix x' ix' t e h3 (sizeT_sound hT h4) (chkArg_sound h.1.2) (chkArg_sound h.2)
    | _ => cases h
  | iaddrA len es x ix => cases o with
    | indexAddr t x' ix' =>
      simp only [chkOp, Bool.and_eq_true] at h
      obtain ⟨m, e, h3, h4⟩ := withArr_sound hT h.1.1
      simp only [Bool.and_eq_true] at h4
      rw [beq_iff.1 h4.1] at h3
      exact .iaddrA len es x ix x' ix' t e h3 (sizeT_sound hT h4.2) (chkArg_sound h.1.2) (chkArg_sound h.2)
    | _ => cases h
  | idxS x ix => cases o with
    | index t x' ix' =>
      simp only [chkOp, Bool.and_eq_true] at h
      exact .idxS x ix x' ix' t (isStr_sound hT h.1.1) (chkArg_sound h.1.2) (chkArg_sound h.2)
    | _ => cases h
  | idxA1 len x ix => cases o with
    | index t x' ix' =>
      simp only [chkOp, Bool.and_eq_true] at h
      obtain ⟨m, e, h3, h4⟩ := withArr_sound hT h.1.1
      simp only [Bool.and_eq_true] at h4
      rw [beq_iff.1 h4.1.1] at h3
      exact .idxA1 len x ix x' ix' t e h3 (sizeT_sound hT h4.1.2) (oneT_sound hT h4.2) (chkArg_sound h.1.2) (chkArg_sound h.2)
    | _ => cases h
  | idxAn len es x ix => cases o with
    | index t x' ix' =>
      simp only [chkOp, Bool.and_eq_true] at h
      obtain ⟨m, e, h3, h4⟩ := withArr_sound hT h.1.1
      simp only [Bool.and_eq_true] at h4
      rw [beq_iff.1 h4.1.1] at h3
      exact .idxAn len es x ix x' ix' t e h3 (sizeT_sound hT h4.1.2) (aggT_sound hT h4.2) (chkArg_sound h.1.2) (chkArg_sound h.2)
    | _ => cases h
  | lookup str z ok x k => cases o with
    | lookup t x' k' ok' =>
      simp only [chkOp, Bool.and_eq_true] at h
      obtain ⟨⟨⟨h1, h2⟩, h3⟩, h4⟩ := h
      have : ok = ok' := by cases ok <;> cases ok' <;> first | rfl | cases h1
      subst this
      obtain ⟨kt, e, h5, h6⟩ := withMap_sound hT h2
      simp only [Bool.and_eq_true] at h6
      exact .lookup str ok z x k x' k' t kt e h5 (keyT_sound hT h6.1) (zeroVT_sound hT h6.2) (chkArg_sound h3) (chkArg_sound h4)
    | _ => cases h
  | mupd str m k x => cases o with
    | mapUpdate t m' k' x' =>
      simp only [chkOp, Bool.and_eq_true] at h
      obtain ⟨kt, e, h5, h6⟩ := withMap_sound hT h.1.1.1
      exact .mupd str m k x m' k' x' t kt e h5 (keyT_sound hT h6) (chkArg_sound h.1.1.2) (chkArg_sound h.1.2) (chkArg_sound h.2)
    | insert t m' k' x' =>
      simp only [chkOp, Bool.and_eq_true] at h
      obtain ⟨kt, e, h5, h6⟩ := withMap_sound hT h.1.1.1
      exact .ins str m k x m' k' x' t kt e h5 (keyT_sound hT h6) (chkArg_sound h.1.1.2) (chkArg_sound h.1.2) (chkArg_sound h.2)
    | _ => cases h
  | rangeS x => cases o with
    | range t y =>
      simp only [chkOp, Bool.and_eq_true] at h
      exact .rangeS x y t (isStr_sound hT h.1) (chkArg_sound h.2)
    | _ => cases h
  | rangeM x => cases o with
    | range t y =>
      simp only [chkOp, Bool.and_eq_true] at h
      obtain ⟨kt, e, h5, _⟩ := withMap_sound hT h.1
      exact .rangeM x y t kt e h5 (chkArg_sound h.2)
    | _ => cases h
  | nextS x => cases o with
    | next y s =>
      simp only [chkOp, Bool.and_eq_true] at h
      have := h.1; subst this; exact .nextS x y (chkArg_sound h.2)
    | _ => cases h
  | nextM x => cases o with
    | next y s =>
      cases s with
      | true => cases h
      | false => exact .nextM x y (chkArg_sound (show chkArg x y = true from h))
    | _ => cases h
  | entry x => cases o with
    | entry y =>
      exact .entry x y (chkArg_sound h)
    | _ => cases h
  | extract i x => cases o with
    | extract y j =>
      simp only [chkOp, Bool.and_eq_true] at h
      have := beq_iff.1 h.1; subst this; exact .extract i x y (chkArg_sound h.2)
    | _ => cases h
  | mkif t x => cases o with
    | makeInterface t' y =>
      simp only [chkOp, Bool.and_eq_true] at h
      obtain ⟨⟨h1, h2⟩, h3⟩ := h
      have := beq_iff.1 h1; subst this
      split at h2
      · cases h2
      · rename_i d hn hd
        exact .mkif t d x y (undT_sound hT hd) (fun m he => hn m (by rw [he])) (chkArg_sound h3)
      · cases h2
    | _ => cases h
  | lenS x => cases o with
    | call c =>
      obtain ⟨y, ts, t, rfl, h4, h5⟩ := oneCall_sound (c := c) (b := .len) h
      simp only [Bool.and_eq_true] at h5
      exact .lenS x y ts t h4 (isStr_sound hT h5.1) (chkArg_sound h5.2)
    | _ => cases h
  | lenV x => cases o with
    | call c =>
      obtain ⟨y, ts, t, rfl, h4, h5⟩ := oneCall_sound (c := c) (b := .len) h
      simp only [Bool.and_eq_true] at h5
      obtain ⟨e, h6, _⟩ := withSlice_sound hT h5.1
      exact .lenV x y ts t e h4 h6 (chkArg_sound h5.2)
    | _ => cases h
  | lenM x => cases o with
    | call c =>
      obtain ⟨y, ts, t, rfl, h4, h5⟩ := oneCall_sound (c := c) (b := .len) h
      simp only [Bool.and_eq_true] at h5
      obtain ⟨k, e, h6, _⟩ := withMap_sound hT h5.1
      exact .lenM x y ts t k e h4 h6 (chkArg_sound h5.2)
    | _ => cases h
  | cap x => cases o with
    | call c =>
      obtain ⟨y, ts, t, rfl, h4, h5⟩ := oneCall_sound (c := c) (b := .cap) h
      simp only [Bool.and_eq_true] at h5
      obtain ⟨e, h6, _⟩ := withSlice_sound hT h5.1
      exact .cap x y ts t e h4 h6 (chkArg_sound h5.2)
    | _ => cases h
  | append es el s x => cases o with
    | call c =>
      simp only [chkOp] at h
      obtain ⟨s', x', ts, rfl, h1⟩ := twoCall_sound h
      obtain ⟨t, u, h2, h3, h4⟩ := hdT2_sound h1
      simp only [Bool.and_eq_true] at h4
      obtain ⟨⟨⟨h5, h6⟩, h7⟩, h8⟩ := h4
      obtain ⟨e, h9, h10⟩ := withSlice_sound hT h5
      simp only [Bool.and_eq_true] at h10
      obtain ⟨h11, h12⟩ := h10
      have := beq_iff.1 h11; subst this
      cases hi : T el with
      | none => rw [hi] at h12; cases h12
      | some i =>
        rw [hi] at h12
        simp only [Bool.and_eq_true] at h12
        obtain ⟨⟨h13, h14⟩, h15⟩ := h12
        cases hz : i.zero with
        | none => simp only [hz] at h14; cases h14
        | some z =>
          simp only [hz] at h14
          split at h6
          · cases h6
          · rename_i du hn hd
            exact .append es s x s' x' ts t u el du i z h9 (undT_sound hT hd) (fun k he => hn k (by rw [he])) (hT _ _ hi) hz (beq_iff.1 h13) (by simpa using beq_iff.1 h14) (ble_iff.1 h15) h2 h3 (chkArg_sound h7) (chkArg_sound h8)
          · cases h6
    | _ => cases h
  | copy es d s => cases o with
    | call c =>
      simp only [chkOp] at h
      obtain ⟨d', s', ts, rfl, h1⟩ := twoCall_sound h
      obtain ⟨t, h2, h4⟩ := hdT_sound h1
      simp only [Bool.and_eq_true] at h4
      obtain ⟨e, h9, h10⟩ := withSlice_sound hT h4.1.1
      exact .copy es d s d' s' ts t e h2 h9 (sizeT_sound hT h10) (chkArg_sound h4.1.2) (chkArg_sound h4.2)
    | _ => cases h
  | delete str m k => cases o with
    | call c =>
      simp only [chkOp] at h
      obtain ⟨m', k', ts, rfl, h1⟩ := twoCall_sound h
      obtain ⟨t, h2, h4⟩ := hdT_sound h1
      simp only [Bool.and_eq_true] at h4
      obtain ⟨kt, e, h9, h10⟩ := withMap_sound hT h4.1.1
      exact .delete str m k m' k' ts t kt e h2 h9 (keyT_sound hT h10) (chkArg_sound h4.1.2) (chkArg_sound h4.2)
    | _ => cases h
  | imin x y => cases o with
    | call c =>
      simp only [chkOp] at h
      obtain ⟨x', y', ts, rfl, h1⟩ := twoCall_sound h
      simp only [Bool.and_eq_true] at h1
      exact .imin x y x' y' ts (chkArg_sound h1.1) (chkArg_sound h1.2)
    | _ => cases h
  | imax x y => cases o with
    | call c =>
      simp only [chkOp] at h
      obtain ⟨x', y', ts, rfl, h1⟩ := twoCall_sound h
      simp only [Bool.and_eq_true] at h1
      exact .imax x y x' y' ts (chkArg_sound h1.1) (chkArg_sound h1.2)
    | _ => cases h
  | usd x => cases o with
    | call c =>
      obtain ⟨y, ts, t, rfl, h4, h5⟩ := oneCall_sound (c := c) (b := .unsafeSliceData) h
      exact .usd x y ts (chkArg_sound h5)
    | _ => cases h
  | ustr el p n => cases o with
    | call c =>
      simp only [chkOp] at h
      obtain ⟨p', n', ts, rfl, h1⟩ := twoCall_sound h
      obtain ⟨t, h2, h4⟩ := hdT_sound h1
      simp only [Bool.and_eq_true] at h4
      obtain ⟨e, h9, h10⟩ := withPtr_sound hT h4.1.1
      simp only [Bool.and_eq_true] at h10
      have := beq_iff.1 h10.1; subst this
      exact .ustr p n p' n' ts t el h2 h9 (sizeT_sound hT h10.2) (chkArg_sound h4.1.2) (chkArg_sound h4.2)
    | _ => cases h
  | call fid as => cases o with
    | call c =>
      obtain ⟨callee, args, ts⟩ := c
      cases callee with
      | value v => cases v with
        | func g =>
          obtain ⟨h1, h2⟩ := Bool.and_eq_true_iff.1 (show (Nat.beq fid g && chkArgs as args.toList) = true from h)
          have := beq_iff.1 h1; subst this
          exact .call fid as args ts (chkArgs_sound h2)
        | _ => cases h
      | _ => cases h
    | _ => cases h
  | callv x as => cases o with
    | call c =>
      obtain ⟨callee, args, ts⟩ := c
      cases callee with
      | value y =>
        obtain ⟨h1, h2⟩ := Bool.and_eq_true_iff.1 (show (chkArg x y && chkArgs as args.toList) = true from h)
        exact .callv x y as args ts (chkArg_sound h1) (chkArgs_sound h2)
      | _ => cases h
    | _ => cases h
end
end
end AM
end
end Go.Proofs.YtejhenloolgmkaaGreatDoor
