/- The abstract machine's operations stand for the model's: second part; every step is sound. Condition: none. -/
import Derived.Test.YtejhenloolgmkaaGreatDoorMa
import Derived.Laws.AppendOwn
import Derived.Laws.RangeString
namespace Go.Proofs.YtejhenloolgmkaaGreatDoor
open Go
set_option linter.all false
noncomputable section
namespace AM
section
section
variable {X : Par} {σ : Sg} {A : AW} {w : World} {x y : AV} {x' y' : Value}

/-! ## Bytes of a string, append, copy -/
theorem g_sToB {src dst e : TypeId} (hs : X.P.underlying src = some .string) (hd : X.P.underlying dst = some (.slice e)) (he : X.P.underlying e = some (.int .u8)) (h : HR X σ A w) (hx : VR σ x x') :
    Good (fun K => AM.asS .fail x fun len val => AM.iff (lt len 1048576) .fail (AM.bytesL len val fun cs => AM.newO A (.cells cs e 1) fun id A' => K (AV.su id 0 len 1, A')))
      (VSound X σ A w (convert src dst x')) := by
  refine Good.asS (r := fun len val K => AM.iff (lt len 1048576) .fail (AM.bytesL len val fun cs => AM.newO A (.cells cs e 1) fun id A' => K (AV.su id 0 len 1, A'))) fun len val e1 => Good.iff fun hlen =>
    Good.bytesL (r := fun cs K => AM.newO A (.cells cs e 1) fun id A' => K (AV.su id 0 len 1, A')) (Good.newO (r := fun id A' K => K (AV.su id 0 len 1, A')) fun hn => ?_)
  subst e1
  cases hx with | s _ _ hv =>
  have hrun := run_bytes_of_string (P := X.P) w src dst e (strOf len val) hs hd he
  rw [strOf_size] at hrun
  have hcap := grownCap_ge w len 0 e
  generalize hC : grownCap w len 0 e = C at hrun hcap
  have hdata : (strOf len val).data.size = len := strOf_size len val
  have hsz : (bytesRow (strOf len val) C).size = C := by
    simp only [bytesRow, Array.size_append, Array.size_map, Array.size_replicate, hdata, strOf_size]; omega
  have hcells : ∀ (i : Nat) (a : AV), (bytesA len val)[i]? = some a → flatA a = true ∧ ∃ v, (bytesRow (strOf len val) C)[0 + i]? = some v ∧ VR σ a v := by
    intro i a ha
    refine ⟨bytesA_flat _ _ a (List.mem_of_getElem? ha), ?_⟩
    obtain ⟨v, h1, h2⟩ := (bytesA_VRs σ len val).get i a ha
    refine ⟨v, ?_, h2⟩
    have hi : i < len := by
      rcases Nat.lt_or_ge i len with h | h
      · exact h
      · rw [List.getElem?_eq_none (by rw [bytesA_length]; exact h)] at ha; cases ha
    rw [Nat.zero_add, ← h1]
    simp only [bytesRow]
    rw [Array.getElem?_append_left (by simp [hdata]; exact hi), Array.getElem?_map, ← Array.getElem?_toList, strOf_data, List.getElem?_map]
  obtain ⟨h1, h2, _⟩ := h.new (w' := (w.drew.alloc (.cells (bytesRow (strOf len val) C) e ((bytesRow (strOf len val) C).size, (bytesRow (strOf len val) C).size + 1)))) (.cells (bytesA len val) e 1)
    (.cells (bytesRow (strOf len val) C) e ((bytesRow (strOf len val) C).size, (bytesRow (strOf len val) C).size + 1)) (bytesRow (strOf len val) C).size hn
    (.cells _ _ _ _ _ rfl hcells (fun _ i hi => by simp; omega) fun h => by cases h) rfl
  refine Good.ret ⟨_, _, _, hrun, .su _ 0 len 1 C 0 ⟨w.heap.size, 0, (bytesRow (strOf len val) C).size⟩ (by simp [ext]) hcap (by simp [hsz]) (.inl rfl), h1, h2⟩

/-- What a source of cells is. -/
def SrcOk (X : Par) (σ : Sg) (w : World) (es : Nat) (x' : Value) (new : List AV) (n : Nat) : Prop :=
  ∃ new' : Array Value, (∀ w2 : World, w2.heap = w.heap → (Builtin.firstCells es n x').run X.P w2 = .ok new' w2) ∧ (∀ w2 : World, (Builtin.lenOf x').run X.P w2 = .ok n w2) ∧ VRs σ new new'.toList ∧ (∀ a, a ∈ new → flatA a = true) ∧ new.length = n * es
theorem g_src {es : Nat} (h : HR X σ A w) (hx : VR σ x x') : Good (fun K => srcOf A es x fun new n => K (new, n)) (fun p => SrcOk X σ w es x' p.1 p.2) := by
  have core : ∀ (id off len cap o : Nat) (l : Loc), σ id = some l → (o = l.shift + off ∨ cap = 0) → len ≤ cap →
      Good (fun K => AM.rd A id off (Nat.mul len es) fun cs => K (cs, len)) (fun p => SrcOk X σ w es (.slice (some ⟨l.block, o, none⟩) len cap) p.1 p.2) := by
    intro id off len cap o l hl ho hc
    refine Good.rd (r := fun cs K => K (cs, len)) fun cs e' fz hg hfit => Good.ret ?_
    obtain ⟨c, fr, _, hb, _, hcells, _, _⟩ := h.cells hg hl
    obtain ⟨h1, h2, h3⟩ := cells_rel hcells hfit
    have hlm : Nat.mul len es = len * es := rfl
    rw [hlm] at hfit h1 h2 h3 ⊢
    refine ⟨_, fun w2 hw => ?_, fun w2 => rfl, h1, h2, by simp; omega⟩
    by_cases h0 : len * es = 0
    · simp only [Builtin.firstCells, h0]
      have e0 : c.extract (l.shift + off) (l.shift + off + 0) = #[] := by simp; omega
      rw [e0]
      simp [loadCells, loadCellsFrom]
    · have hlen0 : len ≠ 0 := fun hz => h0 (by rw [hz, Nat.zero_mul])
      have ho' : o = l.shift + off := ho.resolve_right (by omega)
      subst ho'
      have := cells_fit hcells (by omega)
      exact (run_loadCells (P := X.P) (w := w2) (b := l.block) (o := l.shift + off) (n := len * es) (by rw [hw]; exact hb) (by omega))
  refine Good.asStrSl (rs := fun len val K => AM.iff (Nat.beq es 1) .fail (AM.bytesL len val fun cs => K (cs, len))) (r0 := fun K => K ([], 0)) (r := fun id off len K => AM.rd A id off (Nat.mul len es) fun cs => K (cs, len))
    (fun len val e1 => Good.iff fun hes => Good.bytesL (r := fun cs K => K (cs, len)) (Good.ret ?_)) (fun e1 => Good.ret ?_) (fun id off len cap e1 => ?_) (fun id off len es' e1 => ?_)
  · subst e1
    have := beq_iff.1 hes
    subst this
    cases hx with | s _ _ hv =>
    refine ⟨((bytesN len val).map fun b => Value.int .u8 b.toNat).toArray, fun w2 _ => ?_, fun w2 => by simp [Builtin.lenOf, strOf_size], by simpa using bytesA_VRs σ len val, bytesA_flat _ _, by simp [bytesA_length]⟩
    simp only [Builtin.firstCells, Sem.run_pure]
    congr 1
    apply Array.toList_inj.1
    have hz := strOf_extract len val 0 len (Nat.zero_le _) (Nat.le_refl _)
    rw [hz]
    simp only [Nat.pow_zero, Nat.div_one, Nat.sub_zero, Nat.mod_eq_of_lt hv, Array.toList_map, strOf_data]
  · subst e1
    cases hx
    exact ⟨#[], fun w2 _ => rfl, fun w2 => rfl, .nil, by simp, by simp⟩
  · subst e1
    cases hx with | sk _ _ _ _ o l hl hc ho => exact core id off len cap o l hl ho hc
  · subst e1
    cases hx with | su _ _ _ _ cap o l hl hc hsz ho => exact core id off len cap o l hl ho hc

/-- The parts of an append that allocates. -/
theorem run_append_grows {t u ty e : TypeId} {du : TypeDesc} {i : TypeInfo} {z : Value} {es : Nat} (ht : X.P.underlying t = some (.slice e)) (hu : X.P.underlying u = some du) (hdu : ∀ k, du ≠ .int k)
    (hi : X.P.info? e = some i) (hz : i.zero = some z) (hes : i.size = es) (hb : i.bytes ≤ 1048576) {ts : Array TypeId} (h0 : ts[0]? = some t) (h1 : ts[1]? = some u)
    {base : Option Addr} {len cap n : Nat} (hgt : cap < len + n) (hsm : len + n < 1048576) {old new : Array Value}
    (ho : ∀ w2 : World, w2.heap = w.heap → (Builtin.firstCells es len (.slice base len cap)).run X.P w2 = .ok old w2) (hn : ∀ w2 : World, w2.heap = w.heap → (Builtin.firstCells es n x').run X.P w2 = .ok new w2)
    (hl : ∀ w2 : World, (Builtin.lenOf x').run X.P w2 = .ok n w2) :
    ∃ newCap, len + n ≤ newCap ∧ (Builtin.append_ ts ty #[.slice base len cap, x']).run X.P w =
      .ok (.slice (some ⟨w.heap.size, 0, none⟩) (len + n) newCap) { w with heap := w.heap.push (.cells (old ++ new ++ Builtin.zeroCells z.cells (newCap - (len + n))) e), drawn := w.drawn + 1 } := by
  refine ⟨grownCap w (len + n) cap e, grownCap_ge _ _ _ _, ?_⟩
  have hm : (du matches .int _) = false := by cases du <;> first | rfl | exact absurd rfl (hdu _)
  have hsz : (sizeOf e).run X.P w = .ok es w := TySize.run ⟨i, hi, hes⟩
  have hfit : Builtin.nextslicecap (len + n) cap * i.bytes ≤ 281474976710656 := growslice_fits hgt (Nat.le_trans (Nat.mul_le_mul (Nat.le_of_lt hsm) hb) (by decide))
  unfold Builtin.append_
  simp only [h0, h1, List.getElem?_toArray, List.getElem?_cons_zero, List.getElem?_cons_succ, Sem.run_bind, run_und ht, Result.andThen_ok, hsz, run_und hu, Sem.run_pure, hm, Bool.false_eq_true, if_false, hl]
  rw [Sem.run_ite, if_neg (by omega)]
  simp only [Sem.run_bind, run_tyInfo hi, Result.andThen_ok, Bool.false_eq_true, false_or]
  rw [Sem.run_ite, if_neg (by rintro ⟨h1, _⟩; simp [IntKind.max, IntKind.signed, IntKind.bits] at h1; omega)]
  simp only [Sem.run_bind, Sem.run_pure, run_tyInfo hi, Result.andThen_ok]
  rw [Sem.run_ite, if_neg (by omega)]
  simp only [Sem.run_bind, Sem.run_pure, run_tyInfo hi, Result.andThen_ok, run_choose, Question.forced, Bool.false_eq_true, if_false, run_askRoom]
  rw [ho { w with drawn := w.drawn + 1 } rfl]
  simp only [Result.andThen_ok, Bool.not_false, if_true]
  rw [hn { w with drawn := w.drawn + 1 } rfl]
  simp only [Result.andThen_ok, run_zeroOf hi hz, newRow, Sem.run_bind, run_newObj, Sem.run_pure]
  rfl
theorem run_append_fits {t u ty e : TypeId} {du : TypeDesc} {es : Nat} (ht : X.P.underlying t = some (.slice e)) (hu : X.P.underlying u = some du) (hdu : ∀ k, du ≠ .int k)
    (hes : TySize X.P e es) {ts : Array TypeId} (h0 : ts[0]? = some t) (h1 : ts[1]? = some u)
    {base : Option Addr} {len cap n : Nat} (hle : len + n ≤ cap) {new : Array Value}
    (hn : (Builtin.firstCells es n x').run X.P w = .ok new w) (hl : ∀ w2 : World, (Builtin.lenOf x').run X.P w2 = .ok n w2) :
    (Builtin.append_ ts ty #[.slice base len cap, x']).run X.P w = match base with
      | some a => ((storeCells (a.add (len * es)) new.toList).run X.P w).andThen fun _ w' => .ok (.slice base (len + n) cap) w'
      | none => .ok (.slice none (len + n) cap) w := by
  have hm : (du matches .int _) = false := by cases du <;> first | rfl | exact absurd rfl (hdu _)
  unfold Builtin.append_
  simp only [h0, h1, List.getElem?_toArray, List.getElem?_cons_zero, List.getElem?_cons_succ, Sem.run_bind, run_und ht, Result.andThen_ok, hes.run, run_und hu, Sem.run_pure, hm, Bool.false_eq_true, if_false, hl]
  rw [Sem.run_ite, if_pos hle]
  simp only [Sem.run_bind, Bool.not_false, if_true, hn, Result.andThen_ok]
  cases base with
  | none => rfl
  | some a => simp only [Sem.run_bind, Sem.run_pure]

theorem g_append {t u ty e : TypeId} {du : TypeDesc} {i : TypeInfo} {z : Value} {es : Nat} (ht : X.P.underlying t = some (.slice e)) (hu : X.P.underlying u = some du) (hdu : ∀ k, du ≠ .int k)
    (hi : X.P.info? e = some i) (hz : i.zero = some z) (hes : i.size = es) (hzs : z.cells.size = es) (hb : i.bytes ≤ 1048576) {ts : Array TypeId} (h0 : ts[0]? = some t) (h1 : ts[1]? = some u)
    (h : HR X σ A w) (hx : VR σ x x') (hy : VR σ y y') :
    Good (fun K => appendA A es e x y fun v A' => K (v, A')) (VSound X σ A w (Builtin.append_ ts ty #[x', y'])) := by
  have hsize : TySize X.P e es := ⟨i, hi, hes⟩
  refine Good.iff fun hes0 => Good.bind (r := fun K => srcOf A es y fun new n => K (new, n)) (Q := fun p => SrcOk X σ w es y' p.1 p.2) (s := fun p K => AM.iff (lt p.2 1048576) .fail
    (Nat.rec (motive := fun _ => Res)
      (AM.asSl .fail x (K (AV.sl0, A)) (fun id off len cap => K (AV.sk id off len cap, A)) (fun id off len e => AM.iff (Nat.beq e es) .fail (K (AV.su id off len e, A))))
      (fun _ _ => AM.asSl .fail x
        (AM.newO A (.cells p.1 e 1) fun id A' => K (AV.su id 0 p.2 es, A'))
        (fun id off len cap => AM.force (Nat.add len p.2) fun t => AM.iff (lt t 1048576) .fail (Bool.rec (motive := fun _ => Res)
          (AM.rd A id off (Nat.mul len es) fun old => AM.appL old p.1 fun cs => AM.newO A (.cells cs e 1) fun id' A' => K (AV.su id' 0 t es, A'))
          (AM.wr A id (Nat.add off (Nat.mul len es)) p.1 fun A' => K (AV.sk id off t cap, A')) (Nat.ble t cap)))
        (fun id off len e0 => AM.iff (Nat.beq e0 es) .fail (AM.force (Nat.add len p.2) fun t => AM.iff (lt t 1048576) .fail
          (AM.cellsOf A id fun cs el fz => Nat.rec (motive := fun _ => Res) .fail
            (fun _ _ => AM.iff (Nat.beq el e) .fail (AM.dropL .fail off cs fun r => AM.takeL .fail (Nat.mul len es) r fun old => AM.appL old p.1 fun cs' => AM.newO (put A id none) (.cells cs' e 1) fun id' A' => K (AV.su id' 0 t es, A')))
            fz)))) p.2)) (g_src h hy) fun ⟨new, n⟩ hsrc => Good.iff fun hn => ?_
  obtain ⟨new', s1, s2, s3, s4, s5⟩ := hsrc
  replace s5 : new.length = n * es := s5
  have hes1 : 0 < es := lt_iff.1 hes0
  have hn' : n < 1048576 := lt_iff.1 hn
  -- the concrete row of a new array
  have grow : ∀ {base : Option Addr} {len cap : Nat} {old : Array Value} {olda : List AV} (A1 : AW), HR X σ A1 w → Ext σ A w σ A1 w → A1.next < 32768 → cap < len + n → len + n < 1048576 →
      (∀ w2 : World, w2.heap = w.heap → (Builtin.firstCells es len (.slice base len cap)).run X.P w2 = .ok old w2) → VRs σ olda old.toList → (∀ a, a ∈ olda → flatA a = true) → old.size = len * es →
      VSound X σ A w (Builtin.append_ ts ty #[.slice base len cap, y']) (AV.su A1.next 0 (len + n) es, addO A1 (.cells (olda ++ new) e 1)) := by
    intro base len cap old olda A1 hA1 hE hnext hgt hsm ho hro hfo hso
    obtain ⟨nc, hnc, hrun⟩ := run_append_grows (ty := ty) ht hu hdu hi hz hes hb h0 h1 hgt hsm ho s1 s2
    have hns : new'.size = n * es := by have := s3.length; simp at this; omega
    have hsz : (old ++ new' ++ Builtin.zeroCells z.cells (nc - (len + n))).size = nc * es := by
      simp only [Array.size_append, size_zeroCells, hso, hns, hzs]
      rw [← Nat.add_mul, ← Nat.add_mul]
      congr 1; omega
    have hcells : ∀ (i : Nat) (a : AV), (olda ++ new)[i]? = some a → flatA a = true ∧ ∃ v, (old ++ new' ++ Builtin.zeroCells z.cells (nc - (len + n)))[0 + i]? = some v ∧ VR σ a v := by
      intro i a ha
      refine ⟨?_, ?_⟩
      · rcases List.mem_append.1 (List.mem_of_getElem? ha) with hm | hm
        · exact hfo a hm
        · exact s4 a hm
      · obtain ⟨v, k1, k2⟩ := (hro.append s3).get i a ha
        refine ⟨v, ?_, k2⟩
        have hlt := (List.getElem?_eq_some_iff.1 k1).1
        rw [Nat.zero_add, Array.getElem?_append_left (by simp at hlt ⊢; omega), ← Array.getElem?_toList, Array.toList_append]
        exact k1
    obtain ⟨r1, r2, _⟩ := hA1.new (w' := { w with heap := w.heap.push (.cells (old ++ new' ++ Builtin.zeroCells z.cells (nc - (len + n))) e), drawn := w.drawn + 1 }) (.cells (olda ++ new) e 1)
      (.cells (old ++ new' ++ Builtin.zeroCells z.cells (nc - (len + n))) e) _ hnext (.cells _ _ _ _ (0, 0) rfl hcells (fun _ i _ => by simp) fun h => by cases h) rfl
    exact ⟨_, _, _, hrun, .su _ 0 (len + n) es nc 0 ⟨w.heap.size, 0, (old ++ new' ++ Builtin.zeroCells z.cells (nc - (len + n))).size⟩ (by simp [ext]) hnc (by simp only [hsz]; omega) (.inl rfl), r1, hE.trans r2⟩
  cases n with
  | zero =>
    have hnew : new' = #[] := by
      have := s3.length
      rw [s5, Nat.zero_mul] at this
      exact Array.size_eq_zero_iff.1 (by simpa using this.symm)
    subst hnew
    have fits : ∀ (base : Option Addr) (len cap : Nat), len ≤ cap → (Builtin.append_ ts ty #[.slice base len cap, y']).run X.P w = .ok (.slice base len cap) w := by
      intro base len cap hle
      rw [run_append_fits ht hu hdu hsize h0 h1 (n := 0) hle (s1 w rfl) s2]
      cases base with
      | none => rfl
      | some a => simp [storeCells]
    refine Good.asSl (r0 := fun K => K (AV.sl0, A)) (rk := fun id off len cap K => K (AV.sk id off len cap, A)) (ru := fun id off len e K => AM.iff (Nat.beq e es) .fail (K (AV.su id off len e, A)))
      (fun e1 => Good.ret ?_) (fun id off len cap e1 => Good.ret ?_) (fun id off len e0 e1 => Good.iff fun _ => Good.ret ?_)
    · subst e1; cases hx; exact .pure h (fits _ _ _ (Nat.le_refl _)) .sl0
    · subst e1
      have hx' := hx
      cases hx with | sk _ _ _ _ o l hl hc ho => exact .pure h (fits _ _ _ hc) hx'
    · subst e1
      have hx' := hx
      cases hx with | su _ _ _ _ cap o l hl hc hsz ho => exact .pure h (fits _ _ _ hc) hx'
  | succ n0 =>
    refine Good.asSl (r0 := fun K => AM.newO A (.cells new e 1) fun id A' => K (AV.su id 0 (n0 + 1) es, A'))
      (rk := fun id off len cap K => AM.force (Nat.add len (n0 + 1)) fun t => AM.iff (lt t 1048576) .fail (Bool.rec (motive := fun _ => Res)
          (AM.rd A id off (Nat.mul len es) fun old => AM.appL old new fun cs => AM.newO A (.cells cs e 1) fun id' A' => K (AV.su id' 0 t es, A'))
          (AM.wr A id (Nat.add off (Nat.mul len es)) new fun A' => K (AV.sk id off t cap, A')) (Nat.ble t cap)))
      (ru := fun id off len e0 K => AM.iff (Nat.beq e0 es) .fail (AM.force (Nat.add len (n0 + 1)) fun t => AM.iff (lt t 1048576) .fail
          (AM.cellsOf A id fun cs el fz => Nat.rec (motive := fun _ => Res) .fail
            (fun _ _ => AM.iff (Nat.beq el e) .fail (AM.dropL .fail off cs fun r => AM.takeL .fail (Nat.mul len es) r fun old => AM.appL old new fun cs' => AM.newO (put A id none) (.cells cs' e 1) fun id' A' => K (AV.su id' 0 t es, A')))
            fz))) (fun e1 => ?_) (fun id off len cap e1 => ?_) (fun id off len e0 e1 => ?_)
    · subst e1
      cases hx
      refine Good.newO (r := fun id A' K => K (AV.su id 0 (n0 + 1) es, A')) fun hnext => Good.ret ?_
      have := grow (base := none) (len := 0) (cap := 0) (old := #[]) (olda := []) A h (.refl _ _ _) hnext (by omega) (by omega) (fun w2 _ => rfl) .nil (by simp) (by simp)
      simpa using this
    · subst e1
      cases hx with | sk _ _ _ _ o l hl hc ho =>
      refine Good.force (r := fun t K => AM.iff (lt t 1048576) .fail (Bool.rec (motive := fun _ => Res)
          (AM.rd A id off (Nat.mul len es) fun old => AM.appL old new fun cs => AM.newO A (.cells cs e 1) fun id' A' => K (AV.su id' 0 t es, A'))
          (AM.wr A id (Nat.add off (Nat.mul len es)) new fun A' => K (AV.sk id off t cap, A')) (Nat.ble t cap))) (Good.iff fun ht' => Good.ite (fun hgt => ?_) fun hle => ?_)
      · have htt : len + (n0 + 1) < 1048576 := lt_iff.1 ht'
        have hgt' : cap < len + (n0 + 1) := by
          rcases Nat.lt_or_ge cap (len + (n0 + 1)) with h | h
          · exact h
          · have : Nat.ble (Nat.add len (n0 + 1)) cap = true := ble_iff.2 h
            rw [this] at hgt; cases hgt
        have hsrc := g_src (es := es) h (VR.sk id off len cap o l hl hc ho)
        refine Good.bind (r := fun K => AM.rd A id off (Nat.mul len es) fun cs => K (cs, len)) (Q := fun p => SrcOk X σ w es (.slice (some ⟨l.block, o, none⟩) len cap) p.1 p.2 ∧ p.2 = len)
          (s := fun p K => AM.appL p.1 new fun cs => AM.newO A (.cells cs e 1) fun id' A' => K (AV.su id' 0 (Nat.add len (n0 + 1)) es, A')) ?_ fun ⟨olda, len'⟩ ⟨hold, hlen⟩ =>
          Good.appL (r := fun cs K => AM.newO A (.cells cs e 1) fun id' A' => K (AV.su id' 0 (Nat.add len (n0 + 1)) es, A')) (Good.newO (r := fun id' A' K => K (AV.su id' 0 (Nat.add len (n0 + 1)) es, A')) fun hnext => Good.ret ?_)
        · rcases hsrc with hs | ⟨p, hs1, hs2⟩
          · exact .inl hs
          · refine .inr ⟨p, hs1, hs2, ?_⟩
            obtain ⟨_, _, q2, _⟩ := hs2
            have := q2 w
            simp [Builtin.lenOf] at this
            exact this.symm
        · simp only at hlen hold
          subst hlen
          obtain ⟨old', q1, _, q3, q4, q5⟩ := hold
          exact grow A h (.refl _ _ _) hnext hgt' htt q1 q3 q4 (by have := q3.length; simp at this; omega)
      · have hle' : len + (n0 + 1) ≤ cap := ble_iff.1 hle
        have ho' : o = l.shift + off := ho.resolve_right (by omega)
        subst ho'
        refine Good.wr (r := fun A' K => K (AV.sk id off (Nat.add len (n0 + 1)) cap, A')) fun cs el fz hz hg hfit => Good.ret ?_
        obtain ⟨w', r1, r2, r3⟩ := h.write hz hg hl hfit s3 s4
        refine ⟨σ, .slice (some ⟨l.block, l.shift + off, none⟩) (len + (n0 + 1)) cap, w', ?_, .sk id off _ cap _ l hl hle' (.inl rfl), r2, r3⟩
        rw [run_append_fits ht hu hdu hsize h0 h1 hle' (s1 w rfl) s2]
        simp only [addr_add]
        rw [Nat.add_assoc]
        rw [show off + len * es = Nat.add off (Nat.mul len es) from rfl, r1]
        rfl
    · subst e1
      cases hx with | su _ _ _ _ cap o l hl hc hsz ho =>
      refine Good.iff fun hee => Good.force (r := fun t K => AM.iff (lt t 1048576) .fail
          (AM.cellsOf A id fun cs el fz => Nat.rec (motive := fun _ => Res) .fail
            (fun _ _ => AM.iff (Nat.beq el e) .fail (AM.dropL .fail off cs fun r => AM.takeL .fail (Nat.mul len es) r fun old => AM.appL old new fun cs' => AM.newO (put A id none) (.cells cs' e 1) fun id' A' => K (AV.su id' 0 t es, A')))
            fz)) (Good.iff fun ht' => Good.cellsOf (r := fun cs el fz K => Nat.rec (motive := fun _ => Res) .fail
            (fun _ _ => AM.iff (Nat.beq el e) .fail (AM.dropL .fail off cs fun r => AM.takeL .fail (Nat.mul len es) r fun old => AM.appL old new fun cs' => AM.newO (put A id none) (.cells cs' e 1) fun id' A' => K (AV.su id' 0 (Nat.add len (n0 + 1)) es, A')))
            fz) fun cs el fz hg => Good.nat0 (r := fun K => AM.iff (Nat.beq el e) .fail (AM.dropL .fail off cs fun r => AM.takeL .fail (Nat.mul len es) r fun old => AM.appL old new fun cs' => AM.newO (put A id none) (.cells cs' e 1) fun id' A' => K (AV.su id' 0 (Nat.add len (n0 + 1)) es, A'))) (fun hfz => Good.iff fun hel =>
          Good.dropL (r := fun r K => AM.takeL .fail (Nat.mul len es) r fun old => AM.appL old new fun cs' => AM.newO (put A id none) (.cells cs' e 1) fun id' A' => K (AV.su id' 0 (Nat.add len (n0 + 1)) es, A')) fun hd1 =>
          Good.takeL (r := fun old K => AM.appL old new fun cs' => AM.newO (put A id none) (.cells cs' e 1) fun id' A' => K (AV.su id' 0 (Nat.add len (n0 + 1)) es, A')) fun hd2 =>
          Good.appL (r := fun cs' K => AM.newO (put A id none) (.cells cs' e 1) fun id' A' => K (AV.su id' 0 (Nat.add len (n0 + 1)) es, A')) (Good.newO (r := fun id' A' K => K (AV.su id' 0 (Nat.add len (n0 + 1)) es, A')) fun hnext => Good.ret ?_)))
      have := beq_iff.1 hee
      subst this
      have := beq_iff.1 hel
      subst this
      have htt : len + (n0 + 1) < 1048576 := lt_iff.1 ht'
      have hfit : off + len * e0 ≤ cs.length := by rw [List.length_drop] at hd2; have : Nat.mul len e0 = len * e0 := rfl; omega
      obtain ⟨c, fr, hlv, hblk, hcs, hcells, hfr, _⟩ := h.cells hg hl
      obtain ⟨q1, q2, q3⟩ := cells_rel hcells hfit
      rw [show Nat.mul len e0 = len * e0 from rfl]
      by_cases hle : len + (n0 + 1) ≤ cap
      · -- in place
        have ho' : o = l.shift + off := ho.resolve_right (by omega)
        subst ho'
        have hnl : new'.toList.length = (n0 + 1) * e0 := by rw [← s3.length, s5]
        have hmul : (len + (n0 + 1)) * e0 ≤ cap * e0 := Nat.mul_le_mul_right _ hle
        have hmul2 : (len + (n0 + 1)) * e0 = len * e0 + (n0 + 1) * e0 := Nat.add_mul _ _ _
        have hfv : ∀ v, v ∈ new'.toList → flatV v = true := by
          intro v hv
          obtain ⟨i, hi⟩ := List.mem_iff_getElem?.1 hv
          have hi' : i < new.length := by rw [s3.length]; exact (List.getElem?_eq_some_iff.1 hi).1
          obtain ⟨v2, k1, k2⟩ := s3.get i _ (List.getElem?_eq_getElem hi')
          rw [hi] at k1; cases k1
          exact k2.flat (s4 _ (List.getElem_mem hi'))
        obtain ⟨w', c', k1, k2, k3, k4, k5, k7, k6⟩ := run_storeCells (P := X.P) new'.toList w c 0 hblk (o := l.shift + off + len * e0) (by omega) (fun j _ h2 => hfr hfz j (by omega)) hfv
        have hmv := h.move (w' := w') hlv hl (l' := ⟨l.block, l.shift + off, l.size⟩) rfl (.cells ((cs.drop off).take (len * e0) ++ new) el 1) (.cells c' el fr) hnext
          (.cells _ _ _ _ _ (by rw [k5, hcs]) (fun i a ha => ?_) (fun _ => by rw [k5]; exact hfr hfz) fun h => by cases h) k2 k3 k4 k7
        · refine ⟨_, .slice (some ⟨l.block, l.shift + off, none⟩) (len + (n0 + 1)) cap, w', ?_, .su _ 0 _ e0 cap _ ⟨l.block, l.shift + off, l.size⟩ (by simp [ext, put]) hle (by simp only []; omega) (.inl rfl), hmv.1, hmv.2.1⟩
          rw [run_append_fits ht hu hdu hsize h0 h1 hle (s1 w rfl) s2]
          simp only [addr_add]
          rw [k1]
          rfl
        · by_cases hi : i < len * e0
          · rw [List.getElem?_append_left (by simp; omega)] at ha
            obtain ⟨v, m1, m2⟩ := q1.get i a ha
            refine ⟨q2 a (List.mem_of_getElem? ha), v, ?_, m2⟩
            rw [k6, if_neg (by simp only []; omega)]
            rw [Array.getElem?_toList, Array.getElem?_extract, if_pos (by have := cells_fit hcells (by omega); omega)] at m1
            exact m1
          · rw [List.getElem?_append_right (by simp; omega)] at ha
            have hlt : (((cs.drop off).take (len * e0)).length) = len * e0 := by simp; omega
            rw [hlt] at ha
            obtain ⟨v, m1, m2⟩ := s3.get _ a ha
            refine ⟨s4 a (List.mem_of_getElem? ha), v, ?_, m2⟩
            have := (List.getElem?_eq_some_iff.1 m1).1
            rw [k6, if_pos (by simp only []; omega)]
            rw [← m1]
            congr 1
            simp only []; omega
      · -- a new array
        obtain ⟨d1, d2⟩ := h.drop (id := id) hlv.1
        refine grow (put A id none) d1 d2 hnext (by omega) htt (old := c.extract (l.shift + off) (l.shift + off + len * e0)) (fun w2 hw => ?_) q1 q2 q3
        by_cases h00 : len * e0 = 0
        · simp only [Builtin.firstCells, h00]
          have e00 : c.extract (l.shift + off) (l.shift + off + 0) = #[] := by simp; omega
          rw [e00]
          simp [loadCells, loadCellsFrom]
        · have hlen0 : len ≠ 0 := fun hz => h00 (by rw [hz, Nat.zero_mul])
          have ho' : o = l.shift + off := ho.resolve_right (by omega)
          subst ho'
          have := cells_fit hcells (by omega)
          exact (run_loadCells (P := X.P) (w := w2) (b := l.block) (o := l.shift + off) (n := len * e0) (by rw [hw]; exact hblk) (by omega))
end
end
section
section
variable {X : Par} {σ : Sg} {A : AW} {w : World} {x y : AV} {x' y' : Value}

/-! ## Maps -/
def KeyTy (P : Program) (kt : TypeId) (str : Bool) : Prop := if str = true then P.underlying kt = some .string else ∃ k, P.underlying kt = some (.int k)
theorem KeyTy.und {P : Program} {kt : TypeId} {str : Bool} (h : KeyTy P kt str) : ∃ d, P.underlying kt = some d ∧ ((str = true ∧ d = .string) ∨ (str = false ∧ ∃ k, d = .int k)) := by
  cases str with
  | true => exact ⟨_, h, .inl ⟨rfl, rfl⟩⟩
  | false =>
    have : ∃ k, P.underlying kt = some (.int k) := h
    obtain ⟨k, hk⟩ := this; exact ⟨_, hk, .inr ⟨rfl, k, rfl⟩⟩
theorem run_checkKeyTy {P : Program} {w : World} {kt : TypeId} {str : Bool} (h : KeyTy P kt str) (b : Bool) (v : Value) : (Instr.checkKey b 10000 kt v).run P w = .ok () w := by
  obtain ⟨d, hd, hh⟩ := h.und
  have key : ∀ n, (Instr.checkKey b (n + 1) kt v).run P w = .ok () w := by
    intro n
    rcases hh with ⟨_, rfl⟩ | ⟨_, k, rfl⟩ <;> simp [Instr.checkKey, run_und hd]
  exact key 9999
/-- One key against another. -/
theorem Good.eqKey {α : Type} {Q : α → Prop} {str : Bool} {d : TypeDesc} (hd : (str = true ∧ d = .string) ∨ (str = false ∧ ∃ k, d = .int k)) {r : Bool → (α → Res) → Res} (hx : VR σ x x') (hy : VR σ y y')
    (h : ∀ c, Instr.sameNow d x' y' = some c → (c = true → ∀ n, Instr.sameBits (n + 1) y' x' = true) → Good (r c) Q) : Good (fun K => AM.eqKey str x y fun c => r c K) Q := by
  rcases hd with ⟨rfl, rfl⟩ | ⟨rfl, k0, rfl⟩
  · refine Good.asS (r := fun la va K => AM.asS .fail y fun lb vb => r (andB (Nat.beq la lb) (Nat.beq va vb)) K) fun la va e1 => Good.asS (r := fun lb vb K => r (andB (Nat.beq la lb) (Nat.beq va vb)) K) fun lb vb e2 => ?_
    subst e1 e2
    cases hx with | s _ _ ha => cases hy with | s _ _ hb =>
    refine h _ (by simp [Instr.sameNow, strOf_eqv ha hb]) fun hc n => ?_
    rw [andB_eq, Bool.and_eq_true, beq_iff, beq_iff] at hc
    obtain ⟨rfl, rfl⟩ := hc
    simp only [Instr.sameBits]
    rw [strOf_eqv hb hb, andB_eq, Bool.and_eq_true, beq_iff, beq_iff]
    exact ⟨rfl, rfl⟩
  · refine Good.asI (r := fun k n K => AM.asI .fail y fun k' n' => AM.iff (sameK k k') .fail (r (Nat.beq n n') K)) fun k n e1 => Good.asI (r := fun k' n' K => AM.iff (sameK k k') .fail (r (Nat.beq n n') K)) fun k' n' e2 => Good.iff fun hk => ?_
    subst e1 e2
    have := sameK_iff.1 hk
    subst this
    cases hx with | i _ _ ha => cases hy with | i _ _ hb =>
    refine h _ ?_ fun hc m => ?_
    · simp only [Instr.sameNow, if_true]
      congr 1
      rw [Bool.eq_iff_iff, beq_iff_eq, beq_iff, wrap_inj _ _ _ ha hb]
    · rw [beq_iff] at hc
      subst hc
      simp [Instr.sameBits]
/-- A key looked for. -/
theorem Good.findK {α : Type} {Q : α → Prop} {str : Bool} {d : TypeDesc} (hd : (str = true ∧ d = .string) ∨ (str = false ∧ ∃ k, d = .int k)) {rk : Nat → AV → (α → Res) → Res} {r0 : (α → Res) → Res} (hx : VR σ x x')
    {es : List (AV × AV × Nat)} {es' : List MapEntry} (hm : MRs σ es es') :
    ∀ (i : Nat), (∀ j v v', Instr.findNow d x' es' i = some (some (j, v')) → VR σ v v' → (∃ e', es'[j - i]? = some e' ∧ i ≤ j ∧ ∀ n, Instr.sameBits (n + 1) e'.key x' = true) → Good (rk j v) Q) →
      (Instr.findNow d x' es' i = some none → Good r0 Q) → Good (fun K => AM.findK str x es i (fun j v => rk j v K) (r0 K)) Q := by
  induction hm with
  | nil => intro i _ h0; exact h0 rfl
  | cons k v b k' v' es es' hk hv hs ih =>
    intro i h1 h0
    refine Good.eqKey hd (r := fun c K => Bool.rec (motive := fun _ => Res) (AM.findK str x es (Nat.succ i) (fun j v => rk j v K) (r0 K)) (rk i v K) c) hx hk fun c hc hsb => Good.ite (fun hf => ?_) fun ht => ?_
    · subst hf
      refine ih (i + 1) (fun j u u' hj hu ⟨e', he, hle, hb⟩ => h1 j u u' ?_ hu ⟨e', ?_, by omega, hb⟩) fun hn => h0 ?_
      · simp only [Instr.findNow, hc]; exact hj
      · rw [show j - i = (j - (i + 1)) + 1 by omega, List.getElem?_cons_succ]; exact he
      · simp only [Instr.findNow, hc]; exact hn
    · subst ht
      exact h1 i v v' (by simp only [Instr.findNow, hc]) hv ⟨_, by rw [Nat.sub_self]; rfl, Nat.le_refl _, hsb rfl⟩
theorem run_findKey {P : Program} {w : World} {kt : TypeId} {d : TypeDesc} (hd : P.underlying kt = some d) {k : Value} {es : List MapEntry} {r : Option (Nat × Value)} (h : Instr.findNow d k es 0 = some r) :
    (Instr.findKey kt k es).run P w = .ok r w := by simp [Instr.findKey, run_und hd, h]

/-- A value as it is read when absent. -/
def ZeroV (P : Program) (t : TypeId) (a : AV) : Prop := ∃ i z, P.info? t = some i ∧ i.zero = some z ∧ VR (fun _ => none) a z

theorem g_lookup {t kt e : TypeId} {str ok : Bool} {zero : AV} (ht : X.P.underlying t = some (.map kt e)) (hk : KeyTy X.P kt str) (hz : ZeroV X.P e zero) (h : HR X σ A w) (hx : VR σ x x') (hy : VR σ y y') :
    Good (fun K => AM.asM .fail x fun id => AM.mapOf A id fun es _ => AM.findK str y es 0 (fun _ v => K (Bool.rec (motive := fun _ => AV) v (.tup [v, .b true]) ok, A)) (K (Bool.rec (motive := fun _ => AV) zero (.tup [zero, .b false]) ok, A)))
      (VSound X σ A w (Instr.lookup t x' y' ok)) := by
  obtain ⟨d, hd, hh⟩ := hk.und
  obtain ⟨i, z, i1, i2, i3⟩ := hz
  refine Good.asM (r := fun id K => AM.mapOf A id fun es _ => AM.findK str y es 0 (fun _ v => K (Bool.rec (motive := fun _ => AV) v (.tup [v, .b true]) ok, A)) (K (Bool.rec (motive := fun _ => AV) zero (.tup [zero, .b false]) ok, A))) fun id e1 =>
    Good.mapOf (r := fun es _ K => AM.findK str y es 0 (fun _ v => K (Bool.rec (motive := fun _ => AV) v (.tup [v, .b true]) ok, A)) (K (Bool.rec (motive := fun _ => AV) zero (.tup [zero, .b false]) ok, A))) fun es c hg => ?_
  subst e1
  cases hx with | m _ l hs =>
  obtain ⟨es', _, hb, hm⟩ := h.map hg hs
  refine Good.findK hh (rk := fun _ v K => K (Bool.rec (motive := fun _ => AV) v (.tup [v, .b true]) ok, A)) (r0 := fun K => K (Bool.rec (motive := fun _ => AV) zero (.tup [zero, .b false]) ok, A)) hy hm 0 (fun j v v' hj hv _ => Good.ret ?_) fun hn => Good.ret ?_
  · refine .pure h (v' := if ok then .tuple #[v', .bool true] else v') ?_ ?_
    · simp only [Instr.lookup, Sem.run_bind, run_und ht, Result.andThen_ok, run_getObj hb (by simp), Sem.run_pure, run_checkKeyTy hk, run_findKey hd hj]
    · cases ok
      · exact hv
      · exact .tup _ _ (.cons _ _ _ _ hv (.cons _ _ _ _ (.b true) .nil))
  · refine .pure h (v' := if ok then .tuple #[z, .bool false] else z) ?_ ?_
    · simp only [Instr.lookup, Sem.run_bind, run_und ht, Result.andThen_ok, run_getObj hb (by simp), Sem.run_pure, run_checkKeyTy hk, run_findKey hd hn, run_zeroOf i1 i2]
    · cases ok
      · exact i3.lit
      · exact .tup _ _ (.cons _ _ _ _ i3.lit (.cons _ _ _ _ (.b false) .nil))

theorem MRs.modify {es : List (AV × AV × Nat)} {es' : List MapEntry} (h : MRs σ es es') (hx : VR σ x x') (hy : VR σ y y') :
    ∀ i, MRs σ (es.modify i fun e => (x, y, e.2.2)) (es'.modify i fun e => { e with key := x', val := y' }) := by
  induction h with
  | nil => intro i; cases i <;> exact .nil
  | cons k v b k' v' es es' hk hv hs ih =>
    intro i
    cases i with
    | zero => exact .cons _ _ _ _ _ _ _ hx hy hs
    | succ i => exact .cons _ _ _ _ _ _ _ hk hv (ih i)
theorem MRs.push {es : List (AV × AV × Nat)} {es' : List MapEntry} (h : MRs σ es es') (hx : VR σ x x') (hy : VR σ y y') (b : Nat) : MRs σ (es ++ [(x, y, b)]) (es' ++ [{ key := x', val := y', born := b }]) := by
  induction h with
  | nil => exact .cons _ _ _ _ _ _ _ hx hy .nil
  | cons k v b k' v' es es' hk hv hs ih => exact .cons _ _ _ _ _ _ _ hk hv ih
theorem MRs.erase {es : List (AV × AV × Nat)} {es' : List MapEntry} (h : MRs σ es es') : ∀ i, MRs σ (es.eraseIdx i) (es'.eraseIdx i) := by
  induction h with
  | nil => intro i; exact .nil
  | cons k v b k' v' es es' hk hv hs ih =>
    intro i
    cases i with
    | zero => exact hs
    | succ i => exact .cons _ _ _ _ _ _ _ hk hv (ih i)
theorem run_setObj {P : Program} {r : Nat} {o o' : Obj} (h : w.heap[r]? = some o) (hc : ∀ c e fr, o ≠ .cells c e fr) : (setObj r o').run P w = .ok () { w with heap := w.heap.setIfInBounds r o' } := by
  have _ := hc
  simp only [setObj, Sem.run, h]
theorem HR.setMap (h : HR X σ A w) {id : Nat} {o0 o : AO} (hl : Lv A id o0) {l : Loc} (hs : σ id = some l) {ob : Obj} (ho : OR σ l o ob) :
    HR X σ (put A id (some o)) { w with heap := w.heap.setIfInBounds l.block ob } ∧ Ext σ A w σ (put A id (some o)) { w with heap := w.heap.setIfInBounds l.block ob } := by
  have hlt := (h.dom _ _ hs).2
  have := h.set (w' := { w with heap := w.heap.setIfInBounds l.block ob }) hl hs o ob ho (by simp) (by simp [hlt]) (fun b hb => by simp [Array.getElem?_setIfInBounds_ne (Ne.symm hb)])
  exact ⟨this.1, this.2.1⟩

/-- What a step without a value says. -/
def USound (X : Par) (σ : Sg) (A : AW) (w : World) (S : Sem Unit) (p : AV × AW) : Prop :=
  ∃ σ' w', S.run X.P w = .ok () w' ∧ VR σ' p.1 undef ∧ HR X σ' p.2 w' ∧ Ext σ A w σ' p.2 w'

theorem g_mupd {t kt e : TypeId} {str : Bool} {z : AV} {z' : Value} (ht : X.P.underlying t = some (.map kt e)) (hk : KeyTy X.P kt str) (h : HR X σ A w) (hx : VR σ x x') (hy : VR σ y y') (hz : VR σ z z') :
    Good (fun K => AM.asM .fail x fun id => AM.mapOf A id fun es clock => AM.findK str y es 0
        (fun i _ => K (undefA, put A id (some (.map (es.modify i fun e => (y, z, e.2.2)) clock))))
        (K (undefA, put A id (some (.map (es ++ [(y, z, clock)]) (Nat.succ clock))))))
      (USound X σ A w (Instr.mapUpdate t x' y' z')) := by
  obtain ⟨d, hd, hh⟩ := hk.und
  refine Good.asM (r := fun id K => AM.mapOf A id fun es clock => AM.findK str y es 0
        (fun i _ => K (undefA, put A id (some (.map (es.modify i fun e => (y, z, e.2.2)) clock)))) (K (undefA, put A id (some (.map (es ++ [(y, z, clock)]) (Nat.succ clock)))))) fun id e1 =>
    Good.mapOf (r := fun es clock K => AM.findK str y es 0 (fun i _ => K (undefA, put A id (some (.map (es.modify i fun e => (y, z, e.2.2)) clock)))) (K (undefA, put A id (some (.map (es ++ [(y, z, clock)]) (Nat.succ clock)))))) fun es clock hg => ?_
  subst e1
  cases hx with | m _ l hs =>
  obtain ⟨es', hlv, hb, hm⟩ := h.map hg hs
  refine Good.findK hh (rk := fun i _ K => K (undefA, put A id (some (.map (es.modify i fun e => (y, z, e.2.2)) clock)))) (r0 := fun K => K (undefA, put A id (some (.map (es ++ [(y, z, clock)]) (Nat.succ clock))))) hy hm 0
    (fun j v v' hj hv ⟨e', he, _, hsb⟩ => Good.ret ?_) fun hn => Good.ret ?_
  · rw [Nat.sub_zero] at he
    have he' : es'[j]? = some e' := by rw [← Array.getElem?_toList]; exact he
    have hr := h.setMap hlv hs (o := .map (es.modify j fun e => (y, z, e.2.2)) clock) (ob := .map (es'.modify j fun e => { e with key := y', val := z' }) clock) (.map _ _ _ (by rw [Array.toList_modify]; exact hm.modify hy hz j))
    refine ⟨σ, _, ?_, .tup _ _ .nil, hr.1, hr.2⟩
    simp only [Instr.mapUpdate, Sem.run_bind, run_und ht, Result.andThen_ok, run_getObj hb (by simp), run_checkKeyTy hk, run_findKey hd hj, he', Option.map_some, Option.getD_some, Instr.keyThatStays, hsb 9999, if_true, Sem.run_pure,
      run_setObj hb (by simp)]
  · have hr := h.setMap hlv hs (o := .map (es ++ [(y, z, clock)]) (Nat.succ clock)) (ob := .map (es'.push { key := y', val := z', born := clock }) (clock + 1)) (.map _ _ _ (by rw [Array.toList_push]; exact hm.push hy hz clock))
    refine ⟨σ, _, ?_, .tup _ _ .nil, hr.1, hr.2⟩
    simp only [Instr.mapUpdate, Sem.run_bind, run_und ht, Result.andThen_ok, run_getObj hb (by simp), run_checkKeyTy hk, run_findKey hd hn, run_setObj hb (by simp)]

theorem g_delete {t kt e : TypeId} {str : Bool} {ts : Array TypeId} {ty : TypeId} (hts : ts[0]? = some t) (ht : X.P.underlying t = some (.map kt e)) (hk : KeyTy X.P kt str) (h : HR X σ A w) (hx : VR σ x x') (hy : VR σ y y') :
    Good (fun K => AM.asM .fail x fun id => AM.mapOf A id fun es clock => AM.findK str y es 0 (fun i _ => K (undefA, put A id (some (.map (es.eraseIdx i) clock)))) (K (undefA, A)))
      (VSound X σ A w (Builtin.delete_ ts ty #[x', y'])) := by
  obtain ⟨d, hd, hh⟩ := hk.und
  refine Good.asM (r := fun id K => AM.mapOf A id fun es clock => AM.findK str y es 0 (fun i _ => K (undefA, put A id (some (.map (es.eraseIdx i) clock)))) (K (undefA, A))) fun id e1 =>
    Good.mapOf (r := fun es clock K => AM.findK str y es 0 (fun i _ => K (undefA, put A id (some (.map (es.eraseIdx i) clock)))) (K (undefA, A))) fun es clock hg => ?_
  subst e1
  cases hx with | m _ l hs =>
  obtain ⟨es', hlv, hb, hm⟩ := h.map hg hs
  refine Good.findK hh (rk := fun i _ K => K (undefA, put A id (some (.map (es.eraseIdx i) clock)))) (r0 := fun K => K (undefA, A)) hy hm 0 (fun j v v' hj hv _ => Good.ret ?_) fun hn => Good.ret ?_
  · have hr := h.setMap hlv hs (o := .map (es.eraseIdx j) clock) (ob := .map (es'.eraseIdxIfInBounds j) clock) (.map _ _ _ (by rw [Array.toList_eraseIdxIfInBounds]; exact hm.erase j))
    refine ⟨σ, .tuple #[], _, ?_, .tup _ _ .nil, hr.1, hr.2⟩
    simp [Builtin.delete_, hts, run_und ht, run_getObj hb (by simp), run_checkKeyTy hk, run_findKey hd hj, run_setObj hb (by simp)]
  · have hlt := (h.dom _ _ hs).2
    have hsame : w.heap.setIfInBounds l.block (.map es' clock) = w.heap := by
      apply Array.ext_getElem?
      intro i
      by_cases hi : l.block = i
      · subst hi; rw [Array.getElem?_setIfInBounds_self_of_lt hlt, hb]
      · rw [Array.getElem?_setIfInBounds_ne hi]
    refine ⟨σ, .tuple #[], w, ?_, .tup _ _ .nil, h, .refl _ _ _⟩
    simp [Builtin.delete_, hts, run_und ht, run_getObj hb (by simp), run_checkKeyTy hk, run_findKey hd hn, run_setObj hb (by simp), hsame]

/-! ## Ranging -/
theorem g_rangeS {t : TypeId} (ht : X.P.underlying t = some .string) (h : HR X σ A w) (hx : VR σ x x') :
    Good (fun K => AM.asS .fail x fun len val => AM.newO A (.siter len val 0) fun id A' => K (AV.p id 0, A')) (VSound X σ A w (Instr.range t x')) := by
  refine Good.asS (r := fun len val K => AM.newO A (.siter len val 0) fun id A' => K (AV.p id 0, A')) fun len val e1 => Good.newO (r := fun id A' K => K (AV.p id 0, A')) fun hn => Good.ret ?_
  subst e1
  cases hx with | s _ _ hv =>
  obtain ⟨h1, h2, _⟩ := h.new (w' := { w with heap := w.heap.push (.stringIter (strOf len val) 0) }) (.siter len val 0) (.stringIter (strOf len val) 0) 0 hn (.siter len val 0 hv rfl) rfl
  have h3 : ext σ A.next ⟨w.heap.size, 0, 0⟩ A.next = some ⟨w.heap.size, 0, 0⟩ := by simp [ext]
  exact ⟨_, _, _, by simp only [Instr.range, Sem.run_bind, run_und ht, Result.andThen_ok, Sem.run_pure, run_newObj], .p A.next 0 ⟨w.heap.size, 0, 0⟩ h3, h1, h2⟩
theorem g_rangeM {t kt e : TypeId} (ht : X.P.underlying t = some (.map kt e)) (h : HR X σ A w) (hx : VR σ x x') :
    Good (fun K => AM.asMp .fail x (AM.newO A (.miter none 0 [] 0) fun id A' => K (AV.p id 0, A')) fun mid => AM.mapOf A mid fun _ clock => AM.newO A (.miter (some mid) clock [] clock) fun id A' => K (AV.p id 0, A'))
      (VSound X σ A w (Instr.range t x')) := by
  have h3 : ext σ A.next ⟨w.heap.size, 0, 0⟩ A.next = some ⟨w.heap.size, 0, 0⟩ := by simp [ext]
  refine Good.asMp (r0 := fun K => AM.newO A (.miter none 0 [] 0) fun id A' => K (AV.p id 0, A')) (r := fun mid K => AM.mapOf A mid fun _ clock => AM.newO A (.miter (some mid) clock [] clock) fun id A' => K (AV.p id 0, A'))
    (fun e1 => Good.newO (r := fun id A' K => K (AV.p id 0, A')) fun hn => Good.ret ?_)
    (fun mid e1 => Good.mapOf (r := fun _ clock K => AM.newO A (.miter (some mid) clock [] clock) fun id A' => K (AV.p id 0, A')) fun es clock hg => Good.newO (r := fun id A' K => K (AV.p id 0, A')) fun hn => Good.ret ?_)
  · subst e1
    cases hx
    obtain ⟨h1, h2, _⟩ := h.new (w' := { w with heap := w.heap.push (.mapIter none 0 #[] 0) }) (.miter none 0 [] 0) (.mapIter none 0 #[] 0) 0 hn (.miter0 0 [] 0 rfl) rfl
    exact ⟨_, _, _, by simp only [Instr.range, Sem.run_bind, run_und ht, Result.andThen_ok, Sem.run_pure, run_newObj], .p A.next 0 ⟨w.heap.size, 0, 0⟩ h3, h1, h2⟩
  · subst e1
    cases hx with | m _ l hs =>
    obtain ⟨es', hlv, hb, hm⟩ := h.map hg hs
    obtain ⟨h1, h2, _⟩ := h.new (w' := { w with heap := w.heap.push (.mapIter (some l.block) clock #[] clock) }) (.miter (some mid) clock [] clock) (.mapIter (some l.block) clock #[] clock) 0 hn (.miter mid l hs clock [] clock rfl) rfl
    exact ⟨_, _, _, by simp only [Instr.range, Sem.run_bind, run_und ht, Result.andThen_ok, Sem.run_pure, run_getObj hb (by simp), run_newObj], .p A.next 0 ⟨w.heap.size, 0, 0⟩ h3, h1, h2⟩
end
end
section
section
variable {X : Par} {σ : Sg} {A : AW} {w : World} {x y : AV} {x' y' : Value}

theorem HR.get (h : HR X σ A w) {id : Nat} {o : AO} (hg : getH id A.h = some o) {l : Loc} (hs : σ id = some l) : ∃ ob, Lv A id o ∧ w.heap[l.block]? = some ob ∧ OR σ l o ob := by
  have hlt : id < 32768 := Nat.lt_of_lt_of_le (h.dom _ _ hs).1 h.next
  obtain ⟨l', ob, a1, a2, a3, _⟩ := h.obj id _ ⟨hlt, hg⟩
  rw [hs] at a1; cases a1
  exact ⟨ob, ⟨hlt, hg⟩, a2, a3⟩

theorem Good.optO {α : Type} {Q : α → Prop} {o : Option AO} {rm : Option Nat → Nat → List Nat → Nat → (α → Res) → Res} (h : ∀ m since seen sp, o = some (.miter m since seen sp) → Good (rm m since seen sp) Q) :
    Good (fun K => Option.rec (motive := fun _ => Res) .fail (fun o => AO.rec (motive := fun _ => Res) (fun _ _ _ => .fail) (fun _ _ => .fail) (fun m since seen sp => rm m since seen sp K) (fun _ _ _ => .fail) o) o) Q := by
  cases o with
  | none => exact Good.no
  | some o => cases o with
    | miter m since seen sp => exact h m since seen sp rfl
    | _ => exact Good.no
theorem Good.optS {α : Type} {Q : α → Prop} {o : Option AO} {rs : Nat → Nat → Nat → (α → Res) → Res} (h : ∀ len val pos, o = some (.siter len val pos) → Good (rs len val pos) Q) :
    Good (fun K => Option.rec (motive := fun _ => Res) .fail (fun o => AO.rec (motive := fun _ => Res) (fun _ _ _ => .fail) (fun _ _ => .fail) (fun _ _ _ _ => .fail) (fun len val pos => rs len val pos K) o) o) Q := by
  cases o with
  | none => exact Good.no
  | some o => cases o with
    | siter len val pos => exact h len val pos rfl
    | _ => exact Good.no

theorem g_nextS (ty : TypeId) (h : HR X σ A w) (hx : VR σ x x') :
    Good (fun K => nextSA A x fun v A' => K (v, A')) (VSound X σ A w (Instr.next x' true ty)) := by
  unfold nextSA
  refine Good.asP (r := fun id off K => AM.iff (Nat.beq off 0) .fail (Option.rec (motive := fun _ => Res) .fail (fun o => AO.rec (motive := fun _ => Res) (fun _ _ _ => .fail) (fun _ _ => .fail)
    (fun _ _ _ _ => .fail)
    (fun len val pos => Bool.rec (motive := fun _ => Res) (K (AV.tup [.b false], A))
      (AM.force (Nat.land (Nat.shiftRight val (Nat.mul 8 pos)) 255) fun c => AM.iff (lt c 128) .fail (AM.iff (lt pos 1048576) .fail (K (AV.tup [.b true, .i .i64 pos, .i .i32 c], put A id (some (.siter len val (Nat.succ pos))))))) (lt pos len)) o) (getH id A.h)))
    fun id off e1 => Good.iff fun h0 => Good.optS (rs := fun len val pos K => Bool.rec (motive := fun _ => Res) (K (AV.tup [.b false], A))
      (AM.force (Nat.land (Nat.shiftRight val (Nat.mul 8 pos)) 255) fun c => AM.iff (lt c 128) .fail (AM.iff (lt pos 1048576) .fail (K (AV.tup [.b true, .i .i64 pos, .i .i32 c], put A id (some (.siter len val (Nat.succ pos))))))) (lt pos len))
      fun len val pos hg => ?_
  subst e1
  have h0' : off = 0 := beq_iff.1 h0
  subst h0'
  cases hx with | p _ _ l hs =>
  obtain ⟨ob, hlv, hb, ho⟩ := h.get hg hs
  cases ho with | siter _ _ _ hv hsh =>
  rw [hsh]
  refine Good.ite (r := fun K => K (AV.tup [.b false], A)) (r' := fun K => AM.force (Nat.land (Nat.shiftRight val (Nat.mul 8 pos)) 255) fun c => AM.iff (lt c 128) .fail (AM.iff (lt pos 1048576) .fail (K (AV.tup [.b true, .i .i64 pos, .i .i32 c], put A id (some (.siter len val (Nat.succ pos)))))))
    (fun hf => Good.ret ?_) fun ht => Good.force (r := fun c K => AM.iff (lt c 128) .fail (AM.iff (lt pos 1048576) .fail (K (AV.tup [.b true, .i .i64 pos, .i .i32 c], put A id (some (.siter len val (Nat.succ pos))))))) (Good.iff fun hc => Good.iff fun hp => Good.ret ?_)
  · have hnl : ¬ pos < len := fun hc => by rw [lt_iff.2 hc] at hf; cases hf
    refine .pure h (v' := .tuple #[.bool false]) ?_ (.tup _ _ (.cons _ _ _ _ (.b false) .nil))
    simp only [Instr.next, Sem.run_bind, Nat.zero_add, run_getObj hb (by simp), Result.andThen_ok, strOf_size]
    rw [Sem.run_ite, if_neg hnl]; rfl
  · have hl := lt_iff.1 ht
    have hp' := lt_iff.1 hp
    rw [land255, shr_mul8] at hc ⊢
    have hc' := lt_iff.1 hc
    have hr := h.setMap hlv hs (o := .siter len val (Nat.succ pos)) (ob := .stringIter (strOf len val) (pos + 1)) (.siter _ _ _ hv hsh)
    refine ⟨σ, .tuple #[.bool true, goInt pos, .int .i32 (((val / 256 ^ pos % 256 : Nat)) : Int)], _, ?_, .tup _ _ (.cons _ _ _ _ (.b true) (.cons _ _ _ _ (.int64 σ pos (by omega)) (.cons _ _ _ _ ?_ .nil))), hr.1, hr.2⟩
    · have hsz : pos < (strOf len val).size := by rw [strOf_size]; exact hl
      have hget : (strOf len val)[pos]'hsz = UInt8.ofNat (val / 256 ^ pos % 256) := by
        have := strOf_get len val pos hl
        rw [getElem?_pos (strOf len val) pos hsz] at this
        exact Option.some.inj this
      have hnat : ((strOf len val)[pos]'hsz).toNat = val / 256 ^ pos % 256 := by rw [hget]; simp
      have hdec := decode_ascii (strOf len val) pos hsz (by rw [hnat]; exact hc')
      rw [hnat] at hdec
      simp only [Instr.next, Sem.run_bind, Nat.zero_add, run_getObj hb (by simp), Result.andThen_ok, strOf_size]
      rw [Sem.run_ite, if_pos hl]
      simp only [hdec, Sem.run_bind, run_setObj hb (by simp), Result.andThen_ok, Sem.run_pure]
    · have := VR.i (σ := σ) .i32 (val / 256 ^ pos % 256) (by simp only [modK]; omega)
      rwa [wrap_nat (k := .i32) (by show _ < 0x80000000; omega)] at this

theorem run_next_choice {P : Program} (n : Nat) (hn : n ≤ 1) : (choose (.mapNext n)).run P w = .ok 0 w := by
  rw [run_choose]
  simp [Question.forced, hn]

theorem filter_nil0 (p : MapEntry → Bool) : Array.filter p (#[] : Array MapEntry) 0 0 = #[] := by
  simp [Array.filter]
theorem filter_one (p : MapEntry → Bool) (e : MapEntry) : Array.filter p #[e] 0 1 = if p e then #[e] else #[] := by
  cases h : p e <;> simp [Array.filter, h]
theorem g_nextM (ty : TypeId) (h : HR X σ A w) (hx : VR σ x x') :
    Good (fun K => nextMA A x fun v A' => K (v, A')) (VSound X σ A w (Instr.next x' false ty)) := by
  unfold nextMA
  refine Good.asP (r := fun id off K => AM.iff (Nat.beq off 0) .fail (Option.rec (motive := fun _ => Res) .fail (fun o => AO.rec (motive := fun _ => Res) (fun _ _ _ => .fail) (fun _ _ => .fail)
    (fun m since seen sp => Option.rec (motive := fun _ => Res) (K (AV.tup [.b false], A))
      (fun mid => AM.mapOf A mid fun es clock => List.rec (motive := fun _ => Res) (K (AV.tup [.b false], A))
        (fun e tl _ => List.rec (motive := fun _ => Res)
          (List.rec (motive := fun _ => Res)
            (AM.iff (lt e.2.2 since) .fail (K (AV.tup [.b true, e.1, e.2.1], put A id (some (.miter (some mid) since [e.2.2] clock)))))
            (fun st sl _ => List.rec (motive := fun _ => Res) (AM.iff (Nat.beq st e.2.2) .fail (AM.iff (lt e.2.2 sp) .fail (K (AV.tup [.b false], A)))) (fun _ _ _ => .fail) sl) seen)
          (fun _ _ _ => .fail) tl) es) m)
    (fun _ _ _ => .fail) o) (getH id A.h)))
    fun id off e1 => Good.iff fun h0 => Good.optO (rm := fun m since seen sp K => Option.rec (motive := fun _ => Res) (K (AV.tup [.b false], A))
      (fun mid => AM.mapOf A mid fun es clock => List.rec (motive := fun _ => Res) (K (AV.tup [.b false], A))
        (fun e tl _ => List.rec (motive := fun _ => Res)
          (List.rec (motive := fun _ => Res)
            (AM.iff (lt e.2.2 since) .fail (K (AV.tup [.b true, e.1, e.2.1], put A id (some (.miter (some mid) since [e.2.2] clock)))))
            (fun st sl _ => List.rec (motive := fun _ => Res) (AM.iff (Nat.beq st e.2.2) .fail (AM.iff (lt e.2.2 sp) .fail (K (AV.tup [.b false], A)))) (fun _ _ _ => .fail) sl) seen)
          (fun _ _ _ => .fail) tl) es) m) fun m since seen sp hg => ?_
  subst e1
  have h0' : off = 0 := beq_iff.1 h0
  subst h0'
  cases hx with | p _ _ l hs =>
  obtain ⟨ob, hlv, hb, ho⟩ := h.get hg hs
  have over : VR σ (AV.tup [.b false]) (.tuple #[.bool false]) := .tup _ _ (.cons _ _ _ _ (.b false) .nil)
  cases ho with
  | miter0 _ _ _ hsh =>
    rw [hsh]
    exact Good.ret (.pure h (by simp only [Instr.next, Sem.run_bind, Nat.zero_add, run_getObj hb (by simp), Result.andThen_ok]; rfl) over)
  | miter mid lm hmid _ _ _ hsh =>
    rw [hsh]
    refine Good.mapOf (r := fun es clock K => List.rec (motive := fun _ => Res) (K (AV.tup [.b false], A))
        (fun e tl _ => List.rec (motive := fun _ => Res)
          (List.rec (motive := fun _ => Res)
            (AM.iff (lt e.2.2 since) .fail (K (AV.tup [.b true, e.1, e.2.1], put A id (some (.miter (some mid) since [e.2.2] clock)))))
            (fun st sl _ => List.rec (motive := fun _ => Res) (AM.iff (Nat.beq st e.2.2) .fail (AM.iff (lt e.2.2 sp) .fail (K (AV.tup [.b false], A)))) (fun _ _ _ => .fail) sl) seen)
          (fun _ _ _ => .fail) tl) es) fun es clock hg2 => ?_
    obtain ⟨es', hlv2, hb2, hm⟩ := h.map hg2 hmid
    cases es with
    | nil =>
      have he : es' = #[] := by
        have := hm.length
        exact Array.size_eq_zero_iff.1 (by simpa using this.symm)
      subst he
      refine Good.ret (.pure h (v' := .tuple #[.bool false]) ?_ over)
      simp only [Instr.next, Sem.run_bind, Nat.zero_add, run_getObj hb (by simp), run_getObj hb2 (by simp), Result.andThen_ok]
      have hl : (Array.filter (fun e => !seen.toArray.contains e.born) (#[] : Array MapEntry)) = #[] := by simp
      simp only [hl]
      simp [filter_nil0, Question.forced]
    | cons e tl =>
      cases tl with
      | cons _ _ => exact Good.no
      | nil =>
        obtain ⟨k, v, born⟩ := e
        obtain ⟨k', v', hes, hk, hv⟩ : ∃ k' v', es' = #[{ key := k', val := v', born := born }] ∧ VR σ k k' ∧ VR σ v v' := by
          generalize hL : es'.toList = L at hm
          cases hm with
          | cons _ _ _ k' v' _ _ hk hv hrest =>
            cases hrest
            exact ⟨k', v', Array.toList_inj.1 (by rw [hL]), hk, hv⟩
        subst hes
        cases seen with
        | nil =>
          refine Good.iff fun hlt => Good.ret ?_
          have hlt' := lt_iff.1 hlt
          have hlt'' : born < since := hlt'
          have hr := h.setMap hlv hs (o := .miter (some mid) since [born] clock) (ob := .mapIter (some lm.block) since [born].toArray clock) (.miter mid lm hmid since [born] clock hsh)
          refine ⟨σ, .tuple #[.bool true, k', v'], _, ?_, .tup _ _ (.cons _ _ _ _ (.b true) (.cons _ _ _ _ hk (.cons _ _ _ _ hv .nil))), hr.1, hr.2⟩
          simp only [Instr.next, Sem.run_bind, Nat.zero_add, run_getObj hb (by simp), run_getObj hb2 (by simp), Result.andThen_ok]
          simp [hlt'', run_setObj hb, Nat.not_le.2 hlt'', filter_nil0, filter_one, Question.forced]
        | cons st sl =>
          cases sl with
          | cons _ _ => exact Good.no
          | nil =>
            refine Good.iff fun hst => Good.iff fun hlt => Good.ret ?_
            have hst' : st = born := beq_iff.1 hst
            subst hst'
            have hlt' : st < sp := lt_iff.1 hlt
            refine .pure h (v' := .tuple #[.bool false]) ?_ over
            simp only [Instr.next, Sem.run_bind, Nat.zero_add, run_getObj hb (by simp), run_getObj hb2 (by simp), Result.andThen_ok]
            simp [Nat.not_le.2 hlt', filter_nil0, filter_one, Question.forced]
end
end
section
section
variable {X : Par} {σ : Sg} {A : AW} {w : World} {x y : AV} {x' y' : Value}

theorem g_entry (h : HR X σ A w) (hx : VR σ x x') :
    Good (fun K => AM.asP .fail x fun id off => AM.iff (Nat.beq off 0) .fail (Option.rec (motive := fun _ => Res) .fail (fun o => AO.rec (motive := fun _ => Res) (fun _ _ _ => .fail) (fun _ _ => .fail)
        (fun m _ seen stepped => Option.rec (motive := fun _ => Res) .fail (fun mid => AM.mapOf A mid fun es clock => AM.iff (Nat.beq clock stepped) .fail
          (List.rec (motive := fun _ => Res) .fail (fun st sl _ => List.rec (motive := fun _ => Res) (List.rec (motive := fun _ => Res) .fail (fun e tl _ => List.rec (motive := fun _ => Res) (AM.iff (Nat.beq e.2.2 st) .fail (K (AV.tup [e.1, e.2.1], A))) (fun _ _ _ => .fail) tl) es) (fun _ _ _ => .fail) sl) seen)) m)
        (fun _ _ _ => .fail) o) (getH id A.h))) (VSound X σ A w (Instr.entry x')) := by
  refine Good.asP (r := fun id off K => AM.iff (Nat.beq off 0) .fail (Option.rec (motive := fun _ => Res) .fail (fun o => AO.rec (motive := fun _ => Res) (fun _ _ _ => .fail) (fun _ _ => .fail)
        (fun m _ seen stepped => Option.rec (motive := fun _ => Res) .fail (fun mid => AM.mapOf A mid fun es clock => AM.iff (Nat.beq clock stepped) .fail
          (List.rec (motive := fun _ => Res) .fail (fun st sl _ => List.rec (motive := fun _ => Res) (List.rec (motive := fun _ => Res) .fail (fun e tl _ => List.rec (motive := fun _ => Res) (AM.iff (Nat.beq e.2.2 st) .fail (K (AV.tup [e.1, e.2.1], A))) (fun _ _ _ => .fail) tl) es) (fun _ _ _ => .fail) sl) seen)) m)
        (fun _ _ _ => .fail) o) (getH id A.h))) fun id off e1 => Good.iff fun h0 =>
    Good.optO (rm := fun m _ seen stepped K => Option.rec (motive := fun _ => Res) .fail (fun mid => AM.mapOf A mid fun es clock => AM.iff (Nat.beq clock stepped) .fail
          (List.rec (motive := fun _ => Res) .fail (fun st sl _ => List.rec (motive := fun _ => Res) (List.rec (motive := fun _ => Res) .fail (fun e tl _ => List.rec (motive := fun _ => Res) (AM.iff (Nat.beq e.2.2 st) .fail (K (AV.tup [e.1, e.2.1], A))) (fun _ _ _ => .fail) tl) es) (fun _ _ _ => .fail) sl) seen)) m) fun m since seen sp hg => ?_
  subst e1
  have h0' : off = 0 := beq_iff.1 h0
  subst h0'
  cases hx with | p _ _ l hs =>
  obtain ⟨ob, hlv, hb, ho⟩ := h.get hg hs
  cases ho with
  | miter0 _ _ _ hsh => exact Good.no
  | miter mid lm hmid _ _ _ hsh =>
    rw [hsh]
    refine Good.mapOf (r := fun es clock K => AM.iff (Nat.beq clock sp) .fail
          (List.rec (motive := fun _ => Res) .fail (fun st sl _ => List.rec (motive := fun _ => Res) (List.rec (motive := fun _ => Res) .fail (fun e tl _ => List.rec (motive := fun _ => Res) (AM.iff (Nat.beq e.2.2 st) .fail (K (AV.tup [e.1, e.2.1], A))) (fun _ _ _ => .fail) tl) es) (fun _ _ _ => .fail) sl) seen)) fun es clock hg2 => Good.iff fun hcl => ?_
    obtain ⟨es', hlv2, hb2, hm⟩ := h.map hg2 hmid
    have hcl' := beq_iff.1 hcl
    subst hcl'
    cases seen with
    | nil => exact Good.no
    | cons st sl =>
      cases sl with
      | cons _ _ => exact Good.no
      | nil =>
        cases es with
        | nil => exact Good.no
        | cons e tl =>
          cases tl with
          | cons _ _ => exact Good.no
          | nil =>
            obtain ⟨k, v, born⟩ := e
            refine Good.iff fun hst => Good.ret ?_
            have hst' : born = st := beq_iff.1 hst
            subst hst'
            obtain ⟨k', v', hes, hk, hv⟩ : ∃ k' v', es' = #[{ key := k', val := v', born := born }] ∧ VR σ k k' ∧ VR σ v v' := by
              generalize hL : es'.toList = L at hm
              cases hm with
              | cons _ _ _ k' v' _ _ hk hv hrest =>
                cases hrest
                exact ⟨k', v', Array.toList_inj.1 (by rw [hL]), hk, hv⟩
            subst hes
            refine .pure h (v' := .tuple #[k', v']) ?_ (.tup _ _ (.cons _ _ _ _ hk (.cons _ _ _ _ hv .nil)))
            simp only [Instr.entry, Sem.run_bind, Nat.zero_add, run_getObj hb (by simp), run_getObj hb2 (by simp), Result.andThen_ok]
            simp [run_getObj hb2]

theorem g_copy {t e : TypeId} {es : Nat} {ts : Array TypeId} {ty : TypeId} (hts : ts[0]? = some t) (ht : X.P.underlying t = some (.slice e)) (he : TySize X.P e es) (h : HR X σ A w) (hx : VR σ x x') (hy : VR σ y y') :
    Good (fun K => copyA A es x y fun v A' => K (v, A')) (VSound X σ A w (Builtin.copy_ ts ty #[x', y'])) := by
  have none0 : ∀ (base : Option Addr) (len cap : Nat), x' = .slice base len cap → y' = .slice none 0 0 → (Builtin.copy_ ts ty #[x', y']).run X.P w = .ok (goInt 0) w := by
    intro base len cap h1 h2
    subst h1 h2
    have : Nat.min 0 len = 0 := Nat.zero_min len
    cases base <;> simp [Builtin.copy_, hts, run_und ht, Builtin.lenOf, he.run, Builtin.firstCells, storeCells, this]
  refine Good.asSl (r0 := fun _ => Res.fail) (rk := fun id off len _ K => AM.asSl .fail y (K (AV.i .i64 0, A))
      (fun id' off' len' _ => AM.force (minN len' len) fun n => AM.iff (lt n 1048576) .fail (AM.rd A id' off' (Nat.mul n es) fun cs => AM.wr A id off cs fun A' => K (AV.i .i64 n, A')))
      (fun _ _ _ _ => .fail)) (ru := fun _ _ _ _ K => AM.asSl .fail y (K (AV.i .i64 0, A)) (fun _ _ _ _ => .fail) (fun _ _ _ _ => .fail)) (fun _ => Good.no) (fun id off len cap e1 => ?_) (fun id off len es' e1 => ?_)
  · subst e1
    cases hx with | sk _ _ _ _ o l hl hc ho =>
    refine Good.asSl (r0 := fun K => K (AV.i .i64 0, A)) (rk := fun id' off' len' _ K => AM.force (minN len' len) fun n => AM.iff (lt n 1048576) .fail (AM.rd A id' off' (Nat.mul n es) fun cs => AM.wr A id off cs fun A' => K (AV.i .i64 n, A')))
      (ru := fun _ _ _ _ _ => Res.fail) (fun e1 => Good.ret ?_) (fun id' off' len' cap' e1 => ?_) (fun _ _ _ _ _ => Good.no)
    · subst e1
      cases hy
      exact .pure h (none0 _ _ _ rfl rfl) (.int64 σ 0 (by decide))
    · subst e1
      cases hy with | sk _ _ _ _ o2 l2 hl2 hc2 ho2 =>
      refine Good.force (r := fun n K => AM.iff (lt n 1048576) .fail (AM.rd A id' off' (Nat.mul n es) fun cs => AM.wr A id off cs fun A' => K (AV.i .i64 n, A'))) (Good.iff fun hn => Good.rd (r := fun cs K => AM.wr A id off cs fun A' => K (AV.i .i64 _, A')) fun cs el fz hg hfit => Good.wr (r := fun A' K => K (AV.i .i64 _, A')) fun cs2 el2 fz2 hz2 hg2 hfit2 => Good.ret ?_)
      have hmin : minN len' len = Nat.min len' len := by
        unfold minN
        by_cases hle : len' ≤ len
        · rw [ble_iff.2 hle]; exact (Nat.min_eq_left hle).symm
        · have : Nat.ble len' len = false := by
            cases hb : Nat.ble len' len with
            | false => rfl
            | true => exact absurd (ble_iff.1 hb) hle
          rw [this]; show len = Nat.min len' len; exact (Nat.min_eq_right (by omega)).symm
      rw [hmin] at hn hfit hfit2 ⊢
      generalize hN : Nat.min len' len = n at *
      have hnl : n ≤ len' := by rw [← hN]; exact Nat.min_le_left _ _
      have hnl2 : n ≤ len := by rw [← hN]; exact Nat.min_le_right _ _
      rw [show Nat.mul n es = n * es from rfl] at hfit hfit2 ⊢
      obtain ⟨c, fr, _, hb, _, hcells, _, _⟩ := h.cells hg hl2
      obtain ⟨k1, k2, k3⟩ := cells_rel hcells hfit
      have hfirst : (Builtin.firstCells es n (.slice (some ⟨l2.block, o2, none⟩) len' cap')).run X.P w = .ok (c.extract (l2.shift + off') (l2.shift + off' + n * es)) w := by
        by_cases h0 : n * es = 0
        · simp only [Builtin.firstCells, h0]
          have e0 : c.extract (l2.shift + off') (l2.shift + off' + 0) = #[] := by simp; omega
          rw [e0]
          simp [loadCells, loadCellsFrom]
        · have hn0 : n ≠ 0 := fun hz => h0 (by rw [hz, Nat.zero_mul])
          have ho' : o2 = l2.shift + off' := ho2.resolve_right (by omega)
          subst ho'
          have := cells_fit hcells (by omega)
          exact run_loadCells hb (by omega)
      obtain ⟨w', r1, r2, r3⟩ := h.write hz2 hg2 hl hfit2 k1 k2
      refine ⟨σ, goInt n, w', ?_, .int64 σ n (by have := lt_iff.1 hn; omega), r2, r3⟩
      by_cases h0 : n * es = 0
      · have e0 : c.extract (l2.shift + off') (l2.shift + off' + n * es) = #[] := by rw [h0]; simp; omega
        rw [e0] at hfirst r1
        have : w' = w := by simpa [storeCells] using r1.symm
        subst this
        simp only [Builtin.copy_, hts, List.getElem?_toArray, List.getElem?_cons_zero, List.getElem?_cons_succ, Sem.run_bind, run_und ht, Result.andThen_ok, Builtin.lenOf, Sem.run_pure, he.run, hN, hfirst]
        simp [storeCells]
      · have hn0 : n ≠ 0 := fun hz => h0 (by rw [hz, Nat.zero_mul])
        have ho' : o = l.shift + off := ho.resolve_right (by omega)
        subst ho'
        simp only [Builtin.copy_, hts, List.getElem?_toArray, List.getElem?_cons_zero, List.getElem?_cons_succ, Sem.run_bind, run_und ht, Result.andThen_ok, Builtin.lenOf, Sem.run_pure, he.run, hN, hfirst, r1]
  · subst e1
    cases hx with | su _ _ _ _ cp o l hl hc hs ho =>
    refine Good.asSl (r0 := fun K => K (AV.i .i64 0, A)) (rk := fun _ _ _ _ _ => Res.fail) (ru := fun _ _ _ _ _ => Res.fail) (fun e1 => Good.ret ?_) (fun _ _ _ _ _ => Good.no) (fun _ _ _ _ _ => Good.no)
    subst e1
    cases hy
    exact .pure h (none0 _ _ _ rfl rfl) (.int64 σ 0 (by decide))
theorem usd_run {P : Program} (ts : Array TypeId) (ty : TypeId) (a : Addr) (len cap : Nat) (h : cap ≠ 0) : (Builtin.unsafeSliceData_ ts ty #[.slice (some a) len cap]).run P w = .ok (.pointer (some a)) w := by
  have e : Builtin.unsafeSliceData_ ts ty #[.slice (some a) len cap] = (if cap ≠ 0 then pure (.pointer (some a)) else (do
    if (← viewAt a.block).isSome then pure (.pointer (some a))
    else pure (.pointer (some ⟨← newObj (.view a (← elemOf ty)), 0, none⟩)))) := rfl
  rw [e, if_pos h]; rfl
theorem g_usd (ts : Array TypeId) (ty : TypeId) (h : HR X σ A w) (hx : VR σ x x') :
    Good (fun K => AM.asSl .fail x (K (AV.p0, A)) (fun id off _ cap => AM.iff (lt 0 cap) .fail (K (AV.p id off, A))) (fun id off len _ => AM.iff (lt 0 len) .fail (K (AV.p id off, A)))) (VSound X σ A w (Builtin.unsafeSliceData_ ts ty #[x'])) := by
  refine Good.asSl (r0 := fun K => K (AV.p0, A)) (rk := fun id off _ cap K => AM.iff (lt 0 cap) .fail (K (AV.p id off, A))) (ru := fun id off len _ K => AM.iff (lt 0 len) .fail (K (AV.p id off, A))) (fun e1 => Good.ret ?_) (fun id off len cap e1 => Good.iff fun hc => Good.ret ?_) (fun id off len es e1 => Good.iff fun hc => Good.ret ?_)
  · subst e1; cases hx
    exact .pure h rfl .p0
  · subst e1
    cases hx with | sk _ _ _ _ o l hl hcc ho =>
    have hc' := lt_iff.1 hc
    have ho' : o = l.shift + off := ho.resolve_right (by omega)
    subst ho'
    have : cap ≠ 0 := by omega
    exact .pure h (usd_run _ _ _ _ _ this) (.p id off l hl)
  · subst e1
    cases hx with | su _ _ _ _ cap o l hl hcc hsz ho =>
    have hc' := lt_iff.1 hc
    have ho' : o = l.shift + off := ho.resolve_right (by omega)
    subst ho'
    have : cap ≠ 0 := by omega
    exact .pure h (usd_run _ _ _ _ _ this) (.p id off l hl)
end
end
section
section
variable {X : Par} {σ : Sg} {A : AW} {w : World} {x y : AV} {x' y' : Value}

/-! ## Building -/
theorem foldl_set (off : Nat) : ∀ (vs : List Value) (k : Nat) (c : Array Value), off + k + vs.length ≤ c.size →
    ((vs.zipIdx k).foldl (fun (cs : Array Value) (p : Value × Nat) => cs.setIfInBounds (off + p.2) p.1) c).size = c.size ∧
    ∀ j : Nat, ((vs.zipIdx k).foldl (fun (cs : Array Value) (p : Value × Nat) => cs.setIfInBounds (off + p.2) p.1) c)[j]? = if off + k ≤ j ∧ j < off + k + vs.length then vs[j - (off + k)]? else c[j]? := by
  intro vs
  induction vs with
  | nil => intro k c _; exact ⟨rfl, fun j => by rw [if_neg (by simp)]; rfl⟩
  | cons v vs ih =>
    intro k c h
    simp only [List.length_cons] at h
    simp only [List.zipIdx_cons, List.foldl_cons]
    obtain ⟨h1, h2⟩ := ih (k + 1) (c.setIfInBounds (off + k) v) (by simp; omega)
    refine ⟨by rw [h1]; simp, fun j => ?_⟩
    rw [h2 j]
    simp only [List.length_cons]
    by_cases e1 : j = off + k
    · subst e1
      rw [if_neg (by omega), if_pos (by omega), Nat.sub_self, Array.getElem?_setIfInBounds_self_of_lt (by omega)]
      rfl
    · rw [Array.getElem?_setIfInBounds_ne (Ne.symm e1)]
      by_cases e2 : off + (k + 1) ≤ j ∧ j < off + (k + 1) + vs.length
      · rw [if_pos e2, if_pos (by omega), show j - (off + k) = (j - (off + (k + 1))) + 1 by omega]
        simp
      · rw [if_neg e2, if_neg (by omega)]

/-- The parts of a build, related. -/
inductive PartsR (σ : Sg) (f : Frame) (place : Nat → Option (Nat × Nat)) : List (Nat × Nat × Arg) → List (Nat × Value) → Prop
  | nil : PartsR σ f place [] []
  | cons (off size j : Nat) (a : Arg) (v : Value) (ps : List (Nat × Nat × Arg)) (ps' : List (Nat × Value)) (hp : place j = some (off, size)) (h : VR σ (a.ev f) v) (hs : PartsR σ f place ps ps') :
      PartsR σ f place ((off, size, a) :: ps) ((j, v) :: ps')

theorem setAt_flat {cs vs : List AV} {off : Nat} (h : ∀ a, a ∈ cs → flatA a = true) (hv : ∀ a, a ∈ vs → flatA a = true) : ∀ a, a ∈ setAt cs off vs → flatA a = true := by
  intro a ha
  unfold setAt at ha
  rcases List.mem_append.1 ha with h1 | h1
  · rcases List.mem_append.1 h1 with h2 | h2
    · exact h a (List.mem_of_mem_take h2)
    · exact hv a h2
  · exact h a (List.mem_of_mem_drop h1)
theorem Good.fillP {α : Type} {Q : α → Prop} {f : Frame} {place : Nat → Option (Nat × Nat)} {ps : List (Nat × Nat × Arg)} {ps' : List (Nat × Value)} (hp : PartsR σ f place ps ps') {r : List AV → (α → Res) → Res} :
    ∀ {cs : List AV} {c : Array Value}, VRs σ cs c.toList → (∀ a, a ∈ cs → flatA a = true) →
    (∀ cs' c', Instr.fill place c ps' = some c' → VRs σ cs' c'.toList → (∀ a, a ∈ cs' → flatA a = true) → c'.size = c.size → Good (r cs') Q) → Good (fun K => AM.fillP f ps cs fun l => r l K) Q := by
  induction hp with
  | nil => intro cs c h1 h2 h; exact (show Good (r cs) Q from h cs c rfl h1 h2 rfl)
  | cons off size j a v ps ps' hpl hv hs ih =>
    intro cs c h1 h2 h
    refine Good.asCells (r := fun vs K => AM.iff (Nat.beq (lenL vs) size) .fail (AM.setR .fail cs off vs fun cs' => AM.fillP f ps cs' fun l => r l K)) fun hnt => Good.iff fun hlen => Good.setR (r := fun cs' K => AM.fillP f ps cs' fun l => r l K) fun hfit => ?_
    obtain ⟨k1, k2⟩ := acells_rel hv hnt
    rw [beq_iff, lenL_eq] at hlen
    replace hlen : (acells (a.ev f)).length = size := hlen
    replace hfit : off + (acells (a.ev f)).length ≤ cs.length := hfit
    have hl1 := k1.length
    have hl2 : cs.length = c.size := h1.length
    have hl3 : v.cells.toList.length = v.cells.size := rfl
    obtain ⟨z1, z2⟩ := foldl_set off v.cells.toList 0 c (by omega)
    have hz : v.cells.zipIdx.foldl (fun cs (p : Value × Nat) => cs.setIfInBounds (off + p.2) p.1) c = (v.cells.toList.zipIdx 0).foldl (fun (cs : Array Value) (p : Value × Nat) => cs.setIfInBounds (off + p.2) p.1) c := by
      rw [← Array.foldl_toList, Array.toList_zipIdx]
    have hrel : VRs σ (AM.setAt cs off (acells (a.ev f))) ((v.cells.toList.zipIdx 0).foldl (fun (cs : Array Value) (p : Value × Nat) => cs.setIfInBounds (off + p.2) p.1) c).toList := by
      refine VRs.of_get ?_ fun i b hb => ?_
      · rw [setAt_length _ _ _ hfit]
        show cs.length = Array.size _
        rw [z1, hl2]
      · rw [setAt_get _ _ _ _ hfit] at hb
        rw [Array.getElem?_toList, z2]
        by_cases hi : off ≤ i ∧ i < off + (acells (a.ev f)).length
        · rw [if_pos hi] at hb
          rw [if_pos (by omega)]
          exact k1.get _ b hb
        · rw [if_neg hi] at hb
          rw [if_neg (by omega), ← Array.getElem?_toList]
          exact h1.get i b hb
    refine ih hrel (setAt_flat h2 k2) fun cs' c' hc hr hf hsz => h cs' c' ?_ hr hf (by rw [hsz, z1])
    unfold Instr.fill
    simp only [hpl]
    rw [if_neg (by simp; omega)]
    rw [← hz] at hc
    exact hc

theorem run_places {P : Program} : ∀ (fs : List Field), (∀ fd, fd ∈ fs → ∃ n, TySize P fd.type n) → ∃ pl : List (Nat × Nat), (fs.mapM fun fd => (do pure (fd.offset, ← sizeOf fd.type) : Sem (Nat × Nat))).run P w = .ok pl w ∧
    ∀ (i : Nat) fd n, fs[i]? = some fd → TySize P fd.type n → pl[i]? = some (fd.offset, n) := by
  intro fs
  induction fs with
  | nil => intro _; exact ⟨[], rfl, by simp⟩
  | cons fd fs ih =>
    intro h
    obtain ⟨n, hn⟩ := h fd (by simp)
    obtain ⟨pl, h1, h2⟩ := ih fun g hg => h g (by simp [hg])
    refine ⟨(fd.offset, n) :: pl, ?_, ?_⟩
    · rw [List.mapM_cons]
      simp only [Sem.run_bind, hn.run, Result.andThen_ok, Sem.run_pure, h1]
    · intro i g m hi hm
      cases i with
      | zero =>
        simp at hi; subst hi
        have : n = m := by obtain ⟨i1, a, b⟩ := hn; obtain ⟨i2, c, d⟩ := hm; rw [a] at c; cases c; omega
        subst this; rfl
      | succ i => simpa using h2 i g m (by simpa using hi) hm

/-- What 'build' asks of a struct's or an array's type: each part's place. -/
def PlaceS (P : Program) (fs : Array Field) (off size j : Nat) : Prop := ∃ fd, fs[j]? = some fd ∧ fd.offset = off ∧ TySize P fd.type size
inductive Parts0 (σ : Sg) (f : Frame) (ok : Nat → Nat → Nat → Prop) : List (Nat × Nat × Arg) → List (Nat × Value) → Prop
  | nil : Parts0 σ f ok [] []
  | cons (off size j : Nat) (a : Arg) (v : Value) (ps : List (Nat × Nat × Arg)) (ps' : List (Nat × Value)) (hp : ok off size j) (h : VR σ (a.ev f) v) (hs : Parts0 σ f ok ps ps') :
      Parts0 σ f ok ((off, size, a) :: ps) ((j, v) :: ps')
theorem Parts0.place {f : Frame} {ok : Nat → Nat → Nat → Prop} {place : Nat → Option (Nat × Nat)} (hok : ∀ off size j, ok off size j → place j = some (off, size)) {ps : List (Nat × Nat × Arg)} {ps' : List (Nat × Value)} (h : Parts0 σ f ok ps ps') :
    PartsR σ f place ps ps' := by
  induction h with
  | nil => exact .nil
  | cons off size j a v ps ps' hp h hs ih => exact .cons off size j a v ps ps' (hok _ _ _ hp) h ih

theorem g_buildS {t : TypeId} {f : Frame} {zero : List AV} {fs : Array Field} {ps : List (Nat × Nat × Arg)} {ps' : Array (Nat × Value)} (ht : X.P.underlying t = some (.struct fs)) (hz : TyZero X.P t zero)
    (hfs : ∀ fd, fd ∈ fs.toList → ∃ n, TySize X.P fd.type n) (h : HR X σ A w) (hp : Parts0 σ f (PlaceS X.P fs) ps ps'.toList) :
    Good (fun K => AM.fillP f ps zero fun cs => K (AV.agg cs, A)) (VSound X σ A w (Instr.build t ps')) := by
  obtain ⟨i, z, i1, i2, i3, i4⟩ := hz
  obtain ⟨pl, hpl, hget⟩ := run_places (w := w) fs.toList hfs
  refine Good.fillP (hp.place (place := fun j => pl.toArray[j]?) fun off size j hpp => by
      obtain ⟨fd, h1, h2, h3⟩ := hpp
      have := hget j fd size (by simpa using h1) h3
      rw [← h2]; simpa using this) (r := fun cs K => K (AV.agg cs, A)) (c := z.cells) i3.lit i4 fun cs' c' hc hr hf _ => Good.ret (.pure h (v' := .agg c') ?_ (.agg _ _ hr hf))
  · simp only [Instr.build, Sem.run_bind, run_zeroOf i1 i2, Result.andThen_ok, run_und ht, Array.mapM_eq_mapM_toList, Sem.run_map, hpl]
    simp only [hc]
    rfl
theorem g_buildA {t e : TypeId} {f : Frame} {zero : List AV} {m es : Nat} {ps : List (Nat × Nat × Arg)} {ps' : Array (Nat × Value)} (ht : X.P.underlying t = some (.array m e)) (hz : TyZero X.P t zero) (he : TySize X.P e es)
    (h : HR X σ A w) (hp : Parts0 σ f (fun off size j => off = j * es ∧ size = es) ps ps'.toList) :
    Good (fun K => AM.fillP f ps zero fun cs => K (AV.agg cs, A)) (VSound X σ A w (Instr.build t ps')) := by
  obtain ⟨i, z, i1, i2, i3, i4⟩ := hz
  refine Good.fillP (hp.place (place := fun j => some (j * es, es)) fun off size j ⟨h1, h2⟩ => by rw [h1, h2]) (r := fun cs K => K (AV.agg cs, A)) (c := z.cells) i3.lit i4 fun cs' c' hc hr hf _ => Good.ret (.pure h (v' := .agg c') ?_ (.agg _ _ hr hf))
  simp only [Instr.build, Sem.run_bind, run_zeroOf i1 i2, Result.andThen_ok, run_und ht, he.run]
  simp only [hc]
  rfl
theorem g_bslice {t e : TypeId} {f : Frame} {zero : List AV} {len es : Nat} {ps : List (Nat × Nat × Arg)} {ps' : Array (Nat × Value)} (ht : X.P.underlying t = some (.slice e)) (hz : TyZero X.P e zero) (hzl : zero.length = es) (he : TySize X.P e es)
    (hsm : len * es ≤ 2 ^ 24) (h : HR X σ A w) (hp : Parts0 σ f (fun off size j => off = j * es ∧ size = es) ps ps'.toList) :
    Good (fun K => AM.fillP f ps (List.replicate len zero).flatten fun cs => AM.newO A (.cells cs e 2) fun id A' => K (AV.sk id 0 len len, A')) (VSound X σ A w (Instr.buildSlice t len ps')) := by
  obtain ⟨i, z, i1, i2, i3, i4⟩ := hz
  have hzs : z.cells.size = es := by have := i3.length; simp at this; omega
  have hrel := rep_rel (σ := σ) i3.lit len
  rw [hzs] at hrel
  refine Good.fillP (hp.place (place := fun j => some (j * es, es)) fun off size j ⟨h1, h2⟩ => by rw [h1, h2]) (r := fun cs K => AM.newO A (.cells cs e 2) fun id A' => K (AV.sk id 0 len len, A')) hrel (rep_flat i4 len)
    fun cs' c' hc hr hf _ => Good.newO (r := fun id A' K => K (AV.sk id 0 len len, A')) fun hn => Good.ret ?_
  obtain ⟨h1, h2, h3⟩ := h.row e 2 hn hr hf
  refine ⟨_, _, _, ?_, .sk _ 0 len len 0 _ h3 (Nat.le_refl _) (.inl rfl), h1, h2⟩
  simp only [Instr.buildSlice, Sem.run_bind, run_und ht, Result.andThen_ok, he.run]
  rw [Sem.run_ite, if_neg (by omega)]
  by_cases h0 : len * es = 0
  · simp only [Sem.run_bind, Sem.run_ite]
    rw [if_pos h0]
    simp only [Sem.run_pure, Result.andThen_ok]
    have harr : (Array.range (len * es)).map ((#[] : Array Value)[· % (#[] : Array Value).size]!) = (Array.range (len * es)).map fun i => z.cells[i % es]! := by
      rw [h0]
      have r0 : Array.range 0 = #[] := rfl
      simp [r0]
    rw [harr, hc]
    simp [newRow]
  · simp only [Sem.run_bind, Sem.run_ite]
    rw [if_neg h0]
    simp only [Sem.run_bind, run_zeroOf i1 i2, Sem.run_pure, Result.andThen_ok, hzs]
    rw [hc]
    simp [newRow]
end
end
section
section
variable {X : Par} {σ : Sg} {A : AW} {w : World} {x y : AV} {x' y' : Value}

/-! ## Bytes seen as a string, pointers through unsafe.Pointer -/
theorem Good.ptrA {α : Type} {Q : α → Prop} {v : AV} {r0 : (α → Res) → Res} {r : Nat → Nat → (α → Res) → Res} (h0 : v = .p0 → Good r0 Q) (h : ∀ id off, v = .p id off → Good (r id off) Q) :
    Good (fun K => AM.ptrA .fail v (r0 K) fun id off => r id off K) Q := by
  cases v <;> first | exact Good.no | exact h0 rfl | exact h _ _ rfl
theorem depth_succ (P : Program) : ∃ d, P.depth = d + 1 := ⟨2 * (P.types.size + Made.depth) + 1, rfl⟩
theorem cellsOf_eq {P : Program} {e : TypeId} {n : Nat} (h : TySize P e n) : P.cellsOf e = n := by
  obtain ⟨i, h1, h2⟩ := h
  simp [Program.cellsOf, h1, h2]
theorem rowAt_same {P : Program} {e : TypeId} {n count m : Nat} (h : TySize P e n) (hn : n ≠ 0) (d : Nat) (q : Nat) (hq : q + m ≤ count) (fits : TypeId → Bool) (hf : fits e = true) : rowAt P fits (d + 1) e count (q * n) m = true := by
  have hc := cellsOf_eq h
  have h1 : q * n / n = q := Nat.mul_div_cancel _ (by omega)
  have h2 : q * n % n = 0 := Nat.mul_mod_left _ _
  simp [rowAt, hc, hn, h1, h2, hq, hf]
theorem sameLayout_refl (P : Program) (d : Nat) (e : TypeId) : sameLayout P (d + 1) e e = true := by simp [sameLayout]
theorem run_variablesAt {P : Program} {b o e n q m : Nat} {c : Array Value} {fr : Nat × Nat} (h : w.heap[b]? = some (.cells c e fr)) (he : TySize P e n) (hn : n ≠ 0) (ho : o = q * n) (hq : q + m ≤ c.size / n) :
    (variablesAt ⟨b, o, none⟩ e m).run P w = .ok true w := by
  obtain ⟨d, hd⟩ := depth_succ P
  have hs : w.shape? b = some (e, c.size) := by simp [World.shape?, h]
  simp only [variablesAt, Sem.run_bind, run_program, Result.andThen_ok, run_shape, hs, Sem.run_pure, cellsOf_eq he]
  congr 1
  rw [hd]
  simp only [liesAt, Bool.or_eq_true]
  left
  rw [hd, ho]
  exact rowAt_same he hn d q hq _ (sameLayout_refl P d e)
theorem run_viewAt {P : Program} {b e : Nat} {c : Array Value} {fr : Nat × Nat} (h : w.heap[b]? = some (.cells c e fr)) : (viewAt b).run P w = .ok none w := by
  have hs : w.shape? b = some (e, c.size) := by simp [World.shape?, h]
  simp [viewAt, hs]
theorem run_seenAt {P : Program} {b o e : Nat} {c : Array Value} {fr : Nat × Nat} (h : w.heap[b]? = some (.cells c e fr)) : (Conv.seenAt ⟨b, o, none⟩).run P w = .ok ⟨b, o, none⟩ w := by
  simp [Conv.seenAt, run_viewAt h]
theorem g_ptrU {src dst t : TypeId} {n : Nat} (hs : X.P.underlying src = some (.pointer t)) (hd : X.P.underlying dst = some .unsafePointer) (ht : TySize X.P t n) (hn : n ≠ 0) (h : HR X σ A w) (hx : VR σ x x') :
    Good (fun K => AM.ptrA .fail x (K (x, A)) fun id off => AM.cellsOf A id fun cs _ _ => AM.iff (Nat.ble (Nat.add off n) (lenL cs)) .fail (K (x, A))) (VSound X σ A w (convert src dst x')) := by
  refine Good.ptrA (r0 := fun K => K (x, A)) (r := fun id off K => AM.cellsOf A id fun cs _ _ => AM.iff (Nat.ble (Nat.add off n) (lenL cs)) .fail (K (x, A))) (fun e1 => Good.ret ?_) (fun id off e1 => Good.cellsOf (r := fun cs _ _ K => AM.iff (Nat.ble (Nat.add off n) (lenL cs)) .fail (K (x, A))) fun cs e fz hg => Good.iff fun hle => Good.ret ?_)
  · subst e1
    cases hx
    exact .pure h (by simp [convert, run_und hs, run_und hd, Conv.unsafePointer]) .p0
  · subst e1
    have hx' := hx
    cases hx with | p _ _ l hl =>
    obtain ⟨c, fr, _, hb, _, hcells, _, _⟩ := h.cells hg hl
    have hle' : off + n ≤ cs.length := by have := ble_iff.1 hle; rw [lenL_eq] at this; exact this
    have hfit := cells_fit hcells (by omega)
    have hsh : w.shape? l.block = some (e, c.size) := by simp [World.shape?, hb]
    refine .pure h ?_ hx'
    have hlt : ¬ c.size ≤ l.shift + off := by omega
    simp [convert, run_und hs, run_und hd, Conv.unsafePointer, run_seenAt hb, cellsIn, hsh, ht.run, hn, hlt]
theorem g_uPtr {src dst e : TypeId} {n : Nat} (hs : X.P.underlying src = some .unsafePointer) (hd : X.P.underlying dst = some (.pointer e)) (ht : TySize X.P e n) (hn : n ≠ 0) (h : HR X σ A w) (hx : VR σ x x') :
    Good (fun K => AM.ptrA .fail x (K (x, A)) fun id off => AM.cellsOf A id fun cs el m => AM.iff (andB (Nat.beq el e) (andB (Nat.beq m 2) (andB (Nat.beq off 0) (Nat.beq (lenL cs) n)))) .fail (K (x, A))) (VSound X σ A w (convert src dst x')) := by
  refine Good.ptrA (r0 := fun K => K (x, A)) (r := fun id off K => AM.cellsOf A id fun cs el m => AM.iff (andB (Nat.beq el e) (andB (Nat.beq m 2) (andB (Nat.beq off 0) (Nat.beq (lenL cs) n)))) .fail (K (x, A))) (fun e1 => Good.ret ?_)
    (fun id off e1 => Good.cellsOf (r := fun cs el m K => AM.iff (andB (Nat.beq el e) (andB (Nat.beq m 2) (andB (Nat.beq off 0) (Nat.beq (lenL cs) n)))) .fail (K (x, A))) fun cs el m hg => Good.iff fun hc => Good.ret ?_)
  · subst e1
    cases hx
    exact .pure h (by simp [convert, run_und hs, run_und hd, Conv.unsafePointer]) .p0
  · subst e1
    have hx' := hx
    cases hx with | p _ _ l hl =>
    obtain ⟨c, fr, _, hb, _, hcells, _, hw⟩ := h.cells hg hl
    simp only [andB_eq, Bool.and_eq_true, beq_iff, lenL_eq] at hc
    obtain ⟨rfl, rfl, rfl, hlen⟩ := hc
    obtain ⟨w1, w2⟩ := hw rfl
    have hv := run_variablesAt (P := X.P) (w := w) (b := l.block) (o := l.shift + 0) (q := 0) (m := 1) hb ht hn (by omega) (by rw [← w2, hlen, Nat.div_self (by omega)]; exact Nat.le_refl _)
    refine .pure h ?_ hx'
    rw [Nat.add_zero] at hv ⊢
    simp [convert, run_und hs, run_und hd, Conv.unsafePointer, run_seenAt hb, ht.run, hn, hv]

theorem run_loadBytes {P : Program} {b e : Nat} {c : Array Value} {fr : Nat × Nat} (h : w.heap[b]? = some (.cells c e fr)) :
    ∀ (n o v : Nat) (acc : ByteArray), (∀ i, i < n → c[o + i]? = some (.int .u8 ((v / 256 ^ i % 256 : Nat) : Int))) → (loadBytes ⟨b, o, none⟩ acc n).run P w = .ok (acc ++ strOf n v) w := by
  intro n
  induction n with
  | zero =>
    intro o v acc _
    have : acc ++ strOf 0 v = acc := by apply ByteArray.ext; simp [ByteArray.data_append, strOf, bytesN]
    rw [this]; rfl
  | succ n ih =>
    intro o v acc hc
    have h0 := hc 0 (Nat.succ_pos n)
    rw [Nat.pow_zero, Nat.div_one, Nat.add_zero] at h0
    simp only [loadBytes, Sem.run_bind, addr_add]
    rw [run_load_of h h0, Result.andThen_ok]
    simp only []
    rw [ih (o + 1) (v / 256) _ (fun i hi => by
      have := hc (i + 1) (by omega)
      rw [show o + 1 + i = o + (i + 1) by omega, this, Nat.div_div_eq_div_mul, Nat.pow_succ, Nat.mul_comm 256])]
    congr 1
    apply ByteArray.ext
    have hn : ((v % 256 : Nat) : Int).toNat = v % 256 := Int.toNat_natCast _
    simp only [hn, ByteArray.data_append, strOf, bytesN, ByteArray.data_push]
    simp
theorem freeze_heap {b e o n : Nat} {c : Array Value} {fr : Nat × Nat} (h : w.heap[b]? = some (.cells c e fr)) (hn : n ≠ 0) :
    ∃ fr', (w.freeze ⟨b, o, none⟩ n).heap[b]? = some (.cells c e fr') ∧ (w.freeze ⟨b, o, none⟩ n).heap.size = w.heap.size ∧ ∀ k, k ≠ b → (w.freeze ⟨b, o, none⟩ n).heap[k]? = w.heap[k]? := by
  obtain ⟨lo, hi⟩ := fr
  refine ⟨if lo == hi then (o, o + n) else (min lo o, max hi (o + n)), ?_, ?_, ?_⟩
  · simp [World.freeze, hn, Array.getElem?_modify, h]
  · simp [World.freeze, hn]
  · intro k hk
    simp [World.freeze, hn, Array.getElem?_modify, Ne.symm hk]
theorem g_ustr {ts : Array TypeId} {pt e : TypeId} {ty : TypeId} (hts : ts[0]? = some pt) (hp : X.P.underlying pt = some (.pointer e)) (he : TySize X.P e 1) (h : HR X σ A w) (hx : VR σ x x') (hy : VR σ y y') :
    Good (fun K => AM.asP .fail x fun id off => asN y fun len => AM.iff (lt 0 len) .fail (AM.iff (lt len 1048576) .fail (AM.cellsOf A id fun cs el _ => AM.iff (Nat.beq el e) .fail (AM.dropL .fail off cs fun r => AM.takeL .fail len r fun bs => AM.bytesV len bs fun v => K (AV.s len v, put A id (some (.cells cs el 0)))))))
      (VSound X σ A w (Builtin.unsafeString_ ts ty #[x', y'])) := by
  refine Good.asP (r := fun id off K => asN y fun len => AM.iff (lt 0 len) .fail (AM.iff (lt len 1048576) .fail (AM.cellsOf A id fun cs el _ => AM.iff (Nat.beq el e) .fail (AM.dropL .fail off cs fun r => AM.takeL .fail len r fun bs => AM.bytesV len bs fun v => K (AV.s len v, put A id (some (.cells cs el 0))))))) fun id off e1 =>
    Good.asN (r := fun len K => AM.iff (lt 0 len) .fail (AM.iff (lt len 1048576) .fail (AM.cellsOf A id fun cs el _ => AM.iff (Nat.beq el e) .fail (AM.dropL .fail off cs fun r => AM.takeL .fail len r fun bs => AM.bytesV len bs fun v => K (AV.s len v, put A id (some (.cells cs el 0))))))) fun k len e2 hk => Good.iff fun h0 => Good.iff fun hlt =>
    Good.cellsOf (r := fun cs el _ K => AM.iff (Nat.beq el e) .fail (AM.dropL .fail off cs fun r => AM.takeL .fail len r fun bs => AM.bytesV len bs fun v => K (AV.s len v, put A id (some (.cells cs el 0))))) fun cs el fz hg => Good.iff fun hel =>
    Good.dropL (r := fun r K => AM.takeL .fail len r fun bs => AM.bytesV len bs fun v => K (AV.s len v, put A id (some (.cells cs el 0)))) fun hd1 => Good.takeL (r := fun bs K => AM.bytesV len bs fun v => K (AV.s len v, put A id (some (.cells cs el 0)))) fun hd2 => ?_
  subst e1 e2
  cases hx with | p _ _ l hl =>
  cases hy
  have := beq_iff.1 hel
  subst this
  have h0' := lt_iff.1 h0
  have hlt' := lt_iff.1 hlt
  obtain ⟨c, fr, hlv, hb, hcs, hcells, _, _⟩ := h.cells hg hl
  have hfit : off + len ≤ cs.length := by rw [List.length_drop] at hd2; omega
  have hcf := cells_fit hcells (by omega)
  obtain ⟨q1, _, _⟩ := cells_rel hcells hfit
  refine Good.bytesV (r := fun v K => K (AV.s len v, put A id (some (.cells cs el 0)))) (by simp; omega) (fun i k n hi => by
      obtain ⟨v, _, h2⟩ := q1.get i _ hi
      cases h2; assumption) fun v hv hbytes => Good.ret ?_
  have hbt : ∀ i, i < len → c[l.shift + off + i]? = some (.int .u8 ((v / 256 ^ i % 256 : Nat) : Int)) := by
    intro i hi
    have hbi := hbytes i hi
    rw [List.getElem?_take_of_lt hi, List.getElem?_drop] at hbi
    obtain ⟨_, v', k1, k2⟩ := hcells _ _ hbi
    rw [Nat.add_assoc, k1]
    cases k2 with | i _ _ hlt => rw [wrap_u8 _ hlt]
  obtain ⟨fr', f1, f2, f3⟩ := freeze_heap (w := w) (b := l.block) (o := l.shift + off) (n := len) hb (by omega)
  have hset := h.set (w' := w.freeze ⟨l.block, l.shift + off, none⟩ len) hlv hl (.cells cs el 0) (.cells c el fr') (.cells _ _ _ _ _ hcs hcells (fun hh => absurd rfl hh) fun hh => by cases hh) f2 f1 f3 (by unfold World.freeze SameOut; split <;> exact ⟨rfl, rfl⟩)
  refine ⟨σ, .string (strOf len v), w.freeze ⟨l.block, l.shift + off, none⟩ len, ?_, .s len v hv, hset.1, hset.2.1⟩
  have hvar := run_variablesAt (P := X.P) (w := w) (b := l.block) (o := l.shift + off) (q := l.shift + off) (m := len) hb he (by decide) (by omega) (by omega)
  have hload := run_loadBytes (P := X.P) hb len (l.shift + off) v .empty hbt
  have he0 : ByteArray.empty ++ strOf len v = strOf len v := by apply ByteArray.ext; simp
  rw [he0] at hload
  have e : Builtin.unsafeString_ ts ty #[.pointer (some ⟨l.block, l.shift + off, none⟩), .int k (k.wrap len)] = (do
    let n ← Go.asInt (.int k (k.wrap len))
    let some pt := ts[0]? | stuck "unsafe.String: no argument types"
    if n < 0 then runtimePanic (.error "unsafe.String: len out of range")
    if n > IntKind.i64.max then unsupported (.unsafePointer "String: a length above the largest int")
    if n = 0 then pure (.string .empty)
    else if ← variablesAt ⟨l.block, l.shift + off, none⟩ (← elemOf pt) n.toNat then do
      let s ← loadBytes ⟨l.block, l.shift + off, none⟩ .empty n.toNat
      freeze ⟨l.block, l.shift + off, none⟩ n.toNat
      pure (.string s)
    else unsupported (.unsafePointer "String: not so many bytes at ptr")) := rfl
  rw [e]
  simp only [Go.asInt, asIntOf, Sem.run_bind, Sem.run_pure, Result.andThen_ok, hts, wrap_nat hk]
  rw [Sem.run_ite, if_neg (by omega), Sem.run_ite, if_neg (by simp [IntKind.max, IntKind.signed, IntKind.bits]; omega), Sem.run_ite, if_neg (by omega)]
  simp only [Sem.run_bind, elemOf, run_und hp, Result.andThen_ok, Sem.run_pure, Int.toNat_natCast, hvar, if_true, hload, run_freeze]
end
end
section

/-! ## Operations: which abstract one stands for which -/
inductive ArgOk : Arg → Operand → Prop
  | t (s : Sel) : ArgOk (.t s) (.tmp s.n)
  | c (v : AV) (c : Value) (h : VR (fun _ => none) v c) : ArgOk (.c v) (.const c)
  | g (gid : Nat) : ArgOk (.c (.g gid 0)) (.global gid)
  | f (fid : Nat) : ArgOk (.c (.f fid [] [])) (.func fid)
inductive OptOk : Option Arg → Option Operand → Prop
  | none : OptOk none none
  | some (x : Arg) (y : Operand) (h : ArgOk x y) : OptOk (some x) (some y)
inductive ArgsOk : List Arg → List Operand → Prop
  | nil : ArgsOk [] []
  | cons (x : Arg) (y : Operand) (xs : List Arg) (ys : List Operand) (h : ArgOk x y) (hs : ArgsOk xs ys) : ArgsOk (x :: xs) (y :: ys)
inductive PartsOk (ok : Nat → Nat → Nat → Prop) : List (Nat × Nat × Arg) → List (Nat × Operand) → Prop
  | nil : PartsOk ok [] []
  | cons (off size j : Nat) (x : Arg) (y : Operand) (ps : List (Nat × Nat × Arg)) (ps' : List (Nat × Operand)) (hp : ok off size j) (h : ArgOk x y) (hs : PartsOk ok ps ps') : PartsOk ok ((off, size, x) :: ps) ((j, y) :: ps')

/-- The kind of a comparison, as its type asks. -/
inductive EqOk (P : Program) (a b : Operand) : Nat → TypeId → Prop
  | v (t : TypeId) : EqOk P a b 0 t
  | p (t e : TypeId) (i : TypeInfo) (ht : P.underlying t = some (.pointer e)) (hi : P.info? e = some i) (hs : i.size ≠ 0) : EqOk P a b 1 t
  | s (t e : TypeId) (ht : P.underlying t = some (.slice e)) : EqOk P a b 2 t
  | m (t k e : TypeId) (ht : P.underlying t = some (.map k e)) : EqOk P a b 3 t
  | f (t : TypeId) (ps rs : Array TypeId) (vr : Bool) (ht : P.underlying t = some (.func ps rs vr)) : EqOk P a b 4 t
  | i (t : TypeId) (ms : Array (String × TypeId)) (ht : P.underlying t = some (.interface ms)) (hc : (∃ v, a = .const v) ∨ ∃ v, b = .const v) : EqOk P a b 5 t
  | b (t : TypeId) (ht : P.underlying t = some .bool) : EqOk P a b 6 t

def bin : LOp → Prop := fun _ => True
inductive OpOk (P : Program) : LOp → Op → Prop
  | mv (x : Arg) (y : Operand) (h : ArgOk x y) : OpOk P (.mv x) (.move y)
  | asg (x : Arg) (y : Operand) (h : ArgOk x y) : OpOk P (.mv x) (.assign y)
  | pick (c a b : Arg) (c' a' b' : Operand) (hc : ArgOk c c') (ha : ArgOk a a') (hb : ArgOk b b') : OpOk P (.pick c a b) (.pick c' a' b')
  | alloc (zero : List AV) (t : TypeId) (hz : TyZero P t zero) : OpOk P (.alloc zero t) (.alloc t)
  | box (t : TypeId) (x : Arg) (y : Operand) (h : ArgOk x y) : OpOk P (.box t x) (.box t y)
  | buildS (t : TypeId) (zero : List AV) (fs : Array Field) (ps : List (Nat × Nat × Arg)) (ps' : Array (Nat × Operand)) (ht : P.underlying t = some (.struct fs)) (hz : TyZero P t zero)
      (hfs : ∀ fd, fd ∈ fs.toList → ∃ n, TySize P fd.type n) (hp : PartsOk (PlaceS P fs) ps ps'.toList) : OpOk P (.build zero ps) (.build t ps')
  | buildA (t e : TypeId) (zero : List AV) (m es : Nat) (ps : List (Nat × Nat × Arg)) (ps' : Array (Nat × Operand)) (ht : P.underlying t = some (.array m e)) (hz : TyZero P t zero) (he : TySize P e es)
      (hp : PartsOk (fun off size j => off = j * es ∧ size = es) ps ps'.toList) : OpOk P (.build zero ps) (.build t ps')
  | bslice (t e : TypeId) (zero : List AV) (len es : Nat) (ps : List (Nat × Nat × Arg)) (ps' : Array (Nat × Operand)) (ht : P.underlying t = some (.slice e)) (hz : TyZero P e zero) (hzl : zero.length = es) (he : TySize P e es)
      (hsm : len * es ≤ 2 ^ 24) (hp : PartsOk (fun off size j => off = j * es ∧ size = es) ps ps'.toList) (zeros : List AV) (hzs : zeros = (List.replicate len zero).flatten) : OpOk P (.bslice e len es zeros ps) (.buildSlice t len ps')
  | ld1 (t : TypeId) (x : Arg) (y : Operand) (ht : TyOne P t) (h : ArgOk x y) : OpOk P (.ld1 x) (.load t y)
  | ldn (t : TypeId) (n : Nat) (x : Arg) (y : Operand) (ht : TyAgg P t) (hn : TySize P t n) (h0 : 0 < n) (h : ArgOk x y) : OpOk P (.ldn n x) (.load t y)
  | st (t : TypeId) (n : Nat) (a x : Arg) (a' x' : Operand) (hn : TySize P t n) (ha : ArgOk a a') (hx : ArgOk x x') : OpOk P (.st n a x) (.store t a' x')
  | nilc (x : Arg) (y : Operand) (h : ArgOk x y) : OpOk P (.nilc x) (.nilCheck y)
  | iadd (x y : Arg) (x' y' : Operand) (t t' : TypeId) (hx : ArgOk x x') (hy : ArgOk y y') : OpOk P (.iadd x y) (.binOp .add t x' y' t')
  | isub (x y : Arg) (x' y' : Operand) (t t' : TypeId) (hx : ArgOk x x') (hy : ArgOk y y') : OpOk P (.isub x y) (.binOp .sub t x' y' t')
  | imul (x y : Arg) (x' y' : Operand) (t t' : TypeId) (hx : ArgOk x x') (hy : ArgOk y y') : OpOk P (.imul x y) (.binOp .mul t x' y' t')
  | iand (x y : Arg) (x' y' : Operand) (t t' : TypeId) (hx : ArgOk x x') (hy : ArgOk y y') : OpOk P (.iand x y) (.binOp .and t x' y' t')
  | ior (x y : Arg) (x' y' : Operand) (t t' : TypeId) (hx : ArgOk x x') (hy : ArgOk y y') : OpOk P (.ior x y) (.binOp .or t x' y' t')
  | ixor (x y : Arg) (x' y' : Operand) (t t' : TypeId) (hx : ArgOk x x') (hy : ArgOk y y') : OpOk P (.ixor x y) (.binOp .xor t x' y' t')
  | iandn (x y : Arg) (x' y' : Operand) (t t' : TypeId) (hx : ArgOk x x') (hy : ArgOk y y') : OpOk P (.iandn x y) (.binOp .andNot t x' y' t')
  | ishl (x y : Arg) (x' y' : Operand) (t t' : TypeId) (hx : ArgOk x x') (hy : ArgOk y y') : OpOk P (.ishl x y) (.binOp .shl t x' y' t')
  | ishr (x y : Arg) (x' y' : Operand) (t t' : TypeId) (hx : ArgOk x x') (hy : ArgOk y y') : OpOk P (.ishr x y) (.binOp .shr t x' y' t')
  | iquo (x y : Arg) (x' y' : Operand) (t t' : TypeId) (hx : ArgOk x x') (hy : ArgOk y y') : OpOk P (.iquo x y) (.binOp .quo t x' y' t')
  | irem (x y : Arg) (x' y' : Operand) (t t' : TypeId) (hx : ArgOk x x') (hy : ArgOk y y') : OpOk P (.irem x y) (.binOp .rem t x' y' t')
  | ilt (x y : Arg) (x' y' : Operand) (t t' : TypeId) (hx : ArgOk x x') (hy : ArgOk y y') : OpOk P (.ilt x y) (.binOp .lss t x' y' t')
  | ile (x y : Arg) (x' y' : Operand) (t t' : TypeId) (hx : ArgOk x x') (hy : ArgOk y y') : OpOk P (.ile x y) (.binOp .leq t x' y' t')
  | igt (x y : Arg) (x' y' : Operand) (t t' : TypeId) (hx : ArgOk x x') (hy : ArgOk y y') : OpOk P (.igt x y) (.binOp .gtr t x' y' t')
  | ige (x y : Arg) (x' y' : Operand) (t t' : TypeId) (hx : ArgOk x x') (hy : ArgOk y y') : OpOk P (.ige x y) (.binOp .geq t x' y' t')
  | sadd (x y : Arg) (x' y' : Operand) (t t' : TypeId) (hx : ArgOk x x') (hy : ArgOk y y') : OpOk P (.sadd x y) (.binOp .add t x' y' t')
  | eq (neg : Bool) (kind : Nat) (x y : Arg) (x' y' : Operand) (t t' : TypeId) (hk : EqOk P x' y' kind t) (hx : ArgOk x x') (hy : ArgOk y y') : OpOk P (.eq neg kind x y) (.binOp (eqOp neg) t x' y' t')
  | neg (x : Arg) (y : Operand) (t : TypeId) (h : ArgOk x y) : OpOk P (.neg x) (.unOp .neg t y)
  | not (x : Arg) (y : Operand) (t : TypeId) (h : ArgOk x y) : OpOk P (.not x) (.unOp .not t y)
  | convI (k : IntKind) (x : Arg) (y : Operand) (src dst : TypeId) (ds : TypeDesc) (hs : P.underlying src = some ds) (hd : P.underlying dst = some (.int k)) (h : ArgOk x y) : OpOk P (.convI k x) (.convert src dst y)
  | convS (x : Arg) (y : Operand) (src dst : TypeId) (ds : TypeDesc) (hs : P.underlying src = some ds) (hd : P.underlying dst = some .string) (h : ArgOk x y) : OpOk P (.convS x) (.convert src dst y)
  | sToB (x : Arg) (y : Operand) (src dst e : TypeId) (hs : P.underlying src = some .string) (hd : P.underlying dst = some (.slice e)) (he : P.underlying e = some (.int .u8)) (h : ArgOk x y) : OpOk P (.sToB e x) (.convert src dst y)
  | bToS (x : Arg) (y : Operand) (src dst e : TypeId) (hs : P.underlying src = some (.slice e)) (he : P.underlying e = some (.int .u8)) (hd : P.underlying dst = some .string) (h : ArgOk x y) : OpOk P (.bToS x) (.convert src dst y)
  | ptrU (n : Nat) (x : Arg) (y : Operand) (src dst t : TypeId) (hs : P.underlying src = some (.pointer t)) (hd : P.underlying dst = some .unsafePointer) (ht : TySize P t n) (hn : n ≠ 0) (h : ArgOk x y) : OpOk P (.ptrU n x) (.convert src dst y)
  | uPtr (n : Nat) (x : Arg) (y : Operand) (src dst e : TypeId) (hs : P.underlying src = some .unsafePointer) (hd : P.underlying dst = some (.pointer e)) (ht : TySize P e n) (hn : n ≠ 0) (h : ArgOk x y) : OpOk P (.uPtr e n x) (.convert src dst y)
  | mkf (fid : Nat) (a c : List Arg) (a' c' : Array Operand) (ha : ArgsOk a a'.toList) (hc : ArgsOk c c'.toList) : OpOk P (.mkf fid a c) (.makeFunc (.func fid) a' c')
  | mkm (t : TypeId) : OpOk P .mkm (.makeMap t none)
  | mks (e es : Nat) (zero : List AV) (l c : Arg) (l' c' : Operand) (t : TypeId) (ht : P.underlying t = some (.slice e)) (he : TySize P e es) (hz : TyZero P e zero) (hl : zero.length = es) (hb : TySmall P e) (hx : ArgOk l l') (hy : ArgOk c c') :
      OpOk P (.mks e es zero l c) (.makeSlice t l' c')
  | slS (x : Arg) (y : Operand) (lo hi : Option Arg) (lo' hi' : Option Operand) (t : TypeId) (ht : P.underlying t = some .string) (hx : ArgOk x y) (hl : OptOk lo lo') (hh : OptOk hi hi') : OpOk P (.slS x lo hi) (.slice t y lo' hi' none)
  | slV (es : Nat) (x : Arg) (y : Operand) (lo hi mx : Option Arg) (lo' hi' mx' : Option Operand) (t e : TypeId) (ht : P.underlying t = some (.slice e)) (he : TySize P e es) (hx : ArgOk x y) (hl : OptOk lo lo') (hh : OptOk hi hi') (hm : OptOk mx mx')
      (hmh : mx' ≠ none → hi' ≠ none) : OpOk P (.slV es x lo hi mx) (.slice t y lo' hi' mx')
  | slA (n es : Nat) (x : Arg) (y : Operand) (lo hi : Option Arg) (lo' hi' : Option Operand) (t e : TypeId) (ht : P.underlying t = some (.array n e) ∨ ∃ a, P.underlying t = some (.pointer a) ∧ P.underlying a = some (.array n e)) (he : TySize P e es)
      (hx : ArgOk x y) (hl : OptOk lo lo') (hh : OptOk hi hi') : OpOk P (.slA n es x lo hi) (.slice t y lo' hi' none)
  | faddr (off fld n : Nat) (x : Arg) (y : Operand) (t : TypeId) (fs : Array Field) (fd : Field) (ht : P.underlying t = some (.struct fs)) (hf : fs[fld]? = some fd) (ho : fd.offset = off) (hft : TySize P fd.type n) (hn : n ≠ 0) (h : ArgOk x y) :
      OpOk P (.faddr off x) (.fieldAddr t y fld)
  | fld1 (off fld : Nat) (x : Arg) (y : Operand) (t : TypeId) (fs : Array Field) (fd : Field) (ht : P.underlying t = some (.struct fs)) (hf : fs[fld]? = some fd) (ho : fd.offset = off) (hft : TyOne P fd.type) (h : ArgOk x y) : OpOk P (.fld1 off x) (.field t y fld)
  | fldn (off n fld : Nat) (x : Arg) (y : Operand) (t : TypeId) (fs : Array Field) (fd : Field) (ht : P.underlying t = some (.struct fs)) (hf : fs[fld]? = some fd) (ho : fd.offset = off) (hft : TyAgg P fd.type) (hn : TySize P fd.type n) (h : ArgOk x y) :
      OpOk P (.fldn off n x) (.field t y fld)
  | iaddr (es : Nat) (x ix : Arg) (x' ix' : Operand) (t e : TypeId) (ht : P.underlying t = some (.slice e)) (he : TySize P e es) (hx : ArgOk x x') (hy : ArgOk ix ix') : OpOk P (.iaddr es x ix) (.indexAddr t x' ix')
  | iaddrA (len es : Nat) (x ix : Arg) (x' ix' : Operand) (t e : TypeId) (ht : P.underlying t = some (.array len e)) (he : TySize P e es) (hx : ArgOk x x') (hy : ArgOk ix ix') : OpOk P (.iaddrA len es x ix) (.indexAddr t x' ix')
  | idxS (x ix : Arg) (x' ix' : Operand) (t : TypeId) (ht : P.underlying t = some .string) (hx : ArgOk x x') (hy : ArgOk ix ix') : OpOk P (.idxS x ix) (.index t x' ix')
  | idxA1 (len : Nat) (x ix : Arg) (x' ix' : Operand) (t e : TypeId) (ht : P.underlying t = some (.array len e)) (he : TySize P e 1) (ho : TyOne P e) (hx : ArgOk x x') (hy : ArgOk ix ix') : OpOk P (.idxA1 len x ix) (.index t x' ix')
  | idxAn (len es : Nat) (x ix : Arg) (x' ix' : Operand) (t e : TypeId) (ht : P.underlying t = some (.array len e)) (he : TySize P e es) (ho : TyAgg P e) (hx : ArgOk x x') (hy : ArgOk ix ix') : OpOk P (.idxAn len es x ix) (.index t x' ix')
  | lookup (str ok : Bool) (zero : AV) (x k : Arg) (x' k' : Operand) (t kt e : TypeId) (ht : P.underlying t = some (.map kt e)) (hk : KeyTy P kt str) (hz : ZeroV P e zero) (hx : ArgOk x x') (hy : ArgOk k k') : OpOk P (.lookup str zero ok x k) (.lookup t x' k' ok)
  | mupd (str : Bool) (m k x : Arg) (m' k' x' : Operand) (t kt e : TypeId) (ht : P.underlying t = some (.map kt e)) (hk : KeyTy P kt str) (hm : ArgOk m m') (hk' : ArgOk k k') (hx : ArgOk x x') : OpOk P (.mupd str m k x) (.mapUpdate t m' k' x')
  | ins (str : Bool) (m k x : Arg) (m' k' x' : Operand) (t kt e : TypeId) (ht : P.underlying t = some (.map kt e)) (hk : KeyTy P kt str) (hm : ArgOk m m') (hk' : ArgOk k k') (hx : ArgOk x x') : OpOk P (.mupd str m k x) (.insert t m' k' x')
  | rangeS (x : Arg) (y : Operand) (t : TypeId) (ht : P.underlying t = some .string) (h : ArgOk x y) : OpOk P (.rangeS x) (.range t y)
  | rangeM (x : Arg) (y : Operand) (t kt e : TypeId) (ht : P.underlying t = some (.map kt e)) (h : ArgOk x y) : OpOk P (.rangeM x) (.range t y)
  | nextS (x : Arg) (y : Operand) (h : ArgOk x y) : OpOk P (.nextS x) (.next y true)
  | nextM (x : Arg) (y : Operand) (h : ArgOk x y) : OpOk P (.nextM x) (.next y false)
  | entry (x : Arg) (y : Operand) (h : ArgOk x y) : OpOk P (.entry x) (.entry y)
  | extract (ix : Nat) (x : Arg) (y : Operand) (h : ArgOk x y) : OpOk P (.extract ix x) (.extract y ix)
  | mkif (t : TypeId) (d : TypeDesc) (x : Arg) (y : Operand) (ht : P.underlying t = some d) (hd : ∀ m, d ≠ .interface m) (h : ArgOk x y) : OpOk P (.mkif t x) (.makeInterface t y)
  | lenC (n : Nat) (y : Operand) (ts : Array TypeId) (t : TypeId) (hts : ts[0]? = some t) (ht : (∃ e, P.underlying t = some (.array n e)) ∨ ∃ a e, P.underlying t = some (.pointer a) ∧ P.underlying a = some (.array n e)) (hn : n < 0x8000000000000000) :
      OpOk P (.mv (.c (.i .i64 n))) (.call { callee := .builtin .len, args := #[y], argTypes := ts })
  | lenS (x : Arg) (y : Operand) (ts : Array TypeId) (t : TypeId) (hts : ts[0]? = some t) (ht : P.underlying t = some .string) (h : ArgOk x y) : OpOk P (.lenS x) (.call { callee := .builtin .len, args := #[y], argTypes := ts })
  | lenV (x : Arg) (y : Operand) (ts : Array TypeId) (t e : TypeId) (hts : ts[0]? = some t) (ht : P.underlying t = some (.slice e)) (h : ArgOk x y) : OpOk P (.lenV x) (.call { callee := .builtin .len, args := #[y], argTypes := ts })
  | lenM (x : Arg) (y : Operand) (ts : Array TypeId) (t k e : TypeId) (hts : ts[0]? = some t) (ht : P.underlying t = some (.map k e)) (h : ArgOk x y) : OpOk P (.lenM x) (.call { callee := .builtin .len, args := #[y], argTypes := ts })
  | cap (x : Arg) (y : Operand) (ts : Array TypeId) (t e : TypeId) (hts : ts[0]? = some t) (ht : P.underlying t = some (.slice e)) (h : ArgOk x y) : OpOk P (.cap x) (.call { callee := .builtin .cap, args := #[y], argTypes := ts })
  | append (es : Nat) (s x : Arg) (s' x' : Operand) (ts : Array TypeId) (t u e : TypeId) (du : TypeDesc) (i : TypeInfo) (z : Value) (ht : P.underlying t = some (.slice e)) (hu : P.underlying u = some du) (hdu : ∀ k, du ≠ .int k)
      (hi : P.info? e = some i) (hz : i.zero = some z) (hes : i.size = es) (hzs : z.cells.size = es) (hb : i.bytes ≤ 1048576) (h0 : ts[0]? = some t) (h1 : ts[1]? = some u) (hs : ArgOk s s') (hx : ArgOk x x') :
      OpOk P (.append es e s x) (.call { callee := .builtin .append, args := #[s', x'], argTypes := ts })
  | copy (es : Nat) (d s : Arg) (d' s' : Operand) (ts : Array TypeId) (t e : TypeId) (hts : ts[0]? = some t) (ht : P.underlying t = some (.slice e)) (he : TySize P e es) (hd : ArgOk d d') (hs : ArgOk s s') :
      OpOk P (.copy es d s) (.call { callee := .builtin .copy, args := #[d', s'], argTypes := ts })
  | delete (str : Bool) (m k : Arg) (m' k' : Operand) (ts : Array TypeId) (t kt e : TypeId) (hts : ts[0]? = some t) (ht : P.underlying t = some (.map kt e)) (hk : KeyTy P kt str) (hm : ArgOk m m') (hk' : ArgOk k k') :
      OpOk P (.delete str m k) (.call { callee := .builtin .delete, args := #[m', k'], argTypes := ts })
  | imin (x y : Arg) (x' y' : Operand) (ts : Array TypeId) (hx : ArgOk x x') (hy : ArgOk y y') : OpOk P (.imin x y) (.call { callee := .builtin .min, args := #[x', y'], argTypes := ts })
  | imax (x y : Arg) (x' y' : Operand) (ts : Array TypeId) (hx : ArgOk x x') (hy : ArgOk y y') : OpOk P (.imax x y) (.call { callee := .builtin .max, args := #[x', y'], argTypes := ts })
  | usd (x : Arg) (y : Operand) (ts : Array TypeId) (h : ArgOk x y) : OpOk P (.usd x) (.call { callee := .builtin .unsafeSliceData, args := #[y], argTypes := ts })
  | ustr (p n : Arg) (p' n' : Operand) (ts : Array TypeId) (pt e : TypeId) (hts : ts[0]? = some pt) (hp : P.underlying pt = some (.pointer e)) (he : TySize P e 1) (hx : ArgOk p p') (hy : ArgOk n n') :
      OpOk P (.ustr e p n) (.call { callee := .builtin .unsafeString, args := #[p', n'], argTypes := ts })
  | call (fid : Nat) (as : List Arg) (as' : Array Operand) (ts : Array TypeId) (h : ArgsOk as as'.toList) : OpOk P (.call fid as) (.call { callee := .value (.func fid), args := as', argTypes := ts })
  | callv (x : Arg) (y : Operand) (as : List Arg) (as' : Array Operand) (ts : Array TypeId) (hx : ArgOk x y) (h : ArgsOk as as'.toList) : OpOk P (.callv x as) (.call { callee := .value y, args := as', argTypes := ts })

/-! ## A step -/
/-- How an operation lands: with a value, or in a call that returns one. -/
def Lands (X : Par) (σ : Sg) (A : AW) (w : World) (r : Result Next) (p : AV × AW) : Prop :=
  match r with
  | .ok (.value v') w' => ∃ σ', VR σ' p.1 v' ∧ HR X σ' p.2 w' ∧ Ext σ A w σ' p.2 w'
  | .ok .skip w' => ∃ σ', VR σ' p.1 undef ∧ HR X σ' p.2 w' ∧ Ext σ A w σ' p.2 w'
  | .ok (.enter f args) w1 => Calls X.P f args w1 fun e w' => ∃ v' σ', e = .returned v' ∧ VR σ' p.1 v' ∧ HR X σ' p.2 w' ∧ Ext σ A w σ' p.2 w'
  | _ => False
def CEok (X : Par) (CE : Nat → List AV → AW → CRes) : Prop :=
  ∀ fid args A v A', CE fid args A = .ok v A' → ∀ σ w (vs : Array Value), HR X σ A w → VRs σ args vs.toList → Lands X σ A w ((callFunc fid vs).run X.P w) (v, A')

section
variable {X : Par} {σ : Sg} {A : AW} {w : World}
theorem lands_v {S : Sem Value} {p : AV × AW} (h : VSound X σ A w S p) : Lands X σ A w ((do pure (Next.value (← S)) : Sem Next).run X.P w) p := by
  obtain ⟨σ', v', w', h1, h2⟩ := h
  rw [Sem.run_bind, h1]
  exact ⟨σ', h2⟩
theorem lands_u {S : Sem Unit} {p : AV × AW} (h : USound X σ A w S p) : Lands X σ A w ((do S; pure Next.skip : Sem Next).run X.P w) p := by
  obtain ⟨σ', w', h1, h2⟩ := h
  rw [Sem.run_bind, h1]
  exact ⟨σ', h2⟩
theorem ArgOk.rel {f : Frame} {a : Act} {x : Arg} {y : Operand} (h : ArgOk x y) (ht : ∀ n, y = .tmp n → n < 512 → VR σ (getT n f) (a.eval (.tmp n))) : VR σ (x.ev f) (a.eval y) := by
  cases h with
  | t s => have := ht s.n rfl s.lt; rwa [← s.getE] at this
  | c v c h => exact h.lit
  | g gid => exact .g gid 0
  | f fid => exact .f fid [] [] #[] #[] .nil .nil
theorem ArgsOk.rel {f : Frame} {ρ : Operand → Value} {xs : List Arg} {ys : List Operand} (h : ArgsOk xs ys) (hA : ∀ x y, ArgOk x y → y ∈ ys → VR σ (x.ev f) (ρ y)) : VRs σ (evL f xs) (ys.map ρ) := by
  induction h with
  | nil => exact .nil
  | cons x y xs ys h hs ih => exact .cons _ _ _ _ (hA x y h (by simp)) (ih fun x y h hm => hA x y h (by simp [hm]))
theorem PartsOk.rel {f : Frame} {ρ : Operand → Value} {ok : Nat → Nat → Nat → Prop} {ps : List (Nat × Nat × Arg)} {ps' : List (Nat × Operand)} (h : PartsOk ok ps ps') (hA : ∀ x y, ArgOk x y → y ∈ ps'.map (·.2) → VR σ (x.ev f) (ρ y)) :
    Parts0 σ f ok ps (ps'.map fun p => (p.1, ρ p.2)) := by
  induction h with
  | nil => exact .nil
  | cons off size j x y ps ps' hp h hs ih => exact .cons off size j x (ρ y) ps _ hp (hA x y h (by simp)) (ih fun x y h hm => hA x y h (by simp [hm]))
theorem OptOk.rel {f : Frame} {ρ : Operand → Value} {x : Option Arg} {y : Option Operand} (h : OptOk x y) (hA : ∀ (x : Arg) (z : Operand), ArgOk x z → y = Option.some z → VR σ (x.ev f) (ρ z)) : OptR σ f x (y.map ρ) := by
  cases h with
  | none => exact .none
  | some x y h => exact .some x (ρ y) (hA x y h rfl)

theorem g_call {CE : Nat → List AV → AW → CRes} (hCE : CEok X CE) {fid : Nat} {args : List AV} {vs : Array Value} (h : HR X σ A w) (hr : VRs σ args vs.toList) :
    Good (fun K => CRes.rec (motive := fun _ => Res) .fail (fun v A' => K (v, A')) (CE fid args A)) (fun p => Lands X σ A w ((callFunc fid vs).run X.P w) p) := by
  cases hc : CE fid args A with
  | fail => exact Good.no
  | ok v A' => exact Good.ret (hCE fid args A v A' hc σ w vs h hr)
end
end
section

section
variable {X : Par} {σ : Sg} {A : AW} {w : World} {f : Frame}

theorem Good.curry {Q : AV × AW → Prop} {r : (AV → AW → Res) → Res} (h : Good (fun K : AV × AW → Res => r fun v A' => K (v, A')) Q) : (∀ K, r K = .fail) ∨ ∃ v A', (∀ K, r K = K v A') ∧ Q (v, A') :=
  h.imp (fun h K => h fun p => K p.1 p.2) fun ⟨p, h1, h2⟩ => ⟨p.1, p.2, fun K => h1 fun p => K p.1 p.2, h2⟩
theorem Good.lv {r : (AV × AW → Res) → Res} {S : Sem Value} {N : Sem Next} (h : Good r (VSound X σ A w S)) (hN : N = (do pure (Next.value (← S)))) : Good r (fun p => Lands X σ A w (N.run X.P w) p) := by
  subst hN; exact h.mono fun p hp => lands_v hp
theorem Good.lu {r : (AV × AW → Res) → Res} {S : Sem Unit} {N : Sem Next} (h : Good r (USound X σ A w S)) (hN : N = (do S; pure Next.skip)) : Good r (fun p => Lands X σ A w (N.run X.P w) p) := by
  subst hN; exact h.mono fun p hp => lands_u hp
theorem lenC_run {n : Nat} {ts : Array TypeId} {t ty : TypeId} {v : Value} (hts : ts[0]? = some t) (ht : (∃ e, X.P.underlying t = some (.array n e)) ∨ ∃ a e, X.P.underlying t = some (.pointer a) ∧ X.P.underlying a = some (.array n e)) :
    (Builtin.len_ ts ty #[v]).run X.P w = .ok (.int .i64 (n : Int)) w := by
  rcases ht with ⟨e, ht⟩ | ⟨a, e, ht, hta⟩
  · simp [Builtin.len_, hts, run_und ht, goInt]
  · simp [Builtin.len_, hts, run_und ht, run_und hta, goInt]

theorem ex_b1 {ρ : Operand → Value} (dst : Option Tmp) (b : Builtin) (y : Operand) (ts : Array TypeId) (type : TypeId) (pos : String) (after : Array Edge) (guard : Option (Nat × Bool)) :
    ∃ cs, execOp ρ ⟨dst, .call { callee := .builtin b, args := #[y], argTypes := ts }, type, pos, after, guard⟩ = builtin b ts type cs #[ρ y] :=
  ⟨#[y].map fun | .const _ => true | _ => false, by simp [execOp, resolve, invoke]; rfl⟩
theorem ex_b2 {ρ : Operand → Value} (dst : Option Tmp) (b : Builtin) (x y : Operand) (ts : Array TypeId) (type : TypeId) (pos : String) (after : Array Edge) (guard : Option (Nat × Bool)) :
    ∃ cs, execOp ρ ⟨dst, .call { callee := .builtin b, args := #[x, y], argTypes := ts }, type, pos, after, guard⟩ = builtin b ts type cs #[ρ x, ρ y] :=
  ⟨#[x, y].map fun | .const _ => true | _ => false, by simp [execOp, resolve, invoke]; rfl⟩
set_option maxHeartbeats 8000000 in
/-- **Every operation that has its counterpart lands as the abstract machine says.** -/
theorem step_good {CE : Nat → List AV → AW → CRes} (hCE : CEok X CE) {lop : LOp} {o : Oper} (hop : OpOk X.P lop o.op) (h : HR X σ A w) {ρ : Operand → Value} (hA : ∀ x y, ArgOk x y → y ∈ o.op.operands → VR σ (x.ev f) (ρ y)) :
    Good (fun K => stepOp X.G CE lop f A fun v A' => K (v, A')) (fun p => Lands X σ A w ((execOp ρ o).run X.P w) p) := by
  obtain ⟨dst, op, type, pos, after, guard⟩ := o
  simp only at hop hA
  cases hop with
  | mv x y hx => exact Good.ret ⟨σ, hA x y hx (by simp [Op.operands]), h, .refl _ _ _⟩
  | asg x y hx => exact Good.ret ⟨σ, hA x y hx (by simp [Op.operands]), h, .refl _ _ _⟩
  | pick c a b c' a' b' hc ha hb => exact (g_pick h (hA c c' hc (by simp [Op.operands])) (hA a a' ha (by simp [Op.operands])) (hA b b' hb (by simp [Op.operands]))).lv (by simp [execOp])
  | alloc zero t hz => exact (g_alloc hz h).lv rfl
  | box t x y hx => exact (g_box h (hA x y hx (by simp [Op.operands]))).lv rfl
  | buildS t zero fs ps ps' ht hz hfs hp =>
    exact (g_buildS (ps' := ps'.map fun (i, x) => (i, ρ x)) ht hz hfs h (by
      rw [Array.toList_map]
      exact hp.rel fun x y hx hm => hA x y hx (by simp only [Op.operands]; simpa using hm))).lv rfl
  | buildA t e zero m es ps ps' ht hz he hp =>
    exact (g_buildA (ps' := ps'.map fun (i, x) => (i, ρ x)) ht hz he h (by
      rw [Array.toList_map]
      exact hp.rel fun x y hx hm => hA x y hx (by simp only [Op.operands]; simpa using hm))).lv rfl
  | bslice t e zero len es ps ps' ht hz hzl he hsm hp zeros hzs =>
    subst hzs
    exact (g_bslice (ps' := ps'.map fun (i, x) => (i, ρ x)) ht hz hzl he hsm h (by
      rw [Array.toList_map]
      exact hp.rel fun x y hx hm => hA x y hx (by simp only [Op.operands]; simpa using hm))).lv rfl
  | ld1 t x y ht hx => exact (g_ld1 ht h (hA x y hx (by simp [Op.operands]))).lv rfl
  | ldn t n x y ht hn h0 hx => exact (g_ldn ht hn h0 h (hA x y hx (by simp [Op.operands]))).lv rfl
  | st t n a x a' x' hn ha hx => exact Good.lu (S := Instr.storeAt t (ρ a') (ρ x')) (g_st hn h (hA a a' ha (by simp [Op.operands])) (hA x x' hx (by simp [Op.operands]))) rfl
  | nilc x y hx =>
    refine (g_nilc h (hA x y hx (by simp [Op.operands])) (execOp ρ ⟨dst, .nilCheck y, type, pos, after, guard⟩) fun v hv he => ?_).mono fun p ⟨σ', v', w', h1, h2, h3, h4⟩ => by
      rw [h1]; exact ⟨σ', h2, h3, h4⟩
    rcases hv with ⟨a, rfl⟩ | ⟨f, a, b, rfl⟩ <;> simp [execOp, he]
  | iadd x y x' y' t t' hx hy => exact (g_iadd t h (hA x x' hx (by simp [Op.operands])) (hA y y' hy (by simp [Op.operands]))).lv (by simp [execOp, eqGuard])
  | isub x y x' y' t t' hx hy => exact (g_isub t h (hA x x' hx (by simp [Op.operands])) (hA y y' hy (by simp [Op.operands]))).lv (by simp [execOp, eqGuard])
  | imul x y x' y' t t' hx hy => exact (g_imul t h (hA x x' hx (by simp [Op.operands])) (hA y y' hy (by simp [Op.operands]))).lv (by simp [execOp, eqGuard])
  | iand x y x' y' t t' hx hy => exact (g_iand t h (hA x x' hx (by simp [Op.operands])) (hA y y' hy (by simp [Op.operands]))).lv (by simp [execOp, eqGuard])
  | ior x y x' y' t t' hx hy => exact (g_ior t h (hA x x' hx (by simp [Op.operands])) (hA y y' hy (by simp [Op.operands]))).lv (by simp [execOp, eqGuard])
  | ixor x y x' y' t t' hx hy => exact (g_ixor t h (hA x x' hx (by simp [Op.operands])) (hA y y' hy (by simp [Op.operands]))).lv (by simp [execOp, eqGuard])
  | iandn x y x' y' t t' hx hy => exact (g_iandn t h (hA x x' hx (by simp [Op.operands])) (hA y y' hy (by simp [Op.operands]))).lv (by simp [execOp, eqGuard])
  | ishl x y x' y' t t' hx hy => exact (g_ishl t h (hA x x' hx (by simp [Op.operands])) (hA y y' hy (by simp [Op.operands]))).lv (by simp [execOp, eqGuard])
  | ishr x y x' y' t t' hx hy => exact (g_ishr t h (hA x x' hx (by simp [Op.operands])) (hA y y' hy (by simp [Op.operands]))).lv (by simp [execOp, eqGuard])
  | iquo x y x' y' t t' hx hy => exact (g_iquo t h (hA x x' hx (by simp [Op.operands])) (hA y y' hy (by simp [Op.operands]))).lv (by simp [execOp, eqGuard])
  | irem x y x' y' t t' hx hy => exact (g_irem t h (hA x x' hx (by simp [Op.operands])) (hA y y' hy (by simp [Op.operands]))).lv (by simp [execOp, eqGuard])
  | ilt x y x' y' t t' hx hy => exact (g_ilt t h (hA x x' hx (by simp [Op.operands])) (hA y y' hy (by simp [Op.operands]))).lv (by simp [execOp, eqGuard])
  | ile x y x' y' t t' hx hy => exact (g_ile t h (hA x x' hx (by simp [Op.operands])) (hA y y' hy (by simp [Op.operands]))).lv (by simp [execOp, eqGuard])
  | igt x y x' y' t t' hx hy => exact (g_igt t h (hA x x' hx (by simp [Op.operands])) (hA y y' hy (by simp [Op.operands]))).lv (by simp [execOp, eqGuard])
  | ige x y x' y' t t' hx hy => exact (g_ige t h (hA x x' hx (by simp [Op.operands])) (hA y y' hy (by simp [Op.operands]))).lv (by simp [execOp, eqGuard])
  | sadd x y x' y' t t' hx hy => exact (g_sadd t h (hA x x' hx (by simp [Op.operands])) (hA y y' hy (by simp [Op.operands]))).lv (by simp [execOp, eqGuard])
  | eq neg kind x y x' y' t t' hk hx hy =>
    have kx := hA x x' hx (by simp [Op.operands])
    have ky := hA y y' hy (by simp [Op.operands])
    cases hk with
    | v => exact (g_eqv t neg x' y' h kx ky).lv rfl
    | p _ e i ht hi hs => exact (g_eqp ht hi hs neg x' y' h kx ky).lv rfl
    | s _ e ht => exact (g_eqs ht neg x' y' h kx ky).lv rfl
    | m _ k e ht => exact (g_eqm ht neg x' y' h kx ky).lv rfl
    | f _ ps rs vr ht => exact (g_eqf ht neg x' y' h kx ky).lv rfl
    | i _ ms ht hc => exact (g_eqi ht neg hc h kx ky).lv rfl
    | b _ ht => exact (g_eqb ht neg x' y' h kx ky).lv rfl
  | neg x y t hx => exact (g_neg h (hA x y hx (by simp [Op.operands]))).lv rfl
  | not x y t hx => exact (g_not h (hA x y hx (by simp [Op.operands]))).lv rfl
  | convI k x y src dst ds hs hd hx => exact (g_convI hs hd h (hA x y hx (by simp [Op.operands]))).lv rfl
  | convS x y src dst ds hs hd hx => exact (g_convS hs hd h (hA x y hx (by simp [Op.operands]))).lv rfl
  | sToB x y src dst e hs hd he hx => exact (g_sToB hs hd he h (hA x y hx (by simp [Op.operands]))).lv rfl
  | bToS x y src dst e hs he hd hx => exact (g_bToS hs he hd h (hA x y hx (by simp [Op.operands]))).lv rfl
  | ptrU n x y src dst t hs hd ht hn hx => exact (g_ptrU hs hd ht hn h (hA x y hx (by simp [Op.operands]))).lv rfl
  | uPtr n x y src dst e hs hd ht hn hx => exact (g_uPtr hs hd ht hn h (hA x y hx (by simp [Op.operands]))).lv rfl
  | mkf fid a c a' c' ha hc =>
    refine Good.ret ?_
    show Lands X σ A w (.ok (.value (.func (.func fid) (a'.map ρ) (c'.map ρ))) w) _
    refine ⟨σ, .f fid _ _ _ _ ?_ ?_, h, .refl _ _ _⟩
    · rw [Array.toList_map]
      exact ha.rel fun x y hx hm => hA x y hx (by simp [Op.operands]; exact .inl (by simpa using hm))
    · rw [Array.toList_map]
      exact hc.rel fun x y hx hm => hA x y hx (by simp [Op.operands]; exact .inr (by simpa using hm))
  | mkm t => exact (g_mkm rfl h).lv rfl
  | mks e es zero l c l' c' t ht he hz hl hb hx hy => exact (g_mks ht he hz hl hb h (hA l l' hx (by simp [Op.operands])) (hA c c' hy (by simp [Op.operands]))).lv rfl
  | slS x y lo hi lo' hi' t ht hx hl hh =>
    exact (g_slS ht (hl.rel fun x z hz he => hA x z hz (by simp [Op.operands, he])) (hh.rel fun x z hz he => hA x z hz (by simp [Op.operands, he])) h (hA x y hx (by simp [Op.operands]))).lv rfl
  | slV es x y lo hi mx lo' hi' mx' t e ht he hx hl hh hm hmh =>
    exact (g_slV ht he (hl.rel fun x z hz he => hA x z hz (by simp [Op.operands, he])) (hh.rel fun x z hz he => hA x z hz (by simp [Op.operands, he])) (hm.rel fun x z hz he => hA x z hz (by simp [Op.operands, he]))
      (by cases mx' <;> cases hi' <;> simp_all) h (hA x y hx (by simp [Op.operands]))).lv rfl
  | slA n es x y lo hi lo' hi' t e ht he hx hl hh =>
    exact (g_slA ht he (hl.rel fun x z hz he => hA x z hz (by simp [Op.operands, he])) (hh.rel fun x z hz he => hA x z hz (by simp [Op.operands, he])) h (hA x y hx (by simp [Op.operands]))).lv rfl
  | faddr off fld n x y t fs fd ht hf ho hft hn hx => exact (g_faddr ht hf ho hft hn rfl h (hA x y hx (by simp [Op.operands]))).lv rfl
  | fld1 off fld x y t fs fd ht hf ho hft hx => exact (g_fld1 ht hf ho hft h (hA x y hx (by simp [Op.operands]))).lv rfl
  | fldn off n fld x y t fs fd ht hf ho hft hn hx => exact (g_fldn ht hf ho hft hn h (hA x y hx (by simp [Op.operands]))).lv rfl
  | iaddr es x ix x' ix' t e ht he hx hy => exact (g_iaddr ht he h (hA x x' hx (by simp [Op.operands])) (hA ix ix' hy (by simp [Op.operands]))).lv rfl
  | iaddrA len es x ix x' ix' t e ht he hx hy => exact (g_iaddrA ht he h (hA x x' hx (by simp [Op.operands])) (hA ix ix' hy (by simp [Op.operands]))).lv rfl
  | idxS x ix x' ix' t ht hx hy => exact (g_idxS ht h (hA x x' hx (by simp [Op.operands])) (hA ix ix' hy (by simp [Op.operands]))).lv rfl
  | idxA1 len x ix x' ix' t e ht he ho hx hy => exact (g_idxA1 ht he ho h (hA x x' hx (by simp [Op.operands])) (hA ix ix' hy (by simp [Op.operands]))).lv rfl
  | idxAn len es x ix x' ix' t e ht he ho hx hy => exact (g_idxAn ht he ho h (hA x x' hx (by simp [Op.operands])) (hA ix ix' hy (by simp [Op.operands]))).lv rfl
  | lookup str ok zero x k x' k' t kt e ht hk hz hx hy => exact (g_lookup ht hk hz h (hA x x' hx (by simp [Op.operands])) (hA k k' hy (by simp [Op.operands]))).lv rfl
  | mupd str m k x m' k' x' t kt e ht hk hm hk' hx => exact (g_mupd ht hk h (hA m m' hm (by simp [Op.operands])) (hA k k' hk' (by simp [Op.operands])) (hA x x' hx (by simp [Op.operands]))).lu rfl
  | ins str m k x m' k' x' t kt e ht hk hm hk' hx => exact (g_mupd ht hk h (hA m m' hm (by simp [Op.operands])) (hA k k' hk' (by simp [Op.operands])) (hA x x' hx (by simp [Op.operands]))).lu rfl
  | rangeS x y t ht hx => exact (g_rangeS ht h (hA x y hx (by simp [Op.operands]))).lv rfl
  | rangeM x y t kt e ht hx => exact (g_rangeM ht h (hA x y hx (by simp [Op.operands]))).lv rfl
  | nextS x y hx => exact (g_nextS type h (hA x y hx (by simp [Op.operands]))).lv rfl
  | nextM x y hx => exact (g_nextM type h (hA x y hx (by simp [Op.operands]))).lv rfl
  | entry x y hx => exact (g_entry h (hA x y hx (by simp [Op.operands]))).lv rfl
  | extract ix x y hx => exact (g_extract h (hA x y hx (by simp [Op.operands]))).lv rfl
  | mkif t d x y ht hd hx => exact (g_mkif ht hd h (hA x y hx (by simp [Op.operands]))).lv rfl
  | lenC n y ts t hts ht hn =>
    obtain ⟨cs, hcs⟩ := ex_b1 (ρ := ρ) dst .len y ts type pos after guard
    rw [hcs]
    exact Good.ret (lands_v (S := Builtin.len_ ts type #[ρ y]) (.pure h (lenC_run hts ht) (.int64 σ n hn)))
  | lenS x y ts t hts ht hx => exact (g_lenS (ty := type) hts ht h (hA x y hx (by simp [Op.operands, Call.operands]))).lv (by obtain ⟨cs, hcs⟩ := ex_b1 (ρ := ρ) dst .len y ts type pos after guard; exact hcs)
  | lenV x y ts t e hts ht hx => exact (g_lenV (ty := type) hts ht h (hA x y hx (by simp [Op.operands, Call.operands]))).lv (by obtain ⟨cs, hcs⟩ := ex_b1 (ρ := ρ) dst .len y ts type pos after guard; exact hcs)
  | lenM x y ts t k e hts ht hx => exact (g_lenM (ty := type) hts ht h (hA x y hx (by simp [Op.operands, Call.operands]))).lv (by obtain ⟨cs, hcs⟩ := ex_b1 (ρ := ρ) dst .len y ts type pos after guard; exact hcs)
  | cap x y ts t e hts ht hx => exact (g_cap (ty := type) hts ht h (hA x y hx (by simp [Op.operands, Call.operands]))).lv (by obtain ⟨cs, hcs⟩ := ex_b1 (ρ := ρ) dst .cap y ts type pos after guard; exact hcs)
  | append es s x s' x' ts t u e du i z ht hu hdu hi hz hes hzs hb h0 h1 hs hx =>
    exact (g_append (ty := type) ht hu hdu hi hz hes hzs hb h0 h1 h (hA s s' hs (by simp [Op.operands, Call.operands])) (hA x x' hx (by simp [Op.operands, Call.operands]))).lv (by obtain ⟨cs, hcs⟩ := ex_b2 (ρ := ρ) dst .append s' x' ts type pos after guard; exact hcs)
  | copy es d s d' s' ts t e hts ht he hd hs => exact (g_copy (ty := type) hts ht he h (hA d d' hd (by simp [Op.operands, Call.operands])) (hA s s' hs (by simp [Op.operands, Call.operands]))).lv (by obtain ⟨cs, hcs⟩ := ex_b2 (ρ := ρ) dst .copy d' s' ts type pos after guard; exact hcs)
  | delete str m k m' k' ts t kt e hts ht hk hm hk' => exact (g_delete (ty := type) hts ht hk h (hA m m' hm (by simp [Op.operands, Call.operands])) (hA k k' hk' (by simp [Op.operands, Call.operands]))).lv (by obtain ⟨cs, hcs⟩ := ex_b2 (ρ := ρ) dst .delete m' k' ts type pos after guard; exact hcs)
  | imin x y x' y' ts hx hy => exact (g_imin h (hA x x' hx (by simp [Op.operands, Call.operands])) (hA y y' hy (by simp [Op.operands, Call.operands])) ts type).lv (by obtain ⟨cs, hcs⟩ := ex_b2 (ρ := ρ) dst .min x' y' ts type pos after guard; exact hcs)
  | imax x y x' y' ts hx hy => exact (g_imax h (hA x x' hx (by simp [Op.operands, Call.operands])) (hA y y' hy (by simp [Op.operands, Call.operands])) ts type).lv (by obtain ⟨cs, hcs⟩ := ex_b2 (ρ := ρ) dst .max x' y' ts type pos after guard; exact hcs)
  | usd x y ts hx => exact (g_usd ts type h (hA x y hx (by simp [Op.operands, Call.operands]))).lv (by obtain ⟨cs, hcs⟩ := ex_b1 (ρ := ρ) dst .unsafeSliceData y ts type pos after guard; exact hcs)
  | ustr p n p' n' ts pt e hts hp he hx hy => exact (g_ustr (ty := type) hts hp he h (hA p p' hx (by simp [Op.operands, Call.operands])) (hA n n' hy (by simp [Op.operands, Call.operands]))).lv (by obtain ⟨cs, hcs⟩ := ex_b2 (ρ := ρ) dst .unsafeString p' n' ts type pos after guard; exact hcs)
  | call fid as as' ts hs =>
    have hr : VRs σ (evL f as) (as'.map ρ).toList := by
      rw [Array.toList_map]
      exact hs.rel fun x y hx hm => hA x y hx (by simp [Op.operands, Call.operands]; exact .inr (by simpa using hm))
    have hf := hA _ _ (ArgOk.f fid) (by simp [Op.operands, Call.operands])
    have e : execOp ρ ⟨dst, .call { callee := .value (.func fid), args := as', argTypes := ts }, type, pos, after, guard⟩ = callFunc fid (as'.map ρ) := by
      generalize hv : ρ (.func fid) = v at hf
      cases hf with
      | f _ _ _ f' c' h1 h2 =>
        have e1 : f' = #[] := by cases hl : f'.toList with
          | nil => exact Array.toList_inj.1 hl
          | cons _ _ => rw [hl] at h1; cases h1
        have e2 : c' = #[] := by cases hl : c'.toList with
          | nil => exact Array.toList_inj.1 hl
          | cons _ _ => rw [hl] at h2; cases h2
        subst e1 e2
        simp [execOp, resolve, invoke, hv, Deferred.ofValue]
    rw [e]
    exact g_call hCE h hr
  | callv x y as as' ts hx hs =>
    have hr : VRs σ (evL f as) (as'.map ρ).toList := by
      rw [Array.toList_map]
      exact hs.rel fun x y hx hm => hA x y hx (by simp [Op.operands, Call.operands]; exact .inr (by simpa using hm))
    have hf := hA _ _ hx (by simp [Op.operands, Call.operands])
    refine Good.asF (r := fun fid first captured K => CRes.rec (motive := fun _ => Res) .fail (fun v A' => K (v, A')) (CE fid (fstArg first (evL f as) captured) A)) fun fid first captured e1 => ?_
    rw [e1] at hf
    generalize hv : ρ y = v at hf
    cases hf with
    | f _ _ _ f' c' h1 h2 =>
      have e : execOp ρ ⟨dst, .call { callee := .value y, args := as', argTypes := ts }, type, pos, after, guard⟩ = callFunc fid (f' ++ as'.map ρ ++ c') := by
        simp [execOp, resolve, invoke, hv, Deferred.ofValue]
      rw [e]
      refine g_call hCE h ?_
      have e2 : fstArg first (evL f as) captured = first ++ (evL f as ++ captured) := by unfold fstArg; rw [appL_eq, appL_eq]; rfl
      rw [e2]
      simp only [Array.toList_append, List.append_assoc]
      exact h1.append (hr.append h2)

theorem step_sound {CE : Nat → List AV → AW → CRes} (hCE : CEok X CE) {lop : LOp} {o : Oper} (hop : OpOk X.P lop o.op) (h : HR X σ A w) {ρ : Operand → Value} (hA : ∀ x y, ArgOk x y → y ∈ o.op.operands → VR σ (x.ev f) (ρ y)) :
    (∀ K, stepOp X.G CE lop f A K = .fail) ∨ ∃ v A', (∀ K, stepOp X.G CE lop f A K = K v A') ∧ Lands X σ A w ((execOp ρ o).run X.P w) (v, A') :=
  (step_good hCE hop h hA).curry
end
end
end AM
end
end Go.Proofs.YtejhenloolgmkaaGreatDoor
