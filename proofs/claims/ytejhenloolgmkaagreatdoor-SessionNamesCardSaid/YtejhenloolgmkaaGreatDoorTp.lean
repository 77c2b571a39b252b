/- The session's lines, the residue and awake are known calls; the whole call in terms of them. Condition: none. -/
import Derived.Test.YtejhenloolgmkaaGreatDoorLt
import Derived.Test.YtejhenloolgmkaaGreatDoorFun
import Derived.Test.YtejhenloolgmkaaGreatDoorAw
namespace Go.Proofs.YtejhenloolgmkaaGreatDoor
open Go
set_option linter.all false
noncomputable section
namespace AM
section
/-! ## The session's calls as known calls -/
theorem mapK_eq {α β : Type} (f : α → β) (l : List α) : mapK f l = l.map f := by
  induction l with
  | nil => rfl
  | cons x l ih => show f x :: mapK f l = _; rw [ih]; rfl
def chz (chs : List Nat) : List (Nat × Nat) := mapK (fun j => (j, 0)) chs
def lenK (l : List Nat) : Nat := List.rec (motive := fun _ => Nat) 0 (fun _ _ ih => Nat.succ ih) l
theorem lenK_eq (l : List Nat) : lenK l = l.length := by
  induction l with
  | nil => rfl
  | cons x l ih => show Nat.succ (lenK l) = _; rw [ih]; rfl
theorem posA_congr (g g' : Nat → Nat) : ∀ (chs : List Nat) (q j : Nat), posA (chs.map fun j => (j, g j)) q j = posA (chs.map fun j => (j, g' j)) q j
  | [], _, _ => rfl
  | x :: chs, q, j => by
    show Bool.rec (motive := fun _ => Option Nat) (posA (chs.map fun j => (j, g j)) (Nat.succ q) j) (some q) (Nat.beq x j) = Bool.rec (motive := fun _ => Option Nat) (posA (chs.map fun j => (j, g' j)) (Nat.succ q) j) (some q) (Nat.beq x j)
    rw [posA_congr g g' chs]
def findE (fid len val : Nat) (l : List Ent) (K : Ent → CRes) : CRes := List.rec (motive := fun _ => CRes) .fail (fun e _ ih => Bool.rec (motive := fun _ => CRes) ih (K e) (andB (Nat.beq e.fid fid) (andB (Nat.beq e.len len) (Nat.beq e.val val)))) l
theorem findE_ok {fid len val : Nat} {K : Ent → CRes} {v : AV} {A : AW} : ∀ {l : List Ent}, findE fid len val l K = .ok v A → ∃ e, e ∈ l ∧ e.fid = fid ∧ e.len = len ∧ e.val = val ∧ K e = .ok v A
  | [], h => nomatch h
  | e :: l, h => by
    have hu : Bool.rec (motive := fun _ => CRes) (findE fid len val l K) (K e) (andB (Nat.beq e.fid fid) (andB (Nat.beq e.len len) (Nat.beq e.val val))) = .ok v A := h
    cases hb : andB (Nat.beq e.fid fid) (andB (Nat.beq e.len len) (Nat.beq e.val val)) with
    | true =>
      rw [hb] at hu
      obtain ⟨h1, h2⟩ := and_true' hb
      obtain ⟨h3, h4⟩ := and_true' h2
      exact ⟨e, by simp, beq_iff.1 h1, beq_iff.1 h3, beq_iff.1 h4, hu⟩
    | false =>
      rw [hb] at hu
      obtain ⟨e', h1, h2⟩ := findE_ok (l := l) hu
      exact ⟨e', by simp [h1], h2⟩
def goE (A : AW) (h : Heap) (src : Nat → Option Nat) (e : Ent) : CRes :=
  force A.next fun q => force (Nat.add q (lenK e.chs)) fun n => iff (Nat.ble n 32768) .fail (.ok e.res ⟨h, n, ⟨e.k, ixA src q (chz e.chs)⟩⟩)
def hkCont (fid : Nat) (args : List AV) (A : AW) : CRes := arg2 args fun p s => asP .fail p fun id off => asS .fail s fun len val =>
  iff (andB (Nat.beq off 0) (mapsTo A.frag.ix 1 id)) .fail (findE fid len val (tabK A.frag.k) fun e => goE A A.h A.frag.ix e)
def startE (k : Nat) : Option (Ent × List (Nat × AO)) := match k with
  | 0 => some (ent0, sesS 0 0 0 0)
  | 60 => some (ent60, refS 0 0 0 0)
  | _ => none
def hkStart (fid : Nat) (args : List AV) (A : AW) : CRes := arg2 args fun p s => asP .fail p fun id off => asS .fail s fun len val =>
  match startE A.frag.k with
  | some (e, l0) => iff (andB (Nat.beq off 0) (andB (Nat.beq e.fid fid) (andB (Nat.beq e.len len) (Nat.beq e.val val)))) .fail
    ((fun pre => iff (andB (covers (lookA pre) l0 A.h) (andB (chOk pre A.h) (mapsTo (lookA pre) 1 id))) .fail (goE A (dropA (pre.map (·.2)) A).h (lookA pre) e)) (bfsA l0 A.h 50 [(1, id)] []))
  | none => .fail
def hkS (fid : Nat) (args : List AV) (A : AW) : CRes := onF fid 14 (optC (hkCont 14 args A) (hkStart 14 args A)) (onF fid 17 (optC (hkCont 17 args A) (hkStart 17 args A)) .fail)

/-- What is fixed through the run: the fragment is the session. -/
def XS (B : Nat) (l0 : Loc) : Par := { P := Tryz.prog, B := B, G := G, v0 := some l0, FP := fun k ρ w => StR B (S k) ρ w, loc := fun _ _ _ _ h hh => h.loc hh }

theorem asP_ok {z : AV} {K : Nat → Nat → CRes} {v : AV} {A : AW} (h : asP .fail z K = .ok v A) : ∃ a b, z = .p a b ∧ K a b = .ok v A := by
  cases z <;> first | (cases h; done) | exact ⟨_, _, rfl, h⟩
theorem optC_ok {a b : CRes} {v : AV} {A : AW} (h : optC a b = .ok v A) : a = .ok v A ∨ b = .ok v A := by
  cases a with
  | fail => exact .inr h
  | ok v1 A1 => exact .inl h
theorem okC_get {r : CRes} {K : AV → AW → Bool} (h : okC r K = true) : ∃ v A, r = .ok v A ∧ K v A = true := by
  cases r with
  | fail => cases h
  | ok v A => exact ⟨v, A, rfl, h⟩

section
variable {B : Nat} {l0 : Loc} {σ : Sg} {A : AW} {w : World}
set_option maxRecDepth 100000 in
theorem go_sound (h : HR (XS B l0) σ A w) {src : Nat → Option Nat} {dr : List Nat} {l : List (Nat × AO)} {e : Ent} {id : Nat}
    (hsrc : ∀ j id, src j = some id → ∃ lc, σ id = some lc)
    (hblk : ∀ j lc, (src j).bind σ = some lc → (∃ i l0, locF σ A i = some l0 ∧ l0.block = lc.block) ∨ ∃ id o l0, id ∈ dr ∧ Lv A id o ∧ σ id = some l0 ∧ l0.block = lc.block)
    (hdr : ∀ d, d ∈ dr → d < 32768) (hst : StR B l (fun j => (src j).bind σ) w) (h1 : src 1 = some id)
    (hline : lineOk e.fid (.s e.len e.val) l e.res (S e.k) e.chs = true) (hk : A.frag.k < e.k) (hv : closedV e.res = true)
    {v : AV} {A' : AW} (hgo : goE A (dropA dr A).h src e = .ok v A') {vs : Array Value} (hr : VRs σ [.p id 0, .s e.len e.val] vs.toList) : Lands (XS B l0) σ A w ((callFunc e.fid vs).run Tryz.prog w) (v, A') := by
  obtain ⟨v0, B', he, hok⟩ := okC_get hline
  obtain ⟨k1, k2⟩ := and_true' hok
  obtain ⟨k3, k4⟩ := and_true' k2
  have := eqAV_sound k1; subst this
  have hblt : ∀ j lc, (src j).bind σ = some lc → lc.block < w.heap.size := fun j lc hj => by
    obtain ⟨i, g1, g2⟩ := Option.bind_eq_some_iff.1 hj
    exact (h.dom _ _ g2).2
  have hY : HR (XS B l0).bare (fun j => (src j).bind σ) ⟨mkH l, 64, fr0⟩ w := StR.hr (X := XS B l0) h hst hblt
  have hCE : CEok (XS B l0).bare (evalF (XS B l0).bare.G F hkB 100000 400) := evalF_sound (X := (XS B l0).bare) mixed_ok F_ok (hkB_ok rfl) 100000 400
  obtain ⟨pv, sv, rfl, hp, hs⟩ := VRs.two hr
  have hargs : VRs (fun j => (src j).bind σ) [.p 1 0, .s e.len e.val] #[pv, sv].toList := by
    refine .cons _ _ _ _ ?_ (.cons _ _ _ _ (flatC_rel rfl hs) .nil)
    cases hp with
    | p _ _ lc hl => exact .p 1 0 lc (by show (src 1).bind σ = _; rw [h1]; exact hl)
  have hl := hCE e.fid _ _ _ _ he _ w _ hY hargs
  have hlen : (chOf (S e.k) B'.h e.chs).length = lenK e.chs := by
    unfold chOf
    rw [mapK_eq, List.length_map, lenK_eq]
  have hn : A.next + (chOf (S e.k) B'.h e.chs).length ≤ 32768 := by
    unfold goE at hgo
    rw [force_eq, force_eq] at hgo
    obtain ⟨g1, _⟩ := iff_ok hgo
    rw [hlen]; exact ble_iff.1 g1
  have hfin := frag_lands (X := XS B l0) h hsrc hblk hdr hst hl hv hk k3 k4 hn (fun ρ w hh => hh)
  have hA : A' = ⟨(dropA dr A).h, A.next + (chOf (S e.k) B'.h e.chs).length, ⟨e.k, ixA src A.next (chOf (S e.k) B'.h e.chs)⟩⟩ ∧ v = e.res := by
    unfold goE at hgo
    rw [force_eq, force_eq] at hgo
    obtain ⟨_, g2⟩ := iff_ok hgo
    cases g2
    refine ⟨?_, rfl⟩
    have hix : ixA src A.next (chz e.chs) = ixA src A.next (chOf (S e.k) B'.h e.chs) := by
      funext j
      have hp : posA (chz e.chs) A.next j = posA (chOf (S e.k) B'.h e.chs) A.next j := by
        unfold chz chOf
        rw [mapK_eq, mapK_eq]
        exact posA_congr _ _ _ _ _
      unfold ixA
      rw [hp]
    rw [hix, hlen]; rfl
  rw [hA.1, hA.2]
  exact hfin
set_option maxRecDepth 100000 in
theorem hkCont_ok {fid : Nat} {args : List AV} {v : AV} {A' : AW} (he : hkCont fid args A = .ok v A') {vs : Array Value} (h : HR (XS B l0) σ A w) (hr : VRs σ args vs.toList) : Lands (XS B l0) σ A w ((callFunc fid vs).run Tryz.prog w) (v, A') := by
  obtain ⟨p, s, rfl, h1⟩ := arg2_ok he
  obtain ⟨id, off, rfl, h2⟩ := asP_ok h1
  obtain ⟨len, val, rfl, h3⟩ := asS_ok h2
  obtain ⟨h4, h5⟩ := iff_ok h3
  obtain ⟨h6, h7⟩ := and_true' h4
  have := beq_iff.1 h6; subst this
  obtain ⟨e, g1, rfl, rfl, rfl, g5⟩ := findE_ok h5
  obtain ⟨k1, k2, k3⟩ := tabK_ok g1
  refine go_sound (src := A.frag.ix) (dr := []) (l := S A.frag.k) h (fun j id hj => ?_) (fun j lc hj => .inl ⟨j, lc, hj, rfl⟩) (fun d hd => nomatch hd) h.frag (mapsTo_iff.1 h7) k1 (lt_iff.1 k2) k3 g5 hr
  obtain ⟨lc, g, _⟩ := h.fdom j id hj
  exact ⟨lc, g⟩
theorem lookA_mem : ∀ {ch : List (Nat × Nat)} {j i : Nat}, lookA ch j = some i → (j, i) ∈ ch
  | [], _, _, h => nomatch h
  | e :: ch, j, i, h => by
    have hu : Bool.rec (motive := fun _ => Option Nat) (lookA ch j) (some e.2) (Nat.beq e.1 j) = some i := h
    cases hb : Nat.beq e.1 j with
    | true => rw [hb] at hu; cases hu; rw [← beq_iff.1 hb]; simp
    | false => rw [hb] at hu; exact List.mem_cons_of_mem _ (lookA_mem hu)
theorem startE_ok {k : Nat} {e : Ent} {l : List (Nat × AO)} (h : startE k = some (e, l)) : lineOk e.fid (.s e.len e.val) l e.res (S e.k) e.chs = true ∧ k < e.k ∧ closedV e.res = true := by
  unfold startE at h
  split at h
  · cases h; exact ⟨ent0_ok, by decide, rfl⟩
  · cases h; exact ⟨ent60_ok, by decide, rfl⟩
  · cases h
set_option maxRecDepth 100000 in
theorem hkStart_ok {fid : Nat} {args : List AV} {v : AV} {A' : AW} (he : hkStart fid args A = .ok v A') {vs : Array Value} (h : HR (XS B l0) σ A w) (hr : VRs σ args vs.toList) : Lands (XS B l0) σ A w ((callFunc fid vs).run Tryz.prog w) (v, A') := by
  obtain ⟨p, s, rfl, h1⟩ := arg2_ok he
  obtain ⟨id, off, rfl, h2⟩ := asP_ok h1
  obtain ⟨len, val, rfl, h3⟩ := asS_ok h2
  split at h3
  · rename_i e l hst
    obtain ⟨h4, h5⟩ := iff_ok h3
    obtain ⟨h6, h7⟩ := and_true' h4
    obtain ⟨h8, h9⟩ := and_true' h7
    obtain ⟨h10, h11⟩ := and_true' h9
    have := beq_iff.1 h6; subst this
    have := beq_iff.1 h8; subst this
    have := beq_iff.1 h10; subst this
    have := beq_iff.1 h11; subst this
    generalize bfsA l A.h 50 [(1, id)] [] = pre at h5
    obtain ⟨g1, g2⟩ := iff_ok h5
    obtain ⟨g3, g4⟩ := and_true' g1
    obtain ⟨g5, g6⟩ := and_true' g4
    obtain ⟨k1, k2, k3⟩ := startE_ok hst
    have hpre : ∀ x, x ∈ pre → x.1 < 64 ∧ ∃ o, Lv A x.2 o := fun x hx => by
      have := List.all_eq_true.1 g5 x hx
      simp only [Bool.and_eq_true] at this
      obtain ⟨o, ho⟩ := Option.isSome_iff_exists.1 this.2
      exact ⟨lt_iff.1 this.1.1, o, lt_iff.1 this.1.2, ho⟩
    refine go_sound (src := lookA pre) (dr := pre.map (·.2)) (l := l) h (fun j i hj => ?_) (fun j lc hj => ?_) (fun d hd => ?_) ?_ (mapsTo_iff.1 g6) k1 k2 k3 g2 hr
    · obtain ⟨_, o, ho⟩ := hpre _ (lookA_mem hj)
      obtain ⟨lc, _, g, _⟩ := h.obj _ _ ho
      exact ⟨lc, g⟩
    · obtain ⟨i, q1, q2⟩ := Option.bind_eq_some_iff.1 hj
      obtain ⟨_, o, ho⟩ := hpre _ (lookA_mem q1)
      exact .inr ⟨i, o, lc, List.mem_map.2 ⟨_, lookA_mem q1, rfl⟩, ho, q2, rfl⟩
    · obtain ⟨x, q1, rfl⟩ := List.mem_map.1 hd
      obtain ⟨_, o, ho⟩ := hpre x q1
      exact ho.1
    · refine cov_sound (X := XS B l0) h g3 (fun i j hi => ?_) (fun j lc hj => ?_)
      · show (lookA pre i).bind σ = σ j
        rw [hi]; rfl
      · obtain ⟨i, q1, _⟩ := Option.bind_eq_some_iff.1 hj
        exact (hpre _ (lookA_mem q1)).1
  · cases h3
set_option maxRecDepth 100000 in
theorem hkS_ok : CEok (XS B l0) hkS := by
  intro fid args A v A' he σ w vs h hr
  rcases onF_ok he with ⟨rfl, h1⟩ | he
  · rcases optC_ok h1 with h2 | h2
    · exact hkCont_ok h2 h hr
    · exact hkStart_ok h2 h hr
  rcases onF_ok he with ⟨rfl, h1⟩ | he
  · rcases optC_ok h1 with h2 | h2
    · exact hkCont_ok h2 h hr
    · exact hkStart_ok h2 h hr
  · cases he
end
end
section
/-! ## The two arguments; awake; the whole -/
def hkM (N r j : Nat) (args : List AV) (A : AW) : CRes := arg2 args fun a m => asI .fail m fun k x => match a with
  | .any 1 => iff (andB (sameK k .i64) (Nat.beq x 4)) .fail (.ok (.i .i64 r) A)
  | .any 2 => iff (andB (sameK k .i64) (Nat.beq x (Nat.succ N))) .fail (.ok (.i .i64 j) A)
  | _ => .fail
def hkAw (args : List AV) (A : AW) : CRes := match args with
  | [] => .ok (.b true) A
  | _ => .fail
def hkT (N r j : Nat) (fid : Nat) (args : List AV) (A : AW) : CRes :=
  optC (onF fid 4 (hkM N r j args A) (onF fid 8 (hkAw args A) .fail)) (optC (hkS fid args A) (hkB fid args A))

section
variable {G : Nat → List AV} {CE : Nat → List AV → AW → CRes} {f : Frame} {A : AW}
theorem st_convI {x : Arg} {k k' : IntKind} {n : Nat} {K : KT} (hx : x.ev f = .i k' n) : stepOp G CE (.convI k x) f A K = K (.i k (Nat.land (sel1 (lt n (halfK k')) n (Nat.add n (Nat.sub 0x10000000000000000 (modK k')))) (maskK k))) A := by
  show asI Res.fail (x.ev f) (fun k' n => force (Nat.land (sel1 (lt n (halfK k')) n (Nat.add n (Nat.sub 0x10000000000000000 (modK k')))) (maskK k)) fun r => K (.i k r) A) = _
  rw [hx]
  show force (Nat.land (sel1 (lt n (halfK k')) n (Nat.add n (Nat.sub 0x10000000000000000 (modK k')))) (maskK k)) (fun r => K (.i k r) A) = _
  rw [force_eq]
end
theorem land64 {n : Nat} (h : n < 0x10000000000000000) : Nat.land n 0xffffffffffffffff = n := by
  have : Nat.land n 0xffffffffffffffff = n % 2 ^ 64 := Nat.and_two_pow_sub_one_eq_mod _ 64
  rw [this]; omega
theorem conv_iu {n : Nat} (h : n < 0x10000000000000000) : Nat.land (sel1 (lt n (halfK .i64)) n (Nat.add n (Nat.sub 0x10000000000000000 (modK .i64)))) (maskK .u64) = n := by
  have : sel1 (lt n (halfK .i64)) n (Nat.add n (Nat.sub 0x10000000000000000 (modK .i64))) = n := by
    unfold sel1
    cases lt n (halfK .i64) <;> rfl
  rw [this]; exact land64 h
theorem conv_ui {n : Nat} (h : n < 0x10000000000000000) : Nat.land (sel1 (lt n (halfK .u64)) n (Nat.add n (Nat.sub 0x10000000000000000 (modK .u64)))) (maskK .i64) = n := by
  have : sel1 (lt n (halfK .u64)) n (Nat.add n (Nat.sub 0x10000000000000000 (modK .u64))) = n := by
    unfold sel1
    cases lt n (halfK .u64) <;> rfl
  rw [this]; exact land64 h
def mdF (x m : Nat) (v4 v5 v6 v7 v8 v9 v10 : AV) : Frame := ⟨⟨⟨.i .i64 x, .i .i64 m, undefA, undefA, v4, v5, v6, v7⟩, ⟨v8, v9, v10, undefA, undefA, undefA, undefA, undefA⟩, e1, e1, e1, e1, e1, e1⟩, e2, e2, e2, e2, e2, e2, e2⟩
def mdR : List It := [.o s5 (.mv (.t s0)), .o s6 (.convI .u64 (.t s5)), .o s7 (.mv (.t s1)), .o s8 (.convI .u64 (.t s7)), .o s9 (.irem (.t s6) (.t s8)), .o s10 (.convI .i64 (.t s9)), .o s4 (.mv (.t s10))]
theorem md_region {G : Nat → List AV} {CE : Nat → List AV → AW → CRes} {A : AW} {x m : Nat} (hx : x < 0x10000000000000000) (hm : m < 0x10000000000000000) (h0 : 0 < m) :
    runIts G CE mdR (mdF x m (.i .i64 0) undefA undefA undefA undefA undefA undefA) A = .nrm (mdF x m (.i .i64 (x % m)) (.i .i64 x) (.i .u64 x) (.i .i64 m) (.i .u64 m) (.i .u64 (x % m)) (.i .i64 (x % m))) A := by
  have hr : negIf (xorB (lt x (halfK .u64)) true) .u64 (Nat.mod (absK .u64 x) (absK .u64 m)) = x % m := by
    have e1 : absK .u64 x = x := by unfold absK; rw [show lt x (halfK .u64) = true from lt_iff.2 hx]
    have e2 : absK .u64 m = m := by unfold absK; rw [show lt m (halfK .u64) = true from lt_iff.2 hm]
    rw [e1, e2, show lt x (halfK .u64) = true from lt_iff.2 hx]; rfl
  have hlt : x % m < 0x10000000000000000 := Nat.lt_trans (Nat.mod_lt _ h0) hm
  unfold mdR
  rw [st_o, st_mv, st_o, st_convI (k' := .i64) (n := x) rfl, conv_iu hx, st_o, st_mv, st_o, st_convI (k' := .i64) (n := m) rfl, conv_iu hm, st_o, st_irem (k := .u64) (a := x) (b := m) rfl rfl h0, hr, st_o, st_convI (k' := .u64) (n := x % m) rfl, conv_ui hlt, st_o, st_mv]
  rfl
theorem md_L4 : F 4 = some L4 := rfl
theorem md_body : L4.body = .seq (.region [.o s4 (.mv (.c (.i .i64 0)))]) (.seq (.region mdR) .ret) := rfl
theorem md_init {x m : Nat} (K : Frame → CRes) : initF L4.params [.i .i64 x, .i .i64 m] e3 K = K (mdF x m undefA undefA undefA undefA undefA undefA undefA) := rfl
theorem md_end {A : AW} {f2 : Frame} {r : Nat} (g1 : s4.get f2 = .i .i64 r) : endC L4.results (.ret f2 A) = .ok (.i .i64 r) A := by
  have hr : L4.results = [.tmp s4] := rfl
  rw [hr]
  show CRes.ok (oneOrTup [s4.get f2]) A = _
  rw [g1]; rfl
theorem md_run {A : AW} {x m n fuel : Nat} (hx : x < 0x10000000000000000) (hm : m < 0x10000000000000000) (h0 : 0 < m) :
    evalF G F (fun _ _ _ => .fail) (n + 1) (fuel + 1) 4 [.i .i64 x, .i .i64 m] A = .ok (.i .i64 (x % m)) A := by
  rw [evalF_known md_L4 rfl, md_init, md_body]
  have k0 : ∀ CE, runIts G CE [.o s4 (.mv (.c (.i .i64 0)))] (mdF x m undefA undefA undefA undefA undefA undefA undefA) A = .nrm (mdF x m (.i .i64 0) undefA undefA undefA undefA undefA undefA) A := fun _ => rfl
  rw [rc_seq, rc_region, k0, bindN_nrm, rc_seq, rc_region, md_region hx hm h0, bindN_nrm, rc_ret]
  exact md_end rfl
section
variable {B : Nat} {l0 : Loc} {σ : Sg} {A : AW} {w : World}
set_option maxRecDepth 100000 in
theorem md_lands (h : HR (XS B l0) σ A w) {x m : Nat} (hx : x < 0x10000000000000000) (hm : m < 0x8000000000000000) (h0 : 0 < m) :
    Lands (XS B l0) σ A w ((callFunc 4 #[.int .i64 (IntKind.i64.wrap x), .int .i64 (IntKind.i64.wrap m)]).run Tryz.prog w) (.i .i64 (x % m), A) := by
  have hm' : m < 0x10000000000000000 := Nat.lt_trans hm (by decide)
  have hCE : CEok (XS B l0) (evalF (XS B l0).G F (fun _ _ _ => .fail) 2 2) := evalF_sound (X := XS B l0) mixed_ok F_ok CEok.none 2 2
  exact hCE 4 _ _ _ _ (md_run hx hm' h0) σ w _ h (.cons _ _ _ _ (.i .i64 x hx) (.cons _ _ _ _ (.i .i64 m hm') .nil))
theorem i64_arg {x : Nat} {u : Value} (h : VR σ (.i .i64 x) u) : u = .int .i64 (IntKind.i64.wrap x) := by
  cases h with
  | i _ _ _ => rfl
set_option maxRecDepth 100000 in
theorem hkM_ok {N r j : Nat} (hr : l0.shift % 4 = r) (hj : l0.size % (N + 1) = j) (h1 : l0.shift < 0x10000000000000000) (h2 : l0.size < 0x10000000000000000) (hN : N < 1000) {args : List AV} {v : AV} {A' : AW} (he : hkM N r j args A = .ok v A')
    {vs : Array Value} (h : HR (XS B l0) σ A w) (hrr : VRs σ args vs.toList) : Lands (XS B l0) σ A w ((callFunc 4 vs).run Tryz.prog w) (v, A') := by
  obtain ⟨a, m, rfl, k1⟩ := arg2_ok he
  obtain ⟨k, x, rfl, k2⟩ := asI_ok k1
  obtain ⟨u1, u2, rfl, hu1, hu2⟩ := VRs.two hrr
  have hval := h.val l0 rfl
  split at k2
  · obtain ⟨k3, k4⟩ := iff_ok k2
    obtain ⟨k5, k6⟩ := and_true' k3
    have := sameK_iff.1 k5; subst this
    have := beq_iff.1 k6; subst this
    cases k4
    cases hu1 with
    | num i l hl =>
      rw [hval] at hl; cases hl
      rw [i64_arg hu2, ← hr]
      exact md_lands h h1 (by decide) (by decide)
  · obtain ⟨k3, k4⟩ := iff_ok k2
    obtain ⟨k5, k6⟩ := and_true' k3
    have := sameK_iff.1 k5; subst this
    have := beq_iff.1 k6; subst this
    cases k4
    cases hu1 with
    | num i l hl =>
      rw [hval] at hl; cases hl
      rw [i64_arg hu2, ← hj]
      exact md_lands h h2 (by show N + 1 < _; omega) (Nat.succ_pos _)
  · cases k2
set_option maxRecDepth 100000 in
theorem hkAw_ok {args : List AV} {v : AV} {A' : AW} (he : hkAw args A = .ok v A') {vs : Array Value} (h : HR (XS B l0) σ A w) (hr : VRs σ args vs.toList) : Lands (XS B l0) σ A w ((callFunc 8 vs).run Tryz.prog w) (v, A') := by
  unfold hkAw at he
  split at he
  · cases he
    obtain ⟨v0, B', h1, h2⟩ := okC_get awake_run
    have := eqAV_sound h2; subst this
    have hCE : CEok (XS B l0).bare (evalF (XS B l0).bare.G F hkB 100000 400) := evalF_sound (X := (XS B l0).bare) mixed_ok F_ok (hkB_ok rfl) 100000 400
    have hvs : VRs (fun _ => none) [] vs.toList := VRs.nil_of hr
    exact pure_lands h rfl (hCE 8 _ _ _ _ h1 _ w vs h.empty hvs)
  · cases he
set_option maxRecDepth 100000 in
theorem hkT_ok {N r j : Nat} (hr : l0.shift % 4 = r) (hj : l0.size % (N + 1) = j) (h1 : l0.shift < 0x10000000000000000) (h2 : l0.size < 0x10000000000000000) (hN : N < 1000) : CEok (XS B l0) (hkT N r j) := by
  intro fid args A v A' he σ w vs h hrr
  rcases optC_ok he with he | he
  · rcases onF_ok he with ⟨rfl, he⟩ | he
    · exact hkM_ok hr hj h1 h2 hN he h hrr
    rcases onF_ok he with ⟨rfl, he⟩ | he
    · exact hkAw_ok he h hrr
    · cases he
  rcases optC_ok he with he | he
  · exact hkS_ok fid args A v A' he σ w vs h hrr
  · exact hkB_ok rfl fid args A v A' he σ w vs h hrr
/-- The whole call, for the sorts of arguments N and j. -/
def topOk (N j : Nat) : Bool := okC (evalF G F (hkT N (Nat.sub N 15) j) 100000 400 3 [.any 1, .any 2] ⟨h5, 1, fr0⟩) fun v _ => eqAV (.b true) v
end
end
end AM
end
end Go.Proofs.YtejhenloolgmkaaGreatDoor
