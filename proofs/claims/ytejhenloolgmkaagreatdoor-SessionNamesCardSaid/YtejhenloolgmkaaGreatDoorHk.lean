/- Calls that the abstract machine takes as known are what the program does: prime numbers, package iterators, library entries. Condition: none. -/
import Derived.Test.YtejhenloolgmkaaGreatDoorMe
import Derived.Test.YtejhenloolgmkaaGreatDoorProg
import Derived.Lib.Bytealg
import Derived.Lib.MakeNoZero
import Derived.Laws.Externs
import Derived.KernelRfl
import Derived.Test.YtejhenloolgmkaaGreatDoorTab
import Derived.Shelf.SlIterI.Collect
import Derived.RangeFuncBox
import Derived.RangeFuncLeaves
import Derived.WalkKit
import Derived.OwnWalkIn
import Derived.TacticsInMore
import Derived.LoopNIn
import Derived.LoopIn
namespace Go.Proofs.YtejhenloolgmkaaGreatDoor
open Go
set_option linter.all false
noncomputable section
namespace AM
section
/-! ## Library functions without Go code -/
def idxB (c : Nat) (len : Nat) : Nat → Nat → Nat := Nat.rec (motive := fun _ => Nat → Nat → Nat) (fun _ _ => 0xffffffffffffffff) (fun _ ih v i => Bool.rec (motive := fun _ => Nat) (force (Nat.shiftRight v 8) fun v' => ih v' (Nat.succ i)) i (Nat.beq (Nat.land v 255) c)) len
def cntB (c : Nat) (len : Nat) : Nat → Nat → Nat := Nat.rec (motive := fun _ => Nat → Nat → Nat) (fun _ i => i) (fun _ ih v i => force (Nat.shiftRight v 8) fun v' => Bool.rec (motive := fun _ => Nat) (ih v' i) (ih v' (Nat.succ i)) (Nat.beq (Nat.land v 255) c)) len
theorem byte_beq {v c : Nat} (hc : c < 256) : (UInt8.ofNat (v % 256) == c.toUInt8) = Nat.beq (Nat.land v 255) c := by
  have e : Nat.land v 255 = v % 256 := Nat.and_two_pow_sub_one_eq_mod v 8
  rw [e]
  have hv : v % 256 < 256 := Nat.mod_lt _ (by decide)
  rw [Bool.eq_iff_iff, beq_iff, beq_iff_eq]
  constructor
  · intro h
    have := congrArg UInt8.toNat h
    simpa [Nat.mod_eq_of_lt hc] using this
  · intro h; rw [h]
theorem idxB_eq {c : Nat} (hc : c < 256) : ∀ (len v i : Nat), idxB c len v i = if Lib.indexByte (bytesN len v) c.toUInt8 = -1 then 0xffffffffffffffff else i + (Lib.indexByte (bytesN len v) c.toUInt8).toNat
  | 0, v, i => rfl
  | n + 1, v, i => by
    have hu : idxB c (n + 1) v i = Bool.rec (motive := fun _ => Nat) (force (Nat.shiftRight v 8) fun v' => idxB c n v' (Nat.succ i)) i (Nat.beq (Nat.land v 255) c) := rfl
    have hv : Lib.indexByte (bytesN (n + 1) v) c.toUInt8 = if (UInt8.ofNat (v % 256) == c.toUInt8) = true then 0 else if (Lib.indexByte (bytesN n (v / 256)) c.toUInt8 == -1) = true then -1 else Lib.indexByte (bytesN n (v / 256)) c.toUInt8 + 1 := rfl
    rw [hu, force_eq, idxB_eq hc n, show Nat.shiftRight v 8 = v / 256 from Nat.shiftRight_eq_div_pow v 8, hv, byte_beq hc]
    have hge := Lib.indexByte_ge (bytesN n (v / 256)) c.toUInt8
    generalize Lib.indexByte (bytesN n (v / 256)) c.toUInt8 = I at hge ⊢
    cases hb : Nat.beq (Nat.land v 255) c with
    | true => simp
    | false =>
      simp only [Bool.false_eq_true, if_false, beq_iff_eq]
      by_cases hm : I = -1
      · simp [hm]
      · rw [if_neg hm, if_neg hm, if_neg (by omega)]
        omega
theorem cntB_eq {c : Nat} (hc : c < 256) : ∀ (len v i : Nat), cntB c len v i = i + Lib.countByte (bytesN len v) c.toUInt8
  | 0, v, i => rfl
  | n + 1, v, i => by
    have hu : cntB c (n + 1) v i = force (Nat.shiftRight v 8) fun v' => Bool.rec (motive := fun _ => Nat) (cntB c n v' i) (cntB c n v' (Nat.succ i)) (Nat.beq (Nat.land v 255) c) := rfl
    rw [hu, force_eq, cntB_eq hc n, cntB_eq hc n, show Nat.shiftRight v 8 = v / 256 from Nat.shiftRight_eq_div_pow v 8, bytesN]
    unfold Lib.countByte
    rw [List.count_cons, byte_beq hc]
    cases Nat.beq (Nat.land v 255) c <;> simp <;> omega
theorem bytesN_len : ∀ (n v : Nat), (bytesN n v).length = n
  | 0, _ => rfl
  | n + 1, v => by simp [bytesN, bytesN_len n]
theorem indexByte_lt : ∀ (l : List UInt8) (c : UInt8), Lib.indexByte l c < l.length ∨ Lib.indexByte l c = -1
  | [], _ => .inr rfl
  | b :: l, c => by
    unfold Lib.indexByte
    split
    · left; simp only [List.length_cons]; omega
    · split
      · exact .inr rfl
      · rename_i h1 h2
        rcases indexByte_lt l c with h | h
        · left; simp only [List.length_cons]; omega
        · rw [h] at h2; exact absurd rfl h2

/-- What a call of one of them gives: 35: NoEscape, 136: IndexByteString, 140: CountString, 172: MakeNoZero. -/
def arg1 (args : List AV) (K : AV → CRes) : CRes := List.rec (motive := fun _ => CRes) .fail (fun v tl _ => List.rec (motive := fun _ => CRes) (K v) (fun _ _ _ => .fail) tl) args
def arg2 (args : List AV) (K : AV → AV → CRes) : CRes := List.rec (motive := fun _ => CRes) .fail (fun v tl _ => arg1 tl (K v)) args
def hkNE (args : List AV) (A : AW) : CRes := arg1 args fun v => .ok v A
def hkIB (args : List AV) (A : AW) : CRes := arg2 args fun s c => asS .fail s fun len val => asI .fail c fun k b => iff (andB (sameK k .u8) (lt len 1048576)) .fail (force (idxB b len val 0) fun r => .ok (.i .i64 r) A)
def hkCS (args : List AV) (A : AW) : CRes := arg2 args fun s c => asS .fail s fun len val => asI .fail c fun k b => iff (andB (sameK k .u8) (lt len 1048576)) .fail (force (cntB b len val 0) fun r => .ok (.i .i64 r) A)
def hkNZ (args : List AV) (A : AW) : CRes := arg1 args fun v => asI .fail v fun k n => iff (andB (sameK k .i64) (lt n 1048576)) .fail (force A.next fun id => iff (lt id 32768) .fail (.ok (.su id 0 n 1) ⟨setH id (some (.cells [] 5 1)) A.h, Nat.succ id, A.frag⟩))

theorem arg1_ok {args : List AV} {K : AV → CRes} {v : AV} {A : AW} (h : arg1 args K = .ok v A) : ∃ x, args = [x] ∧ K x = .ok v A := by
  cases args with
  | nil => cases h
  | cons x tl => cases tl with
    | nil => exact ⟨x, rfl, h⟩
    | cons _ _ => cases h
theorem arg2_ok {args : List AV} {K : AV → AV → CRes} {v : AV} {A : AW} (h : arg2 args K = .ok v A) : ∃ x y, args = [x, y] ∧ K x y = .ok v A := by
  cases args with
  | nil => cases h
  | cons x tl => obtain ⟨y, rfl, h2⟩ := arg1_ok (show arg1 tl (K x) = .ok v A from h); exact ⟨x, y, rfl, h2⟩
theorem asS_ok {z : AV} {K : Nat → Nat → CRes} {v : AV} {A : AW} (h : asS .fail z K = .ok v A) : ∃ a b, z = .s a b ∧ K a b = .ok v A := by
  cases z <;> first | (cases h; done) | exact ⟨_, _, rfl, h⟩
theorem asI_ok {z : AV} {K : IntKind → Nat → CRes} {v : AV} {A : AW} (h : asI .fail z K = .ok v A) : ∃ k n, z = .i k n ∧ K k n = .ok v A := by
  cases z <;> first | (cases h; done) | exact ⟨_, _, rfl, h⟩
theorem iff_ok {c : Bool} {K : CRes} {v : AV} {A : AW} (h : iff c .fail K = .ok v A) : c = true ∧ K = .ok v A := by
  cases c with
  | false => cases h
  | true => exact ⟨rfl, h⟩

section
variable {X : Par} {σ : Sg} {A : AW} {w : World}
theorem VRs.one {x : AV} {vs : Array Value} (h : VRs σ [x] vs.toList) : ∃ v, vs = #[v] ∧ VR σ x v := by
  obtain ⟨l⟩ := vs
  cases l with
  | nil => cases h
  | cons v l => cases h with | cons _ _ _ _ h1 h2 => cases h2; exact ⟨v, rfl, h1⟩
theorem VRs.two {x y : AV} {vs : Array Value} (h : VRs σ [x, y] vs.toList) : ∃ u v, vs = #[u, v] ∧ VR σ x u ∧ VR σ y v := by
  obtain ⟨l⟩ := vs
  cases l with
  | nil => cases h
  | cons u l => cases h with
    | cons _ _ _ _ h1 h2 => cases h2 with
      | cons _ v _ _ h3 h4 => cases h4; exact ⟨u, v, rfl, h1, h3⟩
theorem lands_ext {f : FuncId} {fn : Func} {e : Array Value → Sem Value} {args : Array Value} {p : AV × AW} (hf : X.P.funcs[f]? = some fn) (hname : (fn.name == "runtime.NumGoroutine") = false)
    (hb : fn.body.isNone = true) (hn : Extern.findNext fn = none) (he : Extern.find fn = some e) (h : ∃ v' w' σ', (e args).run X.P w = .ok v' w' ∧ VR σ' p.1 v' ∧ HR X σ' p.2 w' ∧ Ext σ A w σ' p.2 w') :
    Lands X σ A w ((callFunc f args).run X.P w) p := by
  obtain ⟨v', w', σ', h1, h2⟩ := h
  rw [run_callFunc_extern hf hname hb hn he, h1]
  exact ⟨σ', h2⟩
theorem hkNE_ok (hP : X.P = Tryz.prog) {args : List AV} {v : AV} {A' : AW} (he : hkNE args A = .ok v A') {vs : Array Value} (h : HR X σ A w) (hr : VRs σ args vs.toList) : Lands X σ A w ((callFunc 35 vs).run X.P w) (v, A') := by
  obtain ⟨x, rfl, h1⟩ := arg1_ok he
  cases h1
  obtain ⟨u, rfl, hu⟩ := VRs.one hr
  exact lands_ext (by rw [hP]; exact Tryz.func35) (by kernel_rfl) (by kernel_rfl) (by kernel_rfl) (show Extern.find Tryz.f35 = some Extern.AbiNoEscape.same by kernel_rfl) ⟨u, w, σ, rfl, hu, h, .refl _ _ _⟩
theorem u8_arg {b : Nat} {u : Value} (h : VR σ (.i .u8 b) u) : b < 256 ∧ u = .int .u8 b := by
  cases h with
  | i _ _ hb => exact ⟨hb, by rw [wrap_nat (k := .u8) hb]⟩
theorem hkIB_ok (hP : X.P = Tryz.prog) {args : List AV} {v : AV} {A' : AW} (he : hkIB args A = .ok v A') {vs : Array Value} (h : HR X σ A w) (hr : VRs σ args vs.toList) : Lands X σ A w ((callFunc 136 vs).run X.P w) (v, A') := by
  obtain ⟨x, y, rfl, h1⟩ := arg2_ok he
  obtain ⟨len, val, rfl, h2⟩ := asS_ok h1
  obtain ⟨k, b, rfl, h3⟩ := asI_ok h2
  obtain ⟨h4, h5⟩ := iff_ok h3
  rw [force_eq] at h5
  cases h5
  obtain ⟨h6, h7⟩ := and_true' h4
  have := sameK_iff.1 h6; subst this
  obtain ⟨u, c, rfl, hu, hc⟩ := VRs.two hr
  obtain ⟨hb, rfl⟩ := u8_arg hc
  cases hu
  refine lands_ext (by rw [hP]; exact Tryz.func136) (by kernel_rfl) (by kernel_rfl) (by kernel_rfl) (show Extern.find Tryz.f136 = some Extern.BytealgIndexByte.indexByte by kernel_rfl) ⟨_, w, σ, Lib.run_indexByteString _ _ _, ?_, h, .refl _ _ _⟩
  show VR σ (.i .i64 (idxB b len val 0)) (.int .i64 (Lib.indexByte (bytesN len val) ((b : Int).toNat.toUInt8)))
  rw [Int.toNat_natCast, idxB_eq hb]
  have hlen := lt_iff.1 h7
  by_cases hm : Lib.indexByte (bytesN len val) b.toUInt8 = -1
  · rw [if_pos hm, hm]
    have := VR.i (σ := σ) .i64 0xffffffffffffffff (by decide)
    rw [wrap_neg (k := .i64) (by decide) (by decide)] at this
    exact this
  · rw [if_neg hm, Nat.zero_add]
    have hge := Lib.indexByte_ge (bytesN len val) b.toUInt8
    rcases indexByte_lt (bytesN len val) b.toUInt8 with hl | hl
    · rw [bytesN_len] at hl
      have e1 : ((Lib.indexByte (bytesN len val) b.toUInt8).toNat : Int) = Lib.indexByte (bytesN len val) b.toUInt8 := Int.toNat_of_nonneg (by omega)
      have hs : (Lib.indexByte (bytesN len val) b.toUInt8).toNat < halfK .i64 := by show _ < 0x8000000000000000; omega
      have := VR.i (σ := σ) .i64 (Lib.indexByte (bytesN len val) b.toUInt8).toNat (Nat.lt_of_lt_of_le hs (by decide))
      rw [wrap_nat hs, e1] at this
      exact this
    · exact absurd hl hm
theorem hkCS_ok (hP : X.P = Tryz.prog) {args : List AV} {v : AV} {A' : AW} (he : hkCS args A = .ok v A') {vs : Array Value} (h : HR X σ A w) (hr : VRs σ args vs.toList) : Lands X σ A w ((callFunc 140 vs).run X.P w) (v, A') := by
  obtain ⟨x, y, rfl, h1⟩ := arg2_ok he
  obtain ⟨len, val, rfl, h2⟩ := asS_ok h1
  obtain ⟨k, b, rfl, h3⟩ := asI_ok h2
  obtain ⟨h4, h5⟩ := iff_ok h3
  rw [force_eq] at h5
  cases h5
  obtain ⟨h6, h7⟩ := and_true' h4
  have := sameK_iff.1 h6; subst this
  obtain ⟨u, c, rfl, hu, hc⟩ := VRs.two hr
  obtain ⟨hb, rfl⟩ := u8_arg hc
  cases hu
  refine lands_ext (by rw [hP]; exact Tryz.func140) (by kernel_rfl) (by kernel_rfl) (by kernel_rfl) (show Extern.find Tryz.f140 = some Extern.BytealgCount.count by kernel_rfl) ⟨_, w, σ, Lib.run_countString _ _ _, ?_, h, .refl _ _ _⟩
  show VR σ (.i .i64 (cntB b len val 0)) (.int .i64 (Lib.countByte (bytesN len val) ((b : Int).toNat.toUInt8)))
  rw [Int.toNat_natCast, cntB_eq hb, Nat.zero_add]
  have hle : Lib.countByte (bytesN len val) b.toUInt8 ≤ len := by
    have := List.count_le_length (a := b.toUInt8) (l := bytesN len val)
    rw [bytesN_len] at this; exact this
  have hlen := lt_iff.1 h7
  exact .int64 σ _ (by omega)
theorem hkNZ_ok (hP : X.P = Tryz.prog) {args : List AV} {v : AV} {A' : AW} (he : hkNZ args A = .ok v A') {vs : Array Value} (h : HR X σ A w) (hr : VRs σ args vs.toList) : Lands X σ A w ((callFunc 172 vs).run X.P w) (v, A') := by
  obtain ⟨x, rfl, h1⟩ := arg1_ok he
  obtain ⟨k, n, rfl, h3⟩ := asI_ok h1
  obtain ⟨h4, h5⟩ := iff_ok h3
  rw [force_eq] at h5
  obtain ⟨h6, h7⟩ := iff_ok h5
  cases h7
  obtain ⟨h8, h9⟩ := and_true' h4
  have := sameK_iff.1 h8; subst this
  obtain ⟨u, rfl, hu⟩ := VRs.one hr
  have hn := lt_iff.1 h9
  cases hu
  have hw : IntKind.i64.wrap n = n := wrap_nat (k := .i64) (by show n < 0x8000000000000000; omega)
  rw [hw]
  obtain ⟨cs, r1, r2, _⟩ := Lib.run_makeNoZero (P := X.P) w #[3] 66 5 (by rw [hP]; exact Tryz.underlying66) n (by omega)
  have hnew := h.new (w' := w.drew.drew.alloc (.cells cs 5)) (.cells [] 5 1) (.cells cs 5 (0, 0)) cs.size (lt_iff.1 h6)
    (.cells [] 5 1 cs (0, 0) rfl (fun i a ha => by simp at ha) (fun _ i _ hc => by simp at hc) (fun hc => by cases hc)) rfl
  refine lands_ext (by rw [hP]; exact Tryz.func172) (by kernel_rfl) (by kernel_rfl) (by kernel_rfl) (show Extern.find Tryz.f172 = some (Extern.BytealgMakeNoZero.makeNoZero #[3] #[66]) by kernel_rfl)
    ⟨_, _, _, r1, .su _ 0 n 1 cs.size 0 ⟨w.heap.size, 0, cs.size⟩ (by simp [ext]) r2 (by simp) (.inl rfl), hnew.1, hnew.2.1⟩
end
end
section
/-! ## IsPrime: a loop of up to 46,340 rounds -/
def lpTest : LCode := .seq (.region [.o s10 (.mv (.t s3)), .o s11 (.mv (.t s3)), .o s12 (.imul (.t s10) (.t s11)), .o s13 (.mv (.t s0)), .o s14 (.ile (.t s12) (.t s13))]) (.cond (.t s14) .skip (.exit 0))
def lpDiv : LCode := .block 1 (.seq (.region [.o s17 (.mv (.t s0)), .o s18 (.mv (.t s3)), .o s19 (.irem (.t s17) (.t s18)), .o s20 (.eq false 0 (.t s19) (.c (.i .i64 0)))]) (.cond (.t s20) (.seq (.region [.o s2 (.mv (.c (.b false)))]) .ret) .skip))
def lpInc : LCode := .region [.o s15 (.mv (.t s3)), .o s16 (.iadd (.t s15) (.c (.i .i64 1))), .o s3 (.mv (.t s16))]
def lpBody : LCode := .seq lpTest (.seq lpDiv lpInc)
def LPr : LFun := ⟨[s0],
 (.seq (.region [.o s2 (.mv (.c (.b false)))])
 (.seq (.seq (.region [.o s4 (.mv (.t s0)), .o s5 (.ilt (.t s4) (.c (.i .i64 2))), .o s6 (.mv (.t s5)), .g s6 false s7 (.mv (.t s0)), .g s6 false s8 (.igt (.t s7) (.c (.i .i64 2147483647))), .o s9 (.pick (.t s6) (.c (.b true)) (.t s8))])
   (.cond (.t s9) .bad .skip))
 (.seq (.seq (.region [.o s3 (.mv (.c (.i .i64 2)))])
   (.block 0 (.loop lpBody)))
 (.seq (.region [.o s2 (.mv (.c (.b true)))]) .ret)))),
 [.tmp s2]⟩
theorem pr450 : chkFun T LPr Tryz.f450 = true := by decide +kernel
theorem pr224 : chkFun T LPr Tryz.f224 = true := by decide +kernel

/-- The loop, as a function: none: it goes on; some b: it ends with b. -/
def lpR (p : Nat) : Nat → Nat → Option Bool
  | 0, _ => none
  | m + 1, d => if d * d ≤ p then (if p % d = 0 then some false else lpR p m (d + 1)) else some true
def lpK (p m : Nat) : Nat → Option Bool := Nat.rec (motive := fun _ => Nat → Option Bool) (fun _ => none)
  (fun _ ih d => Bool.rec (motive := fun _ => Option Bool) (some true) (Bool.rec (motive := fun _ => Option Bool) (force (Nat.succ d) fun d' => ih d') (some false) (Nat.beq (Nat.mod p d) 0)) (Nat.ble (Nat.mul d d) p)) m
theorem lpK_eq (p : Nat) : ∀ m d, lpK p m d = lpR p m d
  | 0, _ => rfl
  | m + 1, d => by
    have hu : lpK p (m + 1) d = Bool.rec (motive := fun _ => Option Bool) (some true) (Bool.rec (motive := fun _ => Option Bool) (force (Nat.succ d) fun d' => lpK p m d') (some false) (Nat.beq (Nat.mod p d) 0)) (Nat.ble (Nat.mul d d) p) := rfl
    rw [hu, force_eq, lpK_eq p m, lpR]
    by_cases h1 : d * d ≤ p
    · rw [if_pos h1, show Nat.ble (Nat.mul d d) p = true from ble_iff.2 h1]
      by_cases h2 : p % d = 0
      · rw [if_pos h2, show Nat.beq (Nat.mod p d) 0 = true from beq_iff.2 h2]
      · rw [if_neg h2]
        have : Nat.beq (Nat.mod p d) 0 = false := by
          cases hb : Nat.beq (Nat.mod p d) 0 with
          | false => rfl
          | true => exact absurd (beq_iff.1 hb) h2
        rw [this]
    · rw [if_neg h1]
      have : Nat.ble (Nat.mul d d) p = false := by
        cases hb : Nat.ble (Nat.mul d d) p with
        | false => rfl
        | true => exact absurd (ble_iff.1 hb) h1
      rw [this]

section
variable {G : Nat → List AV} {CE : Nat → List AV → AW → CRes} {f : Frame} {A : AW}
theorem st_o (d : Sel) (l : LOp) (rest : List It) : runIts G CE (.o d l :: rest) f A = stepOp G CE l f A fun v A' => runIts G CE rest (d.set v f) A' := rfl
theorem st_mv {x : Arg} {K : KT} : stepOp G CE (.mv x) f A K = K (x.ev f) A := rfl
theorem st_two {x y : AV} {k : IntKind} {a b : Nat} {K : IntKind → Nat → Nat → Res} (hx : x = .i k a) (hy : y = .i k b) : two x y K = K k a b := by
  subst hx hy
  show iff (sameK k k) .fail (K k a b) = _
  rw [sameK_iff.2 rfl]; rfl
theorem st_imul {x y : Arg} {k : IntKind} {a b : Nat} {K : KT} (hx : x.ev f = .i k a) (hy : y.ev f = .i k b) : stepOp G CE (.imul x y) f A K = K (.i k (Nat.land (Nat.mul a b) (maskK k))) A := by
  show two (x.ev f) (y.ev f) _ = _
  rw [st_two hx hy, force_eq]
theorem st_iadd {x y : Arg} {k : IntKind} {a b : Nat} {K : KT} (hx : x.ev f = .i k a) (hy : y.ev f = .i k b) : stepOp G CE (.iadd x y) f A K = K (.i k (Nat.land (Nat.add a b) (maskK k))) A := by
  show two (x.ev f) (y.ev f) _ = _
  rw [st_two hx hy, force_eq]
theorem st_ile {x y : Arg} {k : IntKind} {a b : Nat} {K : KT} (hx : x.ev f = .i k a) (hy : y.ev f = .i k b) : stepOp G CE (.ile x y) f A K = K (.b (Nat.ble (biased k a) (biased k b))) A := by
  show two (x.ev f) (y.ev f) _ = _
  rw [st_two hx hy]
theorem st_ilt {x y : Arg} {k : IntKind} {a b : Nat} {K : KT} (hx : x.ev f = .i k a) (hy : y.ev f = .i k b) : stepOp G CE (.ilt x y) f A K = K (.b (lt (biased k a) (biased k b))) A := by
  show two (x.ev f) (y.ev f) _ = _
  rw [st_two hx hy]
theorem st_igt {x y : Arg} {k : IntKind} {a b : Nat} {K : KT} (hx : x.ev f = .i k a) (hy : y.ev f = .i k b) : stepOp G CE (.igt x y) f A K = K (.b (lt (biased k b) (biased k a))) A := by
  show two (x.ev f) (y.ev f) _ = _
  rw [st_two hx hy]
theorem st_irem {x y : Arg} {k : IntKind} {a b : Nat} {K : KT} (hx : x.ev f = .i k a) (hy : y.ev f = .i k b) (hb : 0 < b) : stepOp G CE (.irem x y) f A K = K (.i k (negIf (xorB (lt a (halfK k)) true) k (Nat.mod (absK k a) (absK k b)))) A := by
  show two (x.ev f) (y.ev f) _ = _
  rw [st_two hx hy, iff_true (lt_iff.2 hb), force_eq]
theorem st_eq0 {x y : Arg} {k : IntKind} {a b : Nat} {K : KT} (hx : x.ev f = .i k a) (hy : y.ev f = .i k b) : stepOp G CE (.eq false 0 x y) f A K = K (.b (xorB false (Nat.beq a b))) A := by
  show eqAt 0 (x.ev f) (y.ev f) (fun c => K (.b (xorB false c)) A) = _
  rw [hx, hy]
  show iff (sameK k k) Res.fail (K (.b (xorB false (Nat.beq a b))) A) = _
  rw [sameK_iff.2 rfl]; rfl
theorem st_g {s : Sel} {want : Bool} (h : s.get f = .b want) (d : Sel) (l : LOp) (rest : List It) : runIts G CE (.g s want d l :: rest) f A = stepOp G CE l f A fun v A' => runIts G CE rest (d.set v f) A' := by
  show gdV (s.get f) want _ _ = _
  rw [h]; cases want <;> rfl
theorem its_nil : runIts G CE [] f A = .nrm f A := rfl
theorem rc_seq (n : Nat) (a b : LCode) : runC G CE (n + 1) (.seq a b) f A = bindN (runC G CE (n + 1) a f A) (runC G CE (n + 1) b) := rfl
theorem rc_region (n : Nat) (l : List It) : runC G CE (n + 1) (.region l) f A = runIts G CE l f A := rfl
theorem rc_block (n id : Nat) (b : LCode) : runC G CE (n + 1) (.block id b) f A = bindE id (runC G CE (n + 1) b f A) := rfl
theorem rc_ret (n : Nat) : runC G CE (n + 1) .ret f A = .ret f A := rfl
theorem rc_skip (n : Nat) : runC G CE (n + 1) .skip f A = .nrm f A := rfl
theorem rc_cond0 (n : Nat) {c : Arg} {a b : LCode} (h : c.ev f = .b false) : runC G CE (n + 1) (.cond c a b) f A = runC G CE (n + 1) b f A := by
  show asB Res.fail (c.ev f) _ = _
  rw [h]; rfl
theorem bindN_ret (K : Frame → AW → Res) : bindN (.ret f A) K = .ret f A := rfl
theorem bindE_ret (i : Nat) : bindE i (.ret f A) = .ret f A := rfl
theorem bindE_hit : bindE 0 (.ex 0 f A) = .nrm f A := rfl
theorem bindN_nrm (K : Frame → AW → Res) : bindN (.nrm f A) K = K f A := rfl
end

def frP (p d : Nat) (v2 x4 x5 x6 x7 x8 x9 x10 x11 x12 x13 x14 x15 x16 x17 x18 x19 x20 : AV) : Frame :=
  ⟨⟨⟨.i .i64 p, undefA, v2, .i .i64 d, x4, x5, x6, x7⟩, ⟨x8, x9, x10, x11, x12, x13, x14, x15⟩, ⟨x16, x17, x18, x19, x20, undefA, undefA, undefA⟩, e1, e1, e1, e1, e1⟩, e2, e2, e2, e2, e2, e2, e2⟩
/-- A frame with these three. -/
def IsP (p d : Nat) (v2 : AV) (f : Frame) : Prop := ∃ x4 x5 x6 x7 x8 x9 x10 x11 x12 x13 x14 x15 x16 x17 x18 x19 x20, f = frP p d v2 x4 x5 x6 x7 x8 x9 x10 x11 x12 x13 x14 x15 x16 x17 x18 x19 x20

theorem small_biased {n : Nat} (h : n < 0x8000000000000000) : biased .i64 n = n + 0x8000000000000000 := by
  have : Nat.land (Nat.add n 0x8000000000000000) 0xffffffffffffffff = (n + 0x8000000000000000) % 2 ^ 64 := Nat.and_two_pow_sub_one_eq_mod _ 64
  unfold biased
  show Nat.land (Nat.add n 0x8000000000000000) 0xffffffffffffffff = _
  rw [this]; omega
theorem small_land {n : Nat} (h : n < 0x8000000000000000) : Nat.land n (maskK .i64) = n := by
  have : Nat.land n 0xffffffffffffffff = n % 2 ^ 64 := Nat.and_two_pow_sub_one_eq_mod _ 64
  show Nat.land n 0xffffffffffffffff = _
  rw [this]; omega

section
variable {G : Nat → List AV} {CE : Nat → List AV → AW → CRes} {A : AW} {p d : Nat} {v2 : AV} {f : Frame}
theorem lp_test (hp : p < 2147483648) (hd : d < 2147483648) (hf : IsP p d v2 f) (n : Nat) : ∃ f', IsP p d v2 f' ∧ runC G CE (n + 1) lpTest f A = if d * d ≤ p then .nrm f' A else .ex 0 f' A := by
  obtain ⟨x4, x5, x6, x7, x8, x9, x10, x11, x12, x13, x14, x15, x16, x17, x18, x19, x20, rfl⟩ := hf
  have hdd : d * d < 0x8000000000000000 := Nat.lt_of_le_of_lt (Nat.mul_le_mul (Nat.le_of_lt hd) (Nat.le_of_lt hd)) (by decide)
  have hb : Nat.ble (biased .i64 (Nat.land (Nat.mul d d) (maskK .i64))) (biased .i64 p) = decide (d * d ≤ p) := by
    rw [show Nat.mul d d = d * d from rfl, small_land hdd, small_biased hdd, small_biased (by omega), Bool.eq_iff_iff, ble_iff, decide_eq_true_iff]
    omega
  refine ⟨frP p d v2 x4 x5 x6 x7 x8 x9 (.i .i64 d) (.i .i64 d) (.i .i64 (Nat.land (Nat.mul d d) (maskK .i64))) (.i .i64 p) (.b (decide (d * d ≤ p))) x15 x16 x17 x18 x19 x20, ⟨_, _, _, _, _, _, _, _, _, _, _, _, _, _, _, _, _, rfl⟩, ?_⟩
  show bindN (runIts G CE [.o s10 (.mv (.t s3)), .o s11 (.mv (.t s3)), .o s12 (.imul (.t s10) (.t s11)), .o s13 (.mv (.t s0)), .o s14 (.ile (.t s12) (.t s13))] _ A) (runC G CE (n + 1) (.cond (.t s14) .skip (.exit 0))) = _
  rw [st_o, st_mv, st_o, st_mv, st_o, st_imul (k := .i64) (a := d) (b := d) rfl rfl, st_o, st_mv, st_o, st_ile (k := .i64) (a := Nat.land (Nat.mul d d) (maskK .i64)) (b := p) rfl rfl, hb]
  by_cases h : d * d ≤ p
  · rw [if_pos h, decide_eq_true h]; rfl
  · rw [if_neg h, decide_eq_false h]; rfl
theorem lp_div (hp : p < 2147483648) (hd : d < 2147483648) (h0 : 0 < d) (hf : IsP p d v2 f) (n : Nat) : ∃ f' f'', IsP p d v2 f' ∧ s2.get f'' = .b false ∧ runC G CE (n + 1) lpDiv f A = if p % d = 0 then .ret f'' A else .nrm f' A := by
  obtain ⟨x4, x5, x6, x7, x8, x9, x10, x11, x12, x13, x14, x15, x16, x17, x18, x19, x20, rfl⟩ := hf
  have e1 : absK .i64 p = p := by unfold absK; rw [show lt p (halfK .i64) = true from lt_iff.2 (by show p < 0x8000000000000000; omega)]
  have e2 : absK .i64 d = d := by unfold absK; rw [show lt d (halfK .i64) = true from lt_iff.2 (by show d < 0x8000000000000000; omega)]
  have e3 : negIf (xorB (lt p (halfK .i64)) true) .i64 (Nat.mod (absK .i64 p) (absK .i64 d)) = p % d := by
    rw [e1, e2, show lt p (halfK .i64) = true from lt_iff.2 (by show p < 0x8000000000000000; omega)]; rfl
  have e4 : xorB false (Nat.beq (p % d) 0) = decide (p % d = 0) := by
    rw [Bool.eq_iff_iff, decide_eq_true_iff]
    show Nat.beq (p % d) 0 = true ↔ _
    exact beq_iff
  refine ⟨frP p d v2 x4 x5 x6 x7 x8 x9 x10 x11 x12 x13 x14 x15 x16 (.i .i64 p) (.i .i64 d) (.i .i64 (p % d)) (.b (decide (p % d = 0))), frP p d (.b false) x4 x5 x6 x7 x8 x9 x10 x11 x12 x13 x14 x15 x16 (.i .i64 p) (.i .i64 d) (.i .i64 (p % d)) (.b (decide (p % d = 0))),
    ⟨_, _, _, _, _, _, _, _, _, _, _, _, _, _, _, _, _, rfl⟩, rfl, ?_⟩
  show bindE 1 (bindN (runIts G CE [.o s17 (.mv (.t s0)), .o s18 (.mv (.t s3)), .o s19 (.irem (.t s17) (.t s18)), .o s20 (.eq false 0 (.t s19) (.c (.i .i64 0)))] _ A) (runC G CE (n + 1) (.cond (.t s20) (.seq (.region [.o s2 (.mv (.c (.b false)))]) .ret) .skip))) = _
  rw [st_o, st_mv, st_o, st_mv, st_o, st_irem (k := .i64) (a := p) (b := d) rfl rfl h0, e3, st_o, st_eq0 (k := .i64) (a := p % d) (b := 0) rfl rfl, e4]
  by_cases h : p % d = 0
  · rw [if_pos h, decide_eq_true h]; rfl
  · rw [if_neg h, decide_eq_false h]; rfl
theorem lp_inc (hd : d < 2147483648) (hf : IsP p d v2 f) (n : Nat) : ∃ f', IsP p (d + 1) v2 f' ∧ runC G CE (n + 1) lpInc f A = .nrm f' A := by
  obtain ⟨x4, x5, x6, x7, x8, x9, x10, x11, x12, x13, x14, x15, x16, x17, x18, x19, x20, rfl⟩ := hf
  have e1 : Nat.land (Nat.add d 1) (maskK .i64) = d + 1 := small_land (n := d + 1) (by omega)
  refine ⟨frP p (d + 1) v2 x4 x5 x6 x7 x8 x9 x10 x11 x12 x13 x14 (.i .i64 d) (.i .i64 (d + 1)) x17 x18 x19 x20, ⟨_, _, _, _, _, _, _, _, _, _, _, _, _, _, _, _, _, rfl⟩, ?_⟩
  show runIts G CE [.o s15 (.mv (.t s3)), .o s16 (.iadd (.t s15) (.c (.i .i64 1))), .o s3 (.mv (.t s16))] _ A = _
  rw [st_o, st_mv, st_o, st_iadd (k := .i64) (a := d) (b := 1) rfl rfl, e1]
  rfl
/-- The loop ends as its function says. -/
theorem lp_loop (hp : p < 2147483648) : ∀ (m n d : Nat) (f : Frame) (b : Bool), m ≤ n → 0 < d → d + m < 2147483648 → IsP p d (.b false) f → lpR p m d = some b →
    ∃ f', s2.get f' = .b false ∧ runC G CE n (.loop lpBody) f A = if b = true then .ex 0 f' A else .ret f' A := by
  intro m
  induction m with
  | zero => intro n d f b _ _ _ _ h; cases h
  | succ m ih =>
    intro n d f b hmn h0 hdm hf h
    obtain ⟨n, rfl⟩ : ∃ k, n = k + 1 := ⟨n - 1, by omega⟩
    have hd : d < 2147483648 := by omega
    obtain ⟨f1, k1, k2⟩ := lp_test (G := G) (CE := CE) (A := A) hp hd hf n
    have hu : runC G CE (n + 1) (.loop lpBody) f A = bindN (bindN (runC G CE (n + 1) lpTest f A) fun f A => bindN (runC G CE (n + 1) lpDiv f A) fun f A => runC G CE (n + 1) lpInc f A) fun f' A' => runC G CE n (.loop lpBody) f' A' := rfl
    rw [hu, k2]
    rw [lpR] at h
    by_cases h1 : d * d ≤ p
    · rw [if_pos h1] at h ⊢
      obtain ⟨f2, f3, k3, k4, k5⟩ := lp_div (G := G) (CE := CE) (A := A) hp hd h0 k1 n
      have hu2 : (bindN (bindN (Res.nrm f1 A) fun f A => bindN (runC G CE (n + 1) lpDiv f A) fun f A => runC G CE (n + 1) lpInc f A) fun f' A' => runC G CE n (.loop lpBody) f' A') = bindN (bindN (runC G CE (n + 1) lpDiv f1 A) fun f A => runC G CE (n + 1) lpInc f A) fun f' A' => runC G CE n (.loop lpBody) f' A' := rfl
      rw [hu2, k5]
      by_cases h2 : p % d = 0
      · rw [if_pos h2] at h ⊢
        cases h
        exact ⟨f3, k4, rfl⟩
      · rw [if_neg h2] at h ⊢
        obtain ⟨f4, k6, k7⟩ := lp_inc (G := G) (CE := CE) (A := A) hd k3 n
        have hu3 : (bindN (bindN (Res.nrm f2 A) fun f A => runC G CE (n + 1) lpInc f A) fun f' A' => runC G CE n (.loop lpBody) f' A') = bindN (runC G CE (n + 1) lpInc f2 A) fun f' A' => runC G CE n (.loop lpBody) f' A' := rfl
        rw [hu3, k7]
        exact ih n (d + 1) f4 b (by omega) (by omega) (by omega) k6 h
    · rw [if_neg h1] at h ⊢
      cases h
      have hs2 : s2.get f1 = .b false := by
        obtain ⟨x4, x5, x6, x7, x8, x9, x10, x11, x12, x13, x14, x15, x16, x17, x18, x19, x20, rfl⟩ := k1
        rfl
      exact ⟨f1, hs2, rfl⟩
def prR1 : List It := [.o s4 (.mv (.t s0)), .o s5 (.ilt (.t s4) (.c (.i .i64 2))), .o s6 (.mv (.t s5)), .g s6 false s7 (.mv (.t s0)), .g s6 false s8 (.igt (.t s7) (.c (.i .i64 2147483647))), .o s9 (.pick (.t s6) (.c (.b true)) (.t s8))]
def prF (p : Nat) (v2 v3 x4 x5 x6 x7 x8 x9 : AV) : Frame := ⟨⟨⟨.i .i64 p, undefA, v2, v3, x4, x5, x6, x7⟩, ⟨x8, x9, undefA, undefA, undefA, undefA, undefA, undefA⟩, e1, e1, e1, e1, e1, e1⟩, e2, e2, e2, e2, e2, e2, e2⟩
theorem pr_step1 (hp : p < 2147483648) (hp2 : 2 ≤ p) : runIts G CE prR1 (prF p (.b false) undefA undefA undefA undefA undefA undefA undefA) A = .nrm (prF p (.b false) undefA (.i .i64 p) (.b false) (.b false) (.i .i64 p) (.b false) (.b false)) A := by
  have hlt : lt (biased .i64 p) (biased .i64 2) = false := by
    rw [small_biased (n := p) (by omega), small_biased (n := 2) (by decide)]
    cases hb : lt (p + 0x8000000000000000) (2 + 0x8000000000000000) with
    | false => rfl
    | true => have := lt_iff.1 hb; omega
  have hgt : lt (biased .i64 2147483647) (biased .i64 p) = false := by
    rw [small_biased (n := p) (by omega), small_biased (n := 2147483647) (by decide)]
    cases hb : lt (2147483647 + 0x8000000000000000) (p + 0x8000000000000000) with
    | false => rfl
    | true => have := lt_iff.1 hb; omega
  unfold prR1
  rw [st_o, st_mv, st_o, st_ilt (k := .i64) (a := p) (b := 2) rfl rfl, hlt, st_o, st_mv, st_g rfl, st_mv, st_g rfl, st_igt (k := .i64) (a := p) (b := 2147483647) rfl rfl, hgt, st_o]
  rfl
theorem pr_body (hp : p < 2147483648) (hp2 : 2 ≤ p) {b : Bool} (hb : lpR p 46341 2 = some b) (n : Nat) (hn : 46341 ≤ n) :
    ∃ f2, s2.get f2 = .b b ∧ runC G CE (n + 1) LPr.body (prF p undefA undefA undefA undefA undefA undefA undefA undefA) A = .ret f2 A := by
  have hbody : LPr.body = .seq (.region [.o s2 (.mv (.c (.b false)))])
     (.seq (.seq (.region prR1) (.cond (.t s9) .bad .skip))
     (.seq (.seq (.region [.o s3 (.mv (.c (.i .i64 2)))])
       (.block 0 (.loop lpBody)))
     (.seq (.region [.o s2 (.mv (.c (.b true)))]) .ret))) := rfl
  obtain ⟨f', g1, g2⟩ := lp_loop (G := G) (CE := CE) (A := A) hp 46341 (n + 1) 2 (prF p (.b false) (.i .i64 2) (.i .i64 p) (.b false) (.b false) (.i .i64 p) (.b false) (.b false)) b (by omega) (by decide) (by decide) ⟨_, _, _, _, _, _, _, _, _, _, _, _, _, _, _, _, _, rfl⟩ hb
  have k0 : runIts G CE [.o s2 (.mv (.c (.b false)))] (prF p undefA undefA undefA undefA undefA undefA undefA undefA) A = .nrm (prF p (.b false) undefA undefA undefA undefA undefA undefA undefA) A := rfl
  have k3 : runIts G CE [.o s3 (.mv (.c (.i .i64 2)))] (prF p (.b false) undefA (.i .i64 p) (.b false) (.b false) (.i .i64 p) (.b false) (.b false)) A = .nrm (prF p (.b false) (.i .i64 2) (.i .i64 p) (.b false) (.b false) (.i .i64 p) (.b false) (.b false)) A := rfl
  have k8 : runIts G CE [.o s2 (.mv (.c (.b true)))] f' A = .nrm (s2.set (.b true) f') A := rfl
  rw [hbody, rc_seq, rc_region, k0, bindN_nrm, rc_seq, rc_seq, rc_region, pr_step1 hp hp2, bindN_nrm, rc_cond0 n rfl, rc_skip, bindN_nrm, rc_seq, rc_seq, rc_region, k3, bindN_nrm, rc_block, g2]
  cases b with
  | true =>
    rw [if_pos rfl, bindE_hit, bindN_nrm, rc_seq, rc_region, k8, bindN_nrm, rc_ret]
    exact ⟨_, Sel.get_set _ _ _, rfl⟩
  | false =>
    rw [if_neg Bool.false_ne_true, bindE_ret, bindN_ret]
    exact ⟨_, g1, rfl⟩
theorem pr_init (K : Frame → CRes) : initF LPr.params [.i .i64 p] e3 K = K (prF p undefA undefA undefA undefA undefA undefA undefA undefA) := rfl
theorem pr_end {f2 : Frame} {b : Bool} (g1 : s2.get f2 = .b b) : endC LPr.results (.ret f2 A) = .ok (.b b) A := by
  have hr : LPr.results = [.tmp s2] := rfl
  rw [hr]
  show CRes.ok (oneOrTup [s2.get f2]) A = _
  rw [g1]; rfl
theorem evalF_known {F : Nat → Option LFun} {hk : Nat → List AV → AW → CRes} {fid loops fuel : Nat} {args : List AV} {L : LFun} (hF : F fid = some L) (hh : hk fid args A = .fail) :
    evalF G F hk loops (fuel + 1) fid args A = initF L.params args e3 fun f => endC L.results (runC G (evalF G F hk loops fuel) loops L.body f A) := by
  have he : evalF G F hk loops (fuel + 1) fid args A = optC (hk fid args A) (Option.rec (motive := fun _ => CRes) .fail (fun L => initF L.params args e3 fun f => endC L.results (runC G (evalF G F hk loops fuel) loops L.body f A)) (F fid)) := rfl
  rw [he, hh, hF]; rfl
/-- **IsPrime answers as its function says.** -/
theorem pr_run {F : Nat → Option LFun} {hk : Nat → List AV → AW → CRes} {fid n fuel : Nat} (hF : F fid = some LPr) (hh : hk fid [.i .i64 p] A = .fail) (hp : p < 2147483648) (hp2 : 2 ≤ p) (hl : 46341 ≤ n) {b : Bool} (hb : lpR p 46341 2 = some b) :
    evalF G F hk (n + 1) (fuel + 1) fid [.i .i64 p] A = .ok (.b b) A := by
  rw [evalF_known hF hh, pr_init]
  obtain ⟨f2, g1, g2⟩ := pr_body (G := G) (CE := evalF G F hk (n + 1) fuel) (A := A) hp hp2 hb n hl
  rw [g2, pr_end g1]
end
end
section
/-! ## The primes that are asked for; all library functions together -/
def prmB (p : Nat) : Bool := Nat.beq p 2147483647 || (Nat.beq p 2147483629 || (Nat.beq p 2147483587 || (Nat.beq p 2147483579 || Nat.beq p 2147483563)))
def prmOne (p : Nat) : Bool := match lpK p 46341 2 with
  | some b => !(b ^^ prmB p)
  | none => false
def prmAll (p n : Nat) : Bool := Nat.rec (motive := fun _ => Nat → Bool) (fun _ => true) (fun _ ih p => andB (prmOne p) (force (Nat.succ p) fun p' => ih p')) n p
theorem prmAll_ok : prmAll 2147483563 85 = true := by decide +kernel
theorem prmAll_get : ∀ (n p : Nat), prmAll p n = true → ∀ q, p ≤ q → q < p + n → lpR q 46341 2 = some (prmB q)
  | 0, p, _, q, h1, h2 => by omega
  | n + 1, p, h, q, h1, h2 => by
    have hu : andB (prmOne p) (force (Nat.succ p) fun p' => prmAll p' n) = true := h
    obtain ⟨k1, k2⟩ := and_true' hu
    rw [force_eq] at k2
    by_cases he : q = p
    · subst he
      unfold prmOne at k1
      rw [lpK_eq] at k1
      cases hl : lpR q 46341 2 with
      | none => rw [hl] at k1; cases k1
      | some b =>
        rw [hl] at k1
        have : b = prmB q := by
          generalize prmB q = c at k1 ⊢
          cases b <;> cases c <;> first | rfl | cases k1
        rw [this]
    · exact prmAll_get n (p + 1) k2 q (by omega) (by omega)
def hkPr (args : List AV) (A : AW) : CRes := arg1 args fun v => asI .fail v fun k p => iff (andB (sameK k .i64) (andB (Nat.ble 2147483563 p) (Nat.ble p 2147483647))) .fail (.ok (.b (prmB p)) A)
def FPr (n : Nat) : Option LFun := if n = 450 ∨ n = 224 then some LPr else none
theorem funOk_name {P : Program} {L : LFun} {fn : Func} {T : Nat → Option TypeInfo} (hT : TOk P T) (h : chkFun T L fn = true) (hn : (fn.name == "runtime.NumGoroutine") = false) : FunOk P L fn :=
  chkFun_sound hT h (by simpa using hn)
theorem FPr_ok : FunsOk Tryz.prog FPr := by
  intro fid L h
  unfold FPr at h
  split at h
  · rename_i hc
    cases h
    rcases hc with rfl | rfl
    · exact ⟨Tryz.f450, Tryz.func450, funOk_name T_ok pr450 (by kernel_rfl)⟩
    · exact ⟨Tryz.f224, Tryz.func224, funOk_name T_ok pr224 (by kernel_rfl)⟩
  · cases h
theorem mixed_ok : Tryz.prog.follows .mixedOrders = true := by kernel_rfl
section
variable {X : Par} {σ : Sg} {A : AW} {w : World}
theorem CEok.none : CEok X fun _ _ _ => .fail := fun _ _ _ _ _ h => nomatch h
theorem hkPr_ok (hP : X.P = Tryz.prog) {fid : Nat} (hfid : fid = 450 ∨ fid = 224) {args : List AV} {v : AV} {A' : AW} (he : hkPr args A = .ok v A') {vs : Array Value} (h : HR X σ A w) (hr : VRs σ args vs.toList) : Lands X σ A w ((callFunc fid vs).run X.P w) (v, A') := by
  obtain ⟨x, rfl, h1⟩ := arg1_ok he
  obtain ⟨k, p, rfl, h3⟩ := asI_ok h1
  obtain ⟨h4, h5⟩ := iff_ok h3
  cases h5
  obtain ⟨h6, h7⟩ := and_true' h4
  obtain ⟨h8, h9⟩ := and_true' h7
  have := sameK_iff.1 h6; subst this
  have h8' := ble_iff.1 h8
  have h9' := ble_iff.1 h9
  have hb := prmAll_get 85 2147483563 prmAll_ok p h8' (by omega)
  have hF : FPr fid = some LPr := by unfold FPr; rw [if_pos hfid]
  have hrun := pr_run (G := X.G) (A := A) (F := FPr) (hk := fun _ _ _ => .fail) (fid := fid) (n := 46341) (fuel := 0) hF rfl (by omega) (by omega) (Nat.le_refl _) hb
  exact evalF_sound (by rw [hP]; exact mixed_ok) (by rw [hP]; exact FPr_ok) CEok.none _ _ _ _ _ _ _ hrun σ w vs h hr
end
end
section
/-! ## slices.AppendSeq(nil, slices.Values(s)) where s has one element -/
def rhoA : Go.Shelf.Ren := ⟨fun _ => 670, fun t => if t = 24 then 39 else if t = 26 then 3 else if t = 28 then 620 else if t = 33 then 305 else 0, fun _ => 0⟩
theorem bears670 : Bears Tryz.prog 670 (SlBodyZ.n11 rhoA) := ⟨ "slices.AppendSeq[[]int,int]", by kernel_rfl, by kernel_rfl⟩
theorem laysA : SlLaysZI.n11 Tryz.prog rhoA where
  mixed := mixed_ok
  f11 := bears670
  t0 := Tryz.underlying0
  a0 := Tryz.isAgg0
  z0 := Tryz.sizeOf0
  v0 := Tryz.zeroValue0
  t24 := Tryz.underlying39
  a24 := Tryz.isAgg39
  z24 := Tryz.sizeOf39
  v24 := Tryz.zeroValue39
  t26 := Tryz.underlying3
  a26 := Tryz.isAgg3
  z26 := Tryz.sizeOf3
  v26 := Tryz.zeroValue3
  t28 := Tryz.underlying620
  a28 := Tryz.isAgg620
  z28 := Tryz.sizeOf620
  v28 := Tryz.zeroValue620
  i26 := by kernel_rfl

attribute [local go_sem] Oper.semAt_some
def muV : Value → Nat
  | .int _ 0 => 1
  | _ => 0

set_option maxRecDepth 100000 in
set_option maxHeartbeats 2000000 in
/-- slices.Values's closure at a slice of one element: one round. -/
theorem val1_gives (n : Nat) (hn : 1 ≤ n) (Bs b off cap : Nat) (x : Int) (w : World) (hBs : Bs < w.heap.size) (hb : b < w.heap.size)
    (hc : w.cell? ⟨Bs, 0, none⟩ = some (.slice (some ⟨b, off, none⟩) 1 cap)) (hx : w.cell? ⟨b, off, none⟩ = some (.int .i64 x)) :
    SeqGives Fence.wide n Tryz.prog 661 #[.pointer (some ⟨Bs, 0, none⟩)] (Value.int .i64) (fun ss => ss = [x]) 1 w := fun l J W hW _ hY h0 => by
  have hc' := (hW.cell (p := ⟨Bs, 0, none⟩) hBs).trans hc
  have hx' := (hW.cell (p := ⟨b, off, none⟩) hb).trans hx
  refine callsIn_of_wp Tryz.func661 rfl trivial ?_ rfl
  simp only [Tryz.ntmps661, List.size_toArray, List.length_cons, List.length_nil, Nat.reduceAdd, Nat.reduceSub, Array.replicate_succ, Array.replicate_zero, List.push_toArray, List.append_toArray, List.nil_append, List.cons_append]
  gi_wp2
  gi_loopw [7] (fun i wr => (i = .int .i64 0 ∧ wr = W) ∨ (i = .int .i64 1 ∧ J [x] wr))
    (fun i _ => muV i)
  case atStart => exact .inl ⟨rfl, rfl⟩
  case round =>
    rcases hrel with ⟨rfl, rfl⟩ | ⟨rfl, hJ⟩
    · obtain ⟨fn, tmps, assign, body, hy, hR⟩ := hY [] x wr h0 (by decide)
      gi_wp2
      refine hR.mono ?_
      rintro e W3 ⟨rfl, hJ3, hk3⟩
      gi_wp2
      go_roundw
      case rel => exact .inr ⟨rfl, hJ3⟩
      case measure => decide
    · gi_wp2
      go_end0
      exact ⟨⟨_, rfl⟩, _, rfl, hJ⟩
end
section
/-! ## AppendSeq as a known call -/
theorem app1_calls (Bs b off cap : Nat) (x : Int) (w : World) (hBs : Bs < w.heap.size) (hb : b < w.heap.size)
    (hc : w.cell? ⟨Bs, 0, none⟩ = some (.slice (some ⟨b, off, none⟩) 1 cap)) (hx : w.cell? ⟨b, off, none⟩ = some (.int .i64 x)) :
    Calls Tryz.prog 670 #[.slice none 0 0, .func (.func 661) #[] #[.pointer (some ⟨Bs, 0, none⟩)]] w fun e w' =>
      ∃ g cp cur, e = .returned (.slice (some ⟨g, 0, none⟩) 1 cp) ∧ w.heap.size ≤ g ∧ w'.heap[g]? = some (.cells cur 3 (0, 0)) ∧ 1 ≤ cp ∧ cur.size = cp ∧ cur[0]? = some (.int .i64 x) ∧ RowKit.Below w.heap.size w w' := by
  refine Calls.mono (callsIn_wide.1 (AnyZI.appendSeq_in laysA Fence.wide 2 trivial rfl (by decide) 661 #[.pointer (some ⟨Bs, 0, none⟩)] trivial Tryz.call661 (fun ss => ss = [x]) 1 (by decide) (by decide) w (val1_gives 1 (by decide) Bs b off cap x w hBs hb hc hx))) ?_
  rintro e w' ⟨v, ss, rfl, rfl, hown, hnil, hbel⟩
  rcases hown.2 with ⟨_, h0⟩ | ⟨g, cp, cur, rfl, h1, h2, h3, _, h5, h6⟩
  · cases h0
  · refine ⟨g, cp, cur, rfl, h1, h2, h3, by simpa using h5, ?_, hbel⟩
    have : cur.toList.take 1 = [Value.int .i64 x] := by simpa using h6
    have h7 : (cur.toList.take 1)[0]? = some (Value.int .i64 x) := by rw [this]; rfl
    rw [List.getElem?_take] at h7
    simpa using h7

/-- A new object that some call has laid at the heap's end or beyond. -/
theorem HR.newAt {X : Par} {σ : Sg} {A : AW} {w w' : World} (h : HR X σ A w) (o : AO) (ob : Obj) (l : Loc) (hn : A.next < 32768) (hl : w.heap.size ≤ l.block) (hat : w'.heap[l.block]? = some ob)
    (ho : OR σ l o ob) (hsz : w.heap.size ≤ w'.heap.size) (hold : ∀ b, b < w.heap.size → w'.heap[b]? = w.heap[b]?) (so : SameOut w w') :
    HR X (ext σ A.next l) (addO A o) w' ∧ Ext σ A w (ext σ A.next l) (addO A o) w' := by
  have hnone := h.unset (Nat.le_refl A.next)
  have hmono := ext_mono (l := l) hnone
  have hself : ext σ A.next l A.next = some l := by simp [ext]
  have hother : ∀ id, id ≠ A.next → ext σ A.next l id = σ id := fun id hi => by simp [ext, hi]
  have hlt : l.block < w'.heap.size := (Array.getElem?_eq_some_iff.1 hat).1
  have k : Ext σ A w (ext σ A.next l) (addO A o) w' := by
    refine Ext.of h rfl hmono (fun id hi => hother id (Nat.ne_of_lt hi)) (Nat.le_succ _) hsz (fun b hb _ => hold b hb) (fun id o' l' hl' hs => ?_) so
    rcases Lv_addO hn hl' with ⟨h1, _⟩ | ⟨h1, h2⟩
    · rw [h1, hself] at hs; cases hs; exact .inl hl
    · rw [hother _ h1] at hs; exact .inr ⟨id, o', l', h2, hs, rfl⟩
  refine ⟨h.mk' k rfl ?_ ?_ ?_ hn, k⟩
  · intro id o' hl'
    rcases Lv_addO hn hl' with ⟨h1, h2⟩ | ⟨h1, h2⟩
    · subst h1 h2
      exact ⟨l, ob, hself, hat, ho.mono hmono, Nat.le_trans h.base hl⟩
    · obtain ⟨l1, ob', a1, a2, a3, a4⟩ := h.obj id o' h2
      exact ⟨l1, ob', by rw [hother _ h1, a1], by rw [hold _ (h.dom _ _ a1).2, a2], a3.mono hmono, a4⟩
  · intro id id' o1 o2 l1 l2 hl1 hl2 hs hs' he
    rcases Lv_addO hn hl1 with ⟨h1, h2⟩ | ⟨h1, h2⟩ <;> rcases Lv_addO hn hl2 with ⟨h1', h2'⟩ | ⟨h1', h2'⟩
    · rw [h1, h1']
    · rw [h1, hself] at hs; rw [hother _ h1'] at hs'
      have := (h.dom _ _ hs').2; cases hs; omega
    · rw [h1', hself] at hs'; rw [hother _ h1] at hs
      have := (h.dom _ _ hs).2; cases hs'; omega
    · rw [hother _ h1] at hs; rw [hother _ h1'] at hs'
      exact h.inj id id' o1 o2 l1 l2 h2 h2' hs hs' he
  · intro id l' hs
    by_cases h1 : id = A.next
    · rw [h1, hself] at hs; cases hs
      exact ⟨by rw [h1]; exact Nat.lt_succ_self _, hlt⟩
    · rw [hother _ h1] at hs
      have := h.dom _ _ hs
      exact ⟨Nat.lt_succ_of_lt this.1, by omega⟩

def slOf (v : AV) : Option (Nat × Nat × Nat) := match v with
  | .sk id o n _ => some (id, o, n)
  | .su id o n _ => some (id, o, n)
  | _ => none
def intAt (A : AW) (id o : Nat) : Option Nat := match getH id A.h with
  | some (.cells cs _ _) => (match nthO cs o with | some (.i .i64 n) => some n | _ => none)
  | _ => none
def boxOf (A : AW) (b : Nat) : Option (Nat × Nat × Nat) := match getH b A.h with
  | some (.cells (v :: _) _ 2) => slOf v
  | _ => none
/-- The one element of the slice in the box b. -/
def oneAt (A : AW) (b : Nat) : Option Nat := match boxOf A b with
  | some (id, o, 1) => intAt A id o
  | _ => none
def hkAS (args : List AV) (A : AW) : CRes := arg2 args fun s q => match s with
  | .sl0 => (match q with
    | .f fid [] [.p b 0] => iff (Nat.beq fid 661) .fail (match oneAt A b with
      | some n => force A.next fun id => iff (lt id 32768) .fail (.ok (.su id 0 1 1) ⟨setH id (some (.cells [.i .i64 n] 3 1)) A.h, Nat.succ id, A.frag⟩)
      | none => .fail)
    | _ => .fail)
  | _ => .fail
section
variable {X : Par} {σ : Sg} {A : AW} {w : World}
theorem intAt_sound (h : HR X σ A w) {id o n : Nat} {l : Loc} (hs : σ id = some l) (hi : intAt A id o = some n) : w.cell? ⟨l.block, l.shift + o, none⟩ = some (.int .i64 (IntKind.i64.wrap n)) ∧ n < modK .i64 := by
  unfold intAt at hi
  split at hi
  · rename_i cs e z hg
    obtain ⟨c, fr, _, hb, _, hc, _, _⟩ := h.cells hg hs
    split at hi
    · rename_i m hm
      cases hi
      rw [nthO_eq] at hm
      obtain ⟨_, v, k1, k2⟩ := hc o _ hm
      cases k2 with
      | i _ _ hn => exact ⟨by simp [World.cell?, hb, k1], hn⟩
    · cases hi
  · cases hi
theorem boxOf_sound (h : HR X σ A w) {b id o n : Nat} {l : Loc} (hs : σ b = some l) (hi : boxOf A b = some (id, o, n)) (h0 : 0 < n) :
    l.shift = 0 ∧ ∃ l2 cap, σ id = some l2 ∧ w.cell? ⟨l.block, 0, none⟩ = some (.slice (some ⟨l2.block, l2.shift + o, none⟩) n cap) := by
  unfold boxOf at hi
  split at hi
  · rename_i v vs e hg
    obtain ⟨c, fr, _, hb, _, hc, _, hw⟩ := h.cells hg hs
    have hsh := (hw rfl).1
    obtain ⟨_, u, k1, k2⟩ := hc 0 v rfl
    rw [hsh, Nat.zero_add] at k1
    have hcell : w.cell? ⟨l.block, 0, none⟩ = some u := by simp [World.cell?, hb, k1]
    cases v with
    | sk id' o' n' cap =>
      cases hi
      cases k2 with
      | sk _ _ _ _ oo l2 hl hcc ho =>
        have : oo = l2.shift + o := ho.resolve_right (by omega)
        subst this
        exact ⟨hsh, l2, cap, hl, hcell⟩
    | su id' o' n' es =>
      cases hi
      cases k2 with
      | su _ _ _ _ cap oo l2 hl hcc hss ho =>
        have : oo = l2.shift + o := ho.resolve_right (by omega)
        subst this
        exact ⟨hsh, l2, cap, hl, hcell⟩
    | _ => cases hi
  · cases hi
theorem hkAS_ok (hP : X.P = Tryz.prog) {args : List AV} {v : AV} {A' : AW} (he : hkAS args A = .ok v A') {vs : Array Value} (h : HR X σ A w) (hr : VRs σ args vs.toList) : Lands X σ A w ((callFunc 670 vs).run X.P w) (v, A') := by
  obtain ⟨s, q, rfl, h1⟩ := arg2_ok he
  obtain ⟨u1, u2, rfl, hu1, hu2⟩ := VRs.two hr
  split at h1
  · cases hu1
    split at h1
    · rename_i fid b
      obtain ⟨h2, h3⟩ := iff_ok h1
      have := beq_iff.1 h2; subst this
      split at h3
      · rename_i n hone
        rw [force_eq] at h3
        obtain ⟨h4, h5⟩ := iff_ok h3
        cases h5
        unfold oneAt at hone
        split at hone
        · rename_i id o hbox
          cases hu2 with
          | f _ _ _ f' c' hf hc =>
            obtain ⟨cv, rfl, hcv⟩ := VRs.one hc
            have hf0 : f' = #[] := by
              obtain ⟨l⟩ := f'
              cases l with
              | nil => rfl
              | cons _ _ => cases hf
            subst hf0
            cases hcv with
            | p _ _ l hl =>
              obtain ⟨hsh, l2, cap, hl2, hc1⟩ := boxOf_sound h hl hbox (by decide)
              obtain ⟨hc2, hn⟩ := intAt_sound h hl2 hone
              have hcalls := app1_calls l.block l2.block (l2.shift + o) cap _ w (h.dom _ _ hl).2 (h.dom _ _ hl2).2 hc1 hc2
              have hent : (callFunc 670 #[.slice none 0 0, .func (.func 661) #[] #[.pointer (some ⟨l.block, l.shift + 0, none⟩)]]).run X.P w = .ok (.enter 670 #[.slice none 0 0, .func (.func 661) #[] #[.pointer (some ⟨l.block, 0, none⟩)]]) w := by
                rw [hP, Nat.add_zero, hsh]; exact Tryz.call670 _ _
              rw [hent]
              show Calls X.P 670 _ w _
              rw [hP]
              refine Calls.mono hcalls ?_
              rintro e w' ⟨g, cp, cur, rfl, g1, g2, g3, g4, g5, g6⟩
              have hor : OR σ ⟨g, 0, cp⟩ (.cells [.i .i64 n] 3 1) (.cells cur 3 (0, 0)) := by
                refine .cells _ _ _ _ _ g4 (fun i a ha => ?_) (fun _ i _ hc => by simp at hc) (fun hc => by cases hc)
                cases i with
                | zero => cases ha; exact ⟨rfl, _, by simpa using g5, .i .i64 n hn⟩
                | succ i => simp at ha
              obtain ⟨k1, k2⟩ := h.newAt (.cells [.i .i64 n] 3 1) _ ⟨g, 0, cp⟩ (lt_iff.1 h4) g1 g2 hor g6.size g6.block ⟨g6.os, g6.output⟩
              exact ⟨_, _, rfl, .su _ 0 1 1 cp 0 ⟨g, 0, cp⟩ (by simp [ext]) g3 (by simp) (.inl rfl), k1, k2⟩
        · cases hone
      · cases h3
    · cases h1
  · cases h1
end
end
section
/-! ## All known library calls; the program's functions -/
def onF (fid n : Nat) (K Z : CRes) : CRes := Bool.rec (motive := fun _ => CRes) Z K (Nat.beq fid n)
def hkB (fid : Nat) (args : List AV) (A : AW) : CRes :=
  onF fid 35 (hkNE args A) (onF fid 136 (hkIB args A) (onF fid 140 (hkCS args A) (onF fid 172 (hkNZ args A) (onF fid 450 (hkPr args A) (onF fid 224 (hkPr args A) (onF fid 670 (hkAS args A) .fail))))))
theorem onF_ok {fid n : Nat} {K Z : CRes} {v : AV} {A : AW} (h : onF fid n K Z = .ok v A) : (fid = n ∧ K = .ok v A) ∨ Z = .ok v A := by
  unfold onF at h
  cases hb : Nat.beq fid n with
  | true => rw [hb] at h; exact .inl ⟨beq_iff.1 hb, h⟩
  | false => rw [hb] at h; exact .inr h
theorem hkB_ok {X : Par} (hP : X.P = Tryz.prog) : CEok X hkB := by
  intro fid args A v A' he σ w vs h hr
  rcases onF_ok he with ⟨rfl, h1⟩ | he
  · exact hkNE_ok hP h1 h hr
  rcases onF_ok he with ⟨rfl, h1⟩ | he
  · exact hkIB_ok hP h1 h hr
  rcases onF_ok he with ⟨rfl, h1⟩ | he
  · exact hkCS_ok hP h1 h hr
  rcases onF_ok he with ⟨rfl, h1⟩ | he
  · exact hkNZ_ok hP h1 h hr
  rcases onF_ok he with ⟨rfl, h1⟩ | he
  · exact hkPr_ok hP (.inl rfl) h1 h hr
  rcases onF_ok he with ⟨rfl, h1⟩ | he
  · exact hkPr_ok hP (.inr rfl) h1 h hr
  rcases onF_ok he with ⟨rfl, h1⟩ | he
  · exact hkAS_ok hP h1 h hr
  · cases he
/-- A known call beside others. -/
theorem CEok.or {X : Par} {a b : Nat → List AV → AW → CRes} (ha : CEok X a) (hb : CEok X b) : CEok X fun fid args A => optC (a fid args A) (b fid args A) := by
  intro fid args A v A' he σ w vs h hr
  have he' : optC (a fid args A) (b fid args A) = .ok v A' := he
  cases hc : a fid args A with
  | ok v1 A1 => rw [hc] at he'; cases (show CRes.ok v1 A1 = .ok v A' from he'); exact ha fid args A _ _ hc σ w vs h hr
  | fail => rw [hc] at he'; exact hb fid args A _ _ he' σ w vs h hr
end
end AM
end
end Go.Proofs.YtejhenloolgmkaaGreatDoor
