/- The call returns true whatever its arguments, where the row's condition holds. Condition: none. -/
import Derived.Test.YtejhenloolgmkaaGreatDoorTo0
import Derived.Test.YtejhenloolgmkaaGreatDoorTo1
import Derived.Test.YtejhenloolgmkaaGreatDoorTo2
import Derived.Test.YtejhenloolgmkaaGreatDoorTo3
import Derived.Test.YtejhenloolgmkaaGreatDoorRows
import Derived.Lib.LaidTab
import Derived.Stop.LaidErr
import Derived.MakeChecks
import Derived.KernelRfl
namespace Go.Proofs.YtejhenloolgmkaaGreatDoor
open Go
set_option linter.all false
noncomputable section
namespace AM
section
/-! ## The whole call, for all sorts of arguments -/
theorem top15 (j : Nat) (h : j < 16) : topOk 15 j = true := by
  match j, h with
  | 0, _ => exact t15_0
  | 1, _ => exact t15_1
  | 2, _ => exact t15_2
  | 3, _ => exact t15_3
  | 4, _ => exact t15_4
  | 5, _ => exact t15_5
  | 6, _ => exact t15_6
  | 7, _ => exact t15_7
  | 8, _ => exact t15_8
  | 9, _ => exact t15_9
  | 10, _ => exact t15_10
  | 11, _ => exact t15_11
  | 12, _ => exact t15_12
  | 13, _ => exact t15_13
  | 14, _ => exact t15_14
  | 15, _ => exact t15_15
  | k + 16, h => exact absurd h (by omega)
theorem top16 (j : Nat) (h : j < 17) : topOk 16 j = true := by
  match j, h with
  | 0, _ => exact t16_0
  | 1, _ => exact t16_1
  | 2, _ => exact t16_2
  | 3, _ => exact t16_3
  | 4, _ => exact t16_4
  | 5, _ => exact t16_5
  | 6, _ => exact t16_6
  | 7, _ => exact t16_7
  | 8, _ => exact t16_8
  | 9, _ => exact t16_9
  | 10, _ => exact t16_10
  | 11, _ => exact t16_11
  | 12, _ => exact t16_12
  | 13, _ => exact t16_13
  | 14, _ => exact t16_14
  | 15, _ => exact t16_15
  | 16, _ => exact t16_16
  | k + 17, h => exact absurd h (by omega)
theorem top17 (j : Nat) (h : j < 18) : topOk 17 j = true := by
  match j, h with
  | 0, _ => exact t17_0
  | 1, _ => exact t17_1
  | 2, _ => exact t17_2
  | 3, _ => exact t17_3
  | 4, _ => exact t17_4
  | 5, _ => exact t17_5
  | 6, _ => exact t17_6
  | 7, _ => exact t17_7
  | 8, _ => exact t17_8
  | 9, _ => exact t17_9
  | 10, _ => exact t17_10
  | 11, _ => exact t17_11
  | 12, _ => exact t17_12
  | 13, _ => exact t17_13
  | 14, _ => exact t17_14
  | 15, _ => exact t17_15
  | 16, _ => exact t17_16
  | 17, _ => exact t17_17
  | k + 18, h => exact absurd h (by omega)
theorem top18 (j : Nat) (h : j < 19) : topOk 18 j = true := by
  match j, h with
  | 0, _ => exact t18_0
  | 1, _ => exact t18_1
  | 2, _ => exact t18_2
  | 3, _ => exact t18_3
  | 4, _ => exact t18_4
  | 5, _ => exact t18_5
  | 6, _ => exact t18_6
  | 7, _ => exact t18_7
  | 8, _ => exact t18_8
  | 9, _ => exact t18_9
  | 10, _ => exact t18_10
  | 11, _ => exact t18_11
  | 12, _ => exact t18_12
  | 13, _ => exact t18_13
  | 14, _ => exact t18_14
  | 15, _ => exact t18_15
  | 16, _ => exact t18_16
  | 17, _ => exact t18_17
  | 18, _ => exact t18_18
  | k + 19, h => exact absurd h (by omega)
theorem topAll (r j : Nat) (hr : r < 4) (hj : j < 16 + r) : topOk (15 + r) j = true := by
  match r, hr with
  | 0, _ => exact top15 j hj
  | 1, _ => exact top16 j hj
  | 2, _ => exact top17 j hj
  | 3, _ => exact top18 j hj
  | k + 4, h => exact absurd h (by omega)
end
section
/-! ## The call in a world where the row's condition holds -/
def natOf (n : Int) : Nat := (n % 18446744073709551616).toNat
theorem natOf_lt (n : Int) : natOf n < 0x10000000000000000 := by unfold natOf; omega
theorem wrap_natOf {n : Int} (h : (Lit.int .i64 n).wf = true) : IntKind.i64.wrap (natOf n) = n := by
  have h' : (decide ((-(2 ^ 63) : Int) ≤ n) && decide (n ≤ (2 ^ 63 : Int) - 1)) = true := h
  simp only [Bool.and_eq_true, decide_eq_true_eq] at h'
  have hu : IntKind.i64.wrap (natOf n) = (if (true && decide ((natOf n : Int) % (2 ^ 64 : Int) ≥ (2 ^ 63 : Int))) then (natOf n : Int) % (2 ^ 64 : Int) - (2 ^ 64 : Int) else (natOf n : Int) % (2 ^ 64 : Int)) := rfl
  rw [hu]
  unfold natOf
  simp only [Bool.true_and, decide_eq_true_eq]
  split <;> omega

def tabB (k : IntKind) : List Nat → List Int → Bool
  | [], [] => true
  | n :: ns, z :: zs => lt n (modK k) && decide (k.wrap n = z) && tabB k ns zs
  | _, _ => false
theorem tabB_rel {k : IntKind} : ∀ {ns : List Nat} {zs : List Int}, tabB k ns zs = true → ∀ (i : Nat) (a : AV), (ns.map (AV.i k))[i]? = some a → flatA a = true ∧ ∃ v, (zs.map fun z => Value.int k z)[i]? = some v ∧ VR (fun _ => none) a v
  | [], [], _, i, a, h => by simp at h
  | n :: ns, z :: zs, hb, i, a, h => by
    simp only [tabB, Bool.and_eq_true, decide_eq_true_eq] at hb
    obtain ⟨⟨h1, h2⟩, h3⟩ := hb
    cases i with
    | zero =>
      simp only [List.map_cons, List.getElem?_cons_zero, Option.some.injEq] at h
      subst h
      exact ⟨rfl, _, rfl, by rw [← h2]; exact .i k n (lt_iff.1 h1)⟩
    | succ i => simpa using tabB_rel h3 i a (by simpa using h)
  | [], _ :: _, hb, _, _, _ => by cases hb
  | _ :: _, [], hb, _, _, _ => by cases hb

def pow10Z : List Int := [1, 10, 100, 1000, 10000, 100000, 1000000, 10000000, 100000000, 1000000000, 10000000000, 100000000000, 1000000000000, 10000000000000, 100000000000000, 1000000000000000, 10000000000000000, 100000000000000000, 1000000000000000000, 10000000000000000000]
def brujnZ : List Int := [0, 1, 28, 2, 29, 14, 24, 3, 30, 22, 20, 15, 25, 17, 4, 8, 31, 27, 13, 23, 21, 19, 16, 7, 26, 12, 18, 6, 11, 5, 10, 9]
theorem gPow : Tryz.prog.globalNamed "internal/strconv.uint64pow10" = some 1 := by kernel_rfl
theorem gBru : Tryz.prog.globalNamed "math/bits.deBruijn32tab" = some 4 := by kernel_rfl
theorem tPow : (Tryz.prog.globals[1]?).map (·.type) = some 366 := by kernel_rfl
theorem tBru : (Tryz.prog.globals[4]?).map (·.type) = some 492 := by kernel_rfl
theorem G1_eq : G 1 = (pow10Z.map Int.toNat).map (AV.i .u64) := rfl
theorem G4_eq : G 4 = (brujnZ.map Int.toNat).map (AV.i .u8) := rfl

theorem var_heap {P : Program} {W : World} {n : String} {g : Nat} {cs : Array Value} (hg : P.globalNamed n = some g) (h : W.var? P n = some cs) : ∃ e fr, W.heap[g]? = some (.cells cs e fr) := by
  unfold World.var? at h
  rw [hg] at h
  simp only [Option.bind_some] at h
  split at h
  · rename_i c e fr hh
    cases h
    exact ⟨e, fr, hh⟩
  · cases h

/-- What the row's condition tells of the two tables that are read. -/
theorem of_laid {W : World} (h : laidMetH Tryz.prog Rows.sessionNamesRow.laid W) :
    (∃ e fr, W.heap[1]? = some (.cells (pow10Z.map fun z => Value.int .u64 z).toArray e fr)) ∧ ∃ e fr, W.heap[4]? = some (.cells (brujnZ.map fun z => Value.int .u8 z).toArray e fr) := by
  rw [MakeChecks.laidMetH_plain _ _ _ (by kernel_rfl)] at h
  have h4 := h.tail.tail.tail.tail
  refine ⟨var_heap gPow (Lib.tabIs_of_head (k := .u64) (zs := pow10Z) gPow tPow Tryz.underlying366 (e := 51) (by kernel_rfl) (by kernel_rfl) (by kernel_rfl) h4), ?_⟩
  exact var_heap gBru (Lib.tabIs_of_head (k := .u8) (zs := brujnZ) gBru tBru (n := 32) (e := 5) (by kernel_rfl) (by kernel_rfl) (by kernel_rfl) (by kernel_rfl) h4.tail)

def lc0 (n m : Int) : Loc := ⟨0, natOf n, natOf m⟩
def sg0 (n m : Int) : Sg := fun i => match i with | 0 => some (lc0 n m) | _ => none
theorem G_only {g : Nat} (h : G g ≠ []) : g = 1 ∨ g = 4 := by
  have hs : ∀ b : Bool, Bool.rec (motive := fun _ => List AV) [] (sel8 G0 G1 G2 G3 G4 G5 G6 G7 g) b ≠ [] → b = true := fun b hb => by cases b <;> first | rfl | exact absurd rfl hb
  have hle : g ≤ 7 := Nat.le_of_ble_eq_true (hs _ h)
  match g, hle, h with
  | 0, _, h => exact absurd rfl h
  | 1, _, _ => exact .inl rfl
  | 2, _, h => exact absurd rfl h
  | 3, _, h => exact absurd rfl h
  | 4, _, _ => exact .inr rfl
  | 5, _, h => exact absurd rfl h
  | 6, _, h => exact absurd rfl h
  | 7, _, h => exact absurd rfl h

theorem hr_start {W : World} (h1 : ∃ e fr, W.heap[1]? = some (.cells (pow10Z.map fun z => Value.int .u64 z).toArray e fr)) (h4 : ∃ e fr, W.heap[4]? = some (.cells (brujnZ.map fun z => Value.int .u8 z).toArray e fr)) (n m : Int) :
    HR (XS 5 (lc0 n m)) (sg0 n m) ⟨h5, 1, fr0⟩ W := by
  obtain ⟨e1, fr1, h1⟩ := h1
  obtain ⟨e4, fr4, h4⟩ := h4
  have hsz : 4 < W.heap.size := (Array.getElem?_eq_some_iff.1 h4).1
  refine ⟨fun id o hl => ?_, fun id id' o o' l l' hl => ?_, fun id l hl => ?_, by decide, hsz, fun g hg => ?_, fun l hl => hl, (fun i id hi => nomatch hi), ?_⟩
  · have := hl.2; rw [show getH id h5 = none from getH_h5 id] at this; cases this
  · have := hl.2; rw [show getH id h5 = none from getH_h5 id] at this; cases this
  · match id, hl with
    | 0, hl => cases hl; exact ⟨by decide, by show 0 < _; omega⟩
  · rcases G_only hg with rfl | rfl
    · refine ⟨show 1 < 5 by decide, _, _, _, h1, fun i a ha => ?_⟩
      have ha' : (G 1)[i]? = some a := ha
      rw [G1_eq] at ha'
      simpa using tabB_rel (k := .u64) (ns := pow10Z.map Int.toNat) (zs := pow10Z) (by decide +kernel) i a ha'
    · refine ⟨show 4 < 5 by decide, _, _, _, h4, fun i a ha => ?_⟩
      have ha' : (G 4)[i]? = some a := ha
      rw [G4_eq] at ha'
      simpa using tabB_rel (k := .u8) (ns := brujnZ.map Int.toNat) (zs := brujnZ) (by decide +kernel) i a ha'
  · show StR 5 (S 0) _ W
    have hS : S 0 = [] := rfl
    rw [hS]
    exact ⟨(fun j o hj => nomatch hj), (fun j j' o o' l l' hj => nomatch hj), (fun j lc hj => by cases hj)⟩

theorem run3 (vs : Array Value) (W : World) : (callFunc 3 vs).run Tryz.prog W = .ok (.enter 3 vs) W := by
  obtain ⟨fn, hfn, ⟨code, hb, _⟩, _, _, _, hname⟩ := F_ok 3 L3 rfl
  simp [callFunc, hfn, hname, hb]
set_option maxRecDepth 100000 in
/-- THE CALL: it returns true; what was there before, and the world outside, are as they were. -/
theorem law_calls {W : World} (h1 : ∃ e fr, W.heap[1]? = some (.cells (pow10Z.map fun z => Value.int .u64 z).toArray e fr)) (h4 : ∃ e fr, W.heap[4]? = some (.cells (brujnZ.map fun z => Value.int .u8 z).toArray e fr)) {n m : Int} (hn : (Lit.int .i64 n).wf = true) (hm : (Lit.int .i64 m).wf = true) :
    Calls Tryz.prog 3 #[.int .i64 n, .int .i64 m] W fun e W' => e = .returned (.bool true) ∧ W'.os = W.os ∧ W'.output = W.output ∧ ∀ b, b < W.heap.size → W'.heap[b]? = W.heap[b]? := by
  have hr := hr_start h1 h4 n m
  have hrl : natOf n % 4 < 4 := Nat.mod_lt _ (by decide)
  have ht := topAll (natOf n % 4) (natOf m % (15 + natOf n % 4 + 1)) hrl (by have := Nat.mod_lt (natOf m) (show 0 < 15 + natOf n % 4 + 1 by omega); omega)
  unfold topOk at ht
  obtain ⟨v, A', he, hv⟩ := okC_get ht
  have := eqAV_sound hv; subst this
  have hsub : Nat.sub (15 + natOf n % 4) 15 = natOf n % 4 := Nat.add_sub_cancel_left 15 _
  rw [hsub] at he
  have hhk : CEok (XS 5 (lc0 n m)) (hkT (15 + natOf n % 4) (natOf n % 4) (natOf m % (15 + natOf n % 4 + 1))) := hkT_ok rfl rfl (natOf_lt n) (natOf_lt m) (by omega)
  have hCE : CEok (XS 5 (lc0 n m)) (evalF (XS 5 (lc0 n m)).G F (hkT (15 + natOf n % 4) (natOf n % 4) (natOf m % (15 + natOf n % 4 + 1))) 100000 400) := evalF_sound (X := XS 5 (lc0 n m)) mixed_ok F_ok hhk 100000 400
  have hargs : VRs (sg0 n m) [.any 1, .any 2] (#[.int .i64 n, .int .i64 m] : Array Value).toList := by
    have a1 := VR.num (σ := sg0 n m) 0 (lc0 n m) rfl
    have a2 := VR.num (σ := sg0 n m) 1 (lc0 n m) rfl
    have b1 : IntKind.wrap .i64 (if 0 = 0 then (lc0 n m).shift else (lc0 n m).size) = n := by rw [if_pos rfl]; exact wrap_natOf hn
    have b2 : IntKind.wrap .i64 (if 1 = 0 then (lc0 n m).shift else (lc0 n m).size) = m := by rw [if_neg (by decide)]; exact wrap_natOf hm
    rw [b1] at a1
    rw [b2] at a2
    exact .cons _ _ _ _ a1 (.cons _ _ _ _ a2 .nil)
  have hl := hCE 3 _ _ _ _ he _ W #[.int .i64 n, .int .i64 m] hr hargs
  have hl' : Lands (XS 5 (lc0 n m)) (sg0 n m) ⟨h5, 1, fr0⟩ W ((callFunc 3 #[.int .i64 n, .int .i64 m]).run Tryz.prog W) (.b true, A') := hl
  rw [run3] at hl'
  refine Calls.mono (show Calls Tryz.prog 3 _ W _ from hl') fun e W' ⟨v', σ', he, k1, k2, k3⟩ => ?_
  subst he
  cases k1
  refine ⟨rfl, k3.so.1, k3.so.2, fun b hb => k3.keep b hb (fun id o l hlv => ?_) (.inr fun i l hl => nomatch hl)⟩
  have := hlv.2; rw [show getH id h5 = none from getH_h5 id] at this; cases this
end
end AM
end
end Go.Proofs.YtejhenloolgmkaaGreatDoor
