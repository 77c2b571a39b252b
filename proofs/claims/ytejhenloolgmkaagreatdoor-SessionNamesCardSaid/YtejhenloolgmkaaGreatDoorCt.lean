/- Which functions the call comes to, told from a table. Condition: none. -/
import Derived.Test.YtejhenloolgmkaaGreatDoorLt
import Derived.JoinedOf
import Derived.KernelRfl
namespace Go.Proofs.YtejhenloolgmkaaGreatDoor
open Go
set_option linter.all false
noncomputable section
namespace AM
section
/-! ## Whom a function comes to: told from a table -/
/-- What is known of one function's text. -/
structure CD where
  l : List Nat
  ip : Option String
  u : Bool
  gn : List Nat
  er : Option String
def cdOf (P : Program) (fn : Func) : CD :=
  ⟨P.leadsTo fn, if fn.ours || fn.body.isNone || fn.name == "runtime.NumGoroutine" then some fn.name else none, match fn.body with | some c => c.unfollowed | none => entryCalls fn, fn.body.elim [] Code.globalsNamed, if fn.body.isNone then entryReads.lookup fn.name else none⟩
def cdP (P : Program) (g : Nat) (d : CD) : Prop := ∃ fn, P.funcs[g]? = some fn ∧ cdOf P fn = d
theorem cdP.of {P : Program} {g : Nat} {fn : Func} {d : CD} (h : P.funcs[g]? = some fn) (he : cdOf P fn = d) : cdP P g d := ⟨fn, h, he⟩

def bitK (g m : Nat) : Bool := Nat.beq (Nat.land 1 (Nat.shiftRight m g)) 1
theorem bitK_eq (g m : Nat) : bitK g m = m.testBit g := by
  have h1 : Nat.land 1 (Nat.shiftRight m g) = 1 &&& (m >>> g) := rfl
  unfold bitK Nat.testBit
  rw [h1, Nat.one_and_eq_mod_two]
  rcases Nat.mod_two_eq_zero_or_one (m >>> g) with h | h <;> rw [h] <;> rfl
theorem bitK_set (g f m : Nat) : bitK g (Nat.lor m (Nat.shiftLeft 1 f)) = true ↔ g = f ∨ bitK g m = true := by
  have h1 : Nat.lor m (Nat.shiftLeft 1 f) = m ||| (1 <<< f) := rfl
  rw [bitK_eq, bitK_eq, h1, Nat.testBit_or, Nat.shiftLeft_eq, Nat.one_mul, Nat.testBit_two_pow]
  simp only [Bool.or_eq_true, decide_eq_true_eq]
  constructor
  · rintro (h | h)
    · exact .inr h
    · exact .inl h.symm
  · rintro (h | h)
    · exact .inr h.symm
    · exact .inl h

def revK (l acc : List Nat) : List Nat := List.rec (motive := fun _ => List Nat → List Nat) (fun acc => acc) (fun x _ ih acc => ih (x :: acc)) l acc
theorem revK_eq : ∀ (l acc : List Nat), revK l acc = l.reverse ++ acc
  | [], _ => rfl
  | x :: l, acc => by
    show revK l (x :: acc) = _
    rw [revK_eq l, List.reverse_cons, List.append_assoc]; rfl
theorem appK_eq {α : Type} : ∀ (a b : List α), appK a b = a ++ b
  | [], _ => rfl
  | x :: a, b => by show x :: appK a b = _; rw [appK_eq a b]; rfl

/-- The walk over the table: what is met, in its order. -/
def cvK (tab : Nat → Option CD) (n : Nat) : List Nat → List Nat → Nat → Option (List Nat) := Nat.rec (motive := fun _ => List Nat → List Nat → Nat → Option (List Nat))
  (fun todo seen _ => List.rec (motive := fun _ => Option (List Nat)) (some (revK seen [])) (fun _ _ _ => none) todo)
  (fun _ ih todo seen mask => List.rec (motive := fun _ => Option (List Nat)) (some (revK seen []))
    (fun f todo _ => Bool.rec (motive := fun _ => Option (List Nat))
      (Option.rec (motive := fun _ => Option (List Nat)) none (fun d => force (Nat.lor mask (Nat.shiftLeft 1 f)) fun m => ih (appK d.l todo) (f :: seen) m) (tab f))
      (ih todo seen mask) (bitK f mask)) todo) n

section
variable {P : Program} {tab : Nat → Option CD}
theorem lead_of (hT : ∀ g d, tab g = some d → cdP P g d) {g : Nat} {d : CD} (h : tab g = some d) : (P.funcs[g]?).elim [] P.leadsTo = d.l := by
  obtain ⟨fn, h1, h2⟩ := hT g d h
  rw [h1, ← h2]; rfl
theorem cv_sound (hT : ∀ g d, tab g = some d → cdP P g d) : ∀ (n : Nat) (todo seen : List Nat) (mask : Nat) (r : List Nat), (∀ g, bitK g mask = true ↔ g ∈ seen) → (∀ g, g ∈ seen → ∃ d, tab g = some d) → cvK tab n todo seen mask = some r →
    ∀ m, n ≤ m → P.closureVia m todo seen = r ∧ ∀ g, g ∈ r → ∃ d, tab g = some d := by
  intro n
  induction n with
  | zero =>
    intro todo seen mask r hm hs h m _
    cases todo with
    | nil =>
      have hr : some (revK seen []) = some r := h
      cases hr
      rw [revK_eq, List.append_nil]
      refine ⟨by cases m <;> rfl, fun g hg => hs g (List.mem_reverse.1 hg)⟩
    | cons f todo => cases h
  | succ n ih =>
    intro todo seen mask r hm hs h m hnm
    obtain ⟨m, rfl⟩ : ∃ k, m = k + 1 := ⟨m - 1, by omega⟩
    cases todo with
    | nil =>
      have hr : some (revK seen []) = some r := h
      cases hr
      rw [revK_eq, List.append_nil]
      exact ⟨rfl, fun g hg => hs g (List.mem_reverse.1 hg)⟩
    | cons f todo =>
      have hu : Bool.rec (motive := fun _ => Option (List Nat))
        (Option.rec (motive := fun _ => Option (List Nat)) none (fun d => force (Nat.lor mask (Nat.shiftLeft 1 f)) fun m => cvK tab n (appK d.l todo) (f :: seen) m) (tab f)) (cvK tab n todo seen mask) (bitK f mask) = some r := h
      rw [Program.closureVia]
      cases hb : bitK f mask with
      | true =>
        rw [hb] at hu
        have hc : seen.contains f = true := List.contains_iff_mem.2 ((hm f).1 hb)
        rw [if_pos hc]
        exact ih todo seen mask r hm hs hu m (by omega)
      | false =>
        rw [hb] at hu
        have hc : ¬ seen.contains f = true := fun hc => by
          have := (hm f).2 (List.contains_iff_mem.1 hc)
          rw [hb] at this; cases this
        rw [if_neg hc]
        cases ht : tab f with
        | none => rw [ht] at hu; cases hu
        | some d =>
          rw [ht] at hu
          have hu' : force (Nat.lor mask (Nat.shiftLeft 1 f)) (fun m => cvK tab n (appK d.l todo) (f :: seen) m) = some r := hu
          rw [force_eq, appK_eq] at hu'
          rw [lead_of hT ht]
          refine ih (d.l ++ todo) (f :: seen) _ r (fun g => ?_) (fun g hg => ?_) hu' m (by omega)
          · rw [bitK_set, hm g, List.mem_cons]
          · rcases List.mem_cons.1 hg with rfl | hg
            · exact ⟨d, ht⟩
            · exact hs g hg

end
def lenC (l : List Nat) : Nat := List.rec (motive := fun _ => Nat) 0 (fun _ _ ih => Nat.succ ih) l
theorem lenC_eq : ∀ l : List Nat, lenC l = l.length
  | [] => rfl
  | x :: l => by show Nat.succ (lenC l) = _; rw [lenC_eq l]; rfl
theorem filterMap_cong {α β : Type} {p q : α → Option β} : ∀ {l : List α}, (∀ a, a ∈ l → p a = q a) → l.filterMap p = l.filterMap q
  | [], _ => rfl
  | x :: l, h => by rw [List.filterMap_cons, List.filterMap_cons, h x (by simp), filterMap_cong (l := l) fun a ha => h a (by simp [ha])]
section
variable {P : Program} {tab : Nat → Option CD}
def sumK (tab : Nat → Option CD) (n : Nat) : Nat → Nat := Nat.rec (motive := fun _ => Nat → Nat) (fun _ => 0) (fun _ ih k => Nat.add (Option.rec (motive := fun _ => Nat) 0 (fun d => Nat.succ (lenC d.l)) (tab k)) (force (Nat.succ k) fun k' => ih k')) n
theorem sum_le : ∀ (n : Nat) (L : List Func) (k : Nat), (∀ i d, tab (k + i) = some d → ∃ fn, L[i]? = some fn ∧ P.leadsTo fn = d.l) → sumK tab n k ≤ (L.map fun g => (P.leadsTo g).length + 1).sum
  | 0, L, k, _ => Nat.zero_le _
  | n + 1, L, k, h => by
    have hu : sumK tab (n + 1) k = Nat.add (Option.rec (motive := fun _ => Nat) 0 (fun d => Nat.succ (lenC d.l)) (tab k)) (force (Nat.succ k) fun k' => sumK tab n k') := rfl
    rw [hu, force_eq]
    cases L with
    | nil =>
      have h0 : tab k = none := by
        cases ht : tab k with
        | none => rfl
        | some d => obtain ⟨fn, h1, _⟩ := h 0 d ht; simp at h1
      have hr := sum_le n [] (Nat.succ k) fun i d hd => by
        obtain ⟨fn, h1, _⟩ := h (i + 1) d (by rw [show k + (i + 1) = Nat.succ k + i by omega]; exact hd)
        simp at h1
      rw [h0]
      show 0 + _ ≤ _
      omega
    | cons fn L =>
      have hr := sum_le n L (Nat.succ k) fun i d hd => by
        obtain ⟨fn', h1, h2⟩ := h (i + 1) d (by rw [show k + (i + 1) = Nat.succ k + i by omega]; exact hd)
        exact ⟨fn', by simpa using h1, h2⟩
      have h0 : Option.rec (motive := fun _ => Nat) 0 (fun d => Nat.succ (lenC d.l)) (tab k) ≤ (P.leadsTo fn).length + 1 := by
        cases ht : tab k with
        | none => exact Nat.zero_le _
        | some d =>
          obtain ⟨fn', h1, h2⟩ := h 0 d ht
          simp at h1; subst h1
          show Nat.succ (lenC d.l) ≤ _
          rw [lenC_eq, h2]; exact Nat.le_refl _
      rw [List.map_cons, List.sum_cons]
      exact Nat.add_le_add h0 hr

variable {f : Nat} {r : List Nat}
theorem closure_told (hT : ∀ g d, tab g = some d → cdP P g d) {n k : Nat} (h : cvK tab n [f] [] 0 = some r) (hn : Nat.ble n (Nat.succ (sumK tab k 0)) = true) : P.closure f = r ∧ ∀ g, g ∈ r → ∃ d, tab g = some d := by
  have hs : sumK tab k 0 ≤ (P.funcs.toList.map fun g => (P.leadsTo g).length + 1).sum := sum_le k _ 0 fun i d hd => by
    rw [Nat.zero_add] at hd
    obtain ⟨fn, h1, h2⟩ := hT i d hd
    exact ⟨fn, by simpa using h1, by rw [← h2]; rfl⟩
  have hle := Nat.le_of_ble_eq_true hn
  unfold Program.closure
  refine cv_sound hT n [f] [] 0 r (fun g => ?_) (fun g hg => nomatch hg) h _ (by omega)
  rw [bitK_eq]; simp

theorem inPlace_told (hT : ∀ g d, tab g = some d → cdP P g d) (hc : P.closure f = r) (ht : ∀ g, g ∈ r → ∃ d, tab g = some d) : P.inPlace f = r.filterMap fun g => (tab g).bind fun d => d.ip := by
  unfold Program.inPlace
  rw [hc]
  refine filterMap_cong fun g hg => ?_
  obtain ⟨d, hd⟩ := ht g hg
  obtain ⟨fn, h1, h2⟩ := hT g d hd
  rw [h1, hd, ← h2]; rfl
theorem unfollowed_told (hT : ∀ g d, tab g = some d → cdP P g d) (hc : P.closure f = r) {g : Nat} (hg : g ∈ r) {d : CD} (hd : tab g = some d) (hu : d.u = true) : P.unfollowed f = true := by
  unfold Program.unfollowed
  rw [hc, List.any_eq_true]
  obtain ⟨fn, h1, h2⟩ := hT g d hd
  refine ⟨g, hg, ?_⟩
  rw [h1, Option.any_some]
  rw [← h2] at hu; exact hu
theorem recurses_told (h : P.unfollowed f = true) : P.recurses f = true := by
  unfold Program.recurses
  rw [h]; rfl
theorem named_told (hT : ∀ g d, tab g = some d → cdP P g d) (hc : P.closure f = r) (ht : ∀ g, g ∈ r → ∃ d, tab g = some d) :
    P.varsNamed f = (((r.flatMap fun g => (tab g).elim [] fun d => d.gn).eraseDups).filterMap (fun g => (P.globals[g]?).map (·.name)) ++ r.filterMap fun g => (tab g).bind fun d => d.er).eraseDups := by
  unfold Program.varsNamed
  rw [hc]
  have e1 : (r.flatMap fun g => ((P.funcs[g]?).bind (·.body)).elim [] Code.globalsNamed) = r.flatMap fun g => (tab g).elim [] fun d => d.gn := by
    rw [List.flatMap_def, List.flatMap_def]
    congr 1
    refine List.map_congr_left fun g hg => ?_
    obtain ⟨d, hd⟩ := ht g hg
    obtain ⟨fn, h1, h2⟩ := hT g d hd
    rw [h1, hd, ← h2]; rfl
  have e2 : (r.filterMap fun g => (P.funcs[g]?).bind fun fn => if fn.body.isNone then entryReads.lookup fn.name else none) = r.filterMap fun g => (tab g).bind fun d => d.er := by
    refine filterMap_cong fun g hg => ?_
    obtain ⟨d, hd⟩ := ht g hg
    obtain ⟨fn, h1, h2⟩ := hT g d hd
    rw [h1, hd, ← h2]; rfl
  rw [e1, e2]
end
end
section
/-! ## The table of whom each function comes to -/
def cO (g : Nat) (l : List Nat) : Option (Nat × CD) := some (g, ⟨l, none, false, [], none⟩)
def cU (g : Nat) (l : List Nat) : Option (Nat × CD) := some (g, ⟨l, none, true, [], none⟩)
def C3 := cO 3 [4,5,5,5,5,5,4,5,4,5,4,5,6,7,8]
def C4 := cO 4 []
def C5 := cO 5 [5,5]
def C6 := cO 6 [9]
def C7 := cO 7 [10]
def C8 := cO 8 [6,11]
def C9 := cO 9 [12,14,13,15]
def C10 := cO 10 [16,17,5]
def C11 := cO 11 [9]
def C12 := cO 12 [18]
def C13 := cO 13 [19]
def C14 := cU 14 [20,21,22,23]
def C15 := cO 15 []
def C16 := cO 16 [24]
def C17 := cO 17 [24,25,26,27,26,28,26,29,26,30,31,32,31,33]
def C18 := cO 18 [34]
def C19 := cO 19 [35]
def C20 := cO 20 [36]
def C21 := cU 21 [37]
def C22 := cO 22 [38]
def C23 := cO 23 [39,13,13,13,15]
def C24 := cO 24 []
def C25 := cO 25 [31,40,41,42,5,43,43,43,43,44,45,41,46,5]
def C26 := cO 26 [31]
def C27 := cO 27 [47,48,49,50,51,41,52,5]
def C28 := cO 28 [47,47,53,41,52,5,54,41,42,55]
def C29 := cO 29 [47,56,5,57,58,55,55]
def C30 := cO 30 [47,47,57,55,55]
def C31 := cO 31 []
def C32 := cO 32 [44,47,59,60,5]
def C33 := cO 33 [44,44,47,61,55,55,5]
def C34 : Option (Nat × CD) := some (34, ⟨[62,63,62,64,63,65], none, false, [0, 0, 0], none⟩)
def C35 : Option (Nat × CD) := some (35, ⟨[], (some "internal/abi.NoEscape"), false, [], none⟩)
def C36 := cO 36 [66,67,68]
def C37 := cO 37 [69,70,71,72,73,74,75,76,77,78]
def C38 := cO 38 [79]
def C39 := cO 39 [19,80]
def C40 := cO 40 [44]
def C41 := cO 41 [47]
def C42 := cO 42 [47]
def C43 := cO 43 []
def C44 := cO 44 [81,82]
def C45 := cO 45 [82,84,83,82]
def C46 := cO 46 [47]
def C47 := cO 47 []
def C48 := cO 48 [85,86,87]
def C49 := cO 49 [85,88,86,89]
def C50 := cO 50 [90,91]
def C51 := cO 51 [92,94,93,95,97,96,98,99,100,101,103,102,82]
def C52 := cO 52 [47]
def C53 := cO 53 [104]
def C54 := cO 54 [106,105,108,107,109,110]
def C55 := cO 55 [111,112,113,114,115,22]
def C56 := cO 56 [116,117,118,119,120,121,120]
def C57 := cO 57 [85,122,123,124,125,126]
def C58 := cO 58 [127]
def C59 := cO 59 [128,130,129]
def C60 := cO 60 [128,130,132,131]
def C61 := cO 61 [133,134,135]
def C62 := cO 62 [136]
def C63 : Option (Nat × CD) := some (63, ⟨[], (some "internal/bytealg.IndexString"), false, [], (some "internal/bytealg.MaxLen")⟩)
def C64 := cO 64 []
def C65 := cO 65 [137]
def C66 := cO 66 [138,139]
def C67 := cO 67 [138,140,68]
def C68 := cO 68 [34]
def C69 := cO 69 [141,142,142,143,144,145,22,146]
def C70 := cO 70 [141,143,22,147]
def C71 := cO 71 [148,149,151,150,152,153,154]
def C72 := cO 72 [155,156,157,147]
def C73 := cO 73 [155,158,152]
def C74 := cO 74 [148,149,159,160,153,157]
def C75 := cO 75 [161,162,163,153,22]
def C76 := cO 76 [161,164,157,22,153]
def C77 := cO 77 [165,166,22,153]
def C78 := cO 78 [165,160,167,157]
def C79 := cO 79 [168,169,170,171]
def C80 := cO 80 [172]
def C81 := cO 81 [173,114]
def C82 := cO 82 []
def C83 := cO 83 [174,175,177,176]
def C84 := cO 84 [103,178]
def C85 := cO 85 [179]
def C86 := cO 86 [85]
def C87 := cO 87 []
def C88 := cO 88 []
def C89 := cO 89 []
def C90 := cO 90 [180,181]
def C91 := cO 91 [182,183]
def C92 := cO 92 [85,184]
def C93 := cO 93 [90,185,186,187]
def C94 := cO 94 [48,49,188]
def C95 := cO 95 [189,103]
def C96 := cO 96 [174,191,190]
def C97 := cO 97 [103,103,192]
def C98 := cO 98 [174,193,175,175,195,194,195,194,190]
def C99 := cO 99 [196]
def C100 := cO 100 [174,175]
def C101 := cO 101 []
def C102 := cO 102 [197]
def C103 := cO 103 [82,193,111,190]
def C104 := cO 104 [198,199,200,201,97,192,97,178,99,100,101,82,200,97,201,97,192,178,97,97,202,103,102,103,102,82,82]
def C105 := cO 105 [122]
def C106 := cO 106 [184,203,82,103,100]
def C107 := cO 107 [106,105,204,103,205,103,102,82]
def C108 := cO 108 []
def C109 := cO 109 [106,105,204,206,103,205,103,102,82]
def C110 := cO 110 []
def C111 := cO 111 []
def C112 := cO 112 []
def C113 := cO 113 [112,207,208,209,210,209,211,195,210,212,213,194,214]
def C114 := cO 114 [215,175,214,213,213,190,213,190,218,217,216,216,218,216,197,96,83]
def C115 := cO 115 [219]
def C116 := cO 116 [85,103,100,220,103,100,195]
def C117 := cO 117 [222,221,213,222,223]
def C118 := cO 118 [224]
def C119 := cO 119 [225]
def C120 := cO 120 [228,227,226]
def C121 := cO 121 []
def C122 := cO 122 [82]
def C123 := cO 123 [92,229,230]
def C124 := cO 124 [231,232]
def C125 := cO 125 [233]
def C126 := cO 126 [234,122,122,235,236,202,100,103,189,97,96,98,237,192,98,238,192,236,192,178,197,239,240]
def C127 := cO 127 [234,241,242,192,201,236,202,236,178,100,197,197]
def C128 := cO 128 [85,82,112]
def C129 := cO 129 [132,131]
def C130 := cO 130 [189,103,103,202]
def C131 := cO 131 [243,244,175,245,245]
def C132 := cO 132 [100,174,174,100,195]
def C133 := cO 133 [59]
def C134 := cO 134 [246,246]
def C135 := cO 135 [247,248,249,135,135]
def C136 : Option (Nat × CD) := some (136, ⟨[], (some "internal/bytealg.IndexByteString"), false, [], none⟩)
def C137 := cO 137 []
def C138 := cO 138 []
def C139 := cO 139 [250]
def C140 : Option (Nat × CD) := some (140, ⟨[], (some "internal/bytealg.CountString"), false, [], none⟩)
def C141 := cO 141 []
def C142 := cO 142 [251]
def C143 := cO 143 [252,253]
def C144 := cO 144 [254,254,254,254,253,255,256,258,257,253,259]
def C145 := cO 145 []
def C146 := cO 146 []
def C147 := cO 147 [260,261]
def C148 := cO 148 [262,263]
def C149 := cO 149 []
def C150 := cO 150 [264,265,266,267]
def C151 := cO 151 [268,269,270]
def C152 := cO 152 [271,22,272]
def C153 := cO 153 [273,273,274]
def C154 := cO 154 [273,273,273,274]
def C155 := cO 155 [148,275,159]
def C156 := cO 156 [276,278,279,277,280,281]
def C157 := cO 157 [282]
def C158 := cO 158 [283]
def C159 := cO 159 []
def C160 := cO 160 [284,285,286,287,288,289]
def C161 := cO 161 [141,143,149]
def C162 := cO 162 [290,163]
def C163 := cO 163 [290,293,292,291]
def C164 := cO 164 [294,295,297,296]
def C165 := cO 165 [148,149]
def C166 := cO 166 [298,299,300,301,302,303,302]
def C167 := cO 167 [304,305,306]
def C168 := cO 168 []
def C169 : Option (Nat × CD) := some (169, ⟨[308,307,309], none, false, [1], none⟩)
def C170 := cO 170 []
def C171 := cO 171 [310,311]
def C172 : Option (Nat × CD) := some (172, ⟨[], (some "internal/bytealg.MakeNoZero"), false, [], none⟩)
def C173 := cO 173 [312,312]
def C174 := cO 174 [193,190]
def C175 := cO 175 [313]
def C176 := cO 176 [314,315,316,195,317,315,318,318]
def C177 := cO 177 [319]
def C178 := cO 178 [174,174,193,320,194,190]
def C179 := cO 179 [82]
def C180 := cO 180 []
def C181 := cO 181 []
def C182 := cO 182 []
def C183 := cO 183 [321,321,321]
def C184 := cO 184 []
def C185 := cO 185 [182]
def C186 := cO 186 []
def C187 := cO 187 [186]
def C188 := cO 188 [90,322,323]
def C189 := cO 189 [85]
def C190 := cO 190 [313,193,212,177,324,314,193]
def C191 := cO 191 [319]
def C192 := cO 192 [174,174,193,217,190]
def C193 := cO 193 []
def C194 := cO 194 [325,325,326,319,327,328,319,328,319]
def C195 := cO 195 [313,329,319,330,319,213,331]
def C196 := cO 196 [174,175,175,332,176]
def C197 := cO 197 [174,174,175,175,177,177,333,176]
def C198 := cO 198 [106,122]
def C199 := cO 199 [101]
def C200 := cO 200 []
def C201 := cO 201 [213,190]
def C202 := cO 202 [96,178]
def C203 := cO 203 []
def C204 := cO 204 [200]
def C205 := cO 205 [97,96,98]
def C206 := cO 206 []
def C207 := cO 207 [103,238,213,195,195]
def C208 := cO 208 [112,103,334]
def C209 := cO 209 [213,218,217,218,217]
def C210 := cO 210 [331,175]
def C211 := cO 211 [313,313,335,319,319,175,177,194,213,194,213,331]
def C212 := cO 212 [325,336]
def C213 := cO 213 [319]
def C214 := cO 214 [313,325]
def C215 := cO 215 [319]
def C216 := cO 216 [190]
def C217 := cO 217 [325,325,337,319]
def C218 := cO 218 [213,217]
def C219 := cO 219 [112]
def C220 := cO 220 [85,86]
def C221 := cO 221 [338]
def C222 := cO 222 []
def C223 := cO 223 [339,243,340,213,213,213,245,217,217,341,213,343,342,217,217,342]
def C224 := cO 224 []
def C225 := cO 225 [213,211,317]
def C226 := cO 226 [344]
def C227 := cO 227 []
def C228 := cO 228 []
def C229 := cO 229 [345,346,100,82,347,345,346,82,103,238,348,103,238,201,192,347,101,201,103,238,192,348,349,349,347,103,102,100,82]
def C230 := cO 230 []
def C231 := cO 231 [184,184,350,82,82,101]
def C232 := cO 232 [231,105,351,108,103,205,346,82,103,205,103,102,82,110]
def C233 := cO 233 [85,231,232,352,353,354,354,101,232,103,103,178,103,178,346,82,103,202,346,353,354,103,354,103,355,348,354]
def C234 := cO 234 [85,356,235,237,189,103,192,96,98,238,178]
def C235 := cO 235 [201]
def C236 := cO 236 [348]
def C237 := cO 237 [103]
def C238 := cO 238 [174,177,190]
def C239 := cO 239 [357,240]
def C240 := cO 240 [219,219,358,358,358,358,359,103,103,178,100,360,83]
def C241 := cO 241 [356,103,238,178,348]
def C242 := cO 242 [85,189,103,238,178,236]
def C243 := cO 243 [313,213]
def C244 := cO 244 [361,361]
def C245 := cO 245 [217,217,217,217,341,217,217,331,217,341]
def C246 := cO 246 [112]
def C247 := cO 247 [59,59]
def C248 := cO 248 [246,246]
def C249 := cO 249 [246,246,363,362]
def C250 : Option (Nat × CD) := some (250, ⟨[], none, false, [2, 3], none⟩)
def C251 := cO 251 [364,365]
def C252 := cO 252 [366,367,368,369,370,374,373,372,371,372,374,372,371]
def C253 := cO 253 [375]
def C254 := cO 254 []
def C255 := cO 255 [376,377,378]
def C256 := cO 256 [375,381,382,369,383]
def C257 := cO 257 [384,385,387,386]
def C258 := cO 258 [388,389,391,390,383]
def C259 := cO 259 [255]
def C260 := cO 260 []
def C261 := cO 261 []
def C262 := cO 262 [392]
def C263 := cO 263 [141]
def C264 := cO 264 [284,393,268,269,394,256]
def C265 := cO 265 [395]
def C266 := cO 266 [396,385,397,398,256,253,396,256,371,253,256]
def C267 := cO 267 [273]
def C268 := cO 268 [284,399,259]
def C269 := cO 269 [284,400,401,402,403]
def C270 := cO 270 [404]
def C271 := cO 271 []
def C272 := cO 272 []
def C273 := cO 273 []
def C274 := cO 274 []
def C275 := cO 275 []
def C276 := cO 276 [405,406]
def C277 := cO 277 [407,408,256,371,253,409]
def C278 := cO 278 []
def C279 := cO 279 []
def C280 := cO 280 [407,409,408,256,371,253]
def C281 := cO 281 []
def C282 := cO 282 [398,410,22,252,411]
def C283 := cO 283 [412,273,274,274,414,413,273]
def C284 := cO 284 [254,254,416,417,418]
def C285 := cO 285 [417,419]
def C286 := cO 286 [284,420,421,273,422,422]
def C287 := cO 287 [423,424]
def C288 := cO 288 [425]
def C289 := cO 289 [426,370,428,427,385,429,431,430,428,433,433,432,371,434,435]
def C290 := cO 290 [284,398,253]
def C291 := cO 291 [436,437,439,438,440,440]
def C292 := cO 292 [384,385,442,441,443]
def C293 := cO 293 [256,256,256,427]
def C294 := cO 294 [284]
def C295 := cO 295 [444,444]
def C296 := cO 296 [445,446,297,296,296]
def C297 := cO 297 [162,162]
def C298 := cO 298 [284,256,385,399,256,385,447]
def C299 := cO 299 [448,273,381,449]
def C300 := cO 300 [450]
def C301 := cO 301 [451]
def C302 := cO 302 [452,453]
def C303 := cO 303 []
def C304 := cO 304 [454,426]
def C305 := cO 305 [284,411,256,258,455]
def C306 := cO 306 [304,455,370,456,457,433,432,371,427,371]
def C307 := cO 307 []
def C308 := cO 308 []
def C309 := cO 309 []
def C310 := cO 310 []
def C311 := cO 311 [336,458]
def C312 := cO 312 []
def C313 := cO 313 [319]
def C314 := cO 314 [325,459]
def C315 := cO 315 [318,318]
def C316 := cO 316 [324,460,324,212,175,460,175,212,461,213,194]
def C317 := cO 317 [313]
def C318 := cO 318 []
def C319 := cO 319 [325]
def C320 := cO 320 [175,175,195,195]
def C321 := cO 321 []
def C322 := cO 322 []
def C323 := cO 323 [90,462,463,182,88,89]
def C324 := cO 324 [195,195]
def C325 := cO 325 []
def C326 := cO 326 []
def C327 := cO 327 []
def C328 := cO 328 []
def C329 := cO 329 []
def C330 := cO 330 []
def C331 := cO 331 [191,194]
def C332 := cO 332 [314,195,464,217,210]
def C333 := cO 333 [314,314,195,211,175]
def C334 := cO 334 [174,175,314]
def C335 := cO 335 [327,465,329,329,466,325,330,325,325]
def C336 : Option (Nat × CD) := some (336, ⟨[], none, false, [4], none⟩)
def C337 := cO 337 []
def C338 := cO 338 [243,339,340]
def C339 := cO 339 []
def C340 := cO 340 [213,213,361,191,217,217,341,245]
def C341 := cO 341 [343,175,191,342,342]
def C342 := cO 342 [211,175]
def C343 := cO 343 [177,177,175,211]
def C344 := cO 344 [467,468,467,469,467]
def C345 := cO 345 [189,103,97,96,98]
def C346 := cO 346 [83]
def C347 := cO 347 []
def C348 := cO 348 [470]
def C349 := cO 349 []
def C350 := cO 350 [203,203]
def C351 := cO 351 []
def C352 := cO 352 []
def C353 := cO 353 [103,189,97,96,97,96,98,346,82]
def C354 := cO 354 [112,115,471,115]
def C355 := cO 355 [174,175,193,190]
def C356 := cO 356 [472,82]
def C357 := cO 357 [219]
def C358 := cO 358 [112]
def C359 := cO 359 [112]
def C360 := cO 360 []
def C361 := cO 361 [175]
def C362 := cO 362 [246]
def C363 := cO 363 []
def C364 := cO 364 [473]
def C365 := cO 365 [474,475,476,477]
def C366 := cO 366 [478,479,480,479,481,478,479,482]
def C367 := cO 367 [483,484,485,486]
def C368 := cO 368 [480,480,487,488,251,490,491,489,492]
def C369 := cO 369 [493,492]
def C370 := cO 370 [381,383]
def C371 := cO 371 [384,384,385,385,494,386]
def C372 := cO 372 [383]
def C373 := cO 373 [491,491,490,492]
def C374 := cO 374 [381,381,373,373]
def C375 := cO 375 []
def C376 := cO 376 []
def C377 := cO 377 [495]
def C378 := cO 378 [380,380,379]
def C379 := cO 379 []
def C380 := cO 380 [496,496]
def C381 := cO 381 [492]
def C382 := cO 382 []
def C383 := cO 383 [388]
def C384 := cO 384 [388]
def C385 := cO 385 [388,440]
def C386 := cO 386 [497,500,499,498,501,502,501]
def C387 := cO 387 [499]
def C388 := cO 388 [389,443,440,503,504,389,505]
def C389 := cO 389 []
def C390 := cO 390 [491,491,489,492,506,507,492,507,492]
def C391 := cO 391 [447]
def C392 := cU 392 []
def C393 := cO 393 []
def C394 := cO 394 [508,509]
def C395 := cO 395 [510,511]
def C396 := cO 396 [512,433,513,258]
def C397 := cO 397 [384,385,385,514,386]
def C398 := cO 398 [375]
def C399 := cO 399 []
def C400 := cO 400 []
def C401 := cO 401 [284,399]
def C402 := cO 402 []
def C403 := cO 403 [515]
def C404 := cO 404 [516,517,518,519]
def C405 := cO 405 [520,521,253,256,385]
def C406 := cO 406 [522]
def C407 := cO 407 [256]
def C408 := cO 408 [258]
def C409 := cO 409 [256,256,433,513]
def C410 := cO 410 [398,523,524,527,526,525]
def C411 := cO 411 [528]
def C412 := cO 412 [405,253]
def C413 := cU 413 [398]
def C414 := cO 414 [415]
def C415 := cO 415 [256,256,433,433,529,432,385,397,398,253,256,256,433,433,529,432,256,371,433,433,427,256,371,253,253]
def C416 := cO 416 [530]
def C417 := cO 417 [531]
def C418 := cO 418 [253]
def C419 := cO 419 [253]
def C420 := cO 420 []
def C421 := cO 421 [532,533,534,535,536,256,371,253,536,256]
def C422 := cO 422 [538,537]
def C423 := cO 423 [420,420,539,253,398]
def C424 := cO 424 [423,406,278,540,407,408,256,371,253,409,281]
def C425 := cO 425 [541,424,543,542,544,398,424,545,543,542,544,546,544]
def C426 := cO 426 [370,256,256,433,513,258,430,258]
def C427 := cO 427 [513,432]
def C428 := cO 428 [370,456]
def C429 := cO 429 [256,256,256,433,513,258]
def C430 := cO 430 [388,499]
def C431 := cO 431 [256,433,258]
def C432 := cO 432 [547,389,548,390,383]
def C433 := cO 433 [547,389,373,383]
def C434 := cO 434 [549,435]
def C435 := cO 435 [528,550,550,550,550,551,256,256,432,385,552,257]
def C436 := cO 436 [553,554]
def C437 := cO 437 [440,440,491,491,506]
def C438 := cO 438 [381,390,555,390,381,556,369]
def C439 := cO 439 [443,443]
def C440 := cO 440 [491]
def C441 := cO 441 [388,447]
def C442 := cO 442 [388,389,383]
def C443 := cO 443 [493,492]
def C444 := cO 444 [398,411,411]
def C445 := cO 445 [444,444]
def C446 := cO 446 [444,444,558,557]
def C447 := cO 447 [491,559,492,560,489,492]
def C448 := cO 448 [562,561]
def C449 := cO 449 [553,554,439,563,499,564,369,565,556]
def C450 := cO 450 []
def C451 := cO 451 [450,566]
def C452 := cO 452 []
def C453 := cO 453 [567,569,568]
def C454 := cO 454 [284,570]
def C455 := cO 455 [370,456]
def C456 := cO 456 [547,548,437]
def C457 := cO 457 [570,370,411,256,258,456]
def C458 : Option (Nat × CD) := some (458, ⟨[], none, false, [5], none⟩)
def C459 := cO 459 []
def C460 := cO 460 [325,330]
def C461 := cO 461 []
def C462 := cO 462 []
def C463 := cO 463 [181]
def C464 := cO 464 [175,213,314,195,211,194,195,210]
def C465 := cO 465 [459]
def C466 := cO 466 []
def C467 := cO 467 []
def C468 := cO 468 []
def C469 := cO 469 [571]
def C470 := cO 470 [174,174,320,210]
def C471 := cO 471 [219,219,572,572,572,572]
def C472 := cO 472 []
def C473 := cO 473 [573]
def C474 : Option (Nat × CD) := some (474, ⟨[574], none, false, [6], none⟩)
def C475 : Option (Nat × CD) := some (475, ⟨[574], none, false, [7], none⟩)
def C476 := cO 476 [574,22,575]
def C477 := cO 477 [574,22,575]
def C478 := cO 478 [480,480]
def C479 := cO 479 [367]
def C480 := cO 480 [576]
def C481 := cO 481 [577]
def C482 := cO 482 [367,251]
def C483 := cO 483 []
def C484 := cO 484 []
def C485 := cO 485 [578]
def C486 := cO 486 [139,579]
def C487 := cO 487 [580]
def C488 := cO 488 []
def C489 := cO 489 [491]
def C490 := cO 490 [491]
def C491 := cO 491 []
def C492 := cO 492 [491]
def C493 := cO 493 []
def C494 := cO 494 [504,504,499,391,499,581,440]
def C495 := cO 495 [582,582,583,583]
def C496 := cO 496 []
def C497 := cO 497 [504]
def C498 := cO 498 [491]
def C499 := cO 499 [493,492]
def C500 := cO 500 [391,584,440,503,381,390,369]
def C501 := cO 501 []
def C502 := cO 502 [501,501]
def C503 := cO 503 [336]
def C504 := cO 504 [491,585]
def C505 := cO 505 [447,447]
def C506 := cO 506 [380,586]
def C507 := cO 507 [491]
def C508 := cO 508 [516,588,587,590]
def C509 := cO 509 [400,591,402,403]
def C510 := cO 510 [516,592,593]
def C511 := cO 511 []
def C512 := cO 512 []
def C513 := cO 513 [388,369]
def C514 := cO 514 [504,391,594,373,437]
def C515 := cO 515 []
def C516 := cO 516 [595,591,591]
def C517 := cO 517 []
def C518 := cO 518 []
def C519 := cO 519 [596]
def C520 := cO 520 []
def C521 := cO 521 []
def C522 := cO 522 [253]
def C523 := cO 523 [411,256,381,447,447]
def C524 := cO 524 [504,504,527,437]
def C525 := cO 525 [491,493,597,22,598,599,23]
def C526 := cO 526 [581,390,437,440,503,381,390]
def C527 := cO 527 [374,373,374,373]
def C528 := cO 528 [398]
def C529 := cO 529 [513]
def C530 := cO 530 [600]
def C531 := cU 531 []
def C532 := cO 532 [256]
def C533 := cO 533 [258,385,257,253,536,256,601]
def C534 := cO 534 [258,385,257,253]
def C535 := cO 535 [370,411,256,456,411,256,370,433,398,370,411,256,433,456]
def C536 := cO 536 []
def C537 := cO 537 [603,602]
def C538 := cO 538 [380]
def C539 := cO 539 [604,605,606,606]
def C540 := cO 540 [407,408,257,253,409]
def C541 := cO 541 [284,423]
def C542 := cO 542 [256,256,433,513,258,257,607]
def C543 := cO 543 [256,256,432]
def C544 := cO 544 [398,411,608,411]
def C545 := cO 545 [256,256,256,258,257,253,256,427,257]
def C546 := cO 546 [256,442,256,456]
def C547 := cO 547 [388,388]
def C548 := cO 548 [391,391]
def C549 := cO 549 [528]
def C550 := cO 550 [398]
def C551 := cO 551 [398]
def C552 := cO 552 [501]
def C553 := cO 553 [554,610,609]
def C554 := cO 554 []
def C555 := cO 555 [373,390]
def C556 := cO 556 [581]
def C557 := cO 557 [549]
def C558 := cO 558 []
def C559 := cO 559 [491]
def C560 := cO 560 [611,612,491]
def C561 := cO 561 [553,439,554,563]
def C562 := cO 562 []
def C563 := cO 563 [381,440,613]
def C564 := cO 564 [440,369,443]
def C565 := cO 565 [491,493,491,493,614,492]
def C566 := cO 566 [381,581,498]
def C567 := cO 567 [615,450,617,616]
def C568 := cO 568 [615,619,618,620,621,622]
def C569 := cO 569 [620]
def C570 := cO 570 [623,253]
def C571 := cO 571 [467]
def C572 := cO 572 [111]
def C573 := cO 573 [624,624,624,624,624,624,625]
def C574 := cO 574 []
def C575 := cO 575 []
def C576 := cO 576 []
def C577 := cO 577 [626,627,484,578,626]
def C578 := cO 578 []
def C579 := cO 579 [626]
def C580 := cO 580 [628]
def C581 := cO 581 [491,491,614,489,507,492,492]
def C582 := cU 582 []
def C583 := cU 583 [629,583,583]
def C584 := cO 584 [504,505,391,630,381,391,437,440]
def C585 := cO 585 [459]
def C586 := cO 586 [631,631]
def C587 := cO 587 [632]
def C588 := cO 588 [589]
def C589 := cO 589 []
def C590 := cO 590 [635,634,633]
def C591 := cO 591 [636]
def C592 := cO 592 []
def C593 := cO 593 []
def C594 := cO 594 [440,491,637,492]
def C595 := cO 595 []
def C596 := cO 596 [638]
def C597 := cO 597 [491]
def C598 := cO 598 [639,480,480,480,480,480,39,13,640,640,640,15,13,15]
def C599 := cO 599 []
def C600 := cO 600 [496,496]
def C601 := cO 601 [641,433,513]
def C602 := cU 602 [642,643,644,645,646,647,648,649,602,602]
def C603 := cO 603 [459,308]
def C604 := cO 604 []
def C605 := cO 605 []
def C606 := cU 606 []
def C607 := cO 607 [253]
def C608 := cO 608 [528,650,650]
def C609 := cO 609 [651]
def C610 := cO 610 []
def C611 := cO 611 [652]
def C612 := cO 612 []
def C613 := cO 613 [653]
def C614 := cO 614 [506,493,597,491,465,559,559,654,491,560,491]
def C615 := cO 615 []
def C616 := cO 616 [618]
def C617 := cO 617 []
def C618 := cU 618 []
def C619 := cO 619 []
def C620 := cO 620 []
def C621 := cO 621 [655]
def C622 := cO 622 [620]
def C623 := cO 623 []
def C624 := cO 624 []
def C625 := cO 625 [624,624,624,624,624,624]
def C626 := cO 626 [656,657,656,64,63]
def C627 := cO 627 []
def C628 := cU 628 []
def C629 := cO 629 [658,658,658]
def C630 := cO 630 [390]
def C631 := cO 631 []
def C632 := cU 632 []
def C633 := cO 633 []
def C634 := cO 634 [659,660]
def C635 := cO 635 [661]
def C636 := cO 636 [600,662,662]
def C637 := cO 637 [585,559,614,489,560,506]
def C638 := cO 638 []
def C639 := cO 639 [663,664]
def C640 := cO 640 []
def C641 := cO 641 []
def C642 := cU 642 []
def C643 := cO 643 [665,665]
def C644 := cO 644 [666,667]
def C645 := cO 645 [668,668,668,669]
def C646 := cO 646 []
def C647 := cU 647 []
def C648 := cU 648 []
def C649 := cU 649 []
def C650 := cO 650 [382]
def C651 := cU 651 []
def C652 := cU 652 []
def C653 := cO 653 [373,373,630,556]
def C654 := cO 654 []
def C655 := cO 655 []
def C656 := cO 656 [62]
def C657 := cO 657 []
def C658 := cO 658 []
def C659 := cO 659 [670]
def C660 := cO 660 [603,671]
def C661 := cU 661 []
def C662 := cO 662 []
def C663 := cO 663 []
def C664 := cO 664 []
def C665 := cU 665 []
def C666 := cO 666 [603]
def C667 := cO 667 []
def C668 := cO 668 [669]
def C669 := cO 669 [672,672,672]
def C670 := cU 670 []
def C671 := cO 671 [673,674,675,676,677,678,600,679,680,671,671]
def C672 := cU 672 []
def C673 := cO 673 [600]
def C674 := cO 674 [681,681]
def C675 := cO 675 [666,667]
def C676 := cO 676 [682,682,682,683]
def C677 := cO 677 []
def C678 := cO 678 [600,600,600]
def C679 := cO 679 [600,600]
def C680 := cO 680 [600,600,600,600]
def C681 := cO 681 [600,600]
def C682 := cO 682 [683]
def C683 := cO 683 [684,684,684]
def C684 := cO 684 [600]
def Cz1 : N8 (Option (Nat × CD)) := ⟨none, none, none, none, none, none, none, none⟩
def Cz2 : N8 (N8 (Option (Nat × CD))) := ⟨Cz1, Cz1, Cz1, Cz1, Cz1, Cz1, Cz1, Cz1⟩
def Cz3 : N8 (N8 (N8 (Option (Nat × CD)))) := ⟨Cz2, Cz2, Cz2, Cz2, Cz2, Cz2, Cz2, Cz2⟩
def Cz4 : N8 (N8 (N8 (N8 (Option (Nat × CD))))) := ⟨Cz3, Cz3, Cz3, Cz3, Cz3, Cz3, Cz3, Cz3⟩
def Ct : N8 (N8 (N8 (N8 (Option (Nat × CD))))) := ⟨⟨⟨⟨none, none, none, C3, C4, C5, C6, C7⟩, ⟨C8, C9, C10, C11, C12, C13, C14, C15⟩, ⟨C16, C17, C18, C19, C20, C21, C22, C23⟩, ⟨C24, C25, C26, C27, C28, C29, C30, C31⟩, ⟨C32, C33, C34, C35, C36, C37, C38, C39⟩, ⟨C40, C41, C42, C43, C44, C45, C46, C47⟩, ⟨C48, C49, C50, C51, C52, C53, C54, C55⟩, ⟨C56, C57, C58, C59, C60, C61, C62, C63⟩⟩, ⟨⟨C64, C65, C66, C67, C68, C69, C70, C71⟩, ⟨C72, C73, C74, C75, C76, C77, C78, C79⟩, ⟨C80, C81, C82, C83, C84, C85, C86, C87⟩, ⟨C88, C89, C90, C91, C92, C93, C94, C95⟩, ⟨C96, C97, C98, C99, C100, C101, C102, C103⟩, ⟨C104, C105, C106, C107, C108, C109, C110, C111⟩, ⟨C112, C113, C114, C115, C116, C117, C118, C119⟩, ⟨C120, C121, C122, C123, C124, C125, C126, C127⟩⟩, ⟨⟨C128, C129, C130, C131, C132, C133, C134, C135⟩, ⟨C136, C137, C138, C139, C140, C141, C142, C143⟩, ⟨C144, C145, C146, C147, C148, C149, C150, C151⟩, ⟨C152, C153, C154, C155, C156, C157, C158, C159⟩, ⟨C160, C161, C162, C163, C164, C165, C166, C167⟩, ⟨C168, C169, C170, C171, C172, C173, C174, C175⟩, ⟨C176, C177, C178, C179, C180, C181, C182, C183⟩, ⟨C184, C185, C186, C187, C188, C189, C190, C191⟩⟩, ⟨⟨C192, C193, C194, C195, C196, C197, C198, C199⟩, ⟨C200, C201, C202, C203, C204, C205, C206, C207⟩, ⟨C208, C209, C210, C211, C212, C213, C214, C215⟩, ⟨C216, C217, C218, C219, C220, C221, C222, C223⟩, ⟨C224, C225, C226, C227, C228, C229, C230, C231⟩, ⟨C232, C233, C234, C235, C236, C237, C238, C239⟩, ⟨C240, C241, C242, C243, C244, C245, C246, C247⟩, ⟨C248, C249, C250, C251, C252, C253, C254, C255⟩⟩, ⟨⟨C256, C257, C258, C259, C260, C261, C262, C263⟩, ⟨C264, C265, C266, C267, C268, C269, C270, C271⟩, ⟨C272, C273, C274, C275, C276, C277, C278, C279⟩, ⟨C280, C281, C282, C283, C284, C285, C286, C287⟩, ⟨C288, C289, C290, C291, C292, C293, C294, C295⟩, ⟨C296, C297, C298, C299, C300, C301, C302, C303⟩, ⟨C304, C305, C306, C307, C308, C309, C310, C311⟩, ⟨C312, C313, C314, C315, C316, C317, C318, C319⟩⟩, ⟨⟨C320, C321, C322, C323, C324, C325, C326, C327⟩, ⟨C328, C329, C330, C331, C332, C333, C334, C335⟩, ⟨C336, C337, C338, C339, C340, C341, C342, C343⟩, ⟨C344, C345, C346, C347, C348, C349, C350, C351⟩, ⟨C352, C353, C354, C355, C356, C357, C358, C359⟩, ⟨C360, C361, C362, C363, C364, C365, C366, C367⟩, ⟨C368, C369, C370, C371, C372, C373, C374, C375⟩, ⟨C376, C377, C378, C379, C380, C381, C382, C383⟩⟩, ⟨⟨C384, C385, C386, C387, C388, C389, C390, C391⟩, ⟨C392, C393, C394, C395, C396, C397, C398, C399⟩, ⟨C400, C401, C402, C403, C404, C405, C406, C407⟩, ⟨C408, C409, C410, C411, C412, C413, C414, C415⟩, ⟨C416, C417, C418, C419, C420, C421, C422, C423⟩, ⟨C424, C425, C426, C427, C428, C429, C430, C431⟩, ⟨C432, C433, C434, C435, C436, C437, C438, C439⟩, ⟨C440, C441, C442, C443, C444, C445, C446, C447⟩⟩, ⟨⟨C448, C449, C450, C451, C452, C453, C454, C455⟩, ⟨C456, C457, C458, C459, C460, C461, C462, C463⟩, ⟨C464, C465, C466, C467, C468, C469, C470, C471⟩, ⟨C472, C473, C474, C475, C476, C477, C478, C479⟩, ⟨C480, C481, C482, C483, C484, C485, C486, C487⟩, ⟨C488, C489, C490, C491, C492, C493, C494, C495⟩, ⟨C496, C497, C498, C499, C500, C501, C502, C503⟩, ⟨C504, C505, C506, C507, C508, C509, C510, C511⟩⟩⟩, ⟨⟨⟨C512, C513, C514, C515, C516, C517, C518, C519⟩, ⟨C520, C521, C522, C523, C524, C525, C526, C527⟩, ⟨C528, C529, C530, C531, C532, C533, C534, C535⟩, ⟨C536, C537, C538, C539, C540, C541, C542, C543⟩, ⟨C544, C545, C546, C547, C548, C549, C550, C551⟩, ⟨C552, C553, C554, C555, C556, C557, C558, C559⟩, ⟨C560, C561, C562, C563, C564, C565, C566, C567⟩, ⟨C568, C569, C570, C571, C572, C573, C574, C575⟩⟩, ⟨⟨C576, C577, C578, C579, C580, C581, C582, C583⟩, ⟨C584, C585, C586, C587, C588, C589, C590, C591⟩, ⟨C592, C593, C594, C595, C596, C597, C598, C599⟩, ⟨C600, C601, C602, C603, C604, C605, C606, C607⟩, ⟨C608, C609, C610, C611, C612, C613, C614, C615⟩, ⟨C616, C617, C618, C619, C620, C621, C622, C623⟩, ⟨C624, C625, C626, C627, C628, C629, C630, C631⟩, ⟨C632, C633, C634, C635, C636, C637, C638, C639⟩⟩, ⟨⟨C640, C641, C642, C643, C644, C645, C646, C647⟩, ⟨C648, C649, C650, C651, C652, C653, C654, C655⟩, ⟨C656, C657, C658, C659, C660, C661, C662, C663⟩, ⟨C664, C665, C666, C667, C668, C669, C670, C671⟩, ⟨C672, C673, C674, C675, C676, C677, C678, C679⟩, ⟨C680, C681, C682, C683, C684, none, none, none⟩, Cz1, Cz1⟩, Cz2, Cz2, Cz2, Cz2, Cz2⟩, Cz3, Cz3, Cz3, Cz3, Cz3, Cz3⟩
def tabC (n : Nat) : Option CD := leafO n (ng8 (Nat.mod n 8) (ng8 (Nat.mod (Nat.div n 8) 8) (ng8 (Nat.mod (Nat.div n 64) 8) (ng8 (Nat.mod (Nat.div n 512) 8) Ct))))
def cT (n : Nat) (d : CD) : Prop := cdP Tryz.prog n d
theorem Cq3 : leafP cT C3 := cdP.of Tryz.func3 (by kernel_rfl)
theorem Cq4 : leafP cT C4 := cdP.of Tryz.func4 (by kernel_rfl)
theorem Cq5 : leafP cT C5 := cdP.of Tryz.func5 (by kernel_rfl)
theorem Cq6 : leafP cT C6 := cdP.of Tryz.func6 (by kernel_rfl)
theorem Cq7 : leafP cT C7 := cdP.of Tryz.func7 (by kernel_rfl)
theorem Cq8 : leafP cT C8 := cdP.of Tryz.func8 (by kernel_rfl)
theorem Cq9 : leafP cT C9 := cdP.of Tryz.func9 (by kernel_rfl)
theorem Cq10 : leafP cT C10 := cdP.of Tryz.func10 (by kernel_rfl)
theorem Cq11 : leafP cT C11 := cdP.of Tryz.func11 (by kernel_rfl)
theorem Cq12 : leafP cT C12 := cdP.of Tryz.func12 (by kernel_rfl)
theorem Cq13 : leafP cT C13 := cdP.of Tryz.func13 (by kernel_rfl)
theorem Cq14 : leafP cT C14 := cdP.of Tryz.func14 (by kernel_rfl)
theorem Cq15 : leafP cT C15 := cdP.of Tryz.func15 (by kernel_rfl)
theorem Cq16 : leafP cT C16 := cdP.of Tryz.func16 (by kernel_rfl)
theorem Cq17 : leafP cT C17 := cdP.of Tryz.func17 (by kernel_rfl)
theorem Cq18 : leafP cT C18 := cdP.of Tryz.func18 (by kernel_rfl)
theorem Cq19 : leafP cT C19 := cdP.of Tryz.func19 (by kernel_rfl)
theorem Cq20 : leafP cT C20 := cdP.of Tryz.func20 (by kernel_rfl)
theorem Cq21 : leafP cT C21 := cdP.of Tryz.func21 (by kernel_rfl)
theorem Cq22 : leafP cT C22 := cdP.of Tryz.func22 (by kernel_rfl)
theorem Cq23 : leafP cT C23 := cdP.of Tryz.func23 (by kernel_rfl)
theorem Cq24 : leafP cT C24 := cdP.of Tryz.func24 (by kernel_rfl)
theorem Cq25 : leafP cT C25 := cdP.of Tryz.func25 (by kernel_rfl)
theorem Cq26 : leafP cT C26 := cdP.of Tryz.func26 (by kernel_rfl)
theorem Cq27 : leafP cT C27 := cdP.of Tryz.func27 (by kernel_rfl)
theorem Cq28 : leafP cT C28 := cdP.of Tryz.func28 (by kernel_rfl)
theorem Cq29 : leafP cT C29 := cdP.of Tryz.func29 (by kernel_rfl)
theorem Cq30 : leafP cT C30 := cdP.of Tryz.func30 (by kernel_rfl)
theorem Cq31 : leafP cT C31 := cdP.of Tryz.func31 (by kernel_rfl)
theorem Cq32 : leafP cT C32 := cdP.of Tryz.func32 (by kernel_rfl)
theorem Cq33 : leafP cT C33 := cdP.of Tryz.func33 (by kernel_rfl)
theorem Cq34 : leafP cT C34 := cdP.of Tryz.func34 (by kernel_rfl)
theorem Cq35 : leafP cT C35 := cdP.of Tryz.func35 (by kernel_rfl)
theorem Cq36 : leafP cT C36 := cdP.of Tryz.func36 (by kernel_rfl)
theorem Cq37 : leafP cT C37 := cdP.of Tryz.func37 (by kernel_rfl)
theorem Cq38 : leafP cT C38 := cdP.of Tryz.func38 (by kernel_rfl)
theorem Cq39 : leafP cT C39 := cdP.of Tryz.func39 (by kernel_rfl)
theorem Cq40 : leafP cT C40 := cdP.of Tryz.func40 (by kernel_rfl)
theorem Cq41 : leafP cT C41 := cdP.of Tryz.func41 (by kernel_rfl)
theorem Cq42 : leafP cT C42 := cdP.of Tryz.func42 (by kernel_rfl)
theorem Cq43 : leafP cT C43 := cdP.of Tryz.func43 (by kernel_rfl)
theorem Cq44 : leafP cT C44 := cdP.of Tryz.func44 (by kernel_rfl)
theorem Cq45 : leafP cT C45 := cdP.of Tryz.func45 (by kernel_rfl)
theorem Cq46 : leafP cT C46 := cdP.of Tryz.func46 (by kernel_rfl)
theorem Cq47 : leafP cT C47 := cdP.of Tryz.func47 (by kernel_rfl)
theorem Cq48 : leafP cT C48 := cdP.of Tryz.func48 (by kernel_rfl)
theorem Cq49 : leafP cT C49 := cdP.of Tryz.func49 (by kernel_rfl)
theorem Cq50 : leafP cT C50 := cdP.of Tryz.func50 (by kernel_rfl)
theorem Cq51 : leafP cT C51 := cdP.of Tryz.func51 (by kernel_rfl)
theorem Cq52 : leafP cT C52 := cdP.of Tryz.func52 (by kernel_rfl)
theorem Cq53 : leafP cT C53 := cdP.of Tryz.func53 (by kernel_rfl)
theorem Cq54 : leafP cT C54 := cdP.of Tryz.func54 (by kernel_rfl)
theorem Cq55 : leafP cT C55 := cdP.of Tryz.func55 (by kernel_rfl)
theorem Cq56 : leafP cT C56 := cdP.of Tryz.func56 (by kernel_rfl)
theorem Cq57 : leafP cT C57 := cdP.of Tryz.func57 (by kernel_rfl)
theorem Cq58 : leafP cT C58 := cdP.of Tryz.func58 (by kernel_rfl)
theorem Cq59 : leafP cT C59 := cdP.of Tryz.func59 (by kernel_rfl)
theorem Cq60 : leafP cT C60 := cdP.of Tryz.func60 (by kernel_rfl)
theorem Cq61 : leafP cT C61 := cdP.of Tryz.func61 (by kernel_rfl)
theorem Cq62 : leafP cT C62 := cdP.of Tryz.func62 (by kernel_rfl)
theorem Cq63 : leafP cT C63 := cdP.of Tryz.func63 (by kernel_rfl)
theorem Cq64 : leafP cT C64 := cdP.of Tryz.func64 (by kernel_rfl)
theorem Cq65 : leafP cT C65 := cdP.of Tryz.func65 (by kernel_rfl)
theorem Cq66 : leafP cT C66 := cdP.of Tryz.func66 (by kernel_rfl)
theorem Cq67 : leafP cT C67 := cdP.of Tryz.func67 (by kernel_rfl)
theorem Cq68 : leafP cT C68 := cdP.of Tryz.func68 (by kernel_rfl)
theorem Cq69 : leafP cT C69 := cdP.of Tryz.func69 (by kernel_rfl)
theorem Cq70 : leafP cT C70 := cdP.of Tryz.func70 (by kernel_rfl)
theorem Cq71 : leafP cT C71 := cdP.of Tryz.func71 (by kernel_rfl)
theorem Cq72 : leafP cT C72 := cdP.of Tryz.func72 (by kernel_rfl)
theorem Cq73 : leafP cT C73 := cdP.of Tryz.func73 (by kernel_rfl)
theorem Cq74 : leafP cT C74 := cdP.of Tryz.func74 (by kernel_rfl)
theorem Cq75 : leafP cT C75 := cdP.of Tryz.func75 (by kernel_rfl)
theorem Cq76 : leafP cT C76 := cdP.of Tryz.func76 (by kernel_rfl)
theorem Cq77 : leafP cT C77 := cdP.of Tryz.func77 (by kernel_rfl)
theorem Cq78 : leafP cT C78 := cdP.of Tryz.func78 (by kernel_rfl)
theorem Cq79 : leafP cT C79 := cdP.of Tryz.func79 (by kernel_rfl)
theorem Cq80 : leafP cT C80 := cdP.of Tryz.func80 (by kernel_rfl)
theorem Cq81 : leafP cT C81 := cdP.of Tryz.func81 (by kernel_rfl)
theorem Cq82 : leafP cT C82 := cdP.of Tryz.func82 (by kernel_rfl)
theorem Cq83 : leafP cT C83 := cdP.of Tryz.func83 (by kernel_rfl)
theorem Cq84 : leafP cT C84 := cdP.of Tryz.func84 (by kernel_rfl)
theorem Cq85 : leafP cT C85 := cdP.of Tryz.func85 (by kernel_rfl)
theorem Cq86 : leafP cT C86 := cdP.of Tryz.func86 (by kernel_rfl)
theorem Cq87 : leafP cT C87 := cdP.of Tryz.func87 (by kernel_rfl)
theorem Cq88 : leafP cT C88 := cdP.of Tryz.func88 (by kernel_rfl)
theorem Cq89 : leafP cT C89 := cdP.of Tryz.func89 (by kernel_rfl)
theorem Cq90 : leafP cT C90 := cdP.of Tryz.func90 (by kernel_rfl)
theorem Cq91 : leafP cT C91 := cdP.of Tryz.func91 (by kernel_rfl)
theorem Cq92 : leafP cT C92 := cdP.of Tryz.func92 (by kernel_rfl)
theorem Cq93 : leafP cT C93 := cdP.of Tryz.func93 (by kernel_rfl)
theorem Cq94 : leafP cT C94 := cdP.of Tryz.func94 (by kernel_rfl)
theorem Cq95 : leafP cT C95 := cdP.of Tryz.func95 (by kernel_rfl)
theorem Cq96 : leafP cT C96 := cdP.of Tryz.func96 (by kernel_rfl)
theorem Cq97 : leafP cT C97 := cdP.of Tryz.func97 (by kernel_rfl)
theorem Cq98 : leafP cT C98 := cdP.of Tryz.func98 (by kernel_rfl)
theorem Cq99 : leafP cT C99 := cdP.of Tryz.func99 (by kernel_rfl)
theorem Cq100 : leafP cT C100 := cdP.of Tryz.func100 (by kernel_rfl)
theorem Cq101 : leafP cT C101 := cdP.of Tryz.func101 (by kernel_rfl)
theorem Cq102 : leafP cT C102 := cdP.of Tryz.func102 (by kernel_rfl)
theorem Cq103 : leafP cT C103 := cdP.of Tryz.func103 (by kernel_rfl)
theorem Cq104 : leafP cT C104 := cdP.of Tryz.func104 (by kernel_rfl)
theorem Cq105 : leafP cT C105 := cdP.of Tryz.func105 (by kernel_rfl)
theorem Cq106 : leafP cT C106 := cdP.of Tryz.func106 (by kernel_rfl)
theorem Cq107 : leafP cT C107 := cdP.of Tryz.func107 (by kernel_rfl)
theorem Cq108 : leafP cT C108 := cdP.of Tryz.func108 (by kernel_rfl)
theorem Cq109 : leafP cT C109 := cdP.of Tryz.func109 (by kernel_rfl)
theorem Cq110 : leafP cT C110 := cdP.of Tryz.func110 (by kernel_rfl)
theorem Cq111 : leafP cT C111 := cdP.of Tryz.func111 (by kernel_rfl)
theorem Cq112 : leafP cT C112 := cdP.of Tryz.func112 (by kernel_rfl)
theorem Cq113 : leafP cT C113 := cdP.of Tryz.func113 (by kernel_rfl)
theorem Cq114 : leafP cT C114 := cdP.of Tryz.func114 (by kernel_rfl)
theorem Cq115 : leafP cT C115 := cdP.of Tryz.func115 (by kernel_rfl)
theorem Cq116 : leafP cT C116 := cdP.of Tryz.func116 (by kernel_rfl)
theorem Cq117 : leafP cT C117 := cdP.of Tryz.func117 (by kernel_rfl)
theorem Cq118 : leafP cT C118 := cdP.of Tryz.func118 (by kernel_rfl)
theorem Cq119 : leafP cT C119 := cdP.of Tryz.func119 (by kernel_rfl)
theorem Cq120 : leafP cT C120 := cdP.of Tryz.func120 (by kernel_rfl)
theorem Cq121 : leafP cT C121 := cdP.of Tryz.func121 (by kernel_rfl)
theorem Cq122 : leafP cT C122 := cdP.of Tryz.func122 (by kernel_rfl)
theorem Cq123 : leafP cT C123 := cdP.of Tryz.func123 (by kernel_rfl)
theorem Cq124 : leafP cT C124 := cdP.of Tryz.func124 (by kernel_rfl)
theorem Cq125 : leafP cT C125 := cdP.of Tryz.func125 (by kernel_rfl)
theorem Cq126 : leafP cT C126 := cdP.of Tryz.func126 (by kernel_rfl)
theorem Cq127 : leafP cT C127 := cdP.of Tryz.func127 (by kernel_rfl)
theorem Cq128 : leafP cT C128 := cdP.of Tryz.func128 (by kernel_rfl)
theorem Cq129 : leafP cT C129 := cdP.of Tryz.func129 (by kernel_rfl)
theorem Cq130 : leafP cT C130 := cdP.of Tryz.func130 (by kernel_rfl)
theorem Cq131 : leafP cT C131 := cdP.of Tryz.func131 (by kernel_rfl)
theorem Cq132 : leafP cT C132 := cdP.of Tryz.func132 (by kernel_rfl)
theorem Cq133 : leafP cT C133 := cdP.of Tryz.func133 (by kernel_rfl)
theorem Cq134 : leafP cT C134 := cdP.of Tryz.func134 (by kernel_rfl)
theorem Cq135 : leafP cT C135 := cdP.of Tryz.func135 (by kernel_rfl)
theorem Cq136 : leafP cT C136 := cdP.of Tryz.func136 (by kernel_rfl)
theorem Cq137 : leafP cT C137 := cdP.of Tryz.func137 (by kernel_rfl)
theorem Cq138 : leafP cT C138 := cdP.of Tryz.func138 (by kernel_rfl)
theorem Cq139 : leafP cT C139 := cdP.of Tryz.func139 (by kernel_rfl)
theorem Cq140 : leafP cT C140 := cdP.of Tryz.func140 (by kernel_rfl)
theorem Cq141 : leafP cT C141 := cdP.of Tryz.func141 (by kernel_rfl)
theorem Cq142 : leafP cT C142 := cdP.of Tryz.func142 (by kernel_rfl)
theorem Cq143 : leafP cT C143 := cdP.of Tryz.func143 (by kernel_rfl)
theorem Cq144 : leafP cT C144 := cdP.of Tryz.func144 (by kernel_rfl)
theorem Cq145 : leafP cT C145 := cdP.of Tryz.func145 (by kernel_rfl)
theorem Cq146 : leafP cT C146 := cdP.of Tryz.func146 (by kernel_rfl)
theorem Cq147 : leafP cT C147 := cdP.of Tryz.func147 (by kernel_rfl)
theorem Cq148 : leafP cT C148 := cdP.of Tryz.func148 (by kernel_rfl)
theorem Cq149 : leafP cT C149 := cdP.of Tryz.func149 (by kernel_rfl)
theorem Cq150 : leafP cT C150 := cdP.of Tryz.func150 (by kernel_rfl)
theorem Cq151 : leafP cT C151 := cdP.of Tryz.func151 (by kernel_rfl)
theorem Cq152 : leafP cT C152 := cdP.of Tryz.func152 (by kernel_rfl)
theorem Cq153 : leafP cT C153 := cdP.of Tryz.func153 (by kernel_rfl)
theorem Cq154 : leafP cT C154 := cdP.of Tryz.func154 (by kernel_rfl)
theorem Cq155 : leafP cT C155 := cdP.of Tryz.func155 (by kernel_rfl)
theorem Cq156 : leafP cT C156 := cdP.of Tryz.func156 (by kernel_rfl)
theorem Cq157 : leafP cT C157 := cdP.of Tryz.func157 (by kernel_rfl)
theorem Cq158 : leafP cT C158 := cdP.of Tryz.func158 (by kernel_rfl)
theorem Cq159 : leafP cT C159 := cdP.of Tryz.func159 (by kernel_rfl)
theorem Cq160 : leafP cT C160 := cdP.of Tryz.func160 (by kernel_rfl)
theorem Cq161 : leafP cT C161 := cdP.of Tryz.func161 (by kernel_rfl)
theorem Cq162 : leafP cT C162 := cdP.of Tryz.func162 (by kernel_rfl)
theorem Cq163 : leafP cT C163 := cdP.of Tryz.func163 (by kernel_rfl)
theorem Cq164 : leafP cT C164 := cdP.of Tryz.func164 (by kernel_rfl)
theorem Cq165 : leafP cT C165 := cdP.of Tryz.func165 (by kernel_rfl)
theorem Cq166 : leafP cT C166 := cdP.of Tryz.func166 (by kernel_rfl)
theorem Cq167 : leafP cT C167 := cdP.of Tryz.func167 (by kernel_rfl)
theorem Cq168 : leafP cT C168 := cdP.of Tryz.func168 (by kernel_rfl)
theorem Cq169 : leafP cT C169 := cdP.of Tryz.func169 (by kernel_rfl)
theorem Cq170 : leafP cT C170 := cdP.of Tryz.func170 (by kernel_rfl)
theorem Cq171 : leafP cT C171 := cdP.of Tryz.func171 (by kernel_rfl)
theorem Cq172 : leafP cT C172 := cdP.of Tryz.func172 (by kernel_rfl)
theorem Cq173 : leafP cT C173 := cdP.of Tryz.func173 (by kernel_rfl)
theorem Cq174 : leafP cT C174 := cdP.of Tryz.func174 (by kernel_rfl)
theorem Cq175 : leafP cT C175 := cdP.of Tryz.func175 (by kernel_rfl)
theorem Cq176 : leafP cT C176 := cdP.of Tryz.func176 (by kernel_rfl)
theorem Cq177 : leafP cT C177 := cdP.of Tryz.func177 (by kernel_rfl)
theorem Cq178 : leafP cT C178 := cdP.of Tryz.func178 (by kernel_rfl)
theorem Cq179 : leafP cT C179 := cdP.of Tryz.func179 (by kernel_rfl)
theorem Cq180 : leafP cT C180 := cdP.of Tryz.func180 (by kernel_rfl)
theorem Cq181 : leafP cT C181 := cdP.of Tryz.func181 (by kernel_rfl)
theorem Cq182 : leafP cT C182 := cdP.of Tryz.func182 (by kernel_rfl)
theorem Cq183 : leafP cT C183 := cdP.of Tryz.func183 (by kernel_rfl)
theorem Cq184 : leafP cT C184 := cdP.of Tryz.func184 (by kernel_rfl)
theorem Cq185 : leafP cT C185 := cdP.of Tryz.func185 (by kernel_rfl)
theorem Cq186 : leafP cT C186 := cdP.of Tryz.func186 (by kernel_rfl)
theorem Cq187 : leafP cT C187 := cdP.of Tryz.func187 (by kernel_rfl)
theorem Cq188 : leafP cT C188 := cdP.of Tryz.func188 (by kernel_rfl)
theorem Cq189 : leafP cT C189 := cdP.of Tryz.func189 (by kernel_rfl)
theorem Cq190 : leafP cT C190 := cdP.of Tryz.func190 (by kernel_rfl)
theorem Cq191 : leafP cT C191 := cdP.of Tryz.func191 (by kernel_rfl)
theorem Cq192 : leafP cT C192 := cdP.of Tryz.func192 (by kernel_rfl)
theorem Cq193 : leafP cT C193 := cdP.of Tryz.func193 (by kernel_rfl)
theorem Cq194 : leafP cT C194 := cdP.of Tryz.func194 (by kernel_rfl)
theorem Cq195 : leafP cT C195 := cdP.of Tryz.func195 (by kernel_rfl)
theorem Cq196 : leafP cT C196 := cdP.of Tryz.func196 (by kernel_rfl)
theorem Cq197 : leafP cT C197 := cdP.of Tryz.func197 (by kernel_rfl)
theorem Cq198 : leafP cT C198 := cdP.of Tryz.func198 (by kernel_rfl)
theorem Cq199 : leafP cT C199 := cdP.of Tryz.func199 (by kernel_rfl)
theorem Cq200 : leafP cT C200 := cdP.of Tryz.func200 (by kernel_rfl)
theorem Cq201 : leafP cT C201 := cdP.of Tryz.func201 (by kernel_rfl)
theorem Cq202 : leafP cT C202 := cdP.of Tryz.func202 (by kernel_rfl)
theorem Cq203 : leafP cT C203 := cdP.of Tryz.func203 (by kernel_rfl)
theorem Cq204 : leafP cT C204 := cdP.of Tryz.func204 (by kernel_rfl)
theorem Cq205 : leafP cT C205 := cdP.of Tryz.func205 (by kernel_rfl)
theorem Cq206 : leafP cT C206 := cdP.of Tryz.func206 (by kernel_rfl)
theorem Cq207 : leafP cT C207 := cdP.of Tryz.func207 (by kernel_rfl)
theorem Cq208 : leafP cT C208 := cdP.of Tryz.func208 (by kernel_rfl)
theorem Cq209 : leafP cT C209 := cdP.of Tryz.func209 (by kernel_rfl)
theorem Cq210 : leafP cT C210 := cdP.of Tryz.func210 (by kernel_rfl)
theorem Cq211 : leafP cT C211 := cdP.of Tryz.func211 (by kernel_rfl)
theorem Cq212 : leafP cT C212 := cdP.of Tryz.func212 (by kernel_rfl)
theorem Cq213 : leafP cT C213 := cdP.of Tryz.func213 (by kernel_rfl)
theorem Cq214 : leafP cT C214 := cdP.of Tryz.func214 (by kernel_rfl)
theorem Cq215 : leafP cT C215 := cdP.of Tryz.func215 (by kernel_rfl)
theorem Cq216 : leafP cT C216 := cdP.of Tryz.func216 (by kernel_rfl)
theorem Cq217 : leafP cT C217 := cdP.of Tryz.func217 (by kernel_rfl)
theorem Cq218 : leafP cT C218 := cdP.of Tryz.func218 (by kernel_rfl)
theorem Cq219 : leafP cT C219 := cdP.of Tryz.func219 (by kernel_rfl)
theorem Cq220 : leafP cT C220 := cdP.of Tryz.func220 (by kernel_rfl)
theorem Cq221 : leafP cT C221 := cdP.of Tryz.func221 (by kernel_rfl)
theorem Cq222 : leafP cT C222 := cdP.of Tryz.func222 (by kernel_rfl)
theorem Cq223 : leafP cT C223 := cdP.of Tryz.func223 (by kernel_rfl)
theorem Cq224 : leafP cT C224 := cdP.of Tryz.func224 (by kernel_rfl)
theorem Cq225 : leafP cT C225 := cdP.of Tryz.func225 (by kernel_rfl)
theorem Cq226 : leafP cT C226 := cdP.of Tryz.func226 (by kernel_rfl)
theorem Cq227 : leafP cT C227 := cdP.of Tryz.func227 (by kernel_rfl)
theorem Cq228 : leafP cT C228 := cdP.of Tryz.func228 (by kernel_rfl)
theorem Cq229 : leafP cT C229 := cdP.of Tryz.func229 (by kernel_rfl)
theorem Cq230 : leafP cT C230 := cdP.of Tryz.func230 (by kernel_rfl)
theorem Cq231 : leafP cT C231 := cdP.of Tryz.func231 (by kernel_rfl)
theorem Cq232 : leafP cT C232 := cdP.of Tryz.func232 (by kernel_rfl)
theorem Cq233 : leafP cT C233 := cdP.of Tryz.func233 (by kernel_rfl)
theorem Cq234 : leafP cT C234 := cdP.of Tryz.func234 (by kernel_rfl)
theorem Cq235 : leafP cT C235 := cdP.of Tryz.func235 (by kernel_rfl)
theorem Cq236 : leafP cT C236 := cdP.of Tryz.func236 (by kernel_rfl)
theorem Cq237 : leafP cT C237 := cdP.of Tryz.func237 (by kernel_rfl)
theorem Cq238 : leafP cT C238 := cdP.of Tryz.func238 (by kernel_rfl)
theorem Cq239 : leafP cT C239 := cdP.of Tryz.func239 (by kernel_rfl)
theorem Cq240 : leafP cT C240 := cdP.of Tryz.func240 (by kernel_rfl)
theorem Cq241 : leafP cT C241 := cdP.of Tryz.func241 (by kernel_rfl)
theorem Cq242 : leafP cT C242 := cdP.of Tryz.func242 (by kernel_rfl)
theorem Cq243 : leafP cT C243 := cdP.of Tryz.func243 (by kernel_rfl)
theorem Cq244 : leafP cT C244 := cdP.of Tryz.func244 (by kernel_rfl)
theorem Cq245 : leafP cT C245 := cdP.of Tryz.func245 (by kernel_rfl)
theorem Cq246 : leafP cT C246 := cdP.of Tryz.func246 (by kernel_rfl)
theorem Cq247 : leafP cT C247 := cdP.of Tryz.func247 (by kernel_rfl)
theorem Cq248 : leafP cT C248 := cdP.of Tryz.func248 (by kernel_rfl)
theorem Cq249 : leafP cT C249 := cdP.of Tryz.func249 (by kernel_rfl)
theorem Cq250 : leafP cT C250 := cdP.of Tryz.func250 (by kernel_rfl)
theorem Cq251 : leafP cT C251 := cdP.of Tryz.func251 (by kernel_rfl)
theorem Cq252 : leafP cT C252 := cdP.of Tryz.func252 (by kernel_rfl)
theorem Cq253 : leafP cT C253 := cdP.of Tryz.func253 (by kernel_rfl)
theorem Cq254 : leafP cT C254 := cdP.of Tryz.func254 (by kernel_rfl)
theorem Cq255 : leafP cT C255 := cdP.of Tryz.func255 (by kernel_rfl)
theorem Cq256 : leafP cT C256 := cdP.of Tryz.func256 (by kernel_rfl)
theorem Cq257 : leafP cT C257 := cdP.of Tryz.func257 (by kernel_rfl)
theorem Cq258 : leafP cT C258 := cdP.of Tryz.func258 (by kernel_rfl)
theorem Cq259 : leafP cT C259 := cdP.of Tryz.func259 (by kernel_rfl)
theorem Cq260 : leafP cT C260 := cdP.of Tryz.func260 (by kernel_rfl)
theorem Cq261 : leafP cT C261 := cdP.of Tryz.func261 (by kernel_rfl)
theorem Cq262 : leafP cT C262 := cdP.of Tryz.func262 (by kernel_rfl)
theorem Cq263 : leafP cT C263 := cdP.of Tryz.func263 (by kernel_rfl)
theorem Cq264 : leafP cT C264 := cdP.of Tryz.func264 (by kernel_rfl)
theorem Cq265 : leafP cT C265 := cdP.of Tryz.func265 (by kernel_rfl)
theorem Cq266 : leafP cT C266 := cdP.of Tryz.func266 (by kernel_rfl)
theorem Cq267 : leafP cT C267 := cdP.of Tryz.func267 (by kernel_rfl)
theorem Cq268 : leafP cT C268 := cdP.of Tryz.func268 (by kernel_rfl)
theorem Cq269 : leafP cT C269 := cdP.of Tryz.func269 (by kernel_rfl)
theorem Cq270 : leafP cT C270 := cdP.of Tryz.func270 (by kernel_rfl)
theorem Cq271 : leafP cT C271 := cdP.of Tryz.func271 (by kernel_rfl)
theorem Cq272 : leafP cT C272 := cdP.of Tryz.func272 (by kernel_rfl)
theorem Cq273 : leafP cT C273 := cdP.of Tryz.func273 (by kernel_rfl)
theorem Cq274 : leafP cT C274 := cdP.of Tryz.func274 (by kernel_rfl)
theorem Cq275 : leafP cT C275 := cdP.of Tryz.func275 (by kernel_rfl)
theorem Cq276 : leafP cT C276 := cdP.of Tryz.func276 (by kernel_rfl)
theorem Cq277 : leafP cT C277 := cdP.of Tryz.func277 (by kernel_rfl)
theorem Cq278 : leafP cT C278 := cdP.of Tryz.func278 (by kernel_rfl)
theorem Cq279 : leafP cT C279 := cdP.of Tryz.func279 (by kernel_rfl)
theorem Cq280 : leafP cT C280 := cdP.of Tryz.func280 (by kernel_rfl)
theorem Cq281 : leafP cT C281 := cdP.of Tryz.func281 (by kernel_rfl)
theorem Cq282 : leafP cT C282 := cdP.of Tryz.func282 (by kernel_rfl)
theorem Cq283 : leafP cT C283 := cdP.of Tryz.func283 (by kernel_rfl)
theorem Cq284 : leafP cT C284 := cdP.of Tryz.func284 (by kernel_rfl)
theorem Cq285 : leafP cT C285 := cdP.of Tryz.func285 (by kernel_rfl)
theorem Cq286 : leafP cT C286 := cdP.of Tryz.func286 (by kernel_rfl)
theorem Cq287 : leafP cT C287 := cdP.of Tryz.func287 (by kernel_rfl)
theorem Cq288 : leafP cT C288 := cdP.of Tryz.func288 (by kernel_rfl)
theorem Cq289 : leafP cT C289 := cdP.of Tryz.func289 (by kernel_rfl)
theorem Cq290 : leafP cT C290 := cdP.of Tryz.func290 (by kernel_rfl)
theorem Cq291 : leafP cT C291 := cdP.of Tryz.func291 (by kernel_rfl)
theorem Cq292 : leafP cT C292 := cdP.of Tryz.func292 (by kernel_rfl)
theorem Cq293 : leafP cT C293 := cdP.of Tryz.func293 (by kernel_rfl)
theorem Cq294 : leafP cT C294 := cdP.of Tryz.func294 (by kernel_rfl)
theorem Cq295 : leafP cT C295 := cdP.of Tryz.func295 (by kernel_rfl)
theorem Cq296 : leafP cT C296 := cdP.of Tryz.func296 (by kernel_rfl)
theorem Cq297 : leafP cT C297 := cdP.of Tryz.func297 (by kernel_rfl)
theorem Cq298 : leafP cT C298 := cdP.of Tryz.func298 (by kernel_rfl)
theorem Cq299 : leafP cT C299 := cdP.of Tryz.func299 (by kernel_rfl)
theorem Cq300 : leafP cT C300 := cdP.of Tryz.func300 (by kernel_rfl)
theorem Cq301 : leafP cT C301 := cdP.of Tryz.func301 (by kernel_rfl)
theorem Cq302 : leafP cT C302 := cdP.of Tryz.func302 (by kernel_rfl)
theorem Cq303 : leafP cT C303 := cdP.of Tryz.func303 (by kernel_rfl)
theorem Cq304 : leafP cT C304 := cdP.of Tryz.func304 (by kernel_rfl)
theorem Cq305 : leafP cT C305 := cdP.of Tryz.func305 (by kernel_rfl)
theorem Cq306 : leafP cT C306 := cdP.of Tryz.func306 (by kernel_rfl)
theorem Cq307 : leafP cT C307 := cdP.of Tryz.func307 (by kernel_rfl)
theorem Cq308 : leafP cT C308 := cdP.of Tryz.func308 (by kernel_rfl)
theorem Cq309 : leafP cT C309 := cdP.of Tryz.func309 (by kernel_rfl)
theorem Cq310 : leafP cT C310 := cdP.of Tryz.func310 (by kernel_rfl)
theorem Cq311 : leafP cT C311 := cdP.of Tryz.func311 (by kernel_rfl)
theorem Cq312 : leafP cT C312 := cdP.of Tryz.func312 (by kernel_rfl)
theorem Cq313 : leafP cT C313 := cdP.of Tryz.func313 (by kernel_rfl)
theorem Cq314 : leafP cT C314 := cdP.of Tryz.func314 (by kernel_rfl)
theorem Cq315 : leafP cT C315 := cdP.of Tryz.func315 (by kernel_rfl)
theorem Cq316 : leafP cT C316 := cdP.of Tryz.func316 (by kernel_rfl)
theorem Cq317 : leafP cT C317 := cdP.of Tryz.func317 (by kernel_rfl)
theorem Cq318 : leafP cT C318 := cdP.of Tryz.func318 (by kernel_rfl)
theorem Cq319 : leafP cT C319 := cdP.of Tryz.func319 (by kernel_rfl)
theorem Cq320 : leafP cT C320 := cdP.of Tryz.func320 (by kernel_rfl)
theorem Cq321 : leafP cT C321 := cdP.of Tryz.func321 (by kernel_rfl)
theorem Cq322 : leafP cT C322 := cdP.of Tryz.func322 (by kernel_rfl)
theorem Cq323 : leafP cT C323 := cdP.of Tryz.func323 (by kernel_rfl)
theorem Cq324 : leafP cT C324 := cdP.of Tryz.func324 (by kernel_rfl)
theorem Cq325 : leafP cT C325 := cdP.of Tryz.func325 (by kernel_rfl)
theorem Cq326 : leafP cT C326 := cdP.of Tryz.func326 (by kernel_rfl)
theorem Cq327 : leafP cT C327 := cdP.of Tryz.func327 (by kernel_rfl)
theorem Cq328 : leafP cT C328 := cdP.of Tryz.func328 (by kernel_rfl)
theorem Cq329 : leafP cT C329 := cdP.of Tryz.func329 (by kernel_rfl)
theorem Cq330 : leafP cT C330 := cdP.of Tryz.func330 (by kernel_rfl)
theorem Cq331 : leafP cT C331 := cdP.of Tryz.func331 (by kernel_rfl)
theorem Cq332 : leafP cT C332 := cdP.of Tryz.func332 (by kernel_rfl)
theorem Cq333 : leafP cT C333 := cdP.of Tryz.func333 (by kernel_rfl)
theorem Cq334 : leafP cT C334 := cdP.of Tryz.func334 (by kernel_rfl)
theorem Cq335 : leafP cT C335 := cdP.of Tryz.func335 (by kernel_rfl)
theorem Cq336 : leafP cT C336 := cdP.of Tryz.func336 (by kernel_rfl)
theorem Cq337 : leafP cT C337 := cdP.of Tryz.func337 (by kernel_rfl)
theorem Cq338 : leafP cT C338 := cdP.of Tryz.func338 (by kernel_rfl)
theorem Cq339 : leafP cT C339 := cdP.of Tryz.func339 (by kernel_rfl)
theorem Cq340 : leafP cT C340 := cdP.of Tryz.func340 (by kernel_rfl)
theorem Cq341 : leafP cT C341 := cdP.of Tryz.func341 (by kernel_rfl)
theorem Cq342 : leafP cT C342 := cdP.of Tryz.func342 (by kernel_rfl)
theorem Cq343 : leafP cT C343 := cdP.of Tryz.func343 (by kernel_rfl)
theorem Cq344 : leafP cT C344 := cdP.of Tryz.func344 (by kernel_rfl)
theorem Cq345 : leafP cT C345 := cdP.of Tryz.func345 (by kernel_rfl)
theorem Cq346 : leafP cT C346 := cdP.of Tryz.func346 (by kernel_rfl)
theorem Cq347 : leafP cT C347 := cdP.of Tryz.func347 (by kernel_rfl)
theorem Cq348 : leafP cT C348 := cdP.of Tryz.func348 (by kernel_rfl)
theorem Cq349 : leafP cT C349 := cdP.of Tryz.func349 (by kernel_rfl)
theorem Cq350 : leafP cT C350 := cdP.of Tryz.func350 (by kernel_rfl)
theorem Cq351 : leafP cT C351 := cdP.of Tryz.func351 (by kernel_rfl)
theorem Cq352 : leafP cT C352 := cdP.of Tryz.func352 (by kernel_rfl)
theorem Cq353 : leafP cT C353 := cdP.of Tryz.func353 (by kernel_rfl)
theorem Cq354 : leafP cT C354 := cdP.of Tryz.func354 (by kernel_rfl)
theorem Cq355 : leafP cT C355 := cdP.of Tryz.func355 (by kernel_rfl)
theorem Cq356 : leafP cT C356 := cdP.of Tryz.func356 (by kernel_rfl)
theorem Cq357 : leafP cT C357 := cdP.of Tryz.func357 (by kernel_rfl)
theorem Cq358 : leafP cT C358 := cdP.of Tryz.func358 (by kernel_rfl)
theorem Cq359 : leafP cT C359 := cdP.of Tryz.func359 (by kernel_rfl)
theorem Cq360 : leafP cT C360 := cdP.of Tryz.func360 (by kernel_rfl)
theorem Cq361 : leafP cT C361 := cdP.of Tryz.func361 (by kernel_rfl)
theorem Cq362 : leafP cT C362 := cdP.of Tryz.func362 (by kernel_rfl)
theorem Cq363 : leafP cT C363 := cdP.of Tryz.func363 (by kernel_rfl)
theorem Cq364 : leafP cT C364 := cdP.of Tryz.func364 (by kernel_rfl)
theorem Cq365 : leafP cT C365 := cdP.of Tryz.func365 (by kernel_rfl)
theorem Cq366 : leafP cT C366 := cdP.of Tryz.func366 (by kernel_rfl)
theorem Cq367 : leafP cT C367 := cdP.of Tryz.func367 (by kernel_rfl)
theorem Cq368 : leafP cT C368 := cdP.of Tryz.func368 (by kernel_rfl)
theorem Cq369 : leafP cT C369 := cdP.of Tryz.func369 (by kernel_rfl)
theorem Cq370 : leafP cT C370 := cdP.of Tryz.func370 (by kernel_rfl)
theorem Cq371 : leafP cT C371 := cdP.of Tryz.func371 (by kernel_rfl)
theorem Cq372 : leafP cT C372 := cdP.of Tryz.func372 (by kernel_rfl)
theorem Cq373 : leafP cT C373 := cdP.of Tryz.func373 (by kernel_rfl)
theorem Cq374 : leafP cT C374 := cdP.of Tryz.func374 (by kernel_rfl)
theorem Cq375 : leafP cT C375 := cdP.of Tryz.func375 (by kernel_rfl)
theorem Cq376 : leafP cT C376 := cdP.of Tryz.func376 (by kernel_rfl)
theorem Cq377 : leafP cT C377 := cdP.of Tryz.func377 (by kernel_rfl)
theorem Cq378 : leafP cT C378 := cdP.of Tryz.func378 (by kernel_rfl)
theorem Cq379 : leafP cT C379 := cdP.of Tryz.func379 (by kernel_rfl)
theorem Cq380 : leafP cT C380 := cdP.of Tryz.func380 (by kernel_rfl)
theorem Cq381 : leafP cT C381 := cdP.of Tryz.func381 (by kernel_rfl)
theorem Cq382 : leafP cT C382 := cdP.of Tryz.func382 (by kernel_rfl)
theorem Cq383 : leafP cT C383 := cdP.of Tryz.func383 (by kernel_rfl)
theorem Cq384 : leafP cT C384 := cdP.of Tryz.func384 (by kernel_rfl)
theorem Cq385 : leafP cT C385 := cdP.of Tryz.func385 (by kernel_rfl)
theorem Cq386 : leafP cT C386 := cdP.of Tryz.func386 (by kernel_rfl)
theorem Cq387 : leafP cT C387 := cdP.of Tryz.func387 (by kernel_rfl)
theorem Cq388 : leafP cT C388 := cdP.of Tryz.func388 (by kernel_rfl)
theorem Cq389 : leafP cT C389 := cdP.of Tryz.func389 (by kernel_rfl)
theorem Cq390 : leafP cT C390 := cdP.of Tryz.func390 (by kernel_rfl)
theorem Cq391 : leafP cT C391 := cdP.of Tryz.func391 (by kernel_rfl)
theorem Cq392 : leafP cT C392 := cdP.of Tryz.func392 (by kernel_rfl)
theorem Cq393 : leafP cT C393 := cdP.of Tryz.func393 (by kernel_rfl)
theorem Cq394 : leafP cT C394 := cdP.of Tryz.func394 (by kernel_rfl)
theorem Cq395 : leafP cT C395 := cdP.of Tryz.func395 (by kernel_rfl)
theorem Cq396 : leafP cT C396 := cdP.of Tryz.func396 (by kernel_rfl)
theorem Cq397 : leafP cT C397 := cdP.of Tryz.func397 (by kernel_rfl)
theorem Cq398 : leafP cT C398 := cdP.of Tryz.func398 (by kernel_rfl)
theorem Cq399 : leafP cT C399 := cdP.of Tryz.func399 (by kernel_rfl)
theorem Cq400 : leafP cT C400 := cdP.of Tryz.func400 (by kernel_rfl)
theorem Cq401 : leafP cT C401 := cdP.of Tryz.func401 (by kernel_rfl)
theorem Cq402 : leafP cT C402 := cdP.of Tryz.func402 (by kernel_rfl)
theorem Cq403 : leafP cT C403 := cdP.of Tryz.func403 (by kernel_rfl)
theorem Cq404 : leafP cT C404 := cdP.of Tryz.func404 (by kernel_rfl)
theorem Cq405 : leafP cT C405 := cdP.of Tryz.func405 (by kernel_rfl)
theorem Cq406 : leafP cT C406 := cdP.of Tryz.func406 (by kernel_rfl)
theorem Cq407 : leafP cT C407 := cdP.of Tryz.func407 (by kernel_rfl)
theorem Cq408 : leafP cT C408 := cdP.of Tryz.func408 (by kernel_rfl)
theorem Cq409 : leafP cT C409 := cdP.of Tryz.func409 (by kernel_rfl)
theorem Cq410 : leafP cT C410 := cdP.of Tryz.func410 (by kernel_rfl)
theorem Cq411 : leafP cT C411 := cdP.of Tryz.func411 (by kernel_rfl)
theorem Cq412 : leafP cT C412 := cdP.of Tryz.func412 (by kernel_rfl)
theorem Cq413 : leafP cT C413 := cdP.of Tryz.func413 (by kernel_rfl)
theorem Cq414 : leafP cT C414 := cdP.of Tryz.func414 (by kernel_rfl)
theorem Cq415 : leafP cT C415 := cdP.of Tryz.func415 (by kernel_rfl)
theorem Cq416 : leafP cT C416 := cdP.of Tryz.func416 (by kernel_rfl)
theorem Cq417 : leafP cT C417 := cdP.of Tryz.func417 (by kernel_rfl)
theorem Cq418 : leafP cT C418 := cdP.of Tryz.func418 (by kernel_rfl)
theorem Cq419 : leafP cT C419 := cdP.of Tryz.func419 (by kernel_rfl)
theorem Cq420 : leafP cT C420 := cdP.of Tryz.func420 (by kernel_rfl)
theorem Cq421 : leafP cT C421 := cdP.of Tryz.func421 (by kernel_rfl)
theorem Cq422 : leafP cT C422 := cdP.of Tryz.func422 (by kernel_rfl)
theorem Cq423 : leafP cT C423 := cdP.of Tryz.func423 (by kernel_rfl)
theorem Cq424 : leafP cT C424 := cdP.of Tryz.func424 (by kernel_rfl)
theorem Cq425 : leafP cT C425 := cdP.of Tryz.func425 (by kernel_rfl)
theorem Cq426 : leafP cT C426 := cdP.of Tryz.func426 (by kernel_rfl)
theorem Cq427 : leafP cT C427 := cdP.of Tryz.func427 (by kernel_rfl)
theorem Cq428 : leafP cT C428 := cdP.of Tryz.func428 (by kernel_rfl)
theorem Cq429 : leafP cT C429 := cdP.of Tryz.func429 (by kernel_rfl)
theorem Cq430 : leafP cT C430 := cdP.of Tryz.func430 (by kernel_rfl)
theorem Cq431 : leafP cT C431 := cdP.of Tryz.func431 (by kernel_rfl)
theorem Cq432 : leafP cT C432 := cdP.of Tryz.func432 (by kernel_rfl)
theorem Cq433 : leafP cT C433 := cdP.of Tryz.func433 (by kernel_rfl)
theorem Cq434 : leafP cT C434 := cdP.of Tryz.func434 (by kernel_rfl)
theorem Cq435 : leafP cT C435 := cdP.of Tryz.func435 (by kernel_rfl)
theorem Cq436 : leafP cT C436 := cdP.of Tryz.func436 (by kernel_rfl)
theorem Cq437 : leafP cT C437 := cdP.of Tryz.func437 (by kernel_rfl)
theorem Cq438 : leafP cT C438 := cdP.of Tryz.func438 (by kernel_rfl)
theorem Cq439 : leafP cT C439 := cdP.of Tryz.func439 (by kernel_rfl)
theorem Cq440 : leafP cT C440 := cdP.of Tryz.func440 (by kernel_rfl)
theorem Cq441 : leafP cT C441 := cdP.of Tryz.func441 (by kernel_rfl)
theorem Cq442 : leafP cT C442 := cdP.of Tryz.func442 (by kernel_rfl)
theorem Cq443 : leafP cT C443 := cdP.of Tryz.func443 (by kernel_rfl)
theorem Cq444 : leafP cT C444 := cdP.of Tryz.func444 (by kernel_rfl)
theorem Cq445 : leafP cT C445 := cdP.of Tryz.func445 (by kernel_rfl)
theorem Cq446 : leafP cT C446 := cdP.of Tryz.func446 (by kernel_rfl)
theorem Cq447 : leafP cT C447 := cdP.of Tryz.func447 (by kernel_rfl)
theorem Cq448 : leafP cT C448 := cdP.of Tryz.func448 (by kernel_rfl)
theorem Cq449 : leafP cT C449 := cdP.of Tryz.func449 (by kernel_rfl)
theorem Cq450 : leafP cT C450 := cdP.of Tryz.func450 (by kernel_rfl)
theorem Cq451 : leafP cT C451 := cdP.of Tryz.func451 (by kernel_rfl)
theorem Cq452 : leafP cT C452 := cdP.of Tryz.func452 (by kernel_rfl)
theorem Cq453 : leafP cT C453 := cdP.of Tryz.func453 (by kernel_rfl)
theorem Cq454 : leafP cT C454 := cdP.of Tryz.func454 (by kernel_rfl)
theorem Cq455 : leafP cT C455 := cdP.of Tryz.func455 (by kernel_rfl)
theorem Cq456 : leafP cT C456 := cdP.of Tryz.func456 (by kernel_rfl)
theorem Cq457 : leafP cT C457 := cdP.of Tryz.func457 (by kernel_rfl)
theorem Cq458 : leafP cT C458 := cdP.of Tryz.func458 (by kernel_rfl)
theorem Cq459 : leafP cT C459 := cdP.of Tryz.func459 (by kernel_rfl)
theorem Cq460 : leafP cT C460 := cdP.of Tryz.func460 (by kernel_rfl)
theorem Cq461 : leafP cT C461 := cdP.of Tryz.func461 (by kernel_rfl)
theorem Cq462 : leafP cT C462 := cdP.of Tryz.func462 (by kernel_rfl)
theorem Cq463 : leafP cT C463 := cdP.of Tryz.func463 (by kernel_rfl)
theorem Cq464 : leafP cT C464 := cdP.of Tryz.func464 (by kernel_rfl)
theorem Cq465 : leafP cT C465 := cdP.of Tryz.func465 (by kernel_rfl)
theorem Cq466 : leafP cT C466 := cdP.of Tryz.func466 (by kernel_rfl)
theorem Cq467 : leafP cT C467 := cdP.of Tryz.func467 (by kernel_rfl)
theorem Cq468 : leafP cT C468 := cdP.of Tryz.func468 (by kernel_rfl)
theorem Cq469 : leafP cT C469 := cdP.of Tryz.func469 (by kernel_rfl)
theorem Cq470 : leafP cT C470 := cdP.of Tryz.func470 (by kernel_rfl)
theorem Cq471 : leafP cT C471 := cdP.of Tryz.func471 (by kernel_rfl)
theorem Cq472 : leafP cT C472 := cdP.of Tryz.func472 (by kernel_rfl)
theorem Cq473 : leafP cT C473 := cdP.of Tryz.func473 (by kernel_rfl)
theorem Cq474 : leafP cT C474 := cdP.of Tryz.func474 (by kernel_rfl)
theorem Cq475 : leafP cT C475 := cdP.of Tryz.func475 (by kernel_rfl)
theorem Cq476 : leafP cT C476 := cdP.of Tryz.func476 (by kernel_rfl)
theorem Cq477 : leafP cT C477 := cdP.of Tryz.func477 (by kernel_rfl)
theorem Cq478 : leafP cT C478 := cdP.of Tryz.func478 (by kernel_rfl)
theorem Cq479 : leafP cT C479 := cdP.of Tryz.func479 (by kernel_rfl)
theorem Cq480 : leafP cT C480 := cdP.of Tryz.func480 (by kernel_rfl)
theorem Cq481 : leafP cT C481 := cdP.of Tryz.func481 (by kernel_rfl)
theorem Cq482 : leafP cT C482 := cdP.of Tryz.func482 (by kernel_rfl)
theorem Cq483 : leafP cT C483 := cdP.of Tryz.func483 (by kernel_rfl)
theorem Cq484 : leafP cT C484 := cdP.of Tryz.func484 (by kernel_rfl)
theorem Cq485 : leafP cT C485 := cdP.of Tryz.func485 (by kernel_rfl)
theorem Cq486 : leafP cT C486 := cdP.of Tryz.func486 (by kernel_rfl)
theorem Cq487 : leafP cT C487 := cdP.of Tryz.func487 (by kernel_rfl)
theorem Cq488 : leafP cT C488 := cdP.of Tryz.func488 (by kernel_rfl)
theorem Cq489 : leafP cT C489 := cdP.of Tryz.func489 (by kernel_rfl)
theorem Cq490 : leafP cT C490 := cdP.of Tryz.func490 (by kernel_rfl)
theorem Cq491 : leafP cT C491 := cdP.of Tryz.func491 (by kernel_rfl)
theorem Cq492 : leafP cT C492 := cdP.of Tryz.func492 (by kernel_rfl)
theorem Cq493 : leafP cT C493 := cdP.of Tryz.func493 (by kernel_rfl)
theorem Cq494 : leafP cT C494 := cdP.of Tryz.func494 (by kernel_rfl)
theorem Cq495 : leafP cT C495 := cdP.of Tryz.func495 (by kernel_rfl)
theorem Cq496 : leafP cT C496 := cdP.of Tryz.func496 (by kernel_rfl)
theorem Cq497 : leafP cT C497 := cdP.of Tryz.func497 (by kernel_rfl)
theorem Cq498 : leafP cT C498 := cdP.of Tryz.func498 (by kernel_rfl)
theorem Cq499 : leafP cT C499 := cdP.of Tryz.func499 (by kernel_rfl)
theorem Cq500 : leafP cT C500 := cdP.of Tryz.func500 (by kernel_rfl)
theorem Cq501 : leafP cT C501 := cdP.of Tryz.func501 (by kernel_rfl)
theorem Cq502 : leafP cT C502 := cdP.of Tryz.func502 (by kernel_rfl)
theorem Cq503 : leafP cT C503 := cdP.of Tryz.func503 (by kernel_rfl)
theorem Cq504 : leafP cT C504 := cdP.of Tryz.func504 (by kernel_rfl)
theorem Cq505 : leafP cT C505 := cdP.of Tryz.func505 (by kernel_rfl)
theorem Cq506 : leafP cT C506 := cdP.of Tryz.func506 (by kernel_rfl)
theorem Cq507 : leafP cT C507 := cdP.of Tryz.func507 (by kernel_rfl)
theorem Cq508 : leafP cT C508 := cdP.of Tryz.func508 (by kernel_rfl)
theorem Cq509 : leafP cT C509 := cdP.of Tryz.func509 (by kernel_rfl)
theorem Cq510 : leafP cT C510 := cdP.of Tryz.func510 (by kernel_rfl)
theorem Cq511 : leafP cT C511 := cdP.of Tryz.func511 (by kernel_rfl)
theorem Cq512 : leafP cT C512 := cdP.of Tryz.func512 (by kernel_rfl)
theorem Cq513 : leafP cT C513 := cdP.of Tryz.func513 (by kernel_rfl)
theorem Cq514 : leafP cT C514 := cdP.of Tryz.func514 (by kernel_rfl)
theorem Cq515 : leafP cT C515 := cdP.of Tryz.func515 (by kernel_rfl)
theorem Cq516 : leafP cT C516 := cdP.of Tryz.func516 (by kernel_rfl)
theorem Cq517 : leafP cT C517 := cdP.of Tryz.func517 (by kernel_rfl)
theorem Cq518 : leafP cT C518 := cdP.of Tryz.func518 (by kernel_rfl)
theorem Cq519 : leafP cT C519 := cdP.of Tryz.func519 (by kernel_rfl)
theorem Cq520 : leafP cT C520 := cdP.of Tryz.func520 (by kernel_rfl)
theorem Cq521 : leafP cT C521 := cdP.of Tryz.func521 (by kernel_rfl)
theorem Cq522 : leafP cT C522 := cdP.of Tryz.func522 (by kernel_rfl)
theorem Cq523 : leafP cT C523 := cdP.of Tryz.func523 (by kernel_rfl)
theorem Cq524 : leafP cT C524 := cdP.of Tryz.func524 (by kernel_rfl)
theorem Cq525 : leafP cT C525 := cdP.of Tryz.func525 (by kernel_rfl)
theorem Cq526 : leafP cT C526 := cdP.of Tryz.func526 (by kernel_rfl)
theorem Cq527 : leafP cT C527 := cdP.of Tryz.func527 (by kernel_rfl)
theorem Cq528 : leafP cT C528 := cdP.of Tryz.func528 (by kernel_rfl)
theorem Cq529 : leafP cT C529 := cdP.of Tryz.func529 (by kernel_rfl)
theorem Cq530 : leafP cT C530 := cdP.of Tryz.func530 (by kernel_rfl)
theorem Cq531 : leafP cT C531 := cdP.of Tryz.func531 (by kernel_rfl)
theorem Cq532 : leafP cT C532 := cdP.of Tryz.func532 (by kernel_rfl)
theorem Cq533 : leafP cT C533 := cdP.of Tryz.func533 (by kernel_rfl)
theorem Cq534 : leafP cT C534 := cdP.of Tryz.func534 (by kernel_rfl)
theorem Cq535 : leafP cT C535 := cdP.of Tryz.func535 (by kernel_rfl)
theorem Cq536 : leafP cT C536 := cdP.of Tryz.func536 (by kernel_rfl)
theorem Cq537 : leafP cT C537 := cdP.of Tryz.func537 (by kernel_rfl)
theorem Cq538 : leafP cT C538 := cdP.of Tryz.func538 (by kernel_rfl)
theorem Cq539 : leafP cT C539 := cdP.of Tryz.func539 (by kernel_rfl)
theorem Cq540 : leafP cT C540 := cdP.of Tryz.func540 (by kernel_rfl)
theorem Cq541 : leafP cT C541 := cdP.of Tryz.func541 (by kernel_rfl)
theorem Cq542 : leafP cT C542 := cdP.of Tryz.func542 (by kernel_rfl)
theorem Cq543 : leafP cT C543 := cdP.of Tryz.func543 (by kernel_rfl)
theorem Cq544 : leafP cT C544 := cdP.of Tryz.func544 (by kernel_rfl)
theorem Cq545 : leafP cT C545 := cdP.of Tryz.func545 (by kernel_rfl)
theorem Cq546 : leafP cT C546 := cdP.of Tryz.func546 (by kernel_rfl)
theorem Cq547 : leafP cT C547 := cdP.of Tryz.func547 (by kernel_rfl)
theorem Cq548 : leafP cT C548 := cdP.of Tryz.func548 (by kernel_rfl)
theorem Cq549 : leafP cT C549 := cdP.of Tryz.func549 (by kernel_rfl)
theorem Cq550 : leafP cT C550 := cdP.of Tryz.func550 (by kernel_rfl)
theorem Cq551 : leafP cT C551 := cdP.of Tryz.func551 (by kernel_rfl)
theorem Cq552 : leafP cT C552 := cdP.of Tryz.func552 (by kernel_rfl)
theorem Cq553 : leafP cT C553 := cdP.of Tryz.func553 (by kernel_rfl)
theorem Cq554 : leafP cT C554 := cdP.of Tryz.func554 (by kernel_rfl)
theorem Cq555 : leafP cT C555 := cdP.of Tryz.func555 (by kernel_rfl)
theorem Cq556 : leafP cT C556 := cdP.of Tryz.func556 (by kernel_rfl)
theorem Cq557 : leafP cT C557 := cdP.of Tryz.func557 (by kernel_rfl)
theorem Cq558 : leafP cT C558 := cdP.of Tryz.func558 (by kernel_rfl)
theorem Cq559 : leafP cT C559 := cdP.of Tryz.func559 (by kernel_rfl)
theorem Cq560 : leafP cT C560 := cdP.of Tryz.func560 (by kernel_rfl)
theorem Cq561 : leafP cT C561 := cdP.of Tryz.func561 (by kernel_rfl)
theorem Cq562 : leafP cT C562 := cdP.of Tryz.func562 (by kernel_rfl)
theorem Cq563 : leafP cT C563 := cdP.of Tryz.func563 (by kernel_rfl)
theorem Cq564 : leafP cT C564 := cdP.of Tryz.func564 (by kernel_rfl)
theorem Cq565 : leafP cT C565 := cdP.of Tryz.func565 (by kernel_rfl)
theorem Cq566 : leafP cT C566 := cdP.of Tryz.func566 (by kernel_rfl)
theorem Cq567 : leafP cT C567 := cdP.of Tryz.func567 (by kernel_rfl)
theorem Cq568 : leafP cT C568 := cdP.of Tryz.func568 (by kernel_rfl)
theorem Cq569 : leafP cT C569 := cdP.of Tryz.func569 (by kernel_rfl)
theorem Cq570 : leafP cT C570 := cdP.of Tryz.func570 (by kernel_rfl)
theorem Cq571 : leafP cT C571 := cdP.of Tryz.func571 (by kernel_rfl)
theorem Cq572 : leafP cT C572 := cdP.of Tryz.func572 (by kernel_rfl)
theorem Cq573 : leafP cT C573 := cdP.of Tryz.func573 (by kernel_rfl)
theorem Cq574 : leafP cT C574 := cdP.of Tryz.func574 (by kernel_rfl)
theorem Cq575 : leafP cT C575 := cdP.of Tryz.func575 (by kernel_rfl)
theorem Cq576 : leafP cT C576 := cdP.of Tryz.func576 (by kernel_rfl)
theorem Cq577 : leafP cT C577 := cdP.of Tryz.func577 (by kernel_rfl)
theorem Cq578 : leafP cT C578 := cdP.of Tryz.func578 (by kernel_rfl)
theorem Cq579 : leafP cT C579 := cdP.of Tryz.func579 (by kernel_rfl)
theorem Cq580 : leafP cT C580 := cdP.of Tryz.func580 (by kernel_rfl)
theorem Cq581 : leafP cT C581 := cdP.of Tryz.func581 (by kernel_rfl)
theorem Cq582 : leafP cT C582 := cdP.of Tryz.func582 (by kernel_rfl)
theorem Cq583 : leafP cT C583 := cdP.of Tryz.func583 (by kernel_rfl)
theorem Cq584 : leafP cT C584 := cdP.of Tryz.func584 (by kernel_rfl)
theorem Cq585 : leafP cT C585 := cdP.of Tryz.func585 (by kernel_rfl)
theorem Cq586 : leafP cT C586 := cdP.of Tryz.func586 (by kernel_rfl)
theorem Cq587 : leafP cT C587 := cdP.of Tryz.func587 (by kernel_rfl)
theorem Cq588 : leafP cT C588 := cdP.of Tryz.func588 (by kernel_rfl)
theorem Cq589 : leafP cT C589 := cdP.of Tryz.func589 (by kernel_rfl)
theorem Cq590 : leafP cT C590 := cdP.of Tryz.func590 (by kernel_rfl)
theorem Cq591 : leafP cT C591 := cdP.of Tryz.func591 (by kernel_rfl)
theorem Cq592 : leafP cT C592 := cdP.of Tryz.func592 (by kernel_rfl)
theorem Cq593 : leafP cT C593 := cdP.of Tryz.func593 (by kernel_rfl)
theorem Cq594 : leafP cT C594 := cdP.of Tryz.func594 (by kernel_rfl)
theorem Cq595 : leafP cT C595 := cdP.of Tryz.func595 (by kernel_rfl)
theorem Cq596 : leafP cT C596 := cdP.of Tryz.func596 (by kernel_rfl)
theorem Cq597 : leafP cT C597 := cdP.of Tryz.func597 (by kernel_rfl)
theorem Cq598 : leafP cT C598 := cdP.of Tryz.func598 (by kernel_rfl)
theorem Cq599 : leafP cT C599 := cdP.of Tryz.func599 (by kernel_rfl)
theorem Cq600 : leafP cT C600 := cdP.of Tryz.func600 (by kernel_rfl)
theorem Cq601 : leafP cT C601 := cdP.of Tryz.func601 (by kernel_rfl)
theorem Cq602 : leafP cT C602 := cdP.of Tryz.func602 (by kernel_rfl)
theorem Cq603 : leafP cT C603 := cdP.of Tryz.func603 (by kernel_rfl)
theorem Cq604 : leafP cT C604 := cdP.of Tryz.func604 (by kernel_rfl)
theorem Cq605 : leafP cT C605 := cdP.of Tryz.func605 (by kernel_rfl)
theorem Cq606 : leafP cT C606 := cdP.of Tryz.func606 (by kernel_rfl)
theorem Cq607 : leafP cT C607 := cdP.of Tryz.func607 (by kernel_rfl)
theorem Cq608 : leafP cT C608 := cdP.of Tryz.func608 (by kernel_rfl)
theorem Cq609 : leafP cT C609 := cdP.of Tryz.func609 (by kernel_rfl)
theorem Cq610 : leafP cT C610 := cdP.of Tryz.func610 (by kernel_rfl)
theorem Cq611 : leafP cT C611 := cdP.of Tryz.func611 (by kernel_rfl)
theorem Cq612 : leafP cT C612 := cdP.of Tryz.func612 (by kernel_rfl)
theorem Cq613 : leafP cT C613 := cdP.of Tryz.func613 (by kernel_rfl)
theorem Cq614 : leafP cT C614 := cdP.of Tryz.func614 (by kernel_rfl)
theorem Cq615 : leafP cT C615 := cdP.of Tryz.func615 (by kernel_rfl)
theorem Cq616 : leafP cT C616 := cdP.of Tryz.func616 (by kernel_rfl)
theorem Cq617 : leafP cT C617 := cdP.of Tryz.func617 (by kernel_rfl)
theorem Cq618 : leafP cT C618 := cdP.of Tryz.func618 (by kernel_rfl)
theorem Cq619 : leafP cT C619 := cdP.of Tryz.func619 (by kernel_rfl)
theorem Cq620 : leafP cT C620 := cdP.of Tryz.func620 (by kernel_rfl)
theorem Cq621 : leafP cT C621 := cdP.of Tryz.func621 (by kernel_rfl)
theorem Cq622 : leafP cT C622 := cdP.of Tryz.func622 (by kernel_rfl)
theorem Cq623 : leafP cT C623 := cdP.of Tryz.func623 (by kernel_rfl)
theorem Cq624 : leafP cT C624 := cdP.of Tryz.func624 (by kernel_rfl)
theorem Cq625 : leafP cT C625 := cdP.of Tryz.func625 (by kernel_rfl)
theorem Cq626 : leafP cT C626 := cdP.of Tryz.func626 (by kernel_rfl)
theorem Cq627 : leafP cT C627 := cdP.of Tryz.func627 (by kernel_rfl)
theorem Cq628 : leafP cT C628 := cdP.of Tryz.func628 (by kernel_rfl)
theorem Cq629 : leafP cT C629 := cdP.of Tryz.func629 (by kernel_rfl)
theorem Cq630 : leafP cT C630 := cdP.of Tryz.func630 (by kernel_rfl)
theorem Cq631 : leafP cT C631 := cdP.of Tryz.func631 (by kernel_rfl)
theorem Cq632 : leafP cT C632 := cdP.of Tryz.func632 (by kernel_rfl)
theorem Cq633 : leafP cT C633 := cdP.of Tryz.func633 (by kernel_rfl)
theorem Cq634 : leafP cT C634 := cdP.of Tryz.func634 (by kernel_rfl)
theorem Cq635 : leafP cT C635 := cdP.of Tryz.func635 (by kernel_rfl)
theorem Cq636 : leafP cT C636 := cdP.of Tryz.func636 (by kernel_rfl)
theorem Cq637 : leafP cT C637 := cdP.of Tryz.func637 (by kernel_rfl)
theorem Cq638 : leafP cT C638 := cdP.of Tryz.func638 (by kernel_rfl)
theorem Cq639 : leafP cT C639 := cdP.of Tryz.func639 (by kernel_rfl)
theorem Cq640 : leafP cT C640 := cdP.of Tryz.func640 (by kernel_rfl)
theorem Cq641 : leafP cT C641 := cdP.of Tryz.func641 (by kernel_rfl)
theorem Cq642 : leafP cT C642 := cdP.of Tryz.func642 (by kernel_rfl)
theorem Cq643 : leafP cT C643 := cdP.of Tryz.func643 (by kernel_rfl)
theorem Cq644 : leafP cT C644 := cdP.of Tryz.func644 (by kernel_rfl)
theorem Cq645 : leafP cT C645 := cdP.of Tryz.func645 (by kernel_rfl)
theorem Cq646 : leafP cT C646 := cdP.of Tryz.func646 (by kernel_rfl)
theorem Cq647 : leafP cT C647 := cdP.of Tryz.func647 (by kernel_rfl)
theorem Cq648 : leafP cT C648 := cdP.of Tryz.func648 (by kernel_rfl)
theorem Cq649 : leafP cT C649 := cdP.of Tryz.func649 (by kernel_rfl)
theorem Cq650 : leafP cT C650 := cdP.of Tryz.func650 (by kernel_rfl)
theorem Cq651 : leafP cT C651 := cdP.of Tryz.func651 (by kernel_rfl)
theorem Cq652 : leafP cT C652 := cdP.of Tryz.func652 (by kernel_rfl)
theorem Cq653 : leafP cT C653 := cdP.of Tryz.func653 (by kernel_rfl)
theorem Cq654 : leafP cT C654 := cdP.of Tryz.func654 (by kernel_rfl)
theorem Cq655 : leafP cT C655 := cdP.of Tryz.func655 (by kernel_rfl)
theorem Cq656 : leafP cT C656 := cdP.of Tryz.func656 (by kernel_rfl)
theorem Cq657 : leafP cT C657 := cdP.of Tryz.func657 (by kernel_rfl)
theorem Cq658 : leafP cT C658 := cdP.of Tryz.func658 (by kernel_rfl)
theorem Cq659 : leafP cT C659 := cdP.of Tryz.func659 (by kernel_rfl)
theorem Cq660 : leafP cT C660 := cdP.of Tryz.func660 (by kernel_rfl)
theorem Cq661 : leafP cT C661 := cdP.of Tryz.func661 (by kernel_rfl)
theorem Cq662 : leafP cT C662 := cdP.of Tryz.func662 (by kernel_rfl)
theorem Cq663 : leafP cT C663 := cdP.of Tryz.func663 (by kernel_rfl)
theorem Cq664 : leafP cT C664 := cdP.of Tryz.func664 (by kernel_rfl)
theorem Cq665 : leafP cT C665 := cdP.of Tryz.func665 (by kernel_rfl)
theorem Cq666 : leafP cT C666 := cdP.of Tryz.func666 (by kernel_rfl)
theorem Cq667 : leafP cT C667 := cdP.of Tryz.func667 (by kernel_rfl)
theorem Cq668 : leafP cT C668 := cdP.of Tryz.func668 (by kernel_rfl)
theorem Cq669 : leafP cT C669 := cdP.of Tryz.func669 (by kernel_rfl)
theorem Cq670 : leafP cT C670 := cdP.of Tryz.func670 (by kernel_rfl)
theorem Cq671 : leafP cT C671 := cdP.of Tryz.func671 (by kernel_rfl)
theorem Cq672 : leafP cT C672 := cdP.of Tryz.func672 (by kernel_rfl)
theorem Cq673 : leafP cT C673 := cdP.of Tryz.func673 (by kernel_rfl)
theorem Cq674 : leafP cT C674 := cdP.of Tryz.func674 (by kernel_rfl)
theorem Cq675 : leafP cT C675 := cdP.of Tryz.func675 (by kernel_rfl)
theorem Cq676 : leafP cT C676 := cdP.of Tryz.func676 (by kernel_rfl)
theorem Cq677 : leafP cT C677 := cdP.of Tryz.func677 (by kernel_rfl)
theorem Cq678 : leafP cT C678 := cdP.of Tryz.func678 (by kernel_rfl)
theorem Cq679 : leafP cT C679 := cdP.of Tryz.func679 (by kernel_rfl)
theorem Cq680 : leafP cT C680 := cdP.of Tryz.func680 (by kernel_rfl)
theorem Cq681 : leafP cT C681 := cdP.of Tryz.func681 (by kernel_rfl)
theorem Cq682 : leafP cT C682 := cdP.of Tryz.func682 (by kernel_rfl)
theorem Cq683 : leafP cT C683 := cdP.of Tryz.func683 (by kernel_rfl)
theorem Cq684 : leafP cT C684 := cdP.of Tryz.func684 (by kernel_rfl)
theorem Cqz1 : N8.All (leafP cT) Cz1 := allz trivial
theorem Cqz2 : N8.All (N8.All (leafP cT)) Cz2 := allz Cqz1
theorem Cqz3 : N8.All (N8.All (N8.All (leafP cT))) Cz3 := allz Cqz2
theorem Cqz4 : N8.All (N8.All (N8.All (N8.All (leafP cT)))) Cz4 := allz Cqz3
theorem Call : N8.All (N8.All (N8.All (N8.All (leafP cT)))) Ct := ⟨⟨⟨⟨trivial, trivial, trivial, Cq3, Cq4, Cq5, Cq6, Cq7⟩, ⟨Cq8, Cq9, Cq10, Cq11, Cq12, Cq13, Cq14, Cq15⟩, ⟨Cq16, Cq17, Cq18, Cq19, Cq20, Cq21, Cq22, Cq23⟩, ⟨Cq24, Cq25, Cq26, Cq27, Cq28, Cq29, Cq30, Cq31⟩, ⟨Cq32, Cq33, Cq34, Cq35, Cq36, Cq37, Cq38, Cq39⟩, ⟨Cq40, Cq41, Cq42, Cq43, Cq44, Cq45, Cq46, Cq47⟩, ⟨Cq48, Cq49, Cq50, Cq51, Cq52, Cq53, Cq54, Cq55⟩, ⟨Cq56, Cq57, Cq58, Cq59, Cq60, Cq61, Cq62, Cq63⟩⟩, ⟨⟨Cq64, Cq65, Cq66, Cq67, Cq68, Cq69, Cq70, Cq71⟩, ⟨Cq72, Cq73, Cq74, Cq75, Cq76, Cq77, Cq78, Cq79⟩, ⟨Cq80, Cq81, Cq82, Cq83, Cq84, Cq85, Cq86, Cq87⟩, ⟨Cq88, Cq89, Cq90, Cq91, Cq92, Cq93, Cq94, Cq95⟩, ⟨Cq96, Cq97, Cq98, Cq99, Cq100, Cq101, Cq102, Cq103⟩, ⟨Cq104, Cq105, Cq106, Cq107, Cq108, Cq109, Cq110, Cq111⟩, ⟨Cq112, Cq113, Cq114, Cq115, Cq116, Cq117, Cq118, Cq119⟩, ⟨Cq120, Cq121, Cq122, Cq123, Cq124, Cq125, Cq126, Cq127⟩⟩, ⟨⟨Cq128, Cq129, Cq130, Cq131, Cq132, Cq133, Cq134, Cq135⟩, ⟨Cq136, Cq137, Cq138, Cq139, Cq140, Cq141, Cq142, Cq143⟩, ⟨Cq144, Cq145, Cq146, Cq147, Cq148, Cq149, Cq150, Cq151⟩, ⟨Cq152, Cq153, Cq154, Cq155, Cq156, Cq157, Cq158, Cq159⟩, ⟨Cq160, Cq161, Cq162, Cq163, Cq164, Cq165, Cq166, Cq167⟩, ⟨Cq168, Cq169, Cq170, Cq171, Cq172, Cq173, Cq174, Cq175⟩, ⟨Cq176, Cq177, Cq178, Cq179, Cq180, Cq181, Cq182, Cq183⟩, ⟨Cq184, Cq185, Cq186, Cq187, Cq188, Cq189, Cq190, Cq191⟩⟩, ⟨⟨Cq192, Cq193, Cq194, Cq195, Cq196, Cq197, Cq198, Cq199⟩, ⟨Cq200, Cq201, Cq202, Cq203, Cq204, Cq205, Cq206, Cq207⟩, ⟨Cq208, Cq209, Cq210, Cq211, Cq212, Cq213, Cq214, Cq215⟩, ⟨Cq216, Cq217, Cq218, Cq219, Cq220, Cq221, Cq222, Cq223⟩, ⟨Cq224, Cq225, Cq226, Cq227, Cq228, Cq229, Cq230, Cq231⟩, ⟨Cq232, Cq233, Cq234, Cq235, Cq236, Cq237, Cq238, Cq239⟩, ⟨Cq240, Cq241, Cq242, Cq243, Cq244, Cq245, Cq246, Cq247⟩, ⟨Cq248, Cq249, Cq250, Cq251, Cq252, Cq253, Cq254, Cq255⟩⟩, ⟨⟨Cq256, Cq257, Cq258, Cq259, Cq260, Cq261, Cq262, Cq263⟩, ⟨Cq264, Cq265, Cq266, Cq267, Cq268, Cq269, Cq270, Cq271⟩, ⟨Cq272, Cq273, Cq274, Cq275, Cq276, Cq277, Cq278, Cq279⟩, ⟨Cq280, Cq281, Cq282, Cq283, Cq284, Cq285, Cq286, Cq287⟩, ⟨Cq288, Cq289, Cq290, Cq291, Cq292, Cq293, Cq294, Cq295⟩, ⟨Cq296, Cq297, Cq298, Cq299, Cq300, Cq301, Cq302, Cq303⟩, ⟨Cq304, Cq305, Cq306, Cq307, Cq308, Cq309, Cq310, Cq311⟩, ⟨Cq312, Cq313, Cq314, Cq315, Cq316, Cq317, Cq318, Cq319⟩⟩, ⟨⟨Cq320, Cq321, Cq322, Cq323, Cq324, Cq325, Cq326, Cq327⟩, ⟨Cq328, Cq329, Cq330, Cq331, Cq332, Cq333, Cq334, Cq335⟩, ⟨Cq336, Cq337, Cq338, Cq339, Cq340, Cq341, Cq342, Cq343⟩, ⟨Cq344, Cq345, Cq346, Cq347, Cq348, Cq349, Cq350, Cq351⟩, ⟨Cq352, Cq353, Cq354, Cq355, Cq356, Cq357, Cq358, Cq359⟩, ⟨Cq360, Cq361, Cq362, Cq363, Cq364, Cq365, Cq366, Cq367⟩, ⟨Cq368, Cq369, Cq370, Cq371, Cq372, Cq373, Cq374, Cq375⟩, ⟨Cq376, Cq377, Cq378, Cq379, Cq380, Cq381, Cq382, Cq383⟩⟩, ⟨⟨Cq384, Cq385, Cq386, Cq387, Cq388, Cq389, Cq390, Cq391⟩, ⟨Cq392, Cq393, Cq394, Cq395, Cq396, Cq397, Cq398, Cq399⟩, ⟨Cq400, Cq401, Cq402, Cq403, Cq404, Cq405, Cq406, Cq407⟩, ⟨Cq408, Cq409, Cq410, Cq411, Cq412, Cq413, Cq414, Cq415⟩, ⟨Cq416, Cq417, Cq418, Cq419, Cq420, Cq421, Cq422, Cq423⟩, ⟨Cq424, Cq425, Cq426, Cq427, Cq428, Cq429, Cq430, Cq431⟩, ⟨Cq432, Cq433, Cq434, Cq435, Cq436, Cq437, Cq438, Cq439⟩, ⟨Cq440, Cq441, Cq442, Cq443, Cq444, Cq445, Cq446, Cq447⟩⟩, ⟨⟨Cq448, Cq449, Cq450, Cq451, Cq452, Cq453, Cq454, Cq455⟩, ⟨Cq456, Cq457, Cq458, Cq459, Cq460, Cq461, Cq462, Cq463⟩, ⟨Cq464, Cq465, Cq466, Cq467, Cq468, Cq469, Cq470, Cq471⟩, ⟨Cq472, Cq473, Cq474, Cq475, Cq476, Cq477, Cq478, Cq479⟩, ⟨Cq480, Cq481, Cq482, Cq483, Cq484, Cq485, Cq486, Cq487⟩, ⟨Cq488, Cq489, Cq490, Cq491, Cq492, Cq493, Cq494, Cq495⟩, ⟨Cq496, Cq497, Cq498, Cq499, Cq500, Cq501, Cq502, Cq503⟩, ⟨Cq504, Cq505, Cq506, Cq507, Cq508, Cq509, Cq510, Cq511⟩⟩⟩, ⟨⟨⟨Cq512, Cq513, Cq514, Cq515, Cq516, Cq517, Cq518, Cq519⟩, ⟨Cq520, Cq521, Cq522, Cq523, Cq524, Cq525, Cq526, Cq527⟩, ⟨Cq528, Cq529, Cq530, Cq531, Cq532, Cq533, Cq534, Cq535⟩, ⟨Cq536, Cq537, Cq538, Cq539, Cq540, Cq541, Cq542, Cq543⟩, ⟨Cq544, Cq545, Cq546, Cq547, Cq548, Cq549, Cq550, Cq551⟩, ⟨Cq552, Cq553, Cq554, Cq555, Cq556, Cq557, Cq558, Cq559⟩, ⟨Cq560, Cq561, Cq562, Cq563, Cq564, Cq565, Cq566, Cq567⟩, ⟨Cq568, Cq569, Cq570, Cq571, Cq572, Cq573, Cq574, Cq575⟩⟩, ⟨⟨Cq576, Cq577, Cq578, Cq579, Cq580, Cq581, Cq582, Cq583⟩, ⟨Cq584, Cq585, Cq586, Cq587, Cq588, Cq589, Cq590, Cq591⟩, ⟨Cq592, Cq593, Cq594, Cq595, Cq596, Cq597, Cq598, Cq599⟩, ⟨Cq600, Cq601, Cq602, Cq603, Cq604, Cq605, Cq606, Cq607⟩, ⟨Cq608, Cq609, Cq610, Cq611, Cq612, Cq613, Cq614, Cq615⟩, ⟨Cq616, Cq617, Cq618, Cq619, Cq620, Cq621, Cq622, Cq623⟩, ⟨Cq624, Cq625, Cq626, Cq627, Cq628, Cq629, Cq630, Cq631⟩, ⟨Cq632, Cq633, Cq634, Cq635, Cq636, Cq637, Cq638, Cq639⟩⟩, ⟨⟨Cq640, Cq641, Cq642, Cq643, Cq644, Cq645, Cq646, Cq647⟩, ⟨Cq648, Cq649, Cq650, Cq651, Cq652, Cq653, Cq654, Cq655⟩, ⟨Cq656, Cq657, Cq658, Cq659, Cq660, Cq661, Cq662, Cq663⟩, ⟨Cq664, Cq665, Cq666, Cq667, Cq668, Cq669, Cq670, Cq671⟩, ⟨Cq672, Cq673, Cq674, Cq675, Cq676, Cq677, Cq678, Cq679⟩, ⟨Cq680, Cq681, Cq682, Cq683, Cq684, trivial, trivial, trivial⟩, Cqz1, Cqz1⟩, Cqz2, Cqz2, Cqz2, Cqz2, Cqz2⟩, Cqz3, Cqz3, Cqz3, Cqz3, Cqz3, Cqz3⟩
theorem tabC_ok : ∀ g d, tabC g = some d → cdP Tryz.prog g d := fun g d h => leafP.of ((((Call.ng _).ng _).ng _).ng _) h
def clL : List Nat := [3, 4, 5, 6, 9, 12, 18, 34, 62, 136, 63, 64, 65, 137, 14, 20, 36, 66, 138, 139, 250, 67, 140, 68, 21, 37, 69, 141, 142, 251, 364, 473, 573, 624, 625, 365, 474, 574, 475, 476, 22, 38, 79, 168, 169, 308, 307, 309, 170, 171, 310, 311, 336, 458, 575, 477, 143, 252, 366, 478, 480, 576, 479, 367, 483, 484, 485, 578, 486, 579, 626, 656, 657, 481, 577, 627, 482, 368, 487, 580, 628, 488, 490, 491, 489, 492, 369, 493, 370, 381, 383, 388, 389, 443, 440, 503, 504, 585, 459, 505, 447, 559, 560, 611, 652, 612, 374, 373, 372, 371, 384, 385, 494, 499, 391, 581, 614, 506, 380, 496, 586, 631, 597, 465, 654, 507, 386, 497, 500, 584, 630, 390, 437, 498, 501, 502, 253, 375, 144, 254, 255, 376, 377, 495, 582, 583, 629, 658, 378, 379, 256, 382, 258, 257, 387, 259, 145, 146, 70, 147, 260, 261, 71, 148, 262, 392, 263, 149, 151, 268, 284, 416, 530, 600, 417, 531, 418, 399, 269, 400, 401, 402, 403, 515, 270, 404, 516, 595, 591, 636, 662, 517, 518, 519, 596, 638, 150, 264, 393, 394, 508, 588, 589, 587, 632, 590, 635, 661, 634, 659, 670, 660, 603, 671, 673, 674, 681, 675, 666, 667, 676, 682, 683, 684, 677, 678, 679, 680, 633, 509, 265, 395, 510, 592, 593, 511, 266, 396, 512, 433, 547, 513, 397, 514, 594, 637, 398, 267, 273, 152, 271, 272, 153, 274, 154, 72, 155, 275, 159, 156, 276, 405, 520, 521, 406, 522, 278, 279, 277, 407, 408, 409, 280, 281, 157, 282, 410, 523, 411, 528, 524, 527, 526, 525, 598, 639, 663, 664, 39, 19, 35, 80, 172, 13, 640, 15, 599, 23, 73, 158, 283, 412, 414, 415, 529, 432, 548, 427, 413, 74, 160, 285, 419, 286, 420, 421, 532, 533, 536, 601, 641, 534, 535, 456, 422, 538, 537, 602, 642, 643, 665, 644, 645, 668, 669, 672, 646, 647, 648, 649, 287, 423, 539, 604, 605, 606, 424, 540, 288, 425, 541, 543, 542, 607, 544, 608, 650, 545, 546, 442, 289, 426, 430, 428, 429, 431, 434, 549, 435, 550, 551, 552, 75, 161, 162, 290, 163, 293, 292, 441, 291, 436, 553, 554, 610, 609, 651, 439, 438, 555, 556, 76, 164, 294, 295, 444, 297, 296, 445, 446, 558, 557, 77, 165, 166, 298, 299, 448, 562, 561, 563, 613, 653, 449, 564, 565, 300, 450, 301, 451, 566, 302, 452, 453, 567, 615, 617, 616, 618, 569, 620, 568, 619, 621, 655, 622, 303, 78, 167, 304, 454, 570, 623, 305, 455, 306, 457, 7, 10, 16, 24, 17, 25, 31, 40, 44, 81, 173, 312, 114, 215, 319, 325, 175, 313, 214, 213, 190, 193, 212, 177, 324, 195, 329, 330, 331, 191, 194, 326, 327, 328, 314, 218, 217, 337, 216, 197, 174, 333, 211, 335, 466, 176, 315, 318, 316, 460, 461, 317, 96, 83, 82, 41, 47, 42, 43, 45, 84, 103, 111, 178, 320, 46, 26, 27, 48, 85, 179, 86, 87, 49, 88, 89, 50, 90, 180, 181, 91, 182, 183, 321, 51, 92, 184, 94, 188, 322, 323, 462, 463, 93, 185, 186, 187, 95, 189, 97, 192, 98, 99, 196, 332, 464, 210, 100, 101, 102, 52, 28, 53, 104, 198, 106, 203, 122, 199, 200, 201, 202, 54, 105, 108, 107, 204, 205, 109, 206, 110, 55, 112, 113, 207, 238, 208, 334, 209, 115, 219, 29, 56, 116, 220, 117, 222, 221, 338, 243, 339, 340, 361, 341, 343, 342, 245, 223, 118, 224, 119, 225, 120, 228, 227, 226, 344, 467, 468, 469, 571, 121, 57, 123, 229, 345, 346, 347, 348, 470, 349, 230, 124, 231, 350, 232, 351, 125, 233, 352, 353, 354, 471, 572, 355, 126, 234, 356, 472, 235, 237, 236, 239, 357, 240, 358, 359, 360, 58, 127, 241, 242, 30, 32, 59, 128, 130, 129, 132, 131, 244, 60, 33, 61, 133, 134, 246, 135, 247, 248, 249, 363, 362, 8, 11]
theorem clL_run : cvK tabC 1904 [3] [] 0 = some clL := by kernel_rfl
theorem clL_fuel : Nat.ble 1904 (Nat.succ (sumK tabC 717 0)) = true := by kernel_rfl
set_option maxRecDepth 100000 in
theorem clL_ok : Tryz.prog.closure 3 = clL ∧ ∀ g, g ∈ clL → ∃ d, tabC g = some d := closure_told tabC_ok clL_run clL_fuel
set_option maxRecDepth 100000 in
theorem c_unf : Tryz.prog.unfollowed 3 = true := unfollowed_told tabC_ok clL_ok.1 (g := 14) (List.contains_iff_mem.1 (show clL.contains 14 = true by kernel_rfl)) (d := ⟨[20, 21, 22, 23], none, true, [], none⟩) rfl rfl
set_option maxRecDepth 100000 in
theorem c_inPlace : Tryz.prog.inPlace 3 = ["internal/bytealg.IndexByteString", "internal/bytealg.IndexString", "internal/bytealg.CountString", "internal/abi.NoEscape", "internal/bytealg.MakeNoZero"] := by
  rw [inPlace_told tabC_ok clL_ok.1 clL_ok.2]; kernel_rfl
set_option maxRecDepth 100000 in
theorem c_named : Tryz.prog.varsNamed 3 = ["internal/bytealg.MaxLen", "unicode/utf8.first", "unicode/utf8.acceptRanges", "strconv.ErrSyntax", "strconv.ErrRange", "internal/strconv.uint64pow10", "math/bits.deBruijn32tab", "math/bits.deBruijn64tab"] := by
  rw [named_told tabC_ok clL_ok.1 clL_ok.2]; kernel_rfl
end
end AM
end
end Go.Proofs.YtejhenloolgmkaaGreatDoor
