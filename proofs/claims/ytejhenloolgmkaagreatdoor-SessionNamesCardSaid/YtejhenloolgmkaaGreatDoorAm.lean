/- An abstract machine for the loaded program's code: values with block numbers of their own, a heap as a tree, code with its types already looked up. This text holds the definitions only; that a run of it tells what the program does is proved in the texts that import it. -/
import GoSem.Claims
namespace Go.Proofs.YtejhenloolgmkaaGreatDoor
open Go
noncomputable section
namespace AM

/-- Eight of a kind: a node of the trees. -/
structure N8 (α : Type) where
  c0 : α
  c1 : α
  c2 : α
  c3 : α
  c4 : α
  c5 : α
  c6 : α
  c7 : α

def st0 {α : Type} (v : α) (t : N8 α) : N8 α := N8.rec (motive := fun _ => N8 α) (fun _ c1 c2 c3 c4 c5 c6 c7 => N8.mk v c1 c2 c3 c4 c5 c6 c7) t
def md0 {α : Type} (f : α → α) (t : N8 α) : N8 α := N8.rec (motive := fun _ => N8 α) (fun c0 c1 c2 c3 c4 c5 c6 c7 => N8.mk (f c0) c1 c2 c3 c4 c5 c6 c7) t
def st1 {α : Type} (v : α) (t : N8 α) : N8 α := N8.rec (motive := fun _ => N8 α) (fun c0 _ c2 c3 c4 c5 c6 c7 => N8.mk c0 v c2 c3 c4 c5 c6 c7) t
def md1 {α : Type} (f : α → α) (t : N8 α) : N8 α := N8.rec (motive := fun _ => N8 α) (fun c0 c1 c2 c3 c4 c5 c6 c7 => N8.mk c0 (f c1) c2 c3 c4 c5 c6 c7) t
def st2 {α : Type} (v : α) (t : N8 α) : N8 α := N8.rec (motive := fun _ => N8 α) (fun c0 c1 _ c3 c4 c5 c6 c7 => N8.mk c0 c1 v c3 c4 c5 c6 c7) t
def md2 {α : Type} (f : α → α) (t : N8 α) : N8 α := N8.rec (motive := fun _ => N8 α) (fun c0 c1 c2 c3 c4 c5 c6 c7 => N8.mk c0 c1 (f c2) c3 c4 c5 c6 c7) t
def st3 {α : Type} (v : α) (t : N8 α) : N8 α := N8.rec (motive := fun _ => N8 α) (fun c0 c1 c2 _ c4 c5 c6 c7 => N8.mk c0 c1 c2 v c4 c5 c6 c7) t
def md3 {α : Type} (f : α → α) (t : N8 α) : N8 α := N8.rec (motive := fun _ => N8 α) (fun c0 c1 c2 c3 c4 c5 c6 c7 => N8.mk c0 c1 c2 (f c3) c4 c5 c6 c7) t
def st4 {α : Type} (v : α) (t : N8 α) : N8 α := N8.rec (motive := fun _ => N8 α) (fun c0 c1 c2 c3 _ c5 c6 c7 => N8.mk c0 c1 c2 c3 v c5 c6 c7) t
def md4 {α : Type} (f : α → α) (t : N8 α) : N8 α := N8.rec (motive := fun _ => N8 α) (fun c0 c1 c2 c3 c4 c5 c6 c7 => N8.mk c0 c1 c2 c3 (f c4) c5 c6 c7) t
def st5 {α : Type} (v : α) (t : N8 α) : N8 α := N8.rec (motive := fun _ => N8 α) (fun c0 c1 c2 c3 c4 _ c6 c7 => N8.mk c0 c1 c2 c3 c4 v c6 c7) t
def md5 {α : Type} (f : α → α) (t : N8 α) : N8 α := N8.rec (motive := fun _ => N8 α) (fun c0 c1 c2 c3 c4 c5 c6 c7 => N8.mk c0 c1 c2 c3 c4 (f c5) c6 c7) t
def st6 {α : Type} (v : α) (t : N8 α) : N8 α := N8.rec (motive := fun _ => N8 α) (fun c0 c1 c2 c3 c4 c5 _ c7 => N8.mk c0 c1 c2 c3 c4 c5 v c7) t
def md6 {α : Type} (f : α → α) (t : N8 α) : N8 α := N8.rec (motive := fun _ => N8 α) (fun c0 c1 c2 c3 c4 c5 c6 c7 => N8.mk c0 c1 c2 c3 c4 c5 (f c6) c7) t
def st7 {α : Type} (v : α) (t : N8 α) : N8 α := N8.rec (motive := fun _ => N8 α) (fun c0 c1 c2 c3 c4 c5 c6 _ => N8.mk c0 c1 c2 c3 c4 c5 c6 v) t
def md7 {α : Type} (f : α → α) (t : N8 α) : N8 α := N8.rec (motive := fun _ => N8 α) (fun c0 c1 c2 c3 c4 c5 c6 c7 => N8.mk c0 c1 c2 c3 c4 c5 c6 (f c7)) t

/-- The abstract machine's values. -/
inductive AV where
  | any (i : Nat)
  | b (v : Bool)
  | i (k : IntKind) (n : Nat)
  | s (len val : Nat)
  | p0
  | p (id off : Nat)
  | g (g off : Nat)
  | sl0
  | sk (id off len cap : Nat)
  | su (id off len es : Nat)
  | m0
  | m (id : Nat)
  | f (fid : Nat) (first captured : List AV)
  | f0
  | if0
  | ifc (t : Nat) (v : AV)
  | agg (cs : List AV)
  | tup (vs : List AV)

def undefA : AV := .tup []

abbrev Frame := N8 (N8 (N8 AV))
def e1 : N8 AV := ⟨undefA, undefA, undefA, undefA, undefA, undefA, undefA, undefA⟩
def e2 : N8 (N8 AV) := ⟨e1, e1, e1, e1, e1, e1, e1, e1⟩
def e3 : Frame := ⟨e2, e2, e2, e2, e2, e2, e2, e2⟩

def sel8 {β : Type} (f0 f1 f2 f3 f4 f5 f6 f7 : β) (d : Nat) : β :=
  (Nat.rec (motive := fun _ => β) f0 (fun n _ => (Nat.rec (motive := fun _ => β) f1 (fun n _ => (Nat.rec (motive := fun _ => β) f2 (fun n _ => (Nat.rec (motive := fun _ => β) f3 (fun n _ => (Nat.rec (motive := fun _ => β) f4 (fun n _ => (Nat.rec (motive := fun _ => β) f5 (fun n _ => (Nat.rec (motive := fun _ => β) f6 (fun _ _ => f7) n)) n)) n)) n)) n)) n)) d)
def ng8 {α : Type} (d : Nat) (t : N8 α) : α := sel8 (β := N8 α → α) N8.c0 N8.c1 N8.c2 N8.c3 N8.c4 N8.c5 N8.c6 N8.c7 d t
def ns8 {α : Type} (d : Nat) (f : α → α) (t : N8 α) : N8 α := sel8 (β := (α → α) → N8 α → N8 α) md0 md1 md2 md3 md4 md5 md6 md7 d f t

/-- Temporary n of a frame. -/
def getT (n : Nat) (f : Frame) : AV := ng8 (n % 8) (ng8 (n / 8 % 8) (ng8 (n / 64 % 8) f))
def setT (n : Nat) (v : AV) (f : Frame) : Frame := ns8 (n / 64 % 8) (ns8 (n / 8 % 8) (ns8 (n % 8) fun _ => v)) f

/-- A temporary: its number, and how it is read and written. -/
structure Sel where
  n : Nat
  lt : n < 512
  get : Frame → AV
  set : AV → Frame → Frame
  getE : ∀ f, get f = getT n f
  setE : ∀ v f, set v f = setT n v f

def s0 : Sel := ⟨0, by decide, fun f => f.c0.c0.c0, fun v f => md0 (md0 (st0 v)) f, fun _ => rfl, fun _ _ => rfl⟩
def s1 : Sel := ⟨1, by decide, fun f => f.c0.c0.c1, fun v f => md0 (md0 (st1 v)) f, fun _ => rfl, fun _ _ => rfl⟩
def s2 : Sel := ⟨2, by decide, fun f => f.c0.c0.c2, fun v f => md0 (md0 (st2 v)) f, fun _ => rfl, fun _ _ => rfl⟩
def s3 : Sel := ⟨3, by decide, fun f => f.c0.c0.c3, fun v f => md0 (md0 (st3 v)) f, fun _ => rfl, fun _ _ => rfl⟩
def s4 : Sel := ⟨4, by decide, fun f => f.c0.c0.c4, fun v f => md0 (md0 (st4 v)) f, fun _ => rfl, fun _ _ => rfl⟩
def s5 : Sel := ⟨5, by decide, fun f => f.c0.c0.c5, fun v f => md0 (md0 (st5 v)) f, fun _ => rfl, fun _ _ => rfl⟩
def s6 : Sel := ⟨6, by decide, fun f => f.c0.c0.c6, fun v f => md0 (md0 (st6 v)) f, fun _ => rfl, fun _ _ => rfl⟩
def s7 : Sel := ⟨7, by decide, fun f => f.c0.c0.c7, fun v f => md0 (md0 (st7 v)) f, fun _ => rfl, fun _ _ => rfl⟩
def s8 : Sel := ⟨8, by decide, fun f => f.c0.c1.c0, fun v f => md0 (md1 (st0 v)) f, fun _ => rfl, fun _ _ => rfl⟩
def s9 : Sel := ⟨9, by decide, fun f => f.c0.c1.c1, fun v f => md0 (md1 (st1 v)) f, fun _ => rfl, fun _ _ => rfl⟩
def s10 : Sel := ⟨10, by decide, fun f => f.c0.c1.c2, fun v f => md0 (md1 (st2 v)) f, fun _ => rfl, fun _ _ => rfl⟩
def s11 : Sel := ⟨11, by decide, fun f => f.c0.c1.c3, fun v f => md0 (md1 (st3 v)) f, fun _ => rfl, fun _ _ => rfl⟩
def s12 : Sel := ⟨12, by decide, fun f => f.c0.c1.c4, fun v f => md0 (md1 (st4 v)) f, fun _ => rfl, fun _ _ => rfl⟩
def s13 : Sel := ⟨13, by decide, fun f => f.c0.c1.c5, fun v f => md0 (md1 (st5 v)) f, fun _ => rfl, fun _ _ => rfl⟩
def s14 : Sel := ⟨14, by decide, fun f => f.c0.c1.c6, fun v f => md0 (md1 (st6 v)) f, fun _ => rfl, fun _ _ => rfl⟩
def s15 : Sel := ⟨15, by decide, fun f => f.c0.c1.c7, fun v f => md0 (md1 (st7 v)) f, fun _ => rfl, fun _ _ => rfl⟩
def s16 : Sel := ⟨16, by decide, fun f => f.c0.c2.c0, fun v f => md0 (md2 (st0 v)) f, fun _ => rfl, fun _ _ => rfl⟩
def s17 : Sel := ⟨17, by decide, fun f => f.c0.c2.c1, fun v f => md0 (md2 (st1 v)) f, fun _ => rfl, fun _ _ => rfl⟩
def s18 : Sel := ⟨18, by decide, fun f => f.c0.c2.c2, fun v f => md0 (md2 (st2 v)) f, fun _ => rfl, fun _ _ => rfl⟩
def s19 : Sel := ⟨19, by decide, fun f => f.c0.c2.c3, fun v f => md0 (md2 (st3 v)) f, fun _ => rfl, fun _ _ => rfl⟩
def s20 : Sel := ⟨20, by decide, fun f => f.c0.c2.c4, fun v f => md0 (md2 (st4 v)) f, fun _ => rfl, fun _ _ => rfl⟩
def s21 : Sel := ⟨21, by decide, fun f => f.c0.c2.c5, fun v f => md0 (md2 (st5 v)) f, fun _ => rfl, fun _ _ => rfl⟩
def s22 : Sel := ⟨22, by decide, fun f => f.c0.c2.c6, fun v f => md0 (md2 (st6 v)) f, fun _ => rfl, fun _ _ => rfl⟩
def s23 : Sel := ⟨23, by decide, fun f => f.c0.c2.c7, fun v f => md0 (md2 (st7 v)) f, fun _ => rfl, fun _ _ => rfl⟩
def s24 : Sel := ⟨24, by decide, fun f => f.c0.c3.c0, fun v f => md0 (md3 (st0 v)) f, fun _ => rfl, fun _ _ => rfl⟩
def s25 : Sel := ⟨25, by decide, fun f => f.c0.c3.c1, fun v f => md0 (md3 (st1 v)) f, fun _ => rfl, fun _ _ => rfl⟩
def s26 : Sel := ⟨26, by decide, fun f => f.c0.c3.c2, fun v f => md0 (md3 (st2 v)) f, fun _ => rfl, fun _ _ => rfl⟩
def s27 : Sel := ⟨27, by decide, fun f => f.c0.c3.c3, fun v f => md0 (md3 (st3 v)) f, fun _ => rfl, fun _ _ => rfl⟩
def s28 : Sel := ⟨28, by decide, fun f => f.c0.c3.c4, fun v f => md0 (md3 (st4 v)) f, fun _ => rfl, fun _ _ => rfl⟩
def s29 : Sel := ⟨29, by decide, fun f => f.c0.c3.c5, fun v f => md0 (md3 (st5 v)) f, fun _ => rfl, fun _ _ => rfl⟩
def s30 : Sel := ⟨30, by decide, fun f => f.c0.c3.c6, fun v f => md0 (md3 (st6 v)) f, fun _ => rfl, fun _ _ => rfl⟩
def s31 : Sel := ⟨31, by decide, fun f => f.c0.c3.c7, fun v f => md0 (md3 (st7 v)) f, fun _ => rfl, fun _ _ => rfl⟩
def s32 : Sel := ⟨32, by decide, fun f => f.c0.c4.c0, fun v f => md0 (md4 (st0 v)) f, fun _ => rfl, fun _ _ => rfl⟩
def s33 : Sel := ⟨33, by decide, fun f => f.c0.c4.c1, fun v f => md0 (md4 (st1 v)) f, fun _ => rfl, fun _ _ => rfl⟩
def s34 : Sel := ⟨34, by decide, fun f => f.c0.c4.c2, fun v f => md0 (md4 (st2 v)) f, fun _ => rfl, fun _ _ => rfl⟩
def s35 : Sel := ⟨35, by decide, fun f => f.c0.c4.c3, fun v f => md0 (md4 (st3 v)) f, fun _ => rfl, fun _ _ => rfl⟩
def s36 : Sel := ⟨36, by decide, fun f => f.c0.c4.c4, fun v f => md0 (md4 (st4 v)) f, fun _ => rfl, fun _ _ => rfl⟩
def s37 : Sel := ⟨37, by decide, fun f => f.c0.c4.c5, fun v f => md0 (md4 (st5 v)) f, fun _ => rfl, fun _ _ => rfl⟩
def s38 : Sel := ⟨38, by decide, fun f => f.c0.c4.c6, fun v f => md0 (md4 (st6 v)) f, fun _ => rfl, fun _ _ => rfl⟩
def s39 : Sel := ⟨39, by decide, fun f => f.c0.c4.c7, fun v f => md0 (md4 (st7 v)) f, fun _ => rfl, fun _ _ => rfl⟩
def s40 : Sel := ⟨40, by decide, fun f => f.c0.c5.c0, fun v f => md0 (md5 (st0 v)) f, fun _ => rfl, fun _ _ => rfl⟩
def s41 : Sel := ⟨41, by decide, fun f => f.c0.c5.c1, fun v f => md0 (md5 (st1 v)) f, fun _ => rfl, fun _ _ => rfl⟩
def s42 : Sel := ⟨42, by decide, fun f => f.c0.c5.c2, fun v f => md0 (md5 (st2 v)) f, fun _ => rfl, fun _ _ => rfl⟩
def s43 : Sel := ⟨43, by decide, fun f => f.c0.c5.c3, fun v f => md0 (md5 (st3 v)) f, fun _ => rfl, fun _ _ => rfl⟩
def s44 : Sel := ⟨44, by decide, fun f => f.c0.c5.c4, fun v f => md0 (md5 (st4 v)) f, fun _ => rfl, fun _ _ => rfl⟩
def s45 : Sel := ⟨45, by decide, fun f => f.c0.c5.c5, fun v f => md0 (md5 (st5 v)) f, fun _ => rfl, fun _ _ => rfl⟩
def s46 : Sel := ⟨46, by decide, fun f => f.c0.c5.c6, fun v f => md0 (md5 (st6 v)) f, fun _ => rfl, fun _ _ => rfl⟩
def s47 : Sel := ⟨47, by decide, fun f => f.c0.c5.c7, fun v f => md0 (md5 (st7 v)) f, fun _ => rfl, fun _ _ => rfl⟩
def s48 : Sel := ⟨48, by decide, fun f => f.c0.c6.c0, fun v f => md0 (md6 (st0 v)) f, fun _ => rfl, fun _ _ => rfl⟩
def s49 : Sel := ⟨49, by decide, fun f => f.c0.c6.c1, fun v f => md0 (md6 (st1 v)) f, fun _ => rfl, fun _ _ => rfl⟩
def s50 : Sel := ⟨50, by decide, fun f => f.c0.c6.c2, fun v f => md0 (md6 (st2 v)) f, fun _ => rfl, fun _ _ => rfl⟩
def s51 : Sel := ⟨51, by decide, fun f => f.c0.c6.c3, fun v f => md0 (md6 (st3 v)) f, fun _ => rfl, fun _ _ => rfl⟩
def s52 : Sel := ⟨52, by decide, fun f => f.c0.c6.c4, fun v f => md0 (md6 (st4 v)) f, fun _ => rfl, fun _ _ => rfl⟩
def s53 : Sel := ⟨53, by decide, fun f => f.c0.c6.c5, fun v f => md0 (md6 (st5 v)) f, fun _ => rfl, fun _ _ => rfl⟩
def s54 : Sel := ⟨54, by decide, fun f => f.c0.c6.c6, fun v f => md0 (md6 (st6 v)) f, fun _ => rfl, fun _ _ => rfl⟩
def s55 : Sel := ⟨55, by decide, fun f => f.c0.c6.c7, fun v f => md0 (md6 (st7 v)) f, fun _ => rfl, fun _ _ => rfl⟩
def s56 : Sel := ⟨56, by decide, fun f => f.c0.c7.c0, fun v f => md0 (md7 (st0 v)) f, fun _ => rfl, fun _ _ => rfl⟩
def s57 : Sel := ⟨57, by decide, fun f => f.c0.c7.c1, fun v f => md0 (md7 (st1 v)) f, fun _ => rfl, fun _ _ => rfl⟩
def s58 : Sel := ⟨58, by decide, fun f => f.c0.c7.c2, fun v f => md0 (md7 (st2 v)) f, fun _ => rfl, fun _ _ => rfl⟩
def s59 : Sel := ⟨59, by decide, fun f => f.c0.c7.c3, fun v f => md0 (md7 (st3 v)) f, fun _ => rfl, fun _ _ => rfl⟩
def s60 : Sel := ⟨60, by decide, fun f => f.c0.c7.c4, fun v f => md0 (md7 (st4 v)) f, fun _ => rfl, fun _ _ => rfl⟩
def s61 : Sel := ⟨61, by decide, fun f => f.c0.c7.c5, fun v f => md0 (md7 (st5 v)) f, fun _ => rfl, fun _ _ => rfl⟩
def s62 : Sel := ⟨62, by decide, fun f => f.c0.c7.c6, fun v f => md0 (md7 (st6 v)) f, fun _ => rfl, fun _ _ => rfl⟩
def s63 : Sel := ⟨63, by decide, fun f => f.c0.c7.c7, fun v f => md0 (md7 (st7 v)) f, fun _ => rfl, fun _ _ => rfl⟩
def s64 : Sel := ⟨64, by decide, fun f => f.c1.c0.c0, fun v f => md1 (md0 (st0 v)) f, fun _ => rfl, fun _ _ => rfl⟩
def s65 : Sel := ⟨65, by decide, fun f => f.c1.c0.c1, fun v f => md1 (md0 (st1 v)) f, fun _ => rfl, fun _ _ => rfl⟩
def s66 : Sel := ⟨66, by decide, fun f => f.c1.c0.c2, fun v f => md1 (md0 (st2 v)) f, fun _ => rfl, fun _ _ => rfl⟩
def s67 : Sel := ⟨67, by decide, fun f => f.c1.c0.c3, fun v f => md1 (md0 (st3 v)) f, fun _ => rfl, fun _ _ => rfl⟩
def s68 : Sel := ⟨68, by decide, fun f => f.c1.c0.c4, fun v f => md1 (md0 (st4 v)) f, fun _ => rfl, fun _ _ => rfl⟩
def s69 : Sel := ⟨69, by decide, fun f => f.c1.c0.c5, fun v f => md1 (md0 (st5 v)) f, fun _ => rfl, fun _ _ => rfl⟩
def s70 : Sel := ⟨70, by decide, fun f => f.c1.c0.c6, fun v f => md1 (md0 (st6 v)) f, fun _ => rfl, fun _ _ => rfl⟩
def s71 : Sel := ⟨71, by decide, fun f => f.c1.c0.c7, fun v f => md1 (md0 (st7 v)) f, fun _ => rfl, fun _ _ => rfl⟩
def s72 : Sel := ⟨72, by decide, fun f => f.c1.c1.c0, fun v f => md1 (md1 (st0 v)) f, fun _ => rfl, fun _ _ => rfl⟩
def s73 : Sel := ⟨73, by decide, fun f => f.c1.c1.c1, fun v f => md1 (md1 (st1 v)) f, fun _ => rfl, fun _ _ => rfl⟩
def s74 : Sel := ⟨74, by decide, fun f => f.c1.c1.c2, fun v f => md1 (md1 (st2 v)) f, fun _ => rfl, fun _ _ => rfl⟩
def s75 : Sel := ⟨75, by decide, fun f => f.c1.c1.c3, fun v f => md1 (md1 (st3 v)) f, fun _ => rfl, fun _ _ => rfl⟩
def s76 : Sel := ⟨76, by decide, fun f => f.c1.c1.c4, fun v f => md1 (md1 (st4 v)) f, fun _ => rfl, fun _ _ => rfl⟩
def s77 : Sel := ⟨77, by decide, fun f => f.c1.c1.c5, fun v f => md1 (md1 (st5 v)) f, fun _ => rfl, fun _ _ => rfl⟩
def s78 : Sel := ⟨78, by decide, fun f => f.c1.c1.c6, fun v f => md1 (md1 (st6 v)) f, fun _ => rfl, fun _ _ => rfl⟩
def s79 : Sel := ⟨79, by decide, fun f => f.c1.c1.c7, fun v f => md1 (md1 (st7 v)) f, fun _ => rfl, fun _ _ => rfl⟩
def s80 : Sel := ⟨80, by decide, fun f => f.c1.c2.c0, fun v f => md1 (md2 (st0 v)) f, fun _ => rfl, fun _ _ => rfl⟩
def s81 : Sel := ⟨81, by decide, fun f => f.c1.c2.c1, fun v f => md1 (md2 (st1 v)) f, fun _ => rfl, fun _ _ => rfl⟩
def s82 : Sel := ⟨82, by decide, fun f => f.c1.c2.c2, fun v f => md1 (md2 (st2 v)) f, fun _ => rfl, fun _ _ => rfl⟩
def s83 : Sel := ⟨83, by decide, fun f => f.c1.c2.c3, fun v f => md1 (md2 (st3 v)) f, fun _ => rfl, fun _ _ => rfl⟩
def s84 : Sel := ⟨84, by decide, fun f => f.c1.c2.c4, fun v f => md1 (md2 (st4 v)) f, fun _ => rfl, fun _ _ => rfl⟩
def s85 : Sel := ⟨85, by decide, fun f => f.c1.c2.c5, fun v f => md1 (md2 (st5 v)) f, fun _ => rfl, fun _ _ => rfl⟩
def s86 : Sel := ⟨86, by decide, fun f => f.c1.c2.c6, fun v f => md1 (md2 (st6 v)) f, fun _ => rfl, fun _ _ => rfl⟩
def s87 : Sel := ⟨87, by decide, fun f => f.c1.c2.c7, fun v f => md1 (md2 (st7 v)) f, fun _ => rfl, fun _ _ => rfl⟩
def s88 : Sel := ⟨88, by decide, fun f => f.c1.c3.c0, fun v f => md1 (md3 (st0 v)) f, fun _ => rfl, fun _ _ => rfl⟩
def s89 : Sel := ⟨89, by decide, fun f => f.c1.c3.c1, fun v f => md1 (md3 (st1 v)) f, fun _ => rfl, fun _ _ => rfl⟩
def s90 : Sel := ⟨90, by decide, fun f => f.c1.c3.c2, fun v f => md1 (md3 (st2 v)) f, fun _ => rfl, fun _ _ => rfl⟩
def s91 : Sel := ⟨91, by decide, fun f => f.c1.c3.c3, fun v f => md1 (md3 (st3 v)) f, fun _ => rfl, fun _ _ => rfl⟩
def s92 : Sel := ⟨92, by decide, fun f => f.c1.c3.c4, fun v f => md1 (md3 (st4 v)) f, fun _ => rfl, fun _ _ => rfl⟩
def s93 : Sel := ⟨93, by decide, fun f => f.c1.c3.c5, fun v f => md1 (md3 (st5 v)) f, fun _ => rfl, fun _ _ => rfl⟩
def s94 : Sel := ⟨94, by decide, fun f => f.c1.c3.c6, fun v f => md1 (md3 (st6 v)) f, fun _ => rfl, fun _ _ => rfl⟩
def s95 : Sel := ⟨95, by decide, fun f => f.c1.c3.c7, fun v f => md1 (md3 (st7 v)) f, fun _ => rfl, fun _ _ => rfl⟩
def s96 : Sel := ⟨96, by decide, fun f => f.c1.c4.c0, fun v f => md1 (md4 (st0 v)) f, fun _ => rfl, fun _ _ => rfl⟩
def s97 : Sel := ⟨97, by decide, fun f => f.c1.c4.c1, fun v f => md1 (md4 (st1 v)) f, fun _ => rfl, fun _ _ => rfl⟩
def s98 : Sel := ⟨98, by decide, fun f => f.c1.c4.c2, fun v f => md1 (md4 (st2 v)) f, fun _ => rfl, fun _ _ => rfl⟩
def s99 : Sel := ⟨99, by decide, fun f => f.c1.c4.c3, fun v f => md1 (md4 (st3 v)) f, fun _ => rfl, fun _ _ => rfl⟩
def s100 : Sel := ⟨100, by decide, fun f => f.c1.c4.c4, fun v f => md1 (md4 (st4 v)) f, fun _ => rfl, fun _ _ => rfl⟩
def s101 : Sel := ⟨101, by decide, fun f => f.c1.c4.c5, fun v f => md1 (md4 (st5 v)) f, fun _ => rfl, fun _ _ => rfl⟩
def s102 : Sel := ⟨102, by decide, fun f => f.c1.c4.c6, fun v f => md1 (md4 (st6 v)) f, fun _ => rfl, fun _ _ => rfl⟩
def s103 : Sel := ⟨103, by decide, fun f => f.c1.c4.c7, fun v f => md1 (md4 (st7 v)) f, fun _ => rfl, fun _ _ => rfl⟩
def s104 : Sel := ⟨104, by decide, fun f => f.c1.c5.c0, fun v f => md1 (md5 (st0 v)) f, fun _ => rfl, fun _ _ => rfl⟩
def s105 : Sel := ⟨105, by decide, fun f => f.c1.c5.c1, fun v f => md1 (md5 (st1 v)) f, fun _ => rfl, fun _ _ => rfl⟩
def s106 : Sel := ⟨106, by decide, fun f => f.c1.c5.c2, fun v f => md1 (md5 (st2 v)) f, fun _ => rfl, fun _ _ => rfl⟩
def s107 : Sel := ⟨107, by decide, fun f => f.c1.c5.c3, fun v f => md1 (md5 (st3 v)) f, fun _ => rfl, fun _ _ => rfl⟩
def s108 : Sel := ⟨108, by decide, fun f => f.c1.c5.c4, fun v f => md1 (md5 (st4 v)) f, fun _ => rfl, fun _ _ => rfl⟩
def s109 : Sel := ⟨109, by decide, fun f => f.c1.c5.c5, fun v f => md1 (md5 (st5 v)) f, fun _ => rfl, fun _ _ => rfl⟩
def s110 : Sel := ⟨110, by decide, fun f => f.c1.c5.c6, fun v f => md1 (md5 (st6 v)) f, fun _ => rfl, fun _ _ => rfl⟩
def s111 : Sel := ⟨111, by decide, fun f => f.c1.c5.c7, fun v f => md1 (md5 (st7 v)) f, fun _ => rfl, fun _ _ => rfl⟩
def s112 : Sel := ⟨112, by decide, fun f => f.c1.c6.c0, fun v f => md1 (md6 (st0 v)) f, fun _ => rfl, fun _ _ => rfl⟩
def s113 : Sel := ⟨113, by decide, fun f => f.c1.c6.c1, fun v f => md1 (md6 (st1 v)) f, fun _ => rfl, fun _ _ => rfl⟩
def s114 : Sel := ⟨114, by decide, fun f => f.c1.c6.c2, fun v f => md1 (md6 (st2 v)) f, fun _ => rfl, fun _ _ => rfl⟩
def s115 : Sel := ⟨115, by decide, fun f => f.c1.c6.c3, fun v f => md1 (md6 (st3 v)) f, fun _ => rfl, fun _ _ => rfl⟩
def s116 : Sel := ⟨116, by decide, fun f => f.c1.c6.c4, fun v f => md1 (md6 (st4 v)) f, fun _ => rfl, fun _ _ => rfl⟩
def s117 : Sel := ⟨117, by decide, fun f => f.c1.c6.c5, fun v f => md1 (md6 (st5 v)) f, fun _ => rfl, fun _ _ => rfl⟩
def s118 : Sel := ⟨118, by decide, fun f => f.c1.c6.c6, fun v f => md1 (md6 (st6 v)) f, fun _ => rfl, fun _ _ => rfl⟩
def s119 : Sel := ⟨119, by decide, fun f => f.c1.c6.c7, fun v f => md1 (md6 (st7 v)) f, fun _ => rfl, fun _ _ => rfl⟩
def s120 : Sel := ⟨120, by decide, fun f => f.c1.c7.c0, fun v f => md1 (md7 (st0 v)) f, fun _ => rfl, fun _ _ => rfl⟩
def s121 : Sel := ⟨121, by decide, fun f => f.c1.c7.c1, fun v f => md1 (md7 (st1 v)) f, fun _ => rfl, fun _ _ => rfl⟩
def s122 : Sel := ⟨122, by decide, fun f => f.c1.c7.c2, fun v f => md1 (md7 (st2 v)) f, fun _ => rfl, fun _ _ => rfl⟩
def s123 : Sel := ⟨123, by decide, fun f => f.c1.c7.c3, fun v f => md1 (md7 (st3 v)) f, fun _ => rfl, fun _ _ => rfl⟩
def s124 : Sel := ⟨124, by decide, fun f => f.c1.c7.c4, fun v f => md1 (md7 (st4 v)) f, fun _ => rfl, fun _ _ => rfl⟩
def s125 : Sel := ⟨125, by decide, fun f => f.c1.c7.c5, fun v f => md1 (md7 (st5 v)) f, fun _ => rfl, fun _ _ => rfl⟩
def s126 : Sel := ⟨126, by decide, fun f => f.c1.c7.c6, fun v f => md1 (md7 (st6 v)) f, fun _ => rfl, fun _ _ => rfl⟩
def s127 : Sel := ⟨127, by decide, fun f => f.c1.c7.c7, fun v f => md1 (md7 (st7 v)) f, fun _ => rfl, fun _ _ => rfl⟩
def s128 : Sel := ⟨128, by decide, fun f => f.c2.c0.c0, fun v f => md2 (md0 (st0 v)) f, fun _ => rfl, fun _ _ => rfl⟩
def s129 : Sel := ⟨129, by decide, fun f => f.c2.c0.c1, fun v f => md2 (md0 (st1 v)) f, fun _ => rfl, fun _ _ => rfl⟩
def s130 : Sel := ⟨130, by decide, fun f => f.c2.c0.c2, fun v f => md2 (md0 (st2 v)) f, fun _ => rfl, fun _ _ => rfl⟩
def s131 : Sel := ⟨131, by decide, fun f => f.c2.c0.c3, fun v f => md2 (md0 (st3 v)) f, fun _ => rfl, fun _ _ => rfl⟩
def s132 : Sel := ⟨132, by decide, fun f => f.c2.c0.c4, fun v f => md2 (md0 (st4 v)) f, fun _ => rfl, fun _ _ => rfl⟩
def s133 : Sel := ⟨133, by decide, fun f => f.c2.c0.c5, fun v f => md2 (md0 (st5 v)) f, fun _ => rfl, fun _ _ => rfl⟩
def s134 : Sel := ⟨134, by decide, fun f => f.c2.c0.c6, fun v f => md2 (md0 (st6 v)) f, fun _ => rfl, fun _ _ => rfl⟩
def s135 : Sel := ⟨135, by decide, fun f => f.c2.c0.c7, fun v f => md2 (md0 (st7 v)) f, fun _ => rfl, fun _ _ => rfl⟩
def s136 : Sel := ⟨136, by decide, fun f => f.c2.c1.c0, fun v f => md2 (md1 (st0 v)) f, fun _ => rfl, fun _ _ => rfl⟩
def s137 : Sel := ⟨137, by decide, fun f => f.c2.c1.c1, fun v f => md2 (md1 (st1 v)) f, fun _ => rfl, fun _ _ => rfl⟩
def s138 : Sel := ⟨138, by decide, fun f => f.c2.c1.c2, fun v f => md2 (md1 (st2 v)) f, fun _ => rfl, fun _ _ => rfl⟩
def s139 : Sel := ⟨139, by decide, fun f => f.c2.c1.c3, fun v f => md2 (md1 (st3 v)) f, fun _ => rfl, fun _ _ => rfl⟩
def s140 : Sel := ⟨140, by decide, fun f => f.c2.c1.c4, fun v f => md2 (md1 (st4 v)) f, fun _ => rfl, fun _ _ => rfl⟩
def s141 : Sel := ⟨141, by decide, fun f => f.c2.c1.c5, fun v f => md2 (md1 (st5 v)) f, fun _ => rfl, fun _ _ => rfl⟩
def s142 : Sel := ⟨142, by decide, fun f => f.c2.c1.c6, fun v f => md2 (md1 (st6 v)) f, fun _ => rfl, fun _ _ => rfl⟩
def s143 : Sel := ⟨143, by decide, fun f => f.c2.c1.c7, fun v f => md2 (md1 (st7 v)) f, fun _ => rfl, fun _ _ => rfl⟩
def s144 : Sel := ⟨144, by decide, fun f => f.c2.c2.c0, fun v f => md2 (md2 (st0 v)) f, fun _ => rfl, fun _ _ => rfl⟩
def s145 : Sel := ⟨145, by decide, fun f => f.c2.c2.c1, fun v f => md2 (md2 (st1 v)) f, fun _ => rfl, fun _ _ => rfl⟩
def s146 : Sel := ⟨146, by decide, fun f => f.c2.c2.c2, fun v f => md2 (md2 (st2 v)) f, fun _ => rfl, fun _ _ => rfl⟩
def s147 : Sel := ⟨147, by decide, fun f => f.c2.c2.c3, fun v f => md2 (md2 (st3 v)) f, fun _ => rfl, fun _ _ => rfl⟩
def s148 : Sel := ⟨148, by decide, fun f => f.c2.c2.c4, fun v f => md2 (md2 (st4 v)) f, fun _ => rfl, fun _ _ => rfl⟩
def s149 : Sel := ⟨149, by decide, fun f => f.c2.c2.c5, fun v f => md2 (md2 (st5 v)) f, fun _ => rfl, fun _ _ => rfl⟩
def s150 : Sel := ⟨150, by decide, fun f => f.c2.c2.c6, fun v f => md2 (md2 (st6 v)) f, fun _ => rfl, fun _ _ => rfl⟩
def s151 : Sel := ⟨151, by decide, fun f => f.c2.c2.c7, fun v f => md2 (md2 (st7 v)) f, fun _ => rfl, fun _ _ => rfl⟩
def s152 : Sel := ⟨152, by decide, fun f => f.c2.c3.c0, fun v f => md2 (md3 (st0 v)) f, fun _ => rfl, fun _ _ => rfl⟩
def s153 : Sel := ⟨153, by decide, fun f => f.c2.c3.c1, fun v f => md2 (md3 (st1 v)) f, fun _ => rfl, fun _ _ => rfl⟩
def s154 : Sel := ⟨154, by decide, fun f => f.c2.c3.c2, fun v f => md2 (md3 (st2 v)) f, fun _ => rfl, fun _ _ => rfl⟩
def s155 : Sel := ⟨155, by decide, fun f => f.c2.c3.c3, fun v f => md2 (md3 (st3 v)) f, fun _ => rfl, fun _ _ => rfl⟩
def s156 : Sel := ⟨156, by decide, fun f => f.c2.c3.c4, fun v f => md2 (md3 (st4 v)) f, fun _ => rfl, fun _ _ => rfl⟩
def s157 : Sel := ⟨157, by decide, fun f => f.c2.c3.c5, fun v f => md2 (md3 (st5 v)) f, fun _ => rfl, fun _ _ => rfl⟩
def s158 : Sel := ⟨158, by decide, fun f => f.c2.c3.c6, fun v f => md2 (md3 (st6 v)) f, fun _ => rfl, fun _ _ => rfl⟩
def s159 : Sel := ⟨159, by decide, fun f => f.c2.c3.c7, fun v f => md2 (md3 (st7 v)) f, fun _ => rfl, fun _ _ => rfl⟩
def s160 : Sel := ⟨160, by decide, fun f => f.c2.c4.c0, fun v f => md2 (md4 (st0 v)) f, fun _ => rfl, fun _ _ => rfl⟩
def s161 : Sel := ⟨161, by decide, fun f => f.c2.c4.c1, fun v f => md2 (md4 (st1 v)) f, fun _ => rfl, fun _ _ => rfl⟩
def s162 : Sel := ⟨162, by decide, fun f => f.c2.c4.c2, fun v f => md2 (md4 (st2 v)) f, fun _ => rfl, fun _ _ => rfl⟩
def s163 : Sel := ⟨163, by decide, fun f => f.c2.c4.c3, fun v f => md2 (md4 (st3 v)) f, fun _ => rfl, fun _ _ => rfl⟩
def s164 : Sel := ⟨164, by decide, fun f => f.c2.c4.c4, fun v f => md2 (md4 (st4 v)) f, fun _ => rfl, fun _ _ => rfl⟩
def s165 : Sel := ⟨165, by decide, fun f => f.c2.c4.c5, fun v f => md2 (md4 (st5 v)) f, fun _ => rfl, fun _ _ => rfl⟩
def s166 : Sel := ⟨166, by decide, fun f => f.c2.c4.c6, fun v f => md2 (md4 (st6 v)) f, fun _ => rfl, fun _ _ => rfl⟩
def s167 : Sel := ⟨167, by decide, fun f => f.c2.c4.c7, fun v f => md2 (md4 (st7 v)) f, fun _ => rfl, fun _ _ => rfl⟩
def s168 : Sel := ⟨168, by decide, fun f => f.c2.c5.c0, fun v f => md2 (md5 (st0 v)) f, fun _ => rfl, fun _ _ => rfl⟩
def s169 : Sel := ⟨169, by decide, fun f => f.c2.c5.c1, fun v f => md2 (md5 (st1 v)) f, fun _ => rfl, fun _ _ => rfl⟩
def s170 : Sel := ⟨170, by decide, fun f => f.c2.c5.c2, fun v f => md2 (md5 (st2 v)) f, fun _ => rfl, fun _ _ => rfl⟩
def s171 : Sel := ⟨171, by decide, fun f => f.c2.c5.c3, fun v f => md2 (md5 (st3 v)) f, fun _ => rfl, fun _ _ => rfl⟩
def s172 : Sel := ⟨172, by decide, fun f => f.c2.c5.c4, fun v f => md2 (md5 (st4 v)) f, fun _ => rfl, fun _ _ => rfl⟩
def s173 : Sel := ⟨173, by decide, fun f => f.c2.c5.c5, fun v f => md2 (md5 (st5 v)) f, fun _ => rfl, fun _ _ => rfl⟩
def s174 : Sel := ⟨174, by decide, fun f => f.c2.c5.c6, fun v f => md2 (md5 (st6 v)) f, fun _ => rfl, fun _ _ => rfl⟩
def s175 : Sel := ⟨175, by decide, fun f => f.c2.c5.c7, fun v f => md2 (md5 (st7 v)) f, fun _ => rfl, fun _ _ => rfl⟩
def s176 : Sel := ⟨176, by decide, fun f => f.c2.c6.c0, fun v f => md2 (md6 (st0 v)) f, fun _ => rfl, fun _ _ => rfl⟩
def s177 : Sel := ⟨177, by decide, fun f => f.c2.c6.c1, fun v f => md2 (md6 (st1 v)) f, fun _ => rfl, fun _ _ => rfl⟩
def s178 : Sel := ⟨178, by decide, fun f => f.c2.c6.c2, fun v f => md2 (md6 (st2 v)) f, fun _ => rfl, fun _ _ => rfl⟩
def s179 : Sel := ⟨179, by decide, fun f => f.c2.c6.c3, fun v f => md2 (md6 (st3 v)) f, fun _ => rfl, fun _ _ => rfl⟩
def s180 : Sel := ⟨180, by decide, fun f => f.c2.c6.c4, fun v f => md2 (md6 (st4 v)) f, fun _ => rfl, fun _ _ => rfl⟩
def s181 : Sel := ⟨181, by decide, fun f => f.c2.c6.c5, fun v f => md2 (md6 (st5 v)) f, fun _ => rfl, fun _ _ => rfl⟩
def s182 : Sel := ⟨182, by decide, fun f => f.c2.c6.c6, fun v f => md2 (md6 (st6 v)) f, fun _ => rfl, fun _ _ => rfl⟩
def s183 : Sel := ⟨183, by decide, fun f => f.c2.c6.c7, fun v f => md2 (md6 (st7 v)) f, fun _ => rfl, fun _ _ => rfl⟩
def s184 : Sel := ⟨184, by decide, fun f => f.c2.c7.c0, fun v f => md2 (md7 (st0 v)) f, fun _ => rfl, fun _ _ => rfl⟩
def s185 : Sel := ⟨185, by decide, fun f => f.c2.c7.c1, fun v f => md2 (md7 (st1 v)) f, fun _ => rfl, fun _ _ => rfl⟩
def s191 : Sel := ⟨191, by decide, fun f => f.c2.c7.c7, fun v f => md2 (md7 (st7 v)) f, fun _ => rfl, fun _ _ => rfl⟩
def s204 : Sel := ⟨204, by decide, fun f => f.c3.c1.c4, fun v f => md3 (md1 (st4 v)) f, fun _ => rfl, fun _ _ => rfl⟩
def s205 : Sel := ⟨205, by decide, fun f => f.c3.c1.c5, fun v f => md3 (md1 (st5 v)) f, fun _ => rfl, fun _ _ => rfl⟩
def s206 : Sel := ⟨206, by decide, fun f => f.c3.c1.c6, fun v f => md3 (md1 (st6 v)) f, fun _ => rfl, fun _ _ => rfl⟩
def s207 : Sel := ⟨207, by decide, fun f => f.c3.c1.c7, fun v f => md3 (md1 (st7 v)) f, fun _ => rfl, fun _ _ => rfl⟩
def s208 : Sel := ⟨208, by decide, fun f => f.c3.c2.c0, fun v f => md3 (md2 (st0 v)) f, fun _ => rfl, fun _ _ => rfl⟩
def s209 : Sel := ⟨209, by decide, fun f => f.c3.c2.c1, fun v f => md3 (md2 (st1 v)) f, fun _ => rfl, fun _ _ => rfl⟩
def s210 : Sel := ⟨210, by decide, fun f => f.c3.c2.c2, fun v f => md3 (md2 (st2 v)) f, fun _ => rfl, fun _ _ => rfl⟩
def s236 : Sel := ⟨236, by decide, fun f => f.c3.c5.c4, fun v f => md3 (md5 (st4 v)) f, fun _ => rfl, fun _ _ => rfl⟩
def s237 : Sel := ⟨237, by decide, fun f => f.c3.c5.c5, fun v f => md3 (md5 (st5 v)) f, fun _ => rfl, fun _ _ => rfl⟩
def s238 : Sel := ⟨238, by decide, fun f => f.c3.c5.c6, fun v f => md3 (md5 (st6 v)) f, fun _ => rfl, fun _ _ => rfl⟩
def s239 : Sel := ⟨239, by decide, fun f => f.c3.c5.c7, fun v f => md3 (md5 (st7 v)) f, fun _ => rfl, fun _ _ => rfl⟩
def s240 : Sel := ⟨240, by decide, fun f => f.c3.c6.c0, fun v f => md3 (md6 (st0 v)) f, fun _ => rfl, fun _ _ => rfl⟩
def s241 : Sel := ⟨241, by decide, fun f => f.c3.c6.c1, fun v f => md3 (md6 (st1 v)) f, fun _ => rfl, fun _ _ => rfl⟩
def s242 : Sel := ⟨242, by decide, fun f => f.c3.c6.c2, fun v f => md3 (md6 (st2 v)) f, fun _ => rfl, fun _ _ => rfl⟩
def s243 : Sel := ⟨243, by decide, fun f => f.c3.c6.c3, fun v f => md3 (md6 (st3 v)) f, fun _ => rfl, fun _ _ => rfl⟩
def s244 : Sel := ⟨244, by decide, fun f => f.c3.c6.c4, fun v f => md3 (md6 (st4 v)) f, fun _ => rfl, fun _ _ => rfl⟩
def s245 : Sel := ⟨245, by decide, fun f => f.c3.c6.c5, fun v f => md3 (md6 (st5 v)) f, fun _ => rfl, fun _ _ => rfl⟩
def s246 : Sel := ⟨246, by decide, fun f => f.c3.c6.c6, fun v f => md3 (md6 (st6 v)) f, fun _ => rfl, fun _ _ => rfl⟩
def s247 : Sel := ⟨247, by decide, fun f => f.c3.c6.c7, fun v f => md3 (md6 (st7 v)) f, fun _ => rfl, fun _ _ => rfl⟩
def s248 : Sel := ⟨248, by decide, fun f => f.c3.c7.c0, fun v f => md3 (md7 (st0 v)) f, fun _ => rfl, fun _ _ => rfl⟩
def s249 : Sel := ⟨249, by decide, fun f => f.c3.c7.c1, fun v f => md3 (md7 (st1 v)) f, fun _ => rfl, fun _ _ => rfl⟩
def s250 : Sel := ⟨250, by decide, fun f => f.c3.c7.c2, fun v f => md3 (md7 (st2 v)) f, fun _ => rfl, fun _ _ => rfl⟩
def s251 : Sel := ⟨251, by decide, fun f => f.c3.c7.c3, fun v f => md3 (md7 (st3 v)) f, fun _ => rfl, fun _ _ => rfl⟩
def s342 : Sel := ⟨342, by decide, fun f => f.c5.c2.c6, fun v f => md5 (md2 (st6 v)) f, fun _ => rfl, fun _ _ => rfl⟩
def s343 : Sel := ⟨343, by decide, fun f => f.c5.c2.c7, fun v f => md5 (md2 (st7 v)) f, fun _ => rfl, fun _ _ => rfl⟩

inductive AO where
  | cells (cs : List AV) (elem : Nat) (fz : Nat)
  | map (es : List (AV × AV × Nat)) (clock : Nat)
  | miter (m : Option Nat) (since : Nat) (seen : List Nat) (stepped : Nat)
  | siter (len val pos : Nat)

abbrev Heap := N8 (N8 (N8 (N8 (N8 (Option AO)))))
def h1 : N8 (Option AO) := ⟨none, none, none, none, none, none, none, none⟩
def h2 : N8 (N8 (Option AO)) := ⟨h1, h1, h1, h1, h1, h1, h1, h1⟩
def h3 : N8 (N8 (N8 (Option AO))) := ⟨h2, h2, h2, h2, h2, h2, h2, h2⟩
def h4 : N8 (N8 (N8 (N8 (Option AO)))) := ⟨h3, h3, h3, h3, h3, h3, h3, h3⟩
def h5 : Heap := ⟨h4, h4, h4, h4, h4, h4, h4, h4⟩
def getH (id : Nat) (h : Heap) : Option AO := ng8 (Nat.mod id 8) (ng8 (Nat.mod (Nat.div id 8) 8) (ng8 (Nat.mod (Nat.div id 64) 8) (ng8 (Nat.mod (Nat.div id 512) 8) (ng8 (Nat.mod (Nat.div id 4096) 8) h))))
def setH (id : Nat) (o : Option AO) (h : Heap) : Heap := ns8 (Nat.mod (Nat.div id 4096) 8) (ns8 (Nat.mod (Nat.div id 512) 8) (ns8 (Nat.mod (Nat.div id 64) 8) (ns8 (Nat.mod (Nat.div id 8) 8) (ns8 (Nat.mod id 8) fun _ => o)))) h

/-- A fragment that stands beside the heap: its number, and the heap's numbers of its own. -/
structure Fr where
  k : Nat
  ix : Nat → Option Nat
def fr0 : Fr := ⟨0, fun _ => none⟩
/-- The abstract world: the heap, the next number, and the fragment that stands beside it. -/
structure AW where
  h : Heap
  next : Nat
  frag : Fr

inductive Arg where
  | t (s : Sel)
  | c (v : AV)
def Arg.ev (x : Arg) (f : Frame) : AV := Arg.rec (motive := fun _ => AV) (fun s => s.get f) (fun v => v) x

inductive LOp where
  | mv (x : Arg)
  | pick (c a b : Arg)
  | alloc (zero : List AV) (elem : Nat)
  | box (elem : Nat) (x : Arg)
  | build (zero : List AV) (parts : List (Nat × Nat × Arg))
  | bslice (elem len es : Nat) (zeros : List AV) (parts : List (Nat × Nat × Arg))
  | ld1 (a : Arg)
  | ldn (n : Nat) (a : Arg)
  | st (n : Nat) (a x : Arg)
  | nilc (x : Arg)
  | iadd (x y : Arg)
  | isub (x y : Arg)
  | imul (x y : Arg)
  | iand (x y : Arg)
  | ior (x y : Arg)
  | ixor (x y : Arg)
  | iandn (x y : Arg)
  | sadd (x y : Arg)
  | ishl (x y : Arg)
  | ishr (x y : Arg)
  | iquo (x y : Arg)
  | irem (x y : Arg)
  | ilt (x y : Arg)
  | ile (x y : Arg)
  | igt (x y : Arg)
  | ige (x y : Arg)
  | eq (neg : Bool) (kind : Nat) (x y : Arg)
  | neg (x : Arg)
  | not (x : Arg)
  | convI (k : IntKind) (x : Arg)
  | convS (x : Arg)
  | sToB (elem : Nat) (x : Arg)
  | bToS (x : Arg)
  | mkf (fid : Nat) (first captured : List Arg)
  | mkm
  | mks (elem es : Nat) (zero : List AV) (l c : Arg)
  | slS (x : Arg) (lo hi : Option Arg)
  | slV (es : Nat) (x : Arg) (lo hi mx : Option Arg)
  | slA (n es : Nat) (x : Arg) (lo hi : Option Arg)
  | faddr (off : Nat) (x : Arg)
  | fld1 (off : Nat) (x : Arg)
  | fldn (off n : Nat) (x : Arg)
  | iaddr (es : Nat) (x ix : Arg)
  | iaddrA (len es : Nat) (x ix : Arg)
  | idxS (x ix : Arg)
  | idxA1 (len : Nat) (x ix : Arg)
  | idxAn (len es : Nat) (x ix : Arg)
  | lookup (str : Bool) (zero : AV) (ok : Bool) (x k : Arg)
  | mupd (str : Bool) (m k x : Arg)
  | rangeS (x : Arg)
  | rangeM (x : Arg)
  | nextS (x : Arg)
  | nextM (x : Arg)
  | entry (x : Arg)
  | extract (ix : Nat) (x : Arg)
  | mkif (t : Nat) (x : Arg)
  | lenS (x : Arg)
  | lenV (x : Arg)
  | lenM (x : Arg)
  | cap (x : Arg)
  | append (es elem : Nat) (s x : Arg)
  | copy (es : Nat) (d s : Arg)
  | delete (str : Bool) (m k : Arg)
  | imin (x y : Arg)
  | imax (x y : Arg)
  | usd (x : Arg)
  | ustr (elem : Nat) (p n : Arg)
  | ptrU (n : Nat) (x : Arg)
  | uPtr (elem n : Nat) (x : Arg)
  | call (fid : Nat) (args : List Arg)
  | callv (x : Arg) (args : List Arg)

/-- An operation with its guard and its temporary. -/
inductive It where
  | o (d : Sel) (o : LOp)
  | n (o : LOp)
  | g (s : Sel) (want : Bool) (d : Sel) (o : LOp)
  | gn (s : Sel) (want : Bool) (o : LOp)

/-- An operation of a region that draws its order: its number, the set of those that must have come before, its kind. -/
inductive DI where
  | q (i anc : Nat) (it : It)
  | r (i anc : Nat) (it : It)
  | a (i anc q : Nat) (it : It)
  | i (i anc q : Nat) (it : It)
  | s (i anc : Nat) (it : It)

inductive LCode where
  | bad
  | skip
  | region (ops : List It)
  | draw (n : Nat) (ops : List DI)
  | seq (a b : LCode)
  | cond (c : Arg) (a b : LCode)
  | block (id : Nat) (b : LCode)
  | loop (b : LCode)
  | exit (id : Nat)
  | ret

inductive RV where
  | tmp (s : Sel)
  | c1 (s : Sel)
  | cn (s : Sel) (n : Nat)

structure LFun where
  params : List Sel
  body : LCode
  results : List RV

inductive Res where
  | fail
  | nrm (f : Frame) (A : AW)
  | ret (f : Frame) (A : AW)
  | ex (id : Nat) (f : Frame) (A : AW)
inductive CRes where
  | fail
  | ok (v : AV) (A : AW)

/-! Reading a value, in the form: what comes next. -/
section
variable {R : Type}

def asI (z : R) (v : AV) (K : IntKind → Nat → R) : R :=
  AV.rec (motive_1 := fun _ => R) (motive_2 := fun _ => PUnit) (fun _ => z) (fun _ => z) (fun k n => K k n) (fun _ _ => z) z (fun _ _ => z) (fun _ _ => z) z (fun _ _ _ _ => z) (fun _ _ _ _ => z) z (fun _ => z) (fun _ _ _ _ _ => z) z z (fun _ _ _ => z) (fun _ _ => z) (fun _ _ => z) PUnit.unit (fun _ _ _ _ => PUnit.unit) v
def asB (z : R) (v : AV) (K : Bool → R) : R :=
  AV.rec (motive_1 := fun _ => R) (motive_2 := fun _ => PUnit) (fun _ => z) (fun v => K v) (fun _ _ => z) (fun _ _ => z) z (fun _ _ => z) (fun _ _ => z) z (fun _ _ _ _ => z) (fun _ _ _ _ => z) z (fun _ => z) (fun _ _ _ _ _ => z) z z (fun _ _ _ => z) (fun _ _ => z) (fun _ _ => z) PUnit.unit (fun _ _ _ _ => PUnit.unit) v
def asS (z : R) (v : AV) (K : Nat → Nat → R) : R :=
  AV.rec (motive_1 := fun _ => R) (motive_2 := fun _ => PUnit) (fun _ => z) (fun _ => z) (fun _ _ => z) (fun len val => K len val) z (fun _ _ => z) (fun _ _ => z) z (fun _ _ _ _ => z) (fun _ _ _ _ => z) z (fun _ => z) (fun _ _ _ _ _ => z) z z (fun _ _ _ => z) (fun _ _ => z) (fun _ _ => z) PUnit.unit (fun _ _ _ _ => PUnit.unit) v
def asP (z : R) (v : AV) (K : Nat → Nat → R) : R :=
  AV.rec (motive_1 := fun _ => R) (motive_2 := fun _ => PUnit) (fun _ => z) (fun _ => z) (fun _ _ => z) (fun _ _ => z) z (fun id off => K id off) (fun _ _ => z) z (fun _ _ _ _ => z) (fun _ _ _ _ => z) z (fun _ => z) (fun _ _ _ _ _ => z) z z (fun _ _ _ => z) (fun _ _ => z) (fun _ _ => z) PUnit.unit (fun _ _ _ _ => PUnit.unit) v
def asM (z : R) (v : AV) (K : Nat → R) : R :=
  AV.rec (motive_1 := fun _ => R) (motive_2 := fun _ => PUnit) (fun _ => z) (fun _ => z) (fun _ _ => z) (fun _ _ => z) z (fun _ _ => z) (fun _ _ => z) z (fun _ _ _ _ => z) (fun _ _ _ _ => z) z (fun id => K id) (fun _ _ _ _ _ => z) z z (fun _ _ _ => z) (fun _ _ => z) (fun _ _ => z) PUnit.unit (fun _ _ _ _ => PUnit.unit) v
def asAgg (z : R) (v : AV) (K : List AV → R) : R :=
  AV.rec (motive_1 := fun _ => R) (motive_2 := fun _ => PUnit) (fun _ => z) (fun _ => z) (fun _ _ => z) (fun _ _ => z) z (fun _ _ => z) (fun _ _ => z) z (fun _ _ _ _ => z) (fun _ _ _ _ => z) z (fun _ => z) (fun _ _ _ _ _ => z) z z (fun _ _ _ => z) (fun cs _ => K cs) (fun _ _ => z) PUnit.unit (fun _ _ _ _ => PUnit.unit) v
def asTup (z : R) (v : AV) (K : List AV → R) : R :=
  AV.rec (motive_1 := fun _ => R) (motive_2 := fun _ => PUnit) (fun _ => z) (fun _ => z) (fun _ _ => z) (fun _ _ => z) z (fun _ _ => z) (fun _ _ => z) z (fun _ _ _ _ => z) (fun _ _ _ _ => z) z (fun _ => z) (fun _ _ _ _ _ => z) z z (fun _ _ _ => z) (fun _ _ => z) (fun vs _ => K vs) PUnit.unit (fun _ _ _ _ => PUnit.unit) v
def asF (z : R) (v : AV) (K : Nat → List AV → List AV → R) : R :=
  AV.rec (motive_1 := fun _ => R) (motive_2 := fun _ => PUnit) (fun _ => z) (fun _ => z) (fun _ _ => z) (fun _ _ => z) z (fun _ _ => z) (fun _ _ => z) z (fun _ _ _ _ => z) (fun _ _ _ _ => z) z (fun _ => z) (fun fid first captured _ _ => K fid first captured) z z (fun _ _ _ => z) (fun _ _ => z) (fun _ _ => z) PUnit.unit (fun _ _ _ _ => PUnit.unit) v
def asAd (z : R) (v : AV) (KP : Nat → Nat → R) (KG : Nat → Nat → R) : R :=
  AV.rec (motive_1 := fun _ => R) (motive_2 := fun _ => PUnit) (fun _ => z) (fun _ => z) (fun _ _ => z) (fun _ _ => z) z (fun id off => KP id off) (fun g off => KG g off) z (fun _ _ _ _ => z) (fun _ _ _ _ => z) z (fun _ => z) (fun _ _ _ _ _ => z) z z (fun _ _ _ => z) (fun _ _ => z) (fun _ _ => z) PUnit.unit (fun _ _ _ _ => PUnit.unit) v
def asSl (z : R) (v : AV) (K0 : R) (Kk : Nat → Nat → Nat → Nat → R) (Ku : Nat → Nat → Nat → Nat → R) : R :=
  AV.rec (motive_1 := fun _ => R) (motive_2 := fun _ => PUnit) (fun _ => z) (fun _ => z) (fun _ _ => z) (fun _ _ => z) z (fun _ _ => z) (fun _ _ => z) (K0) (fun id off len cap => Kk id off len cap) (fun id off len es => Ku id off len es) z (fun _ => z) (fun _ _ _ _ _ => z) z z (fun _ _ _ => z) (fun _ _ => z) (fun _ _ => z) PUnit.unit (fun _ _ _ _ => PUnit.unit) v
def asStrSl (z : R) (v : AV) (KS : Nat → Nat → R) (K0 : R) (K : Nat → Nat → Nat → R) : R :=
  AV.rec (motive_1 := fun _ => R) (motive_2 := fun _ => PUnit) (fun _ => z) (fun _ => z) (fun _ _ => z) (fun len val => KS len val) z (fun _ _ => z) (fun _ _ => z) (K0) (fun id off len _ => K id off len) (fun id off len _ => K id off len) z (fun _ => z) (fun _ _ _ _ _ => z) z z (fun _ _ _ => z) (fun _ _ => z) (fun _ _ => z) PUnit.unit (fun _ _ _ _ => PUnit.unit) v
def asMp (z : R) (v : AV) (K0 : R) (K : Nat → R) : R :=
  AV.rec (motive_1 := fun _ => R) (motive_2 := fun _ => PUnit) (fun _ => z) (fun _ => z) (fun _ _ => z) (fun _ _ => z) z (fun _ _ => z) (fun _ _ => z) z (fun _ _ _ _ => z) (fun _ _ _ _ => z) (K0) (fun id => K id) (fun _ _ _ _ _ => z) z z (fun _ _ _ => z) (fun _ _ => z) (fun _ _ => z) PUnit.unit (fun _ _ _ _ => PUnit.unit) v
def asCells (z : R) (v : AV) (K : List AV → R) : R :=
  AV.rec (motive_1 := fun _ => R) (motive_2 := fun _ => PUnit) (fun x0 => K [.any x0]) (fun x0 => K [.b x0]) (fun x0 x1 => K [.i x0 x1]) (fun x0 x1 => K [.s x0 x1]) (K [.p0]) (fun x0 x1 => K [.p x0 x1]) (fun x0 x1 => K [.g x0 x1]) (K [.sl0]) (fun x0 x1 x2 x3 => K [.sk x0 x1 x2 x3]) (fun x0 x1 x2 x3 => K [.su x0 x1 x2 x3]) (K [.m0]) (fun x0 => K [.m x0]) (fun x0 x1 x2 _ _ => K [.f x0 x1 x2]) (K [.f0]) (K [.if0]) (fun x0 x1 _ => K [.ifc x0 x1]) (fun x0 _ => K x0) (fun _ _ => z) PUnit.unit (fun _ _ _ _ => PUnit.unit) v
/-- A number is worked out before it goes on. -/
def force (n : Nat) (K : Nat → R) : R := Nat.rec (motive := fun _ => R) (K 0) (fun m _ => K (Nat.succ m)) n
def iff (c : Bool) (z K : R) : R := Bool.rec (motive := fun _ => R) z K c
def nthL (z : R) (cs : List AV) : Nat → (AV → R) → R :=
  List.rec (motive := fun _ => Nat → (AV → R) → R) (fun _ _ => z) (fun v _ ih n K => Nat.rec (motive := fun _ => R) (K v) (fun m _ => ih m K) n) cs
def takeL (z : R) (n : Nat) : List AV → (List AV → R) → R :=
  Nat.rec (motive := fun _ => List AV → (List AV → R) → R) (fun _ K => K []) (fun _ ih cs K => List.rec (motive := fun _ => R) z (fun v tl _ => ih tl fun r => K (v :: r)) cs) n
def dropL (z : R) (n : Nat) : List AV → (List AV → R) → R :=
  Nat.rec (motive := fun _ => List AV → (List AV → R) → R) (fun cs K => K cs) (fun _ ih cs K => List.rec (motive := fun _ => R) z (fun _ tl _ => ih tl K) cs) n
def appL (a b : List AV) : (List AV → R) → R :=
  List.rec (motive := fun _ => (List AV → R) → R) (fun K => K b) (fun v _ ih K => ih fun r => K (v :: r)) a
def setR (z : R) (cs : List AV) : Nat → List AV → (List AV → R) → R :=
  List.rec (motive := fun _ => Nat → List AV → (List AV → R) → R)
    (fun off vs K => Nat.rec (motive := fun _ => R) (List.rec (motive := fun _ => R) (K []) (fun _ _ _ => z) vs) (fun _ _ => z) off)
    (fun c tl ih off vs K => Nat.rec (motive := fun _ => R) (List.rec (motive := fun _ => R) (K (c :: tl)) (fun v vs' _ => ih 0 vs' fun r => K (v :: r)) vs) (fun m _ => ih m vs fun r => K (c :: r)) off) cs
def repl (n : Nat) (zero : List AV) : (List AV → R) → R :=
  Nat.rec (motive := fun _ => (List AV → R) → R) (fun K => K []) (fun _ ih K => ih fun r => appL zero r K) n
def bytesL (len : Nat) : Nat → (List AV → R) → R :=
  Nat.rec (motive := fun _ => Nat → (List AV → R) → R) (fun _ K => K []) (fun _ ih v K => force (Nat.land v 255) fun b => force (Nat.shiftRight v 8) fun v' => ih v' fun r => K (.i .u8 b :: r)) len
end

def lenL (cs : List AV) : Nat := List.rec (motive := fun _ => Nat) 0 (fun _ _ ih => Nat.succ ih) cs
def lenM (cs : List (AV × AV × Nat)) : Nat := List.rec (motive := fun _ => Nat) 0 (fun _ _ ih => Nat.succ ih) cs
def maskK (k : IntKind) : Nat := IntKind.rec (motive := fun _ => Nat) 0xff 0xffff 0xffffffff 0xffffffffffffffff 0xff 0xffff 0xffffffff 0xffffffffffffffff k
def modK (k : IntKind) : Nat := IntKind.rec (motive := fun _ => Nat) 0x100 0x10000 0x100000000 0x10000000000000000 0x100 0x10000 0x100000000 0x10000000000000000 k
def halfK (k : IntKind) : Nat := IntKind.rec (motive := fun _ => Nat) 0x80 0x8000 0x80000000 0x8000000000000000 0x100 0x10000 0x100000000 0x10000000000000000 k
def biasK (k : IntKind) : Nat := IntKind.rec (motive := fun _ => Nat) 0x80 0x8000 0x80000000 0x8000000000000000 0 0 0 0 k
def biased (k : IntKind) (a : Nat) : Nat := Nat.land (Nat.add a (biasK k)) (maskK k)
def codeK (k : IntKind) : Nat := IntKind.rec (motive := fun _ => Nat) 0 1 2 3 4 5 6 7 k
def sameK (k k' : IntKind) : Bool := Nat.beq (codeK k) (codeK k')
def lt (a b : Nat) : Bool := Nat.ble (Nat.succ a) b
def xorB (a b : Bool) : Bool := Bool.rec (motive := fun _ => Bool) b (Bool.rec (motive := fun _ => Bool) true false b) a
def andB (a b : Bool) : Bool := Bool.rec (motive := fun _ => Bool) false b a

section
abbrev KT := AV → AW → Res
def newO (A : AW) (o : AO) (K : Nat → AW → Res) : Res :=
  force A.next fun id => iff (lt id 32768) .fail (K id ⟨setH id (some o) A.h, Nat.succ id, A.frag⟩)
def cellsOf (A : AW) (id : Nat) (K : List AV → Nat → Nat → Res) : Res :=
  Option.rec (motive := fun _ => Res) .fail (fun o => AO.rec (motive := fun _ => Res) (fun cs e fz => K cs e fz) (fun _ _ => .fail) (fun _ _ _ _ => .fail) (fun _ _ _ => .fail) o) (getH id A.h)
def mapOf (A : AW) (id : Nat) (K : List (AV × AV × Nat) → Nat → Res) : Res :=
  Option.rec (motive := fun _ => Res) .fail (fun o => AO.rec (motive := fun _ => Res) (fun _ _ _ => .fail) (fun es c => K es c) (fun _ _ _ _ => .fail) (fun _ _ _ => .fail) o) (getH id A.h)
def put (A : AW) (id : Nat) (o : Option AO) : AW := ⟨setH id o A.h, A.next, A.frag⟩
def wr (A : AW) (id off : Nat) (vs : List AV) (K : AW → Res) : Res :=
  cellsOf A id fun cs e fz => Nat.rec (motive := fun _ => Res) .fail (fun _ _ => setR .fail cs off vs fun cs' => K (put A id (some (.cells cs' e fz)))) fz
/-- n cells of a block from off on. -/
def rd (A : AW) (id off n : Nat) (K : List AV → Res) : Res :=
  cellsOf A id fun cs _ _ => dropL .fail off cs fun r => takeL .fail n r K
def nonneg (k : IntKind) (n : Nat) (K : Res) : Res := iff (lt n (halfK k)) .fail K
def asN (v : AV) (K : Nat → Res) : Res := asI .fail v fun k n => nonneg k n (K n)
def optN (f : Frame) (d : Nat) (x : Option Arg) (K : Nat → Res) : Res :=
  Option.rec (motive := fun _ => Res) (K d) (fun a => asN (a.ev f) K) x
def evL (f : Frame) (l : List Arg) : List AV := List.rec (motive := fun _ => List AV) [] (fun x _ ih => x.ev f :: ih) l
def fillP (f : Frame) (l : List (Nat × Nat × Arg)) : List AV → (List AV → Res) → Res :=
  List.rec (motive := fun _ => List AV → (List AV → Res) → Res) (fun cs K => K cs)
    (fun p _ ih cs K => asCells .fail (p.2.2.ev f) fun vs => iff (Nat.beq (lenL vs) p.2.1) .fail (setR .fail cs p.1 vs fun cs' => ih cs' K)) l
def two (x y : AV) (K : IntKind → Nat → Nat → Res) : Res :=
  asI .fail x fun k a => asI .fail y fun k' b => iff (sameK k k') .fail (K k a b)
def absK (k : IntKind) (a : Nat) : Nat := Bool.rec (motive := fun _ => Nat) (Nat.sub (modK k) a) a (lt a (halfK k))
def negIf (c : Bool) (k : IntKind) (q : Nat) : Nat := Bool.rec (motive := fun _ => Nat) q (Nat.land (Nat.sub (modK k) q) (maskK k)) c
def bytesV (n : Nat) : List AV → (Nat → Res) → Res :=
  Nat.rec (motive := fun _ => List AV → (Nat → Res) → Res) (fun _ K => K 0)
    (fun _ ih cs K => List.rec (motive := fun _ => Res) .fail (fun v tl _ => asI .fail v fun k b => iff (sameK k .u8) .fail (ih tl fun r => force (Nat.add b (Nat.mul 256 r)) K)) cs) n

def eqKey (str : Bool) (a b : AV) (K : Bool → Res) : Res := Bool.rec (motive := fun _ => Res) (asI .fail a fun k n => asI .fail b fun k' n' => iff (sameK k k') .fail (K (Nat.beq n n'))) (asS .fail a fun la va => asS .fail b fun lb vb => K (andB (Nat.beq la lb) (Nat.beq va vb))) str
def findK (str : Bool) (key : AV) (es : List (AV × AV × Nat)) : Nat → (Nat → AV → Res) → Res → Res :=
  List.rec (motive := fun _ => Nat → (Nat → AV → Res) → Res → Res) (fun _ _ K0 => K0)
    (fun e _ ih i K K0 => eqKey str key e.1 fun c => Bool.rec (motive := fun _ => Res) (ih (Nat.succ i) K K0) (K i e.2.1) c) es
def eqb (z : Res) (a b : AV) (K : Bool → Res) : Res := asB z a fun v => asB z b fun v' => K (xorB (xorB v v') true)
def eqv (z : Res) (a b : AV) (K : Bool → Res) : Res :=
  AV.rec (motive_1 := fun _ => Res) (motive_2 := fun _ => PUnit) (fun _ => z) (fun _ => z) (fun k n => asI z b fun k' n' => iff (sameK k k') z (K (Nat.beq n n'))) (fun la va => asS z b fun lb vb => K (andB (Nat.beq la lb) (Nat.beq va vb))) z (fun _ _ => z) (fun _ _ => z) z (fun _ _ _ _ => z) (fun _ _ _ _ => z) z (fun _ => z) (fun _ _ _ _ _ => z) z z (fun _ _ _ => z) (fun _ _ => z) (fun _ _ => z) PUnit.unit (fun _ _ _ _ => PUnit.unit) a
def eqp (z : Res) (x y : AV) (K : Bool → Res) : Res :=
  AV.rec (motive_1 := fun _ => Res) (motive_2 := fun _ => PUnit) (fun _ => z) (fun _ => z) (fun _ _ => z) (fun _ _ => z) (AV.rec (motive_1 := fun _ => Res) (motive_2 := fun _ => PUnit) (fun _ => z) (fun _ => z) (fun _ _ => z) (fun _ _ => z) (K true) (fun _ _ => K false) (fun _ _ => z) z (fun _ _ _ _ => z) (fun _ _ _ _ => z) z (fun _ => z) (fun _ _ _ _ _ => z) z z (fun _ _ _ => z) (fun _ _ => z) (fun _ _ => z) PUnit.unit (fun _ _ _ _ => PUnit.unit) y) (fun id off => AV.rec (motive_1 := fun _ => Res) (motive_2 := fun _ => PUnit) (fun _ => z) (fun _ => z) (fun _ _ => z) (fun _ _ => z) (K false) (fun id' off' => iff (Nat.beq id id') z (K (Nat.beq off off'))) (fun _ _ => z) z (fun _ _ _ _ => z) (fun _ _ _ _ => z) z (fun _ => z) (fun _ _ _ _ _ => z) z z (fun _ _ _ => z) (fun _ _ => z) (fun _ _ => z) PUnit.unit (fun _ _ _ _ => PUnit.unit) y) (fun _ _ => z) z (fun _ _ _ _ => z) (fun _ _ _ _ => z) z (fun _ => z) (fun _ _ _ _ _ => z) z z (fun _ _ _ => z) (fun _ _ => z) (fun _ _ => z) PUnit.unit (fun _ _ _ _ => PUnit.unit) x
def eqs (z : Res) (x y : AV) (K : Bool → Res) : Res :=
  AV.rec (motive_1 := fun _ => Res) (motive_2 := fun _ => PUnit) (fun _ => z) (fun _ => z) (fun _ _ => z) (fun _ _ => z) z (fun _ _ => z) (fun _ _ => z) (AV.rec (motive_1 := fun _ => Res) (motive_2 := fun _ => PUnit) (fun _ => z) (fun _ => z) (fun _ _ => z) (fun _ _ => z) z (fun _ _ => z) (fun _ _ => z) (K true) (fun _ _ _ _ => K false) (fun _ _ _ _ => K false) z (fun _ => z) (fun _ _ _ _ _ => z) z z (fun _ _ _ => z) (fun _ _ => z) (fun _ _ => z) PUnit.unit (fun _ _ _ _ => PUnit.unit) y) (fun _ _ _ _ => AV.rec (motive_1 := fun _ => Res) (motive_2 := fun _ => PUnit) (fun _ => z) (fun _ => z) (fun _ _ => z) (fun _ _ => z) z (fun _ _ => z) (fun _ _ => z) (K false) (fun _ _ _ _ => z) (fun _ _ _ _ => z) z (fun _ => z) (fun _ _ _ _ _ => z) z z (fun _ _ _ => z) (fun _ _ => z) (fun _ _ => z) PUnit.unit (fun _ _ _ _ => PUnit.unit) y) (fun _ _ _ _ => AV.rec (motive_1 := fun _ => Res) (motive_2 := fun _ => PUnit) (fun _ => z) (fun _ => z) (fun _ _ => z) (fun _ _ => z) z (fun _ _ => z) (fun _ _ => z) (K false) (fun _ _ _ _ => z) (fun _ _ _ _ => z) z (fun _ => z) (fun _ _ _ _ _ => z) z z (fun _ _ _ => z) (fun _ _ => z) (fun _ _ => z) PUnit.unit (fun _ _ _ _ => PUnit.unit) y) z (fun _ => z) (fun _ _ _ _ _ => z) z z (fun _ _ _ => z) (fun _ _ => z) (fun _ _ => z) PUnit.unit (fun _ _ _ _ => PUnit.unit) x
def eqm (z : Res) (x y : AV) (K : Bool → Res) : Res :=
  AV.rec (motive_1 := fun _ => Res) (motive_2 := fun _ => PUnit) (fun _ => z) (fun _ => z) (fun _ _ => z) (fun _ _ => z) z (fun _ _ => z) (fun _ _ => z) z (fun _ _ _ _ => z) (fun _ _ _ _ => z) (AV.rec (motive_1 := fun _ => Res) (motive_2 := fun _ => PUnit) (fun _ => z) (fun _ => z) (fun _ _ => z) (fun _ _ => z) z (fun _ _ => z) (fun _ _ => z) z (fun _ _ _ _ => z) (fun _ _ _ _ => z) (K true) (fun _ => K false) (fun _ _ _ _ _ => z) z z (fun _ _ _ => z) (fun _ _ => z) (fun _ _ => z) PUnit.unit (fun _ _ _ _ => PUnit.unit) y) (fun _ => AV.rec (motive_1 := fun _ => Res) (motive_2 := fun _ => PUnit) (fun _ => z) (fun _ => z) (fun _ _ => z) (fun _ _ => z) z (fun _ _ => z) (fun _ _ => z) z (fun _ _ _ _ => z) (fun _ _ _ _ => z) (K false) (fun _ => z) (fun _ _ _ _ _ => z) z z (fun _ _ _ => z) (fun _ _ => z) (fun _ _ => z) PUnit.unit (fun _ _ _ _ => PUnit.unit) y) (fun _ _ _ _ _ => z) z z (fun _ _ _ => z) (fun _ _ => z) (fun _ _ => z) PUnit.unit (fun _ _ _ _ => PUnit.unit) x
def eqf (z : Res) (x y : AV) (K : Bool → Res) : Res :=
  AV.rec (motive_1 := fun _ => Res) (motive_2 := fun _ => PUnit) (fun _ => z) (fun _ => z) (fun _ _ => z) (fun _ _ => z) z (fun _ _ => z) (fun _ _ => z) z (fun _ _ _ _ => z) (fun _ _ _ _ => z) z (fun _ => z) (fun _ _ _ _ _ => AV.rec (motive_1 := fun _ => Res) (motive_2 := fun _ => PUnit) (fun _ => z) (fun _ => z) (fun _ _ => z) (fun _ _ => z) z (fun _ _ => z) (fun _ _ => z) z (fun _ _ _ _ => z) (fun _ _ _ _ => z) z (fun _ => z) (fun _ _ _ _ _ => z) (K false) z (fun _ _ _ => z) (fun _ _ => z) (fun _ _ => z) PUnit.unit (fun _ _ _ _ => PUnit.unit) y) (AV.rec (motive_1 := fun _ => Res) (motive_2 := fun _ => PUnit) (fun _ => z) (fun _ => z) (fun _ _ => z) (fun _ _ => z) z (fun _ _ => z) (fun _ _ => z) z (fun _ _ _ _ => z) (fun _ _ _ _ => z) z (fun _ => z) (fun _ _ _ _ _ => K false) (K true) z (fun _ _ _ => z) (fun _ _ => z) (fun _ _ => z) PUnit.unit (fun _ _ _ _ => PUnit.unit) y) z (fun _ _ _ => z) (fun _ _ => z) (fun _ _ => z) PUnit.unit (fun _ _ _ _ => PUnit.unit) x
def eqi (z : Res) (x y : AV) (K : Bool → Res) : Res :=
  AV.rec (motive_1 := fun _ => Res) (motive_2 := fun _ => PUnit) (fun _ => z) (fun _ => z) (fun _ _ => z) (fun _ _ => z) z (fun _ _ => z) (fun _ _ => z) z (fun _ _ _ _ => z) (fun _ _ _ _ => z) z (fun _ => z) (fun _ _ _ _ _ => z) z (AV.rec (motive_1 := fun _ => Res) (motive_2 := fun _ => PUnit) (fun _ => z) (fun _ => z) (fun _ _ => z) (fun _ _ => z) z (fun _ _ => z) (fun _ _ => z) z (fun _ _ _ _ => z) (fun _ _ _ _ => z) z (fun _ => z) (fun _ _ _ _ _ => z) z (K true) (fun _ _ _ => K false) (fun _ _ => z) (fun _ _ => z) PUnit.unit (fun _ _ _ _ => PUnit.unit) y) (fun _ _ _ => AV.rec (motive_1 := fun _ => Res) (motive_2 := fun _ => PUnit) (fun _ => z) (fun _ => z) (fun _ _ => z) (fun _ _ => z) z (fun _ _ => z) (fun _ _ => z) z (fun _ _ _ _ => z) (fun _ _ _ _ => z) z (fun _ => z) (fun _ _ _ _ _ => z) z (K false) (fun _ _ _ => z) (fun _ _ => z) (fun _ _ => z) PUnit.unit (fun _ _ _ _ => PUnit.unit) y) (fun _ _ => z) (fun _ _ => z) PUnit.unit (fun _ _ _ _ => PUnit.unit) x
def eqAt (kind : Nat) (x y : AV) (K : Bool → Res) : Res :=
  Nat.rec (motive := fun _ => Res) (eqv .fail x y K) (fun n _ => Nat.rec (motive := fun _ => Res) (eqp .fail x y K) (fun n _ => Nat.rec (motive := fun _ => Res) (eqs .fail x y K) (fun n _ => Nat.rec (motive := fun _ => Res) (eqm .fail x y K) (fun n _ => Nat.rec (motive := fun _ => Res) (eqf .fail x y K) (fun n _ => Nat.rec (motive := fun _ => Res) (eqi .fail x y K) (fun _ _ => eqb .fail x y K) n) n) n) n) n) kind
def eqFlat (z : Bool) (x y : AV) : Bool :=
  AV.rec (motive_1 := fun _ => Bool) (motive_2 := fun _ => PUnit) (fun a => AV.rec (motive_1 := fun _ => Bool) (motive_2 := fun _ => PUnit) (fun a' => Nat.beq a a') (fun _ => z) (fun _ _ => z) (fun _ _ => z) z (fun _ _ => z) (fun _ _ => z) z (fun _ _ _ _ => z) (fun _ _ _ _ => z) z (fun _ => z) (fun _ _ _ _ _ => z) z z (fun _ _ _ => z) (fun _ _ => z) (fun _ _ => z) PUnit.unit (fun _ _ _ _ => PUnit.unit) y) (fun v => AV.rec (motive_1 := fun _ => Bool) (motive_2 := fun _ => PUnit) (fun _ => z) (fun v' => xorB (xorB v v') true) (fun _ _ => z) (fun _ _ => z) z (fun _ _ => z) (fun _ _ => z) z (fun _ _ _ _ => z) (fun _ _ _ _ => z) z (fun _ => z) (fun _ _ _ _ _ => z) z z (fun _ _ _ => z) (fun _ _ => z) (fun _ _ => z) PUnit.unit (fun _ _ _ _ => PUnit.unit) y) (fun k n => AV.rec (motive_1 := fun _ => Bool) (motive_2 := fun _ => PUnit) (fun _ => z) (fun _ => z) (fun k' n' => andB (sameK k k') (Nat.beq n n')) (fun _ _ => z) z (fun _ _ => z) (fun _ _ => z) z (fun _ _ _ _ => z) (fun _ _ _ _ => z) z (fun _ => z) (fun _ _ _ _ _ => z) z z (fun _ _ _ => z) (fun _ _ => z) (fun _ _ => z) PUnit.unit (fun _ _ _ _ => PUnit.unit) y) (fun a b => AV.rec (motive_1 := fun _ => Bool) (motive_2 := fun _ => PUnit) (fun _ => z) (fun _ => z) (fun _ _ => z) (fun a' b' => andB (Nat.beq a a') (Nat.beq b b')) z (fun _ _ => z) (fun _ _ => z) z (fun _ _ _ _ => z) (fun _ _ _ _ => z) z (fun _ => z) (fun _ _ _ _ _ => z) z z (fun _ _ _ => z) (fun _ _ => z) (fun _ _ => z) PUnit.unit (fun _ _ _ _ => PUnit.unit) y) (AV.rec (motive_1 := fun _ => Bool) (motive_2 := fun _ => PUnit) (fun _ => z) (fun _ => z) (fun _ _ => z) (fun _ _ => z) (true) (fun _ _ => z) (fun _ _ => z) z (fun _ _ _ _ => z) (fun _ _ _ _ => z) z (fun _ => z) (fun _ _ _ _ _ => z) z z (fun _ _ _ => z) (fun _ _ => z) (fun _ _ => z) PUnit.unit (fun _ _ _ _ => PUnit.unit) y) (fun a b => AV.rec (motive_1 := fun _ => Bool) (motive_2 := fun _ => PUnit) (fun _ => z) (fun _ => z) (fun _ _ => z) (fun _ _ => z) z (fun a' b' => andB (Nat.beq a a') (Nat.beq b b')) (fun _ _ => z) z (fun _ _ _ _ => z) (fun _ _ _ _ => z) z (fun _ => z) (fun _ _ _ _ _ => z) z z (fun _ _ _ => z) (fun _ _ => z) (fun _ _ => z) PUnit.unit (fun _ _ _ _ => PUnit.unit) y) (fun a b => AV.rec (motive_1 := fun _ => Bool) (motive_2 := fun _ => PUnit) (fun _ => z) (fun _ => z) (fun _ _ => z) (fun _ _ => z) z (fun _ _ => z) (fun a' b' => andB (Nat.beq a a') (Nat.beq b b')) z (fun _ _ _ _ => z) (fun _ _ _ _ => z) z (fun _ => z) (fun _ _ _ _ _ => z) z z (fun _ _ _ => z) (fun _ _ => z) (fun _ _ => z) PUnit.unit (fun _ _ _ _ => PUnit.unit) y) (AV.rec (motive_1 := fun _ => Bool) (motive_2 := fun _ => PUnit) (fun _ => z) (fun _ => z) (fun _ _ => z) (fun _ _ => z) z (fun _ _ => z) (fun _ _ => z) (true) (fun _ _ _ _ => z) (fun _ _ _ _ => z) z (fun _ => z) (fun _ _ _ _ _ => z) z z (fun _ _ _ => z) (fun _ _ => z) (fun _ _ => z) PUnit.unit (fun _ _ _ _ => PUnit.unit) y) (fun a b c d => AV.rec (motive_1 := fun _ => Bool) (motive_2 := fun _ => PUnit) (fun _ => z) (fun _ => z) (fun _ _ => z) (fun _ _ => z) z (fun _ _ => z) (fun _ _ => z) z (fun a' b' c' d' => andB (andB (Nat.beq a a') (Nat.beq b b')) (andB (Nat.beq c c') (Nat.beq d d'))) (fun _ _ _ _ => z) z (fun _ => z) (fun _ _ _ _ _ => z) z z (fun _ _ _ => z) (fun _ _ => z) (fun _ _ => z) PUnit.unit (fun _ _ _ _ => PUnit.unit) y) (fun a b c d => AV.rec (motive_1 := fun _ => Bool) (motive_2 := fun _ => PUnit) (fun _ => z) (fun _ => z) (fun _ _ => z) (fun _ _ => z) z (fun _ _ => z) (fun _ _ => z) z (fun _ _ _ _ => z) (fun a' b' c' d' => andB (andB (Nat.beq a a') (Nat.beq b b')) (andB (Nat.beq c c') (Nat.beq d d'))) z (fun _ => z) (fun _ _ _ _ _ => z) z z (fun _ _ _ => z) (fun _ _ => z) (fun _ _ => z) PUnit.unit (fun _ _ _ _ => PUnit.unit) y) (AV.rec (motive_1 := fun _ => Bool) (motive_2 := fun _ => PUnit) (fun _ => z) (fun _ => z) (fun _ _ => z) (fun _ _ => z) z (fun _ _ => z) (fun _ _ => z) z (fun _ _ _ _ => z) (fun _ _ _ _ => z) (true) (fun _ => z) (fun _ _ _ _ _ => z) z z (fun _ _ _ => z) (fun _ _ => z) (fun _ _ => z) PUnit.unit (fun _ _ _ _ => PUnit.unit) y) (fun a => AV.rec (motive_1 := fun _ => Bool) (motive_2 := fun _ => PUnit) (fun _ => z) (fun _ => z) (fun _ _ => z) (fun _ _ => z) z (fun _ _ => z) (fun _ _ => z) z (fun _ _ _ _ => z) (fun _ _ _ _ => z) z (fun a' => Nat.beq a a') (fun _ _ _ _ _ => z) z z (fun _ _ _ => z) (fun _ _ => z) (fun _ _ => z) PUnit.unit (fun _ _ _ _ => PUnit.unit) y) (fun _ _ _ _ _ => z) (AV.rec (motive_1 := fun _ => Bool) (motive_2 := fun _ => PUnit) (fun _ => z) (fun _ => z) (fun _ _ => z) (fun _ _ => z) z (fun _ _ => z) (fun _ _ => z) z (fun _ _ _ _ => z) (fun _ _ _ _ => z) z (fun _ => z) (fun _ _ _ _ _ => z) (true) z (fun _ _ _ => z) (fun _ _ => z) (fun _ _ => z) PUnit.unit (fun _ _ _ _ => PUnit.unit) y) (AV.rec (motive_1 := fun _ => Bool) (motive_2 := fun _ => PUnit) (fun _ => z) (fun _ => z) (fun _ _ => z) (fun _ _ => z) z (fun _ _ => z) (fun _ _ => z) z (fun _ _ _ _ => z) (fun _ _ _ _ => z) z (fun _ => z) (fun _ _ _ _ _ => z) z (true) (fun _ _ _ => z) (fun _ _ => z) (fun _ _ => z) PUnit.unit (fun _ _ _ _ => PUnit.unit) y) (fun _ _ _ => z) (fun _ _ => z) (fun _ _ => z) PUnit.unit (fun _ _ _ _ => PUnit.unit) x
def eqFlats (l : List AV) : List AV → Bool := List.rec (motive := fun _ => List AV → Bool) (fun m => List.rec (motive := fun _ => Bool) true (fun _ _ _ => false) m) (fun a _ ih m => List.rec (motive := fun _ => Bool) false (fun b tl _ => andB (eqFlat false a b) (ih tl)) m) l
def eqAV (x y : AV) : Bool :=
  (fun z => AV.rec (motive_1 := fun _ => Bool) (motive_2 := fun _ => PUnit) (fun _ => eqFlat false x y) (fun _ => eqFlat false x y) (fun _ _ => eqFlat false x y) (fun _ _ => eqFlat false x y) (eqFlat false x y) (fun _ _ => eqFlat false x y) (fun _ _ => eqFlat false x y) (eqFlat false x y) (fun _ _ _ _ => eqFlat false x y) (fun _ _ _ _ => eqFlat false x y) (eqFlat false x y) (fun _ => eqFlat false x y) (fun _ _ _ _ _ => eqFlat false x y) (eqFlat false x y) (eqFlat false x y) (fun _ _ _ => eqFlat false x y) (fun cs _ => AV.rec (motive_1 := fun _ => Bool) (motive_2 := fun _ => PUnit) (fun _ => z) (fun _ => z) (fun _ _ => z) (fun _ _ => z) z (fun _ _ => z) (fun _ _ => z) z (fun _ _ _ _ => z) (fun _ _ _ _ => z) z (fun _ => z) (fun _ _ _ _ _ => z) z z (fun _ _ _ => z) (fun cs' _ => eqFlats cs cs') (fun _ _ => z) PUnit.unit (fun _ _ _ _ => PUnit.unit) y) (fun cs _ => AV.rec (motive_1 := fun _ => Bool) (motive_2 := fun _ => PUnit) (fun _ => z) (fun _ => z) (fun _ _ => z) (fun _ _ => z) z (fun _ _ => z) (fun _ _ => z) z (fun _ _ _ _ => z) (fun _ _ _ _ => z) z (fun _ => z) (fun _ _ _ _ _ => z) z z (fun _ _ _ => z) (fun _ _ => z) (fun cs' _ => eqFlats cs cs') PUnit.unit (fun _ _ _ _ => PUnit.unit) y) PUnit.unit (fun _ _ _ _ => PUnit.unit) x) false
def ptrA (z : Res) (v : AV) (K0 : Res) (K : Nat → Nat → Res) : Res :=
  AV.rec (motive_1 := fun _ => Res) (motive_2 := fun _ => PUnit) (fun _ => z) (fun _ => z) (fun _ _ => z) (fun _ _ => z) (K0) (fun id off => K id off) (fun _ _ => z) z (fun _ _ _ _ => z) (fun _ _ _ _ => z) z (fun _ => z) (fun _ _ _ _ _ => z) z z (fun _ _ _ => z) (fun _ _ => z) (fun _ _ => z) PUnit.unit (fun _ _ _ _ => PUnit.unit) v
def nilcV (z : Res) (v : AV) (K : Res) : Res :=
  AV.rec (motive_1 := fun _ => Res) (motive_2 := fun _ => PUnit) (fun _ => z) (fun _ => z) (fun _ _ => z) (fun _ _ => z) z (fun _ _ => K) (fun _ _ => K) z (fun _ _ _ _ => z) (fun _ _ _ _ => z) z (fun _ => z) (fun _ _ _ _ _ => K) z z (fun _ _ _ => z) (fun _ _ => z) (fun _ _ => z) PUnit.unit (fun _ _ _ _ => PUnit.unit) v
def srcOf (A : AW) (es : Nat) (v : AV) (K : List AV → Nat → Res) : Res :=
  asStrSl .fail v (fun len val => iff (Nat.beq es 1) .fail (bytesL len val fun cs => K cs len)) (K [] 0) (fun id off len => rd A id off (Nat.mul len es) fun cs => K cs len)
def appendA (A : AW) (es elem : Nat) (sv xv : AV) (K : KT) : Res :=
  iff (lt 0 es) .fail (srcOf A es xv fun new n => iff (lt n 1048576) .fail
    (Nat.rec (motive := fun _ => Res)
      (asSl .fail sv (K .sl0 A) (fun id off len cap => K (.sk id off len cap) A) (fun id off len e => iff (Nat.beq e es) .fail (K (.su id off len e) A)))
      (fun _ _ => asSl .fail sv
        (newO A (.cells new elem 1) fun id A' => K (.su id 0 n es) A')
        (fun id off len cap => force (Nat.add len n) fun t => iff (lt t 1048576) .fail (Bool.rec (motive := fun _ => Res)
          (rd A id off (Nat.mul len es) fun old => appL old new fun cs => newO A (.cells cs elem 1) fun id' A' => K (.su id' 0 t es) A')
          (wr A id (Nat.add off (Nat.mul len es)) new fun A' => K (.sk id off t cap) A') (Nat.ble t cap)))
        (fun id off len e => iff (Nat.beq e es) .fail (force (Nat.add len n) fun t => iff (lt t 1048576) .fail
          (cellsOf A id fun cs e0 fz => Nat.rec (motive := fun _ => Res) .fail
            (fun _ _ => iff (Nat.beq e0 elem) .fail (dropL .fail off cs fun r => takeL .fail (Nat.mul len es) r fun old => appL old new fun cs' => newO (put A id none) (.cells cs' elem 1) fun id' A' => K (.su id' 0 t es) A'))
            fz)))) n))
def minN (a b : Nat) : Nat := Bool.rec (motive := fun _ => Nat) b a (Nat.ble a b)
def copyA (A : AW) (es : Nat) (dv sv : AV) (K : KT) : Res :=
  asSl .fail dv .fail
    (fun id off len _ => asSl .fail sv (K (.i .i64 0) A)
      (fun id' off' len' _ => force (minN len' len) fun n => iff (lt n 1048576) .fail (rd A id' off' (Nat.mul n es) fun cs => wr A id off cs fun A' => K (.i .i64 n) A'))
      (fun _ _ _ _ => .fail))
    (fun _ _ _ _ => asSl .fail sv (K (.i .i64 0) A) (fun _ _ _ _ => .fail) (fun _ _ _ _ => .fail))
def nextMA (A : AW) (x : AV) (K : KT) : Res :=
  asP .fail x fun id off => iff (Nat.beq off 0) .fail (Option.rec (motive := fun _ => Res) .fail (fun o => AO.rec (motive := fun _ => Res) (fun _ _ _ => .fail) (fun _ _ => .fail)
    (fun m since seen sp => Option.rec (motive := fun _ => Res) (K (.tup [.b false]) A)
      (fun mid => mapOf A mid fun es clock => List.rec (motive := fun _ => Res) (K (.tup [.b false]) A)
        (fun e tl _ => List.rec (motive := fun _ => Res)
          (List.rec (motive := fun _ => Res)
            (iff (lt e.2.2 since) .fail (K (.tup [.b true, e.1, e.2.1]) (put A id (some (.miter (some mid) since [e.2.2] clock)))))
            (fun st sl _ => List.rec (motive := fun _ => Res) (iff (Nat.beq st e.2.2) .fail (iff (lt e.2.2 sp) .fail (K (.tup [.b false]) A))) (fun _ _ _ => .fail) sl) seen)
          (fun _ _ _ => .fail) tl) es) m)
    (fun _ _ _ => .fail) o) (getH id A.h))
def nextSA (A : AW) (x : AV) (K : KT) : Res :=
  asP .fail x fun id off => iff (Nat.beq off 0) .fail (Option.rec (motive := fun _ => Res) .fail (fun o => AO.rec (motive := fun _ => Res) (fun _ _ _ => .fail) (fun _ _ => .fail)
    (fun _ _ _ _ => .fail)
    (fun len val pos => Bool.rec (motive := fun _ => Res) (K (.tup [.b false]) A)
      (force (Nat.land (Nat.shiftRight val (Nat.mul 8 pos)) 255) fun c => iff (lt c 128) .fail (iff (lt pos 1048576) .fail (K (.tup [.b true, .i .i64 pos, .i .i32 c]) (put A id (some (.siter len val (Nat.succ pos))))))) (lt pos len)) o) (getH id A.h))
def fstArg : List AV → List AV → List AV → List AV := fun a b c => appL a (appL b c id) id
def strSl (len val l h : Nat) (K : AV → Res) : Res :=
  iff (Nat.ble l h) .fail (iff (Nat.ble h len) .fail (force (Nat.sub h l) fun n => force (Nat.mod (Nat.shiftRight val (Nat.mul 8 l)) (Nat.pow 2 (Nat.mul 8 n))) fun v => K (.s n v)))
def sel1 (c : Bool) (a b : Nat) : Nat := Bool.rec (motive := fun _ => Nat) b a c

/-- One operation: G: the cells of the package variables; CE: what a call does. -/
def stepOp (G : Nat → List AV) (CE : Nat → List AV → AW → CRes) (o : LOp) : Frame → AW → KT → Res :=
  LOp.rec (motive := fun _ => Frame → AW → KT → Res)
    /- mv -/ (fun x f A K => K (x.ev f) A)
    /- pick -/ (fun c a b f A K => asB .fail (c.ev f) fun t => Bool.rec (motive := fun _ => Res) (K (b.ev f) A) (K (a.ev f) A) t)
    /- alloc -/ (fun zero elem _ A K => newO A (.cells zero elem 2) fun id A' => K (.p id 0) A')
    /- box -/ (fun elem x f A K => asCells .fail (x.ev f) fun cs => newO A (.cells cs elem 2) fun id A' => K (.p id 0) A')
    /- build -/ (fun zero parts f A K => fillP f parts zero fun cs => K (.agg cs) A)
    /- bslice -/ (fun elem len _ zeros parts f A K => fillP f parts zeros fun cs => newO A (.cells cs elem 2) fun id A' => K (.sk id 0 len len) A')
    /- ld1 -/ (fun a f A K => asAd .fail (a.ev f) (fun id off => cellsOf A id fun cs _ _ => nthL .fail cs off fun v => K v A) (fun g off => nthL .fail (G g) off fun v => K v A))
    /- ldn -/ (fun n a f A K => asAd .fail (a.ev f) (fun id off => rd A id off n fun cs => K (.agg cs) A) (fun g off => dropL .fail off (G g) fun r => takeL .fail n r fun cs => K (.agg cs) A))
    /- st -/ (fun n a x f A K => asP .fail (a.ev f) fun id off => asCells .fail (x.ev f) fun vs => iff (Nat.beq (lenL vs) n) .fail (wr A id off vs fun A' => K undefA A'))
    /- nilc -/ (fun x f A K => nilcV .fail (x.ev f) (K (x.ev f) A))
    /- iadd -/ (fun x y f A K => two (x.ev f) (y.ev f) fun k a b => force (Nat.land (Nat.add a b) (maskK k)) fun r => K (.i k r) A)
    /- isub -/ (fun x y f A K => two (x.ev f) (y.ev f) fun k a b => force (Nat.land (Nat.sub (Nat.add a (modK k)) b) (maskK k)) fun r => K (.i k r) A)
    /- imul -/ (fun x y f A K => two (x.ev f) (y.ev f) fun k a b => force (Nat.land (Nat.mul a b) (maskK k)) fun r => K (.i k r) A)
    /- iand -/ (fun x y f A K => two (x.ev f) (y.ev f) fun k a b => force (Nat.land a b) fun r => K (.i k r) A)
    /- ior -/ (fun x y f A K => two (x.ev f) (y.ev f) fun k a b => force (Nat.lor a b) fun r => K (.i k r) A)
    /- ixor -/ (fun x y f A K => two (x.ev f) (y.ev f) fun k a b => force (Nat.xor a b) fun r => K (.i k r) A)
    /- iandn -/ (fun x y f A K => two (x.ev f) (y.ev f) fun k a b => force (Nat.land a (Nat.sub (maskK k) b)) fun r => K (.i k r) A)
    /- sadd -/ (fun x y f A K => asS .fail (x.ev f) fun la va => asS .fail (y.ev f) fun lb vb => force (Nat.add la lb) fun l => iff (lt l 1048576) .fail (force (Nat.add va (Nat.shiftLeft vb (Nat.mul 8 la))) fun v => K (.s l v) A))
    /- ishl -/ (fun x y f A K => asI .fail (x.ev f) fun k a => asN (y.ev f) fun c => force (sel1 (Nat.ble 64 c) 0 (Nat.land (Nat.shiftLeft a c) (maskK k))) fun r => K (.i k r) A)
    /- ishr -/ (fun x y f A K => asI .fail (x.ev f) fun k a => nonneg k a (asN (y.ev f) fun c => force (sel1 (Nat.ble 64 c) 0 (Nat.shiftRight a c)) fun r => K (.i k r) A))
    /- iquo -/ (fun x y f A K => two (x.ev f) (y.ev f) fun k a b => iff (lt 0 b) .fail (force (negIf (xorB (lt a (halfK k)) (lt b (halfK k))) k (Nat.div (absK k a) (absK k b))) fun r => K (.i k r) A))
    /- irem -/ (fun x y f A K => two (x.ev f) (y.ev f) fun k a b => iff (lt 0 b) .fail (force (negIf (xorB (lt a (halfK k)) true) k (Nat.mod (absK k a) (absK k b))) fun r => K (.i k r) A))
    /- ilt -/ (fun x y f A K => two (x.ev f) (y.ev f) fun k a b => K (.b (lt (biased k a) (biased k b))) A)
    /- ile -/ (fun x y f A K => two (x.ev f) (y.ev f) fun k a b => K (.b (Nat.ble (biased k a) (biased k b))) A)
    /- igt -/ (fun x y f A K => two (x.ev f) (y.ev f) fun k a b => K (.b (lt (biased k b) (biased k a))) A)
    /- ige -/ (fun x y f A K => two (x.ev f) (y.ev f) fun k a b => K (.b (Nat.ble (biased k b) (biased k a))) A)
    /- eq -/ (fun ng kind x y f A K => eqAt kind (x.ev f) (y.ev f) fun c => K (.b (xorB ng c)) A)
    /- neg -/ (fun x f A K => asI .fail (x.ev f) fun k a => force (Nat.land (Nat.sub (modK k) a) (maskK k)) fun r => K (.i k r) A)
    /- not -/ (fun x f A K => asB .fail (x.ev f) fun t => K (.b (xorB t true)) A)
    /- convI -/ (fun k x f A K => asI .fail (x.ev f) fun k' n => force (Nat.land (sel1 (lt n (halfK k')) n (Nat.add n (Nat.sub 0x10000000000000000 (modK k')))) (maskK k)) fun r => K (.i k r) A)
    /- convS -/ (fun x f A K => asS .fail (x.ev f) fun len val => K (.s len val) A)
    /- sToB -/ (fun elem x f A K => asS .fail (x.ev f) fun len val => iff (lt len 1048576) .fail (bytesL len val fun cs => newO A (.cells cs elem 1) fun id A' => K (.su id 0 len 1) A'))
    /- bToS -/ (fun x f A K => asSl .fail (x.ev f) (K (.s 0 0) A) (fun id off len _ => rd A id off len fun cs => bytesV len cs fun v => K (.s len v) A) (fun id off len _ => rd A id off len fun cs => bytesV len cs fun v => K (.s len v) A))
    /- mkf -/ (fun fid first captured f A K => K (.f fid (evL f first) (evL f captured)) A)
    /- mkm -/ (fun _ A K => newO A (.map [] 0) fun id A' => K (.m id) A')
    /- mks -/ (fun elem _ zero l c f A K => asN (l.ev f) fun n => asN (c.ev f) fun m => iff (Nat.ble n m) .fail (iff (lt m 1048576) .fail (repl m zero fun cs => newO A (.cells cs elem 2) fun id A' => K (.sk id 0 n m) A')))
    /- slS -/ (fun x lo hi f A K => asS .fail (x.ev f) fun len val => optN f 0 lo fun l => optN f len hi fun h => strSl len val l h fun v => K v A)
    /- slV -/ (fun es x lo hi mx f A K => asSl .fail (x.ev f)
        (optN f 0 lo fun l => optN f 0 hi fun h => optN f 0 mx fun m => iff (Nat.beq (Nat.add l (Nat.add h m)) 0) .fail (K .sl0 A))
        (fun id off len cap => optN f 0 lo fun l => optN f len hi fun h => optN f cap mx fun m => iff (andB (Nat.ble l h) (andB (Nat.ble h m) (Nat.ble m cap))) .fail
          (force (sel1 (Nat.beq m l) off (Nat.add off (Nat.mul l es))) fun off' => force (Nat.sub h l) fun n => force (Nat.sub m l) fun c => K (.sk id off' n c) A))
        (fun id off len e => iff (Nat.beq e es) .fail (optN f 0 lo fun l => optN f len hi fun h => Option.rec (motive := fun _ => Res)
          (iff (andB (Nat.ble l h) (Nat.ble h len)) .fail (force (Nat.add off (Nat.mul l es)) fun off' => force (Nat.sub h l) fun n => K (.su id off' n es) A))
          (fun ma => asN (ma.ev f) fun m => iff (andB (Nat.ble l h) (andB (Nat.ble h m) (Nat.ble m len))) .fail
            (force (sel1 (Nat.beq m l) off (Nat.add off (Nat.mul l es))) fun off' => force (Nat.sub h l) fun n => force (Nat.sub m l) fun c => K (.sk id off' n c) A)) mx)))
    /- slA -/ (fun n es x lo hi f A K => asP .fail (x.ev f) fun id off => optN f 0 lo fun l => optN f n hi fun h => iff (andB (Nat.ble l h) (Nat.ble h n)) .fail
        (force (sel1 (Nat.beq n l) off (Nat.add off (Nat.mul l es))) fun off' => force (Nat.sub h l) fun c => force (Nat.sub n l) fun m => K (.sk id off' c m) A))
    /- faddr -/ (fun off x f A K => asAd .fail (x.ev f) (fun id o => force (Nat.add o off) fun r => K (.p id r) A) (fun g o => force (Nat.add o off) fun r => K (.g g r) A))
    /- fld1 -/ (fun off x f A K => asAgg .fail (x.ev f) fun cs => nthL .fail cs off fun v => K v A)
    /- fldn -/ (fun off n x f A K => asAgg .fail (x.ev f) fun cs => dropL .fail off cs fun r => takeL .fail n r fun t => K (.agg t) A)
    /- iaddr -/ (fun es x ix f A K => asN (ix.ev f) fun n => asSl .fail (x.ev f) .fail
        (fun id off len _ => iff (lt n len) .fail (force (Nat.add off (Nat.mul n es)) fun r => K (.p id r) A))
        (fun id off len _ => iff (lt n len) .fail (force (Nat.add off (Nat.mul n es)) fun r => K (.p id r) A)))
    /- iaddrA -/ (fun len es x ix f A K => asN (ix.ev f) fun n => iff (lt n len) .fail (asAd .fail (x.ev f) (fun id off => force (Nat.add off (Nat.mul n es)) fun r => K (.p id r) A) (fun g off => force (Nat.add off (Nat.mul n es)) fun r => K (.g g r) A)))
    /- idxS -/ (fun x ix f A K => asN (ix.ev f) fun n => asS .fail (x.ev f) fun len val => iff (lt n len) .fail (force (Nat.land (Nat.shiftRight val (Nat.mul 8 n)) 255) fun r => K (.i .u8 r) A))
    /- idxA1 -/ (fun len x ix f A K => asN (ix.ev f) fun n => iff (lt n len) .fail (asAgg .fail (x.ev f) fun cs => nthL .fail cs n fun v => K v A))
    /- idxAn -/ (fun len es x ix f A K => asN (ix.ev f) fun n => iff (lt n len) .fail (asAgg .fail (x.ev f) fun cs => dropL .fail (Nat.mul n es) cs fun r => takeL .fail es r fun t => K (.agg t) A))
    /- lookup -/ (fun str zero ok x k f A K => asM .fail (x.ev f) fun id => mapOf A id fun es _ => findK str (k.ev f) es 0 (fun _ v => K (Bool.rec (motive := fun _ => AV) v (.tup [v, .b true]) ok) A) (K (Bool.rec (motive := fun _ => AV) zero (.tup [zero, .b false]) ok) A))
    /- mupd -/ (fun str m k x f A K => asM .fail (m.ev f) fun id => mapOf A id fun es clock => findK str (k.ev f) es 0
        (fun i _ => K undefA (put A id (some (.map (es.modify i fun e => (k.ev f, x.ev f, e.2.2)) clock))))
        (K undefA (put A id (some (.map (es ++ [(k.ev f, x.ev f, clock)]) (Nat.succ clock))))))
    /- rangeS -/ (fun x f A K => asS .fail (x.ev f) fun len val => newO A (.siter len val 0) fun id A' => K (.p id 0) A')
    /- rangeM -/ (fun x f A K => asMp .fail (x.ev f) (newO A (.miter none 0 [] 0) fun id A' => K (.p id 0) A') fun mid => mapOf A mid fun _ clock => newO A (.miter (some mid) clock [] clock) fun id A' => K (.p id 0) A')
    /- nextS -/ (fun x f A K => nextSA A (x.ev f) K)
    /- nextM -/ (fun x f A K => nextMA A (x.ev f) K)
    /- entry -/ (fun x f A K => asP .fail (x.ev f) fun id off => iff (Nat.beq off 0) .fail (Option.rec (motive := fun _ => Res) .fail (fun o => AO.rec (motive := fun _ => Res) (fun _ _ _ => .fail) (fun _ _ => .fail)
        (fun m _ seen stepped => Option.rec (motive := fun _ => Res) .fail (fun mid => mapOf A mid fun es clock => iff (Nat.beq clock stepped) .fail
          (List.rec (motive := fun _ => Res) .fail (fun st sl _ => List.rec (motive := fun _ => Res) (List.rec (motive := fun _ => Res) .fail (fun e tl _ => List.rec (motive := fun _ => Res) (iff (Nat.beq e.2.2 st) .fail (K (.tup [e.1, e.2.1]) A)) (fun _ _ _ => .fail) tl) es) (fun _ _ _ => .fail) sl) seen)) m)
        (fun _ _ _ => .fail) o) (getH id A.h)))
    /- extract -/ (fun ix x f A K => asTup .fail (x.ev f) fun vs => nthL .fail vs ix fun v => K v A)
    /- mkif -/ (fun t x f A K => K (.ifc t (x.ev f)) A)
    /- lenS -/ (fun x f A K => asS .fail (x.ev f) fun n _ => iff (lt n 0x8000000000000000) .fail (K (.i .i64 n) A))
    /- lenV -/ (fun x f A K => asSl .fail (x.ev f) (K (.i .i64 0) A) (fun _ _ n _ => iff (lt n 0x8000000000000000) .fail (K (.i .i64 n) A)) (fun _ _ n _ => iff (lt n 0x8000000000000000) .fail (K (.i .i64 n) A)))
    /- lenM -/ (fun x f A K => asMp .fail (x.ev f) (K (.i .i64 0) A) fun id => mapOf A id fun es _ => force (lenM es) fun n => iff (lt n 0x8000000000000000) .fail (K (.i .i64 n) A))
    /- cap -/ (fun x f A K => asSl .fail (x.ev f) (K (.i .i64 0) A) (fun _ _ _ c => iff (lt c 0x8000000000000000) .fail (K (.i .i64 c) A)) (fun _ _ _ _ => .fail))
    /- append -/ (fun es elem s x f A K => appendA A es elem (s.ev f) (x.ev f) K)
    /- copy -/ (fun es d s f A K => copyA A es (d.ev f) (s.ev f) K)
    /- delete -/ (fun str m k f A K => asM .fail (m.ev f) fun id => mapOf A id fun es clock => findK str (k.ev f) es 0 (fun i _ => K undefA (put A id (some (.map (es.eraseIdx i) clock)))) (K undefA A))
    /- imin -/ (fun x y f A K => two (x.ev f) (y.ev f) fun k a b => K (.i k (sel1 (lt (biased k b) (biased k a)) b a)) A)
    /- imax -/ (fun x y f A K => two (x.ev f) (y.ev f) fun k a b => K (.i k (sel1 (lt (biased k a) (biased k b)) b a)) A)
    /- usd -/ (fun x f A K => asSl .fail (x.ev f) (K .p0 A) (fun id off _ cap => iff (lt 0 cap) .fail (K (.p id off) A)) (fun id off len _ => iff (lt 0 len) .fail (K (.p id off) A)))
    /- ustr -/ (fun elem p n f A K => asP .fail (p.ev f) fun id off => asN (n.ev f) fun len => iff (lt 0 len) .fail (iff (lt len 1048576) .fail (cellsOf A id fun cs e _ => iff (Nat.beq e elem) .fail (dropL .fail off cs fun r => takeL .fail len r fun bs => bytesV len bs fun v => K (.s len v) (put A id (some (.cells cs e 0)))))))
    /- ptrU -/ (fun n x f A K => ptrA .fail (x.ev f) (K (x.ev f) A) fun id off => cellsOf A id fun cs _ _ => iff (Nat.ble (Nat.add off n) (lenL cs)) .fail (K (x.ev f) A))
    /- uPtr -/ (fun elem n x f A K => ptrA .fail (x.ev f) (K (x.ev f) A) fun id off => cellsOf A id fun cs e m => iff (andB (Nat.beq e elem) (andB (Nat.beq m 2) (andB (Nat.beq off 0) (Nat.beq (lenL cs) n)))) .fail (K (x.ev f) A))
    /- call -/ (fun fid args f A K => CRes.rec (motive := fun _ => Res) .fail (fun v A' => K v A') (CE fid (evL f args) A))
    /- callv -/ (fun x args f A K => asF .fail (x.ev f) fun fid first captured => CRes.rec (motive := fun _ => Res) .fail (fun v A' => K v A') (CE fid (fstArg first (evL f args) captured) A))
    o

/-- A guard: the value is the wanted Bool, or it is not. -/
def gdV (v : AV) (want : Bool) (K0 K1 : Res) : Res :=
  AV.rec (motive_1 := fun _ => Res) (motive_2 := fun _ => PUnit) (fun _ => .fail) (fun t => Bool.rec (motive := fun _ => Res) K1 K0 (xorB t want)) (fun _ _ => K0) (fun _ _ => K0) K0 (fun _ _ => K0) (fun _ _ => K0) K0 (fun _ _ _ _ => K0) (fun _ _ _ _ => K0) K0 (fun _ => K0)
    (fun _ _ _ _ _ => K0) K0 K0 (fun _ _ _ => K0) (fun _ _ => K0) (fun _ _ => K0) PUnit.unit (fun _ _ _ _ => PUnit.unit) v
/-- An allocation: the object, and the value from its number. -/
def astep (o : LOp) : Frame → (AO → (Nat → AV) → Res) → Res :=
  LOp.rec (motive := fun _ => Frame → (AO → (Nat → AV) → Res) → Res)
    (fun _ _ _ => .fail)
    (fun _ _ _ _ _ => .fail)
    (fun zero elem _ K => K (.cells zero elem 2) (fun id => .p id 0))
    (fun elem x f K => asCells .fail (x.ev f) fun cs => K (.cells cs elem 2) (fun id => .p id 0))
    (fun _ _ _ _ => .fail)
    (fun elem len _ zeros parts f K => fillP f parts zeros fun cs => K (.cells cs elem 2) (fun id => .sk id 0 len len))
    (fun _ _ _ => .fail)
    (fun _ _ _ _ => .fail)
    (fun _ _ _ _ _ => .fail)
    (fun _ _ _ => .fail)
    (fun _ _ _ _ => .fail)
    (fun _ _ _ _ => .fail)
    (fun _ _ _ _ => .fail)
    (fun _ _ _ _ => .fail)
    (fun _ _ _ _ => .fail)
    (fun _ _ _ _ => .fail)
    (fun _ _ _ _ => .fail)
    (fun _ _ _ _ => .fail)
    (fun _ _ _ _ => .fail)
    (fun _ _ _ _ => .fail)
    (fun _ _ _ _ => .fail)
    (fun _ _ _ _ => .fail)
    (fun _ _ _ _ => .fail)
    (fun _ _ _ _ => .fail)
    (fun _ _ _ _ => .fail)
    (fun _ _ _ _ => .fail)
    (fun _ _ _ _ _ _ => .fail)
    (fun _ _ _ => .fail)
    (fun _ _ _ => .fail)
    (fun _ _ _ _ => .fail)
    (fun _ _ _ => .fail)
    (fun _ _ _ _ => .fail)
    (fun _ _ _ => .fail)
    (fun _ _ _ _ _ => .fail)
    (fun _ K => K (.map [] 0) (fun id => .m id))
    (fun elem _ zero l c f K => asN (l.ev f) fun n => asN (c.ev f) fun m => iff (Nat.ble n m) .fail (iff (lt m 1048576) .fail (repl m zero fun cs => K (.cells cs elem 2) (fun id => .sk id 0 n m))))
    (fun _ _ _ _ _ => .fail)
    (fun _ _ _ _ _ _ _ => .fail)
    (fun _ _ _ _ _ _ _ => .fail)
    (fun _ _ _ _ => .fail)
    (fun _ _ _ _ => .fail)
    (fun _ _ _ _ _ => .fail)
    (fun _ _ _ _ _ => .fail)
    (fun _ _ _ _ _ _ => .fail)
    (fun _ _ _ _ => .fail)
    (fun _ _ _ _ _ => .fail)
    (fun _ _ _ _ _ _ => .fail)
    (fun _ _ _ _ _ _ _ => .fail)
    (fun _ _ _ _ _ _ => .fail)
    (fun _ _ _ => .fail)
    (fun _ _ _ => .fail)
    (fun _ _ _ => .fail)
    (fun _ _ _ => .fail)
    (fun _ _ _ => .fail)
    (fun _ _ _ _ => .fail)
    (fun _ _ _ _ => .fail)
    (fun _ _ _ => .fail)
    (fun _ _ _ => .fail)
    (fun _ _ _ => .fail)
    (fun _ _ _ => .fail)
    (fun _ _ _ _ _ _ => .fail)
    (fun _ _ _ _ _ => .fail)
    (fun _ _ _ _ _ => .fail)
    (fun _ _ _ _ => .fail)
    (fun _ _ _ _ => .fail)
    (fun _ _ _ => .fail)
    (fun _ _ _ _ _ => .fail)
    (fun _ _ _ _ => .fail)
    (fun _ _ _ _ _ => .fail)
    (fun _ _ _ _ => .fail)
    (fun _ _ _ _ => .fail)
    o
def pureOp : LOp → Bool
  | .mv _ => true
  | .pick _ _ _ => true
  | .build _ _ => true
  | .nilc _ => true
  | .iadd _ _ => true
  | .isub _ _ => true
  | .imul _ _ => true
  | .iand _ _ => true
  | .ior _ _ => true
  | .ixor _ _ => true
  | .iandn _ _ => true
  | .sadd _ _ => true
  | .ishl _ _ => true
  | .ishr _ _ => true
  | .iquo _ _ => true
  | .irem _ _ => true
  | .ilt _ _ => true
  | .ile _ _ => true
  | .igt _ _ => true
  | .ige _ _ => true
  | .eq _ _ _ _ => true
  | .neg _ => true
  | .not _ => true
  | .convI _ _ => true
  | .convS _ => true
  | .mkf _ _ _ => true
  | .slS _ _ _ => true
  | .slV _ _ _ _ _ => true
  | .slA _ _ _ _ _ => true
  | .faddr _ _ => true
  | .fld1 _ _ => true
  | .fldn _ _ _ => true
  | .iaddr _ _ _ => true
  | .iaddrA _ _ _ _ => true
  | .idxS _ _ => true
  | .idxA1 _ _ _ => true
  | .idxAn _ _ _ _ => true
  | .extract _ _ => true
  | .mkif _ _ => true
  | .lenS _ => true
  | .lenV _ => true
  | .cap _ => true
  | .imin _ _ => true
  | .imax _ _ => true
  | .usd _ => true
  | _ => false
def readOp : LOp → Bool
  | .ld1 _ => true
  | .ldn _ _ => true
  | .lookup _ _ _ _ _ => true
  | .lenM _ => true
  | .entry _ => true
  | .bToS _ => true
  | .ptrU _ _ => true
  | .uPtr _ _ _ => true
  | _ => false
def allocOp : LOp → Bool
  | .alloc _ _ => true
  | .box _ _ => true
  | .bslice _ _ _ _ _ => true
  | .mks _ _ _ _ _ => true
  | .mkm  => true
  | _ => false

def evIt (x : It) (f : Frame) (Ks : Frame → Res) (K : LOp → (AV → Frame) → Res) : Res :=
  It.rec (motive := fun _ => Res) (fun d o => K o fun v => d.set v f) (fun o => K o fun _ => f) (fun s want d o => gdV (s.get f) want (Ks (d.set undefA f)) (K o fun v => d.set v f)) (fun s want o => gdV (s.get f) want (Ks f) (K o fun _ => f)) x
def bitB (m i : Nat) : Bool := Nat.beq (Nat.land (Nat.shiftRight m i) 1) 1
abbrev Pend := List (Nat × Nat × AO)
abbrev Chk := List (Nat × LOp × Frame × AV)
/-- Those that must be in the heap now are put there; the others wait on. -/
def mergeA (anc : Nat) (p : Pend) : AW → (Pend → AW → Res) → Res :=
  List.rec (motive := fun _ => AW → (Pend → AW → Res) → Res) (fun A K => K [] A)
    (fun e _ ih A K => Bool.rec (motive := fun _ => Res) (ih A fun p' A' => K (e :: p') A') (ih (put A e.2.1 (some e.2.2)) K) (bitB anc e.1)) p
def mergeAll (p : Pend) : AW → (AW → Res) → Res :=
  List.rec (motive := fun _ => AW → (AW → Res) → Res) (fun A K => K A) (fun e _ ih A K => ih (put A e.2.1 (some e.2.2)) K) p
def dropChk (anc : Nat) (c : Chk) : (Chk → Res) → Res :=
  List.rec (motive := fun _ => (Chk → Res) → Res) (fun K => K []) (fun e _ ih K => Bool.rec (motive := fun _ => Res) (ih fun c' => K (e :: c')) (ih K) (bitB anc e.1)) c
def A00 : AW := ⟨h5, 0, fr0⟩
/-- A step's value alone; a step's value and world. -/
def vstep (G : Nat → List AV) (CE : Nat → List AV → AW → CRes) (o : LOp) (f : Frame) (A : AW) (K : AV → Res) : Res :=
  Res.rec (motive := fun _ => Res) .fail (fun f' _ => K (s0.get f')) (fun _ _ => .fail) (fun _ _ _ => .fail) (stepOp G CE o f A fun v _ => .nrm (s0.set v e3) A00)
def wstep (G : Nat → List AV) (CE : Nat → List AV → AW → CRes) (o : LOp) (f : Frame) (A : AW) (K : AV → AW → Res) : Res :=
  Res.rec (motive := fun _ => Res) .fail (fun f' A' => K (s0.get f') A') (fun _ _ => .fail) (fun _ _ _ => .fail) (stepOp G CE o f A fun v A' => .nrm (s0.set v e3) A')
/-- What was read reads the same still. -/
def recheck (G : Nat → List AV) (CE : Nat → List AV → AW → CRes) (c : Chk) (A : AW) (K : Res) : Res :=
  List.rec (motive := fun _ => Res) K (fun e _ ih => vstep G CE e.2.1 e.2.2.1 A fun v => iff (eqAV e.2.2.2 v) .fail ih) c
def asMupd (o : LOp) : (Bool → Arg → Arg → Arg → Res) → Res :=
  LOp.rec (motive := fun _ => (Bool → Arg → Arg → Arg → Res) → Res)
    (fun _ _ => .fail)
    (fun _ _ _ _ => .fail)
    (fun _ _ _ => .fail)
    (fun _ _ _ => .fail)
    (fun _ _ _ => .fail)
    (fun _ _ _ _ _ _ => .fail)
    (fun _ _ => .fail)
    (fun _ _ _ => .fail)
    (fun _ _ _ _ => .fail)
    (fun _ _ => .fail)
    (fun _ _ _ => .fail)
    (fun _ _ _ => .fail)
    (fun _ _ _ => .fail)
    (fun _ _ _ => .fail)
    (fun _ _ _ => .fail)
    (fun _ _ _ => .fail)
    (fun _ _ _ => .fail)
    (fun _ _ _ => .fail)
    (fun _ _ _ => .fail)
    (fun _ _ _ => .fail)
    (fun _ _ _ => .fail)
    (fun _ _ _ => .fail)
    (fun _ _ _ => .fail)
    (fun _ _ _ => .fail)
    (fun _ _ _ => .fail)
    (fun _ _ _ => .fail)
    (fun _ _ _ _ _ => .fail)
    (fun _ _ => .fail)
    (fun _ _ => .fail)
    (fun _ _ _ => .fail)
    (fun _ _ => .fail)
    (fun _ _ _ => .fail)
    (fun _ _ => .fail)
    (fun _ _ _ _ => .fail)
    (fun _ => .fail)
    (fun _ _ _ _ _ _ => .fail)
    (fun _ _ _ _ => .fail)
    (fun _ _ _ _ _ _ => .fail)
    (fun _ _ _ _ _ _ => .fail)
    (fun _ _ _ => .fail)
    (fun _ _ _ => .fail)
    (fun _ _ _ _ => .fail)
    (fun _ _ _ _ => .fail)
    (fun _ _ _ _ _ => .fail)
    (fun _ _ _ => .fail)
    (fun _ _ _ _ => .fail)
    (fun _ _ _ _ _ => .fail)
    (fun _ _ _ _ _ _ => .fail)
    (fun str m k x K => K str m k x)
    (fun _ _ => .fail)
    (fun _ _ => .fail)
    (fun _ _ => .fail)
    (fun _ _ => .fail)
    (fun _ _ => .fail)
    (fun _ _ _ => .fail)
    (fun _ _ _ => .fail)
    (fun _ _ => .fail)
    (fun _ _ => .fail)
    (fun _ _ => .fail)
    (fun _ _ => .fail)
    (fun _ _ _ _ _ => .fail)
    (fun _ _ _ _ => .fail)
    (fun _ _ _ _ => .fail)
    (fun _ _ _ => .fail)
    (fun _ _ _ => .fail)
    (fun _ _ => .fail)
    (fun _ _ _ _ => .fail)
    (fun _ _ _ => .fail)
    (fun _ _ _ _ => .fail)
    (fun _ _ _ => .fail)
    (fun _ _ _ => .fail)
    o
/-- A pending map gets an entry. -/
def insP (id : Nat) (key val : AV) (str : Bool) (p : Pend) : (Pend → Res) → Res :=
  List.rec (motive := fun _ => (Pend → Res) → Res) (fun _ => .fail)
    (fun e tl ih K => Bool.rec (motive := fun _ => Res) (ih fun p' => K (e :: p'))
      (AO.rec (motive := fun _ => Res) (fun _ _ _ => .fail) (fun es clock => findK str key es 0 (fun _ _ => .fail) (K ((e.1, e.2.1, .map (es ++ [(key, val, clock)]) (Nat.succ clock)) :: tl))) (fun _ _ _ _ => .fail) (fun _ _ _ => .fail) e.2.2)
      (Nat.beq e.2.1 id)) p
def runD (G : Nat → List AV) (CE : Nat → List AV → AW → CRes) (base : Nat) (l : List DI) : Frame → AW → Pend → Chk → Res :=
  List.rec (motive := fun _ => Frame → AW → Pend → Chk → Res) (fun f A p _ => mergeAll p A fun A' => .nrm f A')
    (fun x _ ih => DI.rec (motive := fun _ => Frame → AW → Pend → Chk → Res)
      (fun _ _ it f A p c => evIt it f (fun f' => ih f' A p c) fun o F => vstep G CE o f A fun v => ih (F v) A p c)
      (fun i _ it f A p c => evIt it f (fun f' => ih f' A p c) fun o F => vstep G CE o f A fun v => ih (F v) A p ((i, o, f, v) :: c))
      (fun i _ q it f A p c => evIt it f (fun f' => ih f' A p c) fun o F => astep o f fun ob mk => force (Nat.add base q) fun id => ih (F (mk id)) A ((i, id, ob) :: p) c)
      (fun _ _ q it f A p c => evIt it f (fun f' => ih f' A p c) fun o F => asMupd o fun str m k x => asM .fail (m.ev f) fun id => iff (Nat.beq id (Nat.add base q)) .fail (insP id (k.ev f) (x.ev f) str p fun p' => ih (F undefA) A p' c))
      (fun _ anc it f A p c => dropChk anc c fun c' => mergeA anc p A fun p' A' => evIt it f (fun f' => recheck G CE c' A' (ih f' A' p' c')) fun o F => wstep G CE o f A' fun v A'' => recheck G CE c' A'' (ih (F v) A'' p' c')) x) l
def runDraw (G : Nat → List AV) (CE : Nat → List AV → AW → CRes) (n : Nat) (l : List DI) (f : Frame) (A : AW) : Res :=
  force (Nat.add A.next n) fun m => iff (Nat.ble m 32768) .fail (force A.next fun base => runD G CE base l f ⟨A.h, m, A.frag⟩ [] [])
def runIt (G : Nat → List AV) (CE : Nat → List AV → AW → CRes) (x : It) : Frame → AW → (Frame → AW → Res) → Res :=
  It.rec (motive := fun _ => Frame → AW → (Frame → AW → Res) → Res)
    (fun d o f A K => stepOp G CE o f A fun v A' => K (d.set v f) A')
    (fun o f A K => stepOp G CE o f A fun _ A' => K f A')
    (fun s want d o f A K => gdV (s.get f) want (K (d.set undefA f) A) (stepOp G CE o f A fun v A' => K (d.set v f) A'))
    (fun s want o f A K => gdV (s.get f) want (K f A) (stepOp G CE o f A fun _ A' => K f A'))
    x
def runIts (G : Nat → List AV) (CE : Nat → List AV → AW → CRes) (l : List It) : Frame → AW → Res :=
  List.rec (motive := fun _ => Frame → AW → Res) (fun f A => .nrm f A) (fun x _ ih f A => runIt G CE x f A fun f' A' => ih f' A') l
def bindN (r : Res) (K : Frame → AW → Res) : Res := Res.rec (motive := fun _ => Res) .fail (fun f A => K f A) (fun f A => .ret f A) (fun i f A => .ex i f A) r
def bindE (id : Nat) (r : Res) : Res := Res.rec (motive := fun _ => Res) .fail (fun f A => .nrm f A) (fun f A => .ret f A) (fun i f A => Bool.rec (motive := fun _ => Res) (.ex i f A) (.nrm f A) (Nat.beq i id)) r
def runC (G : Nat → List AV) (CE : Nat → List AV → AW → CRes) (fuel : Nat) : LCode → Frame → AW → Res :=
  Nat.rec (motive := fun _ => LCode → Frame → AW → Res) (fun _ _ _ => .fail)
    (fun _ ih c => LCode.rec (motive := fun _ => Frame → AW → Res)
      (fun _ _ => .fail)
      (fun f A => .nrm f A)
      (fun ops => runIts G CE ops)
      (fun n ops => runDraw G CE n ops)
      (fun _ _ xa xb f A => bindN (xa f A) xb)
      (fun c _ _ xa xb f A => asB .fail (c.ev f) fun t => Bool.rec (motive := fun _ => Res) (xb f A) (xa f A) t)
      (fun id _ xb f A => bindE id (xb f A))
      (fun b xb f A => bindN (xb f A) fun f' A' => ih (.loop b) f' A')
      (fun id f A => .ex id f A)
      (fun f A => .ret f A) c) fuel
def initF (ps : List Sel) : List AV → Frame → (Frame → CRes) → CRes :=
  List.rec (motive := fun _ => List AV → Frame → (Frame → CRes) → CRes)
    (fun vs f K => List.rec (motive := fun _ => CRes) (K f) (fun _ _ _ => .fail) vs)
    (fun s _ ih vs f K => List.rec (motive := fun _ => CRes) .fail (fun v vs' _ => ih vs' (s.set v f) K) vs) ps
def cellsC (A : AW) (id : Nat) (K : List AV → CRes) : CRes :=
  Option.rec (motive := fun _ => CRes) .fail (fun o => AO.rec (motive := fun _ => CRes) (fun cs _ _ => K cs) (fun _ _ => .fail) (fun _ _ _ _ => .fail) (fun _ _ _ => .fail) o) (getH id A.h)
def resV (f : Frame) (A : AW) (r : RV) : (AV → CRes) → CRes :=
  RV.rec (motive := fun _ => (AV → CRes) → CRes) (fun s K => K (s.get f))
    (fun s K => asP .fail (s.get f) fun id off => cellsC A id fun cs => nthL .fail cs off K)
    (fun s n K => asP .fail (s.get f) fun id off => cellsC A id fun cs => dropL .fail off cs fun r => takeL .fail n r fun t => K (.agg t)) r
def resVs (f : Frame) (A : AW) (l : List RV) : (List AV → CRes) → CRes :=
  List.rec (motive := fun _ => (List AV → CRes) → CRes) (fun K => K []) (fun r _ ih K => resV f A r fun v => ih fun vs => K (v :: vs)) l
def oneOrTup (vs : List AV) : AV := List.rec (motive := fun _ => AV) (.tup []) (fun v tl _ => List.rec (motive := fun _ => AV) v (fun w tl' _ => .tup (v :: w :: tl')) tl) vs
def endC (l : List RV) (r : Res) : CRes :=
  Res.rec (motive := fun _ => CRes) .fail (fun f A => resVs f A l fun vs => .ok (oneOrTup vs) A) (fun f A => resVs f A l fun vs => .ok (oneOrTup vs) A) (fun _ _ _ => .fail) r
def optC (o : CRes) (K : CRes) : CRes := CRes.rec (motive := fun _ => CRes) K (fun v A => .ok v A) o

/-- A call: first what is known of it (hk), then its code. -/
def evalF (G : Nat → List AV) (F : Nat → Option LFun) (hk : Nat → List AV → AW → CRes) (loops : Nat) (fuel : Nat) : Nat → List AV → AW → CRes :=
  Nat.rec (motive := fun _ => Nat → List AV → AW → CRes) (fun _ _ _ => .fail)
    (fun _ ih fid args A => optC (hk fid args A) (Option.rec (motive := fun _ => CRes) .fail
      (fun L => initF L.params args e3 fun f => endC L.results (runC G ih loops L.body f A)) (F fid))) fuel
end
end AM
end
end Go.Proofs.YtejhenloolgmkaaGreatDoor

