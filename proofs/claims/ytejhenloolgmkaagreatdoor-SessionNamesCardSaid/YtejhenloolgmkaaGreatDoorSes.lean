/- The session's states, as the two programs hold them, and what it is that a line does. Condition: none. -/
import Derived.Test.YtejhenloolgmkaaGreatDoorHk
namespace Go.Proofs.YtejhenloolgmkaaGreatDoor
open Go
set_option linter.all false
noncomputable section
namespace AM
/-! ## The session's states -/
def nmC (p j : Nat) : AV := Bool.rec (motive := fun _ => AV) (force (Nat.add (Nat.add p (Nat.mul 256 (Nat.add 48 (Nat.div j 10)))) (Nat.mul 65536 (Nat.add 48 (Nat.mod j 10)))) fun v => .s 3 v) (force (Nat.add p (Nat.mul 256 (Nat.add 48 j))) fun v => .s 2 v) (lt j 10)
def fbits : List Nat := [4607182418800017408, 4611686018427387904, 4613937818241073152, 4616189618054758400, 4617315517961601024, 4618441417868443648, 4619567317775286272, 4620693217682128896, 4621256167635550208, 4621819117588971520, 4622382067542392832, 4622945017495814144, 4623507967449235456, 4624070917402656768, 4624633867356078080, 4625196817309499392]
def iotaK (n : Nat) (k : Nat) : List Nat := Nat.rec (motive := fun _ => Nat → List Nat) (fun _ => []) (fun _ ih k => k :: force (Nat.succ k) fun k' => ih k') n k
def mapK {α β : Type} (f : α → β) (l : List α) : List β := List.rec (motive := fun _ => List β) [] (fun x _ ih => f x :: ih) l
def anysK (n : Nat) : List AV := Nat.rec (motive := fun _ => List AV) [] (fun _ ih => .any 0 :: ih) n
def appK {α : Type} (a b : List α) : List α := List.rec (motive := fun _ => List α) b (fun x _ ih => x :: ih) a
def flatK (l : List (List AV)) : List AV := List.rec (motive := fun _ => List AV) [] (fun x _ ih => appK x ih) l
def fbAt (j : Nat) : Nat := match nthO fbits j with | some b => b | none => 0
/-- The blocks of matrix j; its value (sk: the row starts' room is known). -/
def mBlocks (z j : Nat) : List (Nat × AO) := force (Nat.add 10 (Nat.mul 3 j)) fun a => [(a, .cells [.i .i64 0, .i .i64 1] 3 z), (Nat.succ a, .cells [.i .i64 0] 3 1), (Nat.succ (Nat.succ a), .cells [.i .u64 (fbAt j)] 52 1)]
def mVal (z j : Nat) : List AV := force (Nat.add 10 (Nat.mul 3 j)) fun a => [.i .i64 1, .i .i64 1, (match z with | 2 => .sk a 0 2 2 | _ => .su a 0 2 1), .su (Nat.succ a) 0 1 1, .su (Nat.succ (Nat.succ a)) 0 1 1]
def blocksK (z n : Nat) : List (Nat × AO) := List.rec (motive := fun _ => List (Nat × AO)) [] (fun j _ ih => appK (mBlocks z j) ih) (iotaK n 0)
/-- The names of a kind: those with the letter p, up to n, and one more perhaps. -/
def namesK (p n : Nat) : List AV := mapK (nmC p) (iotaK n 0)
def entsK (ns : List AV) (f : Nat → AV) : List (AV × AV × Nat) := (List.rec (motive := fun _ => Nat → List (AV × AV × Nat)) (fun _ => []) (fun x _ ih i => (x, f i, i) :: force (Nat.succ i) fun i' => ih i') ns) 0
/-- The program's session: v names of vectors, m matrices, f factors, c claims. -/
def sesS (v m f c : Nat) : List (Nat × AO) :=
  (1, .cells [.m 2, .m 3, .m 4, (match c with | 0 => .sl0 | _ => .su 5 0 c 26)] 64 2) :: (2, .map (entsK (namesK 109 m) fun j => .agg (mVal 2 j)) m) :: (3, .map (entsK (namesK 118 v) fun _ => .any 0) v) :: (4, .map (entsK (namesK 102 f) fun _ => .agg (anysK 4)) f) ::
  appK (match c with | 0 => [] | _ => [(5, .cells (anysK (Nat.mul 26 c)) 59 1)]) (blocksK 2 m)
/-- .. where its vectors alone count. -/
def sesV (v : Nat) : List (Nat × AO) := [(1, .cells [.any 0, .m 3, .any 0, .any 0] 64 2), (3, .map (entsK (namesK 118 v) fun _ => .any 0) v)]
def slN (id n es : Nat) : AV := match n with | 0 => .sl0 | _ => .su id 0 n es
def ifN (n : Nat) (l : List (Nat × AO)) : List (Nat × AO) := match n with | 0 => [] | _ => l
/-- The reference's session. -/
def refS (v m f c : Nat) : List (Nat × AO) :=
  (1, .cells [slN 2 m 1, slN 3 m 5, slN 4 v 1, slN 5 v 1, slN 6 f 1, slN 7 f 4, slN 8 c 26] 82 2) ::
  appK (ifN m [(2, .cells (namesK 109 m) 9 1), (3, .cells (flatK (mapK (mVal 1) (iotaK m 0))) 42 1)])
  (appK (ifN v [(4, .cells (namesK 118 v) 9 1), (5, .cells (anysK v) 40 1)])
  (appK (ifN f [(6, .cells (namesK 102 f) 9 1), (7, .cells (anysK (Nat.mul 4 f)) 57 1)])
  (appK (ifN c [(8, .cells (anysK (Nat.mul 26 c)) 59 1)]) (blocksK 1 m))))
def refV (v : Nat) : List (Nat × AO) := [(1, .cells [.any 0, .any 0, .su 4 0 v 1, .su 5 0 v 1, .any 0, .any 0, .any 0] 82 2), (4, .cells (namesK 118 v) 9 1), (5, .cells (anysK v) 40 1)]

/-! ## One line, checked -/
def idsF (a b : AV) : List (Nat × Nat) := match a with
  | .p x _ => (match b with | .p y _ => [(x, y)] | _ => [])
  | .m x => (match b with | .m y => [(x, y)] | _ => [])
  | .sk x _ _ _ => (match b with | .sk y _ _ _ => [(x, y)] | _ => [])
  | .su x _ _ _ => (match b with | .su y _ _ _ => [(x, y)] | _ => [])
  | _ => []
def idsFs (a b : List AV) : List (Nat × Nat) := match a, b with
  | x :: a, y :: b => appK (idsF x y) (idsFs a b)
  | _, _ => []
def idsV (a b : AV) : List (Nat × Nat) := match a with
  | .agg x => (match b with | .agg y => idsFs x y | _ => [])
  | _ => idsF a b
def idsE (a b : List (AV × AV × Nat)) : List (Nat × Nat) := match a, b with
  | x :: a, y :: b => appK (idsV x.2.1 y.2.1) (idsE a b)
  | _, _ => []
def idsO (a b : AO) : List (Nat × Nat) := match a with
  | .cells x _ _ => (match b with | .cells y _ _ => idsFs x y | _ => [])
  | .map x _ => (match b with | .map y _ => idsE x y | _ => [])
  | _ => []
def lookO (l : List (Nat × AO)) (j : Nat) : Option AO := match l with
  | [] => none
  | e :: l => Bool.rec (motive := fun _ => Option AO) (lookO l j) (some e.2) (Nat.beq e.1 j)
/-- Which number of the heap each of the state's objects bears: found by following both. -/
def bfsA (l : List (Nat × AO)) (hp : Heap) (fuel : Nat) : List (Nat × Nat) → List (Nat × Nat) → List (Nat × Nat) := Nat.rec (motive := fun _ => List (Nat × Nat) → List (Nat × Nat) → List (Nat × Nat)) (fun _ acc => acc)
  (fun _ ih todo acc => match todo with
    | [] => acc
    | e :: todo => (match lookA acc e.1 with
      | some _ => ih todo acc
      | none => (match lookO l e.1 with
        | some o => (match getH e.2 hp with | some o' => ih (appK (idsO o o') todo) (e :: acc) | none => ih todo (e :: acc))
        | none => ih todo (e :: acc)))) fuel
def chOf (l : List (Nat × AO)) (hp : Heap) (chs : List Nat) : List (Nat × Nat) := mapK (fun j => (j, match lookA (bfsA l hp 300 [(1, 1)] []) j with | some i => i | none => 0)) chs
def okC (r : CRes) (K : AV → AW → Bool) : Bool := CRes.rec (motive := fun _ => Bool) false (fun v A => K v A) r
/-- The call of fid at a line, on the state l alone, gives res and leaves l' (its objects chs are new). -/
def lineOk (fid : Nat) (line : AV) (l : List (Nat × AO)) (res : AV) (l' : List (Nat × AO)) (chs : List Nat) : Bool :=
  okC (evalF G F hkB 100000 400 fid [.p 1 0, line] ⟨mkH l, 64, fr0⟩) fun v B => andB (eqAV res v) ((fun ch => andB (covers (mch ch) l' B.h) (chOk ch B.h)) (chOf l' B.h chs))
end AM
end
end Go.Proofs.YtejhenloolgmkaaGreatDoor
