/- An evaluator for the model's programs over a heap of its own: definitions alone; of any program. -/
import GoSem.Step
import GoSem.Decode
set_option linter.unusedVariables false
set_option linter.unusedSimpArgs false
set_option linter.unusedSectionVars false
namespace Go.AE

/-! the order in which a region whose order is open is evaluated (nothing rests on it: what it says is checked) -/
def waits (o : Oper) : List Nat := (o.after.toList.filter fun e => Region.binds .any e).map (·.on)
def bitsU (ms : List Nat) : List Nat → Nat
  | [] => 0
  | k :: r => ((2 ^ k) ||| ms.getD k 0) ||| bitsU ms r
/-- for each operation, those that are ahead of it in whatever order -/
def cloM : List Oper → List Nat → List Nat
  | [], ms => ms
  | o :: r, ms => cloM r (ms ++ [bitsU ms (waits o)])

inductive Pl where
  | rd (i : Nat)
  | rs (i : Nat) (cs : List Nat)
  | ef (e : Nat) (ms cs : List Nat)
  | e2 (e f : Nat) (ms c1 c2 c : List Nat)

def isAl (o : Oper) : Bool := match o.guard with
  | some _ => false
  | none => match o.op with
    | .alloc _ | .box _ _ | .buildSlice _ _ _ => true
    | _ => false
/-- operations that leave the memory as it is -/
def isRd (P : Program) (o : Oper) : Bool := match o.op with
  | .move _ | .assign _ | .pick _ _ _ | .build _ _ | .load _ _ | .nilCheck _ | .binOp _ _ _ _ _ | .unOp _ _ _ | .makeInterface _ _ | .makeFunc _ _ _
  | .slice _ _ _ _ _ | .fieldAddr _ _ _ | .field _ _ _ | .indexAddr _ _ _ | .index _ _ _ | .lookup _ _ _ _ | .typeAssert _ _ _ _ | .extract _ _ => true
  | .convert s d _ => match P.underlying s, P.underlying d with
    | some .string, some (.slice _) => false
    | _, _ => true
  | .call c => match c.callee with
    | .builtin .len => true
    | .builtin .max => true
    | .builtin .min => true
    | _ => false
  | _ => false
def isSt (o : Oper) : Bool := match o.guard, o.dst, o.op with
  | none, none, .store _ _ _ => true
  | _, _, _ => false

def allIn (D : Nat) : List Nat → Bool
  | [] => true
  | k :: r => Nat.testBit D k && allIn D r
def first (D : Nat) (ok : Oper → Bool) : List Oper → Nat → Option (Nat × Oper)
  | [], _ => none
  | o :: r, i => match !(Nat.testBit D i) && (ok o && allIn D (waits o)) with
    | true => some (i, o)
    | false => first D ok r (i + 1)
def readyL (D : Nat) : List Oper → Nat → List Nat
  | [], _ => []
  | o :: r, i => match !(Nat.testBit D i) && allIn D (waits o) with
    | true => i :: readyL D r (i + 1)
    | false => readyL D r (i + 1)
def inter (m : Nat) : List Nat → List Nat
  | [] => []
  | k :: r => match Nat.testBit m k with
    | true => k :: inter m r
    | false => inter m r
def minus (m : Nat) : List Nat → List Nat
  | [] => []
  | k :: r => match Nat.testBit m k with
    | true => minus m r
    | false => k :: minus m r
/-- the plan: fuel; done; surely done; those set aside; done, as a list -/
def planD (P : Program) (ops : List Oper) (ms : List Nat) : Nat → Nat → Nat → List Nat → List Nat → List Pl
  | 0, _, _, _, _ => []
  | n + 1, D, S, A, dl => match first D (fun o => isAl o || isRd P o) ops 0 with
    | some (i, o) => match isAl o with
      | true => .rs i (minus (S ||| bitsU [] A) dl) :: planD P ops ms n (D ||| 2 ^ i) S (i :: A) (i :: dl)
      | false => .rd i :: planD P ops ms n (D ||| 2 ^ i) S A (i :: dl)
    | none => match readyL D ops 0 with
      | [e] => match ms.getD e 0 with
        | c => match inter c A, minus c A, (S ||| 2 ^ e) ||| c with
          | mt, A', S' => .ef e mt (minus (S' ||| bitsU [] A') dl) :: planD P ops ms n (D ||| 2 ^ e) S' A' (e :: dl)
      | [e, f] => match ms.getD e 0, ms.getD f 0 with
        | c, c' => match inter (c &&& c') A, minus (c &&& c') A, (S ||| 2 ^ e) ||| c, (S ||| 2 ^ f) ||| c' with
          | mt, A', S1, S2 => match bitsU [] A' with
            | am => .e2 e f mt (minus (S1 ||| am) dl) (minus (S2 ||| am) dl) (minus ((S1 ||| S2) ||| am) dl) :: planD P ops ms n ((D ||| 2 ^ e) ||| 2 ^ f) (S1 ||| S2) A' (f :: e :: dl)
      | _ => []
end Go.AE

namespace Go.AE

/-! eight of a kind, and a digit that chooses one -/
structure S8 (α : Type) where
  (a0 a1 a2 a3 a4 a5 a6 a7 : α)
inductive D8 where
  | d0 | d1 | d2 | d3 | d4 | d5 | d6 | d7
  deriving DecidableEq
variable {α β : Type}
noncomputable section
def S8.g0 (s : S8 α) : α := S8.rec (fun a0 a1 a2 a3 a4 a5 a6 a7 => a0) s
def S8.g1 (s : S8 α) : α := S8.rec (fun a0 a1 a2 a3 a4 a5 a6 a7 => a1) s
def S8.g2 (s : S8 α) : α := S8.rec (fun a0 a1 a2 a3 a4 a5 a6 a7 => a2) s
def S8.g3 (s : S8 α) : α := S8.rec (fun a0 a1 a2 a3 a4 a5 a6 a7 => a3) s
def S8.g4 (s : S8 α) : α := S8.rec (fun a0 a1 a2 a3 a4 a5 a6 a7 => a4) s
def S8.g5 (s : S8 α) : α := S8.rec (fun a0 a1 a2 a3 a4 a5 a6 a7 => a5) s
def S8.g6 (s : S8 α) : α := S8.rec (fun a0 a1 a2 a3 a4 a5 a6 a7 => a6) s
def S8.g7 (s : S8 α) : α := S8.rec (fun a0 a1 a2 a3 a4 a5 a6 a7 => a7) s
def S8.get (s : S8 α) (d : D8) : α := (D8.rec S8.g0 S8.g1 S8.g2 S8.g3 S8.g4 S8.g5 S8.g6 S8.g7 d : S8 α → α) s
def S8.s0 (s : S8 α) (x : α) : S8 α := S8.rec (fun a0 a1 a2 a3 a4 a5 a6 a7 => ⟨x, a1, a2, a3, a4, a5, a6, a7⟩) s
def S8.s1 (s : S8 α) (x : α) : S8 α := S8.rec (fun a0 a1 a2 a3 a4 a5 a6 a7 => ⟨a0, x, a2, a3, a4, a5, a6, a7⟩) s
def S8.s2 (s : S8 α) (x : α) : S8 α := S8.rec (fun a0 a1 a2 a3 a4 a5 a6 a7 => ⟨a0, a1, x, a3, a4, a5, a6, a7⟩) s
def S8.s3 (s : S8 α) (x : α) : S8 α := S8.rec (fun a0 a1 a2 a3 a4 a5 a6 a7 => ⟨a0, a1, a2, x, a4, a5, a6, a7⟩) s
def S8.s4 (s : S8 α) (x : α) : S8 α := S8.rec (fun a0 a1 a2 a3 a4 a5 a6 a7 => ⟨a0, a1, a2, a3, x, a5, a6, a7⟩) s
def S8.s5 (s : S8 α) (x : α) : S8 α := S8.rec (fun a0 a1 a2 a3 a4 a5 a6 a7 => ⟨a0, a1, a2, a3, a4, x, a6, a7⟩) s
def S8.s6 (s : S8 α) (x : α) : S8 α := S8.rec (fun a0 a1 a2 a3 a4 a5 a6 a7 => ⟨a0, a1, a2, a3, a4, a5, x, a7⟩) s
def S8.s7 (s : S8 α) (x : α) : S8 α := S8.rec (fun a0 a1 a2 a3 a4 a5 a6 a7 => ⟨a0, a1, a2, a3, a4, a5, a6, x⟩) s
def S8.set (s : S8 α) (d : D8) (x : α) : S8 α := (D8.rec S8.s0 S8.s1 S8.s2 S8.s3 S8.s4 S8.s5 S8.s6 S8.s7 d : S8 α → α → S8 α) s x
def S8.all (x : α) : S8 α := ⟨x, x, x, x, x, x, x, x⟩
def D8.nat : D8 → Nat
  | .d0 => 0 | .d1 => 1 | .d2 => 2 | .d3 => 3 | .d4 => 4 | .d5 => 5 | .d6 => 6 | .d7 => 7
def D8.beq (a b : D8) : Bool := Nat.beq a.nat b.nat
/-- the next digit; none: there is none -/
def D8.up : D8 → Option D8
  | .d0 => some .d1 | .d1 => some .d2 | .d2 => some .d3 | .d3 => some .d4 | .d4 => some .d5 | .d5 => some .d6 | .d6 => some .d7 | .d7 => none

/-- the number of a block -/
structure Id where
  (e d c b a : D8)
  deriving DecidableEq
def Id.nat (i : Id) : Nat := (((i.e.nat * 8 + i.d.nat) * 8 + i.c.nat) * 8 + i.b.nat) * 8 + i.a.nat
def Id.beq (i j : Id) : Bool := Nat.beq i.nat j.nat
def inc (i : Id) : Option Id := match i with
  | ⟨e, d, c, b, a⟩ => match a.up with
  | some a => some ⟨e, d, c, b, a⟩
  | none => match b.up with
    | some b => some ⟨e, d, c, b, .d0⟩
    | none => match c.up with
      | some c => some ⟨e, d, c, .d0, .d0⟩
      | none => match d.up with
        | some d => some ⟨e, d, .d0, .d0, .d0⟩
        | none => match e.up with
          | some e => some ⟨e, .d0, .d0, .d0, .d0⟩
          | none => none

/-- a store of whatever, by the blocks' numbers -/
abbrev H (α : Type) := S8 (S8 (S8 (S8 (S8 α))))
def H.get (h : H α) (i : Id) : α := Id.rec (fun e d c b a => ((((S8.get h e).get d).get c).get b).get a) i
def set1 (s : S8 (S8 α)) (b a : D8) (x : α) : S8 (S8 α) := S8.set s b (S8.set (S8.get s b) a x)
def set2 (s : S8 (S8 (S8 α))) (c b a : D8) (x : α) : S8 (S8 (S8 α)) := S8.set s c (set1 (S8.get s c) b a x)
def set3 (s : S8 (S8 (S8 (S8 α)))) (d c b a : D8) (x : α) : S8 (S8 (S8 (S8 α))) := S8.set s d (set2 (S8.get s d) c b a x)
def H.set (h : H α) (i : Id) (x : α) : H α := Id.rec (fun e d c b a => S8.set h e (set3 (S8.get h e) d c b a x)) i
def H.all (x : α) : H α := S8.all (S8.all (S8.all (S8.all (S8.all x))))

inductive AV where
  | any
  | i (n : Int)
  | k (kd : IntKind) (n : Int)
  | b (t : Bool)
  | s (l : List Nat)
  | sc (v : Value)
  | ptr (b : Id) (off : Nat)
  | sl (b : Id) (off len cap esz : Nat)
  | mp (b : Id)
  | fn (f : Fn) (first caps : List AV)
  | ifc (t : TypeId) (v : AV)
  | agg (n : Nat) (cs : List AV)
  | tup (vs : List AV)

inductive Blk where
  | dead
  | row (n : Nat) (cs : List AV) (fam : Option Id) (fo : Nat)
  | map (es : List (AV × AV))

/-! the same of single kinds (nothing is copied to open them) -/
def gB10 (s : S8 (Blk)) : Blk := S8.rec (motive := fun _ => Blk) (fun a0 a1 a2 a3 a4 a5 a6 a7 => a0) s
def pB10 (s : S8 (Blk)) (x : Blk) : S8 (Blk) := S8.rec (motive := fun _ => S8 (Blk)) (fun a0 a1 a2 a3 a4 a5 a6 a7 => ⟨x, a1, a2, a3, a4, a5, a6, a7⟩) s
def gB11 (s : S8 (Blk)) : Blk := S8.rec (motive := fun _ => Blk) (fun a0 a1 a2 a3 a4 a5 a6 a7 => a1) s
def pB11 (s : S8 (Blk)) (x : Blk) : S8 (Blk) := S8.rec (motive := fun _ => S8 (Blk)) (fun a0 a1 a2 a3 a4 a5 a6 a7 => ⟨a0, x, a2, a3, a4, a5, a6, a7⟩) s
def gB12 (s : S8 (Blk)) : Blk := S8.rec (motive := fun _ => Blk) (fun a0 a1 a2 a3 a4 a5 a6 a7 => a2) s
def pB12 (s : S8 (Blk)) (x : Blk) : S8 (Blk) := S8.rec (motive := fun _ => S8 (Blk)) (fun a0 a1 a2 a3 a4 a5 a6 a7 => ⟨a0, a1, x, a3, a4, a5, a6, a7⟩) s
def gB13 (s : S8 (Blk)) : Blk := S8.rec (motive := fun _ => Blk) (fun a0 a1 a2 a3 a4 a5 a6 a7 => a3) s
def pB13 (s : S8 (Blk)) (x : Blk) : S8 (Blk) := S8.rec (motive := fun _ => S8 (Blk)) (fun a0 a1 a2 a3 a4 a5 a6 a7 => ⟨a0, a1, a2, x, a4, a5, a6, a7⟩) s
def gB14 (s : S8 (Blk)) : Blk := S8.rec (motive := fun _ => Blk) (fun a0 a1 a2 a3 a4 a5 a6 a7 => a4) s
def pB14 (s : S8 (Blk)) (x : Blk) : S8 (Blk) := S8.rec (motive := fun _ => S8 (Blk)) (fun a0 a1 a2 a3 a4 a5 a6 a7 => ⟨a0, a1, a2, a3, x, a5, a6, a7⟩) s
def gB15 (s : S8 (Blk)) : Blk := S8.rec (motive := fun _ => Blk) (fun a0 a1 a2 a3 a4 a5 a6 a7 => a5) s
def pB15 (s : S8 (Blk)) (x : Blk) : S8 (Blk) := S8.rec (motive := fun _ => S8 (Blk)) (fun a0 a1 a2 a3 a4 a5 a6 a7 => ⟨a0, a1, a2, a3, a4, x, a6, a7⟩) s
def gB16 (s : S8 (Blk)) : Blk := S8.rec (motive := fun _ => Blk) (fun a0 a1 a2 a3 a4 a5 a6 a7 => a6) s
def pB16 (s : S8 (Blk)) (x : Blk) : S8 (Blk) := S8.rec (motive := fun _ => S8 (Blk)) (fun a0 a1 a2 a3 a4 a5 a6 a7 => ⟨a0, a1, a2, a3, a4, a5, x, a7⟩) s
def gB17 (s : S8 (Blk)) : Blk := S8.rec (motive := fun _ => Blk) (fun a0 a1 a2 a3 a4 a5 a6 a7 => a7) s
def pB17 (s : S8 (Blk)) (x : Blk) : S8 (Blk) := S8.rec (motive := fun _ => S8 (Blk)) (fun a0 a1 a2 a3 a4 a5 a6 a7 => ⟨a0, a1, a2, a3, a4, a5, a6, x⟩) s
def getB1 (s : S8 (Blk)) (d : D8) : Blk := (D8.rec (motive := fun _ => S8 (Blk) → Blk) gB10 gB11 gB12 gB13 gB14 gB15 gB16 gB17 d) s
def putB1 (s : S8 (Blk)) (d : D8) (x : Blk) : S8 (Blk) := (D8.rec (motive := fun _ => S8 (Blk) → Blk → S8 (Blk)) pB10 pB11 pB12 pB13 pB14 pB15 pB16 pB17 d) s x
def gB20 (s : S8 (S8 (Blk))) : S8 (Blk) := S8.rec (motive := fun _ => S8 (Blk)) (fun a0 a1 a2 a3 a4 a5 a6 a7 => a0) s
def pB20 (s : S8 (S8 (Blk))) (x : S8 (Blk)) : S8 (S8 (Blk)) := S8.rec (motive := fun _ => S8 (S8 (Blk))) (fun a0 a1 a2 a3 a4 a5 a6 a7 => ⟨x, a1, a2, a3, a4, a5, a6, a7⟩) s
def gB21 (s : S8 (S8 (Blk))) : S8 (Blk) := S8.rec (motive := fun _ => S8 (Blk)) (fun a0 a1 a2 a3 a4 a5 a6 a7 => a1) s
def pB21 (s : S8 (S8 (Blk))) (x : S8 (Blk)) : S8 (S8 (Blk)) := S8.rec (motive := fun _ => S8 (S8 (Blk))) (fun a0 a1 a2 a3 a4 a5 a6 a7 => ⟨a0, x, a2, a3, a4, a5, a6, a7⟩) s
def gB22 (s : S8 (S8 (Blk))) : S8 (Blk) := S8.rec (motive := fun _ => S8 (Blk)) (fun a0 a1 a2 a3 a4 a5 a6 a7 => a2) s
def pB22 (s : S8 (S8 (Blk))) (x : S8 (Blk)) : S8 (S8 (Blk)) := S8.rec (motive := fun _ => S8 (S8 (Blk))) (fun a0 a1 a2 a3 a4 a5 a6 a7 => ⟨a0, a1, x, a3, a4, a5, a6, a7⟩) s
def gB23 (s : S8 (S8 (Blk))) : S8 (Blk) := S8.rec (motive := fun _ => S8 (Blk)) (fun a0 a1 a2 a3 a4 a5 a6 a7 => a3) s
def pB23 (s : S8 (S8 (Blk))) (x : S8 (Blk)) : S8 (S8 (Blk)) := S8.rec (motive := fun _ => S8 (S8 (Blk))) (fun a0 a1 a2 a3 a4 a5 a6 a7 => ⟨a0, a1, a2, x, a4, a5, a6, a7⟩) s
def gB24 (s : S8 (S8 (Blk))) : S8 (Blk) := S8.rec (motive := fun _ => S8 (Blk)) (fun a0 a1 a2 a3 a4 a5 a6 a7 => a4) s
def pB24 (s : S8 (S8 (Blk))) (x : S8 (Blk)) : S8 (S8 (Blk)) := S8.rec (motive := fun _ => S8 (S8 (Blk))) (fun a0 a1 a2 a3 a4 a5 a6 a7 => ⟨a0, a1, a2, a3, x, a5, a6, a7⟩) s
def gB25 (s : S8 (S8 (Blk))) : S8 (Blk) := S8.rec (motive := fun _ => S8 (Blk)) (fun a0 a1 a2 a3 a4 a5 a6 a7 => a5) s
def pB25 (s : S8 (S8 (Blk))) (x : S8 (Blk)) : S8 (S8 (Blk)) := S8.rec (motive := fun _ => S8 (S8 (Blk))) (fun a0 a1 a2 a3 a4 a5 a6 a7 => ⟨a0, a1, a2, a3, a4, x, a6, a7⟩) s
def gB26 (s : S8 (S8 (Blk))) : S8 (Blk) := S8.rec (motive := fun _ => S8 (Blk)) (fun a0 a1 a2 a3 a4 a5 a6 a7 => a6) s
def pB26 (s : S8 (S8 (Blk))) (x : S8 (Blk)) : S8 (S8 (Blk)) := S8.rec (motive := fun _ => S8 (S8 (Blk))) (fun a0 a1 a2 a3 a4 a5 a6 a7 => ⟨a0, a1, a2, a3, a4, a5, x, a7⟩) s
def gB27 (s : S8 (S8 (Blk))) : S8 (Blk) := S8.rec (motive := fun _ => S8 (Blk)) (fun a0 a1 a2 a3 a4 a5 a6 a7 => a7) s
def pB27 (s : S8 (S8 (Blk))) (x : S8 (Blk)) : S8 (S8 (Blk)) := S8.rec (motive := fun _ => S8 (S8 (Blk))) (fun a0 a1 a2 a3 a4 a5 a6 a7 => ⟨a0, a1, a2, a3, a4, a5, a6, x⟩) s
def getB2 (s : S8 (S8 (Blk))) (d : D8) : S8 (Blk) := (D8.rec (motive := fun _ => S8 (S8 (Blk)) → S8 (Blk)) gB20 gB21 gB22 gB23 gB24 gB25 gB26 gB27 d) s
def putB2 (s : S8 (S8 (Blk))) (d : D8) (x : S8 (Blk)) : S8 (S8 (Blk)) := (D8.rec (motive := fun _ => S8 (S8 (Blk)) → S8 (Blk) → S8 (S8 (Blk))) pB20 pB21 pB22 pB23 pB24 pB25 pB26 pB27 d) s x
def gB30 (s : S8 (S8 (S8 (Blk)))) : S8 (S8 (Blk)) := S8.rec (motive := fun _ => S8 (S8 (Blk))) (fun a0 a1 a2 a3 a4 a5 a6 a7 => a0) s
def pB30 (s : S8 (S8 (S8 (Blk)))) (x : S8 (S8 (Blk))) : S8 (S8 (S8 (Blk))) := S8.rec (motive := fun _ => S8 (S8 (S8 (Blk)))) (fun a0 a1 a2 a3 a4 a5 a6 a7 => ⟨x, a1, a2, a3, a4, a5, a6, a7⟩) s
def gB31 (s : S8 (S8 (S8 (Blk)))) : S8 (S8 (Blk)) := S8.rec (motive := fun _ => S8 (S8 (Blk))) (fun a0 a1 a2 a3 a4 a5 a6 a7 => a1) s
def pB31 (s : S8 (S8 (S8 (Blk)))) (x : S8 (S8 (Blk))) : S8 (S8 (S8 (Blk))) := S8.rec (motive := fun _ => S8 (S8 (S8 (Blk)))) (fun a0 a1 a2 a3 a4 a5 a6 a7 => ⟨a0, x, a2, a3, a4, a5, a6, a7⟩) s
def gB32 (s : S8 (S8 (S8 (Blk)))) : S8 (S8 (Blk)) := S8.rec (motive := fun _ => S8 (S8 (Blk))) (fun a0 a1 a2 a3 a4 a5 a6 a7 => a2) s
def pB32 (s : S8 (S8 (S8 (Blk)))) (x : S8 (S8 (Blk))) : S8 (S8 (S8 (Blk))) := S8.rec (motive := fun _ => S8 (S8 (S8 (Blk)))) (fun a0 a1 a2 a3 a4 a5 a6 a7 => ⟨a0, a1, x, a3, a4, a5, a6, a7⟩) s
def gB33 (s : S8 (S8 (S8 (Blk)))) : S8 (S8 (Blk)) := S8.rec (motive := fun _ => S8 (S8 (Blk))) (fun a0 a1 a2 a3 a4 a5 a6 a7 => a3) s
def pB33 (s : S8 (S8 (S8 (Blk)))) (x : S8 (S8 (Blk))) : S8 (S8 (S8 (Blk))) := S8.rec (motive := fun _ => S8 (S8 (S8 (Blk)))) (fun a0 a1 a2 a3 a4 a5 a6 a7 => ⟨a0, a1, a2, x, a4, a5, a6, a7⟩) s
def gB34 (s : S8 (S8 (S8 (Blk)))) : S8 (S8 (Blk)) := S8.rec (motive := fun _ => S8 (S8 (Blk))) (fun a0 a1 a2 a3 a4 a5 a6 a7 => a4) s
def pB34 (s : S8 (S8 (S8 (Blk)))) (x : S8 (S8 (Blk))) : S8 (S8 (S8 (Blk))) := S8.rec (motive := fun _ => S8 (S8 (S8 (Blk)))) (fun a0 a1 a2 a3 a4 a5 a6 a7 => ⟨a0, a1, a2, a3, x, a5, a6, a7⟩) s
def gB35 (s : S8 (S8 (S8 (Blk)))) : S8 (S8 (Blk)) := S8.rec (motive := fun _ => S8 (S8 (Blk))) (fun a0 a1 a2 a3 a4 a5 a6 a7 => a5) s
def pB35 (s : S8 (S8 (S8 (Blk)))) (x : S8 (S8 (Blk))) : S8 (S8 (S8 (Blk))) := S8.rec (motive := fun _ => S8 (S8 (S8 (Blk)))) (fun a0 a1 a2 a3 a4 a5 a6 a7 => ⟨a0, a1, a2, a3, a4, x, a6, a7⟩) s
def gB36 (s : S8 (S8 (S8 (Blk)))) : S8 (S8 (Blk)) := S8.rec (motive := fun _ => S8 (S8 (Blk))) (fun a0 a1 a2 a3 a4 a5 a6 a7 => a6) s
def pB36 (s : S8 (S8 (S8 (Blk)))) (x : S8 (S8 (Blk))) : S8 (S8 (S8 (Blk))) := S8.rec (motive := fun _ => S8 (S8 (S8 (Blk)))) (fun a0 a1 a2 a3 a4 a5 a6 a7 => ⟨a0, a1, a2, a3, a4, a5, x, a7⟩) s
def gB37 (s : S8 (S8 (S8 (Blk)))) : S8 (S8 (Blk)) := S8.rec (motive := fun _ => S8 (S8 (Blk))) (fun a0 a1 a2 a3 a4 a5 a6 a7 => a7) s
def pB37 (s : S8 (S8 (S8 (Blk)))) (x : S8 (S8 (Blk))) : S8 (S8 (S8 (Blk))) := S8.rec (motive := fun _ => S8 (S8 (S8 (Blk)))) (fun a0 a1 a2 a3 a4 a5 a6 a7 => ⟨a0, a1, a2, a3, a4, a5, a6, x⟩) s
def getB3 (s : S8 (S8 (S8 (Blk)))) (d : D8) : S8 (S8 (Blk)) := (D8.rec (motive := fun _ => S8 (S8 (S8 (Blk))) → S8 (S8 (Blk))) gB30 gB31 gB32 gB33 gB34 gB35 gB36 gB37 d) s
def putB3 (s : S8 (S8 (S8 (Blk)))) (d : D8) (x : S8 (S8 (Blk))) : S8 (S8 (S8 (Blk))) := (D8.rec (motive := fun _ => S8 (S8 (S8 (Blk))) → S8 (S8 (Blk)) → S8 (S8 (S8 (Blk)))) pB30 pB31 pB32 pB33 pB34 pB35 pB36 pB37 d) s x
def gB40 (s : S8 (S8 (S8 (S8 (Blk))))) : S8 (S8 (S8 (Blk))) := S8.rec (motive := fun _ => S8 (S8 (S8 (Blk)))) (fun a0 a1 a2 a3 a4 a5 a6 a7 => a0) s
def pB40 (s : S8 (S8 (S8 (S8 (Blk))))) (x : S8 (S8 (S8 (Blk)))) : S8 (S8 (S8 (S8 (Blk)))) := S8.rec (motive := fun _ => S8 (S8 (S8 (S8 (Blk))))) (fun a0 a1 a2 a3 a4 a5 a6 a7 => ⟨x, a1, a2, a3, a4, a5, a6, a7⟩) s
def gB41 (s : S8 (S8 (S8 (S8 (Blk))))) : S8 (S8 (S8 (Blk))) := S8.rec (motive := fun _ => S8 (S8 (S8 (Blk)))) (fun a0 a1 a2 a3 a4 a5 a6 a7 => a1) s
def pB41 (s : S8 (S8 (S8 (S8 (Blk))))) (x : S8 (S8 (S8 (Blk)))) : S8 (S8 (S8 (S8 (Blk)))) := S8.rec (motive := fun _ => S8 (S8 (S8 (S8 (Blk))))) (fun a0 a1 a2 a3 a4 a5 a6 a7 => ⟨a0, x, a2, a3, a4, a5, a6, a7⟩) s
def gB42 (s : S8 (S8 (S8 (S8 (Blk))))) : S8 (S8 (S8 (Blk))) := S8.rec (motive := fun _ => S8 (S8 (S8 (Blk)))) (fun a0 a1 a2 a3 a4 a5 a6 a7 => a2) s
def pB42 (s : S8 (S8 (S8 (S8 (Blk))))) (x : S8 (S8 (S8 (Blk)))) : S8 (S8 (S8 (S8 (Blk)))) := S8.rec (motive := fun _ => S8 (S8 (S8 (S8 (Blk))))) (fun a0 a1 a2 a3 a4 a5 a6 a7 => ⟨a0, a1, x, a3, a4, a5, a6, a7⟩) s
def gB43 (s : S8 (S8 (S8 (S8 (Blk))))) : S8 (S8 (S8 (Blk))) := S8.rec (motive := fun _ => S8 (S8 (S8 (Blk)))) (fun a0 a1 a2 a3 a4 a5 a6 a7 => a3) s
def pB43 (s : S8 (S8 (S8 (S8 (Blk))))) (x : S8 (S8 (S8 (Blk)))) : S8 (S8 (S8 (S8 (Blk)))) := S8.rec (motive := fun _ => S8 (S8 (S8 (S8 (Blk))))) (fun a0 a1 a2 a3 a4 a5 a6 a7 => ⟨a0, a1, a2, x, a4, a5, a6, a7⟩) s
def gB44 (s : S8 (S8 (S8 (S8 (Blk))))) : S8 (S8 (S8 (Blk))) := S8.rec (motive := fun _ => S8 (S8 (S8 (Blk)))) (fun a0 a1 a2 a3 a4 a5 a6 a7 => a4) s
def pB44 (s : S8 (S8 (S8 (S8 (Blk))))) (x : S8 (S8 (S8 (Blk)))) : S8 (S8 (S8 (S8 (Blk)))) := S8.rec (motive := fun _ => S8 (S8 (S8 (S8 (Blk))))) (fun a0 a1 a2 a3 a4 a5 a6 a7 => ⟨a0, a1, a2, a3, x, a5, a6, a7⟩) s
def gB45 (s : S8 (S8 (S8 (S8 (Blk))))) : S8 (S8 (S8 (Blk))) := S8.rec (motive := fun _ => S8 (S8 (S8 (Blk)))) (fun a0 a1 a2 a3 a4 a5 a6 a7 => a5) s
def pB45 (s : S8 (S8 (S8 (S8 (Blk))))) (x : S8 (S8 (S8 (Blk)))) : S8 (S8 (S8 (S8 (Blk)))) := S8.rec (motive := fun _ => S8 (S8 (S8 (S8 (Blk))))) (fun a0 a1 a2 a3 a4 a5 a6 a7 => ⟨a0, a1, a2, a3, a4, x, a6, a7⟩) s
def gB46 (s : S8 (S8 (S8 (S8 (Blk))))) : S8 (S8 (S8 (Blk))) := S8.rec (motive := fun _ => S8 (S8 (S8 (Blk)))) (fun a0 a1 a2 a3 a4 a5 a6 a7 => a6) s
def pB46 (s : S8 (S8 (S8 (S8 (Blk))))) (x : S8 (S8 (S8 (Blk)))) : S8 (S8 (S8 (S8 (Blk)))) := S8.rec (motive := fun _ => S8 (S8 (S8 (S8 (Blk))))) (fun a0 a1 a2 a3 a4 a5 a6 a7 => ⟨a0, a1, a2, a3, a4, a5, x, a7⟩) s
def gB47 (s : S8 (S8 (S8 (S8 (Blk))))) : S8 (S8 (S8 (Blk))) := S8.rec (motive := fun _ => S8 (S8 (S8 (Blk)))) (fun a0 a1 a2 a3 a4 a5 a6 a7 => a7) s
def pB47 (s : S8 (S8 (S8 (S8 (Blk))))) (x : S8 (S8 (S8 (Blk)))) : S8 (S8 (S8 (S8 (Blk)))) := S8.rec (motive := fun _ => S8 (S8 (S8 (S8 (Blk))))) (fun a0 a1 a2 a3 a4 a5 a6 a7 => ⟨a0, a1, a2, a3, a4, a5, a6, x⟩) s
def getB4 (s : S8 (S8 (S8 (S8 (Blk))))) (d : D8) : S8 (S8 (S8 (Blk))) := (D8.rec (motive := fun _ => S8 (S8 (S8 (S8 (Blk)))) → S8 (S8 (S8 (Blk)))) gB40 gB41 gB42 gB43 gB44 gB45 gB46 gB47 d) s
def putB4 (s : S8 (S8 (S8 (S8 (Blk))))) (d : D8) (x : S8 (S8 (S8 (Blk)))) : S8 (S8 (S8 (S8 (Blk)))) := (D8.rec (motive := fun _ => S8 (S8 (S8 (S8 (Blk)))) → S8 (S8 (S8 (Blk))) → S8 (S8 (S8 (S8 (Blk))))) pB40 pB41 pB42 pB43 pB44 pB45 pB46 pB47 d) s x
def gB50 (s : S8 (S8 (S8 (S8 (S8 (Blk)))))) : S8 (S8 (S8 (S8 (Blk)))) := S8.rec (motive := fun _ => S8 (S8 (S8 (S8 (Blk))))) (fun a0 a1 a2 a3 a4 a5 a6 a7 => a0) s
def pB50 (s : S8 (S8 (S8 (S8 (S8 (Blk)))))) (x : S8 (S8 (S8 (S8 (Blk))))) : S8 (S8 (S8 (S8 (S8 (Blk))))) := S8.rec (motive := fun _ => S8 (S8 (S8 (S8 (S8 (Blk)))))) (fun a0 a1 a2 a3 a4 a5 a6 a7 => ⟨x, a1, a2, a3, a4, a5, a6, a7⟩) s
def gB51 (s : S8 (S8 (S8 (S8 (S8 (Blk)))))) : S8 (S8 (S8 (S8 (Blk)))) := S8.rec (motive := fun _ => S8 (S8 (S8 (S8 (Blk))))) (fun a0 a1 a2 a3 a4 a5 a6 a7 => a1) s
def pB51 (s : S8 (S8 (S8 (S8 (S8 (Blk)))))) (x : S8 (S8 (S8 (S8 (Blk))))) : S8 (S8 (S8 (S8 (S8 (Blk))))) := S8.rec (motive := fun _ => S8 (S8 (S8 (S8 (S8 (Blk)))))) (fun a0 a1 a2 a3 a4 a5 a6 a7 => ⟨a0, x, a2, a3, a4, a5, a6, a7⟩) s
def gB52 (s : S8 (S8 (S8 (S8 (S8 (Blk)))))) : S8 (S8 (S8 (S8 (Blk)))) := S8.rec (motive := fun _ => S8 (S8 (S8 (S8 (Blk))))) (fun a0 a1 a2 a3 a4 a5 a6 a7 => a2) s
def pB52 (s : S8 (S8 (S8 (S8 (S8 (Blk)))))) (x : S8 (S8 (S8 (S8 (Blk))))) : S8 (S8 (S8 (S8 (S8 (Blk))))) := S8.rec (motive := fun _ => S8 (S8 (S8 (S8 (S8 (Blk)))))) (fun a0 a1 a2 a3 a4 a5 a6 a7 => ⟨a0, a1, x, a3, a4, a5, a6, a7⟩) s
def gB53 (s : S8 (S8 (S8 (S8 (S8 (Blk)))))) : S8 (S8 (S8 (S8 (Blk)))) := S8.rec (motive := fun _ => S8 (S8 (S8 (S8 (Blk))))) (fun a0 a1 a2 a3 a4 a5 a6 a7 => a3) s
def pB53 (s : S8 (S8 (S8 (S8 (S8 (Blk)))))) (x : S8 (S8 (S8 (S8 (Blk))))) : S8 (S8 (S8 (S8 (S8 (Blk))))) := S8.rec (motive := fun _ => S8 (S8 (S8 (S8 (S8 (Blk)))))) (fun a0 a1 a2 a3 a4 a5 a6 a7 => ⟨a0, a1, a2, x, a4, a5, a6, a7⟩) s
def gB54 (s : S8 (S8 (S8 (S8 (S8 (Blk)))))) : S8 (S8 (S8 (S8 (Blk)))) := S8.rec (motive := fun _ => S8 (S8 (S8 (S8 (Blk))))) (fun a0 a1 a2 a3 a4 a5 a6 a7 => a4) s
def pB54 (s : S8 (S8 (S8 (S8 (S8 (Blk)))))) (x : S8 (S8 (S8 (S8 (Blk))))) : S8 (S8 (S8 (S8 (S8 (Blk))))) := S8.rec (motive := fun _ => S8 (S8 (S8 (S8 (S8 (Blk)))))) (fun a0 a1 a2 a3 a4 a5 a6 a7 => ⟨a0, a1, a2, a3, x, a5, a6, a7⟩) s
def gB55 (s : S8 (S8 (S8 (S8 (S8 (Blk)))))) : S8 (S8 (S8 (S8 (Blk)))) := S8.rec (motive := fun _ => S8 (S8 (S8 (S8 (Blk))))) (fun a0 a1 a2 a3 a4 a5 a6 a7 => a5) s
def pB55 (s : S8 (S8 (S8 (S8 (S8 (Blk)))))) (x : S8 (S8 (S8 (S8 (Blk))))) : S8 (S8 (S8 (S8 (S8 (Blk))))) := S8.rec (motive := fun _ => S8 (S8 (S8 (S8 (S8 (Blk)))))) (fun a0 a1 a2 a3 a4 a5 a6 a7 => ⟨a0, a1, a2, a3, a4, x, a6, a7⟩) s
def gB56 (s : S8 (S8 (S8 (S8 (S8 (Blk)))))) : S8 (S8 (S8 (S8 (Blk)))) := S8.rec (motive := fun _ => S8 (S8 (S8 (S8 (Blk))))) (fun a0 a1 a2 a3 a4 a5 a6 a7 => a6) s
def pB56 (s : S8 (S8 (S8 (S8 (S8 (Blk)))))) (x : S8 (S8 (S8 (S8 (Blk))))) : S8 (S8 (S8 (S8 (S8 (Blk))))) := S8.rec (motive := fun _ => S8 (S8 (S8 (S8 (S8 (Blk)))))) (fun a0 a1 a2 a3 a4 a5 a6 a7 => ⟨a0, a1, a2, a3, a4, a5, x, a7⟩) s
def gB57 (s : S8 (S8 (S8 (S8 (S8 (Blk)))))) : S8 (S8 (S8 (S8 (Blk)))) := S8.rec (motive := fun _ => S8 (S8 (S8 (S8 (Blk))))) (fun a0 a1 a2 a3 a4 a5 a6 a7 => a7) s
def pB57 (s : S8 (S8 (S8 (S8 (S8 (Blk)))))) (x : S8 (S8 (S8 (S8 (Blk))))) : S8 (S8 (S8 (S8 (S8 (Blk))))) := S8.rec (motive := fun _ => S8 (S8 (S8 (S8 (S8 (Blk)))))) (fun a0 a1 a2 a3 a4 a5 a6 a7 => ⟨a0, a1, a2, a3, a4, a5, a6, x⟩) s
def getB5 (s : S8 (S8 (S8 (S8 (S8 (Blk)))))) (d : D8) : S8 (S8 (S8 (S8 (Blk)))) := (D8.rec (motive := fun _ => S8 (S8 (S8 (S8 (S8 (Blk))))) → S8 (S8 (S8 (S8 (Blk))))) gB50 gB51 gB52 gB53 gB54 gB55 gB56 gB57 d) s
def putB5 (s : S8 (S8 (S8 (S8 (S8 (Blk)))))) (d : D8) (x : S8 (S8 (S8 (S8 (Blk))))) : S8 (S8 (S8 (S8 (S8 (Blk))))) := (D8.rec (motive := fun _ => S8 (S8 (S8 (S8 (S8 (Blk))))) → S8 (S8 (S8 (S8 (Blk)))) → S8 (S8 (S8 (S8 (S8 (Blk)))))) pB50 pB51 pB52 pB53 pB54 pB55 pB56 pB57 d) s x
def hget (h : H Blk) (i : Id) : Blk := Id.rec (motive := fun _ => Blk) (fun e d c b a => getB1 (getB2 (getB3 (getB4 (getB5 h e) d) c) b) a) i
def pB1 (s : S8 (S8 Blk)) (b a : D8) (x : Blk) : S8 (S8 Blk) := putB2 s b (putB1 (getB2 s b) a x)
def pB2 (s : S8 (S8 (S8 Blk))) (c b a : D8) (x : Blk) : S8 (S8 (S8 Blk)) := putB3 s c (pB1 (getB3 s c) b a x)
def pB3 (s : S8 (S8 (S8 (S8 Blk)))) (d c b a : D8) (x : Blk) : S8 (S8 (S8 (S8 Blk))) := putB4 s d (pB2 (getB4 s d) c b a x)
def hput (h : H Blk) (i : Id) (x : Blk) : H Blk := Id.rec (motive := fun _ => H Blk) (fun e d c b a => putB5 h e (pB3 (getB5 h e) d c b a x)) i
theorem hget_eq (h : H Blk) (i : Id) : hget h i = H.get h i := rfl
theorem hput_eq (h : H Blk) (i : Id) (x : Blk) : hput h i x = H.set h i x := rfl

/-- a family's members: which block, where in the family it begins, how many cells -/
abbrev Fam := List (Id × Nat × Nat)
structure St where
  h : H Blk
  next : Option Id
  fams : H Fam

def St.empty : St := ⟨H.all .dead, some ⟨.d0, .d0, .d0, .d0, .d0⟩, H.all []⟩
def St.getB (σ : St) (b : Id) : Blk := hget σ.h b
def St.setB (σ : St) (b : Id) (B : Blk) : St := ⟨hput σ.h b B, σ.next, σ.fams⟩

/-! the frame's cells -/
def gA10 (s : S8 (AV)) : AV := S8.rec (motive := fun _ => AV) (fun a0 a1 a2 a3 a4 a5 a6 a7 => a0) s
def pA10 (s : S8 (AV)) (x : AV) : S8 (AV) := S8.rec (motive := fun _ => S8 (AV)) (fun a0 a1 a2 a3 a4 a5 a6 a7 => ⟨x, a1, a2, a3, a4, a5, a6, a7⟩) s
def gA11 (s : S8 (AV)) : AV := S8.rec (motive := fun _ => AV) (fun a0 a1 a2 a3 a4 a5 a6 a7 => a1) s
def pA11 (s : S8 (AV)) (x : AV) : S8 (AV) := S8.rec (motive := fun _ => S8 (AV)) (fun a0 a1 a2 a3 a4 a5 a6 a7 => ⟨a0, x, a2, a3, a4, a5, a6, a7⟩) s
def gA12 (s : S8 (AV)) : AV := S8.rec (motive := fun _ => AV) (fun a0 a1 a2 a3 a4 a5 a6 a7 => a2) s
def pA12 (s : S8 (AV)) (x : AV) : S8 (AV) := S8.rec (motive := fun _ => S8 (AV)) (fun a0 a1 a2 a3 a4 a5 a6 a7 => ⟨a0, a1, x, a3, a4, a5, a6, a7⟩) s
def gA13 (s : S8 (AV)) : AV := S8.rec (motive := fun _ => AV) (fun a0 a1 a2 a3 a4 a5 a6 a7 => a3) s
def pA13 (s : S8 (AV)) (x : AV) : S8 (AV) := S8.rec (motive := fun _ => S8 (AV)) (fun a0 a1 a2 a3 a4 a5 a6 a7 => ⟨a0, a1, a2, x, a4, a5, a6, a7⟩) s
def gA14 (s : S8 (AV)) : AV := S8.rec (motive := fun _ => AV) (fun a0 a1 a2 a3 a4 a5 a6 a7 => a4) s
def pA14 (s : S8 (AV)) (x : AV) : S8 (AV) := S8.rec (motive := fun _ => S8 (AV)) (fun a0 a1 a2 a3 a4 a5 a6 a7 => ⟨a0, a1, a2, a3, x, a5, a6, a7⟩) s
def gA15 (s : S8 (AV)) : AV := S8.rec (motive := fun _ => AV) (fun a0 a1 a2 a3 a4 a5 a6 a7 => a5) s
def pA15 (s : S8 (AV)) (x : AV) : S8 (AV) := S8.rec (motive := fun _ => S8 (AV)) (fun a0 a1 a2 a3 a4 a5 a6 a7 => ⟨a0, a1, a2, a3, a4, x, a6, a7⟩) s
def gA16 (s : S8 (AV)) : AV := S8.rec (motive := fun _ => AV) (fun a0 a1 a2 a3 a4 a5 a6 a7 => a6) s
def pA16 (s : S8 (AV)) (x : AV) : S8 (AV) := S8.rec (motive := fun _ => S8 (AV)) (fun a0 a1 a2 a3 a4 a5 a6 a7 => ⟨a0, a1, a2, a3, a4, a5, x, a7⟩) s
def gA17 (s : S8 (AV)) : AV := S8.rec (motive := fun _ => AV) (fun a0 a1 a2 a3 a4 a5 a6 a7 => a7) s
def pA17 (s : S8 (AV)) (x : AV) : S8 (AV) := S8.rec (motive := fun _ => S8 (AV)) (fun a0 a1 a2 a3 a4 a5 a6 a7 => ⟨a0, a1, a2, a3, a4, a5, a6, x⟩) s
def getA1 (s : S8 (AV)) (d : D8) : AV := (D8.rec (motive := fun _ => S8 (AV) → AV) gA10 gA11 gA12 gA13 gA14 gA15 gA16 gA17 d) s
def putA1 (s : S8 (AV)) (d : D8) (x : AV) : S8 (AV) := (D8.rec (motive := fun _ => S8 (AV) → AV → S8 (AV)) pA10 pA11 pA12 pA13 pA14 pA15 pA16 pA17 d) s x
def gA20 (s : S8 (S8 AV)) : S8 AV := S8.rec (motive := fun _ => S8 AV) (fun a0 a1 a2 a3 a4 a5 a6 a7 => a0) s
def pA20 (s : S8 (S8 AV)) (x : S8 AV) : S8 (S8 AV) := S8.rec (motive := fun _ => S8 (S8 AV)) (fun a0 a1 a2 a3 a4 a5 a6 a7 => ⟨x, a1, a2, a3, a4, a5, a6, a7⟩) s
def gA21 (s : S8 (S8 AV)) : S8 AV := S8.rec (motive := fun _ => S8 AV) (fun a0 a1 a2 a3 a4 a5 a6 a7 => a1) s
def pA21 (s : S8 (S8 AV)) (x : S8 AV) : S8 (S8 AV) := S8.rec (motive := fun _ => S8 (S8 AV)) (fun a0 a1 a2 a3 a4 a5 a6 a7 => ⟨a0, x, a2, a3, a4, a5, a6, a7⟩) s
def gA22 (s : S8 (S8 AV)) : S8 AV := S8.rec (motive := fun _ => S8 AV) (fun a0 a1 a2 a3 a4 a5 a6 a7 => a2) s
def pA22 (s : S8 (S8 AV)) (x : S8 AV) : S8 (S8 AV) := S8.rec (motive := fun _ => S8 (S8 AV)) (fun a0 a1 a2 a3 a4 a5 a6 a7 => ⟨a0, a1, x, a3, a4, a5, a6, a7⟩) s
def gA23 (s : S8 (S8 AV)) : S8 AV := S8.rec (motive := fun _ => S8 AV) (fun a0 a1 a2 a3 a4 a5 a6 a7 => a3) s
def pA23 (s : S8 (S8 AV)) (x : S8 AV) : S8 (S8 AV) := S8.rec (motive := fun _ => S8 (S8 AV)) (fun a0 a1 a2 a3 a4 a5 a6 a7 => ⟨a0, a1, a2, x, a4, a5, a6, a7⟩) s
def gA24 (s : S8 (S8 AV)) : S8 AV := S8.rec (motive := fun _ => S8 AV) (fun a0 a1 a2 a3 a4 a5 a6 a7 => a4) s
def pA24 (s : S8 (S8 AV)) (x : S8 AV) : S8 (S8 AV) := S8.rec (motive := fun _ => S8 (S8 AV)) (fun a0 a1 a2 a3 a4 a5 a6 a7 => ⟨a0, a1, a2, a3, x, a5, a6, a7⟩) s
def gA25 (s : S8 (S8 AV)) : S8 AV := S8.rec (motive := fun _ => S8 AV) (fun a0 a1 a2 a3 a4 a5 a6 a7 => a5) s
def pA25 (s : S8 (S8 AV)) (x : S8 AV) : S8 (S8 AV) := S8.rec (motive := fun _ => S8 (S8 AV)) (fun a0 a1 a2 a3 a4 a5 a6 a7 => ⟨a0, a1, a2, a3, a4, x, a6, a7⟩) s
def gA26 (s : S8 (S8 AV)) : S8 AV := S8.rec (motive := fun _ => S8 AV) (fun a0 a1 a2 a3 a4 a5 a6 a7 => a6) s
def pA26 (s : S8 (S8 AV)) (x : S8 AV) : S8 (S8 AV) := S8.rec (motive := fun _ => S8 (S8 AV)) (fun a0 a1 a2 a3 a4 a5 a6 a7 => ⟨a0, a1, a2, a3, a4, a5, x, a7⟩) s
def gA27 (s : S8 (S8 AV)) : S8 AV := S8.rec (motive := fun _ => S8 AV) (fun a0 a1 a2 a3 a4 a5 a6 a7 => a7) s
def pA27 (s : S8 (S8 AV)) (x : S8 AV) : S8 (S8 AV) := S8.rec (motive := fun _ => S8 (S8 AV)) (fun a0 a1 a2 a3 a4 a5 a6 a7 => ⟨a0, a1, a2, a3, a4, a5, a6, x⟩) s
def getA2 (s : S8 (S8 AV)) (d : D8) : S8 AV := (D8.rec (motive := fun _ => S8 (S8 AV) → S8 AV) gA20 gA21 gA22 gA23 gA24 gA25 gA26 gA27 d) s
def putA2 (s : S8 (S8 AV)) (d : D8) (x : S8 AV) : S8 (S8 AV) := (D8.rec (motive := fun _ => S8 (S8 AV) → S8 AV → S8 (S8 AV)) pA20 pA21 pA22 pA23 pA24 pA25 pA26 pA27 d) s x
def fput (s : S8 (S8 AV)) (x y : D8) (v : AV) : S8 (S8 AV) := putA2 s x (putA1 (getA2 s x) y v)
/-- what a function's variables hold; and the deferred calls -/
structure FT where
  d : List AV
  s : S8 (S8 AV)
def FT.get (t : FT) (x y : D8) : AV := S8.get (S8.get t.s x) y
def FT.set (t : FT) (x y : D8) (v : AV) : FT := FT.rec (motive := fun _ => FT) (fun d s => ⟨d, fput s x y v⟩) t
def FT.empty : FT := ⟨[], S8.all (S8.all .any)⟩

inductive O where
  | nrm (fr : FT) (σ : St)
  | ex (id : Nat) (fr : FT) (σ : St)
  | ret (fr : FT) (σ : St)
  | no
/-! what a value is, asked in one step (its other ways are closed: nothing of them is copied) -/
def onI (v : AV) : (Int → O) → O → O := AV.rec (motive_1 := fun _ => (Int → O) → O → O) (motive_2 := fun _ => Unit)
  (fun _ e => e) (fun x0 k _ => k x0) (fun _ _ _ e => e) (fun _ _ e => e) (fun _ _ e => e) (fun _ _ e => e) (fun _ _ _ e => e) (fun _ _ _ _ _ _ e => e) (fun _ _ e => e) (fun _ _ _ _ _ _ e => e) (fun _ _ _ _ e => e) (fun _ _ _ _ e => e) (fun _ _ _ e => e) () (fun _ _ _ _ => ()) v
def onK (v : AV) : (IntKind → Int → O) → O → O := AV.rec (motive_1 := fun _ => (IntKind → Int → O) → O → O) (motive_2 := fun _ => Unit)
  (fun _ e => e) (fun _ _ e => e) (fun x0 x1 k _ => k x0 x1) (fun _ _ e => e) (fun _ _ e => e) (fun _ _ e => e) (fun _ _ _ e => e) (fun _ _ _ _ _ _ e => e) (fun _ _ e => e) (fun _ _ _ _ _ _ e => e) (fun _ _ _ _ e => e) (fun _ _ _ _ e => e) (fun _ _ _ e => e) () (fun _ _ _ _ => ()) v
def onB (v : AV) : (Bool → O) → O → O := AV.rec (motive_1 := fun _ => (Bool → O) → O → O) (motive_2 := fun _ => Unit)
  (fun _ e => e) (fun _ _ e => e) (fun _ _ _ e => e) (fun x0 k _ => k x0) (fun _ _ e => e) (fun _ _ e => e) (fun _ _ _ e => e) (fun _ _ _ _ _ _ e => e) (fun _ _ e => e) (fun _ _ _ _ _ _ e => e) (fun _ _ _ _ e => e) (fun _ _ _ _ e => e) (fun _ _ _ e => e) () (fun _ _ _ _ => ()) v
def onS (v : AV) : (List Nat → O) → O → O := AV.rec (motive_1 := fun _ => (List Nat → O) → O → O) (motive_2 := fun _ => Unit)
  (fun _ e => e) (fun _ _ e => e) (fun _ _ _ e => e) (fun _ _ e => e) (fun x0 k _ => k x0) (fun _ _ e => e) (fun _ _ _ e => e) (fun _ _ _ _ _ _ e => e) (fun _ _ e => e) (fun _ _ _ _ _ _ e => e) (fun _ _ _ _ e => e) (fun _ _ _ _ e => e) (fun _ _ _ e => e) () (fun _ _ _ _ => ()) v
def onPtr (v : AV) : (Id → Nat → O) → O → O := AV.rec (motive_1 := fun _ => (Id → Nat → O) → O → O) (motive_2 := fun _ => Unit)
  (fun _ e => e) (fun _ _ e => e) (fun _ _ _ e => e) (fun _ _ e => e) (fun _ _ e => e) (fun _ _ e => e) (fun x0 x1 k _ => k x0 x1) (fun _ _ _ _ _ _ e => e) (fun _ _ e => e) (fun _ _ _ _ _ _ e => e) (fun _ _ _ _ e => e) (fun _ _ _ _ e => e) (fun _ _ _ e => e) () (fun _ _ _ _ => ()) v
def onSl (v : AV) : (Id → Nat → Nat → Nat → Nat → O) → O → O := AV.rec (motive_1 := fun _ => (Id → Nat → Nat → Nat → Nat → O) → O → O) (motive_2 := fun _ => Unit)
  (fun _ e => e) (fun _ _ e => e) (fun _ _ _ e => e) (fun _ _ e => e) (fun _ _ e => e) (fun _ _ e => e) (fun _ _ _ e => e) (fun x0 x1 x2 x3 x4 k _ => k x0 x1 x2 x3 x4) (fun _ _ e => e) (fun _ _ _ _ _ _ e => e) (fun _ _ _ _ e => e) (fun _ _ _ _ e => e) (fun _ _ _ e => e) () (fun _ _ _ _ => ()) v
def onAgg (v : AV) : (Nat → List AV → O) → O → O := AV.rec (motive_1 := fun _ => (Nat → List AV → O) → O → O) (motive_2 := fun _ => Unit)
  (fun _ e => e) (fun _ _ e => e) (fun _ _ _ e => e) (fun _ _ e => e) (fun _ _ e => e) (fun _ _ e => e) (fun _ _ _ e => e) (fun _ _ _ _ _ _ e => e) (fun _ _ e => e) (fun _ _ _ _ _ _ e => e) (fun _ _ _ _ e => e) (fun x0 x1 _ k _ => k x0 x1) (fun _ _ _ e => e) () (fun _ _ _ _ => ()) v
def onTup (v : AV) : (List AV → O) → O → O := AV.rec (motive_1 := fun _ => (List AV → O) → O → O) (motive_2 := fun _ => Unit)
  (fun _ e => e) (fun _ _ e => e) (fun _ _ _ e => e) (fun _ _ e => e) (fun _ _ e => e) (fun _ _ e => e) (fun _ _ _ e => e) (fun _ _ _ _ _ _ e => e) (fun _ _ e => e) (fun _ _ _ _ _ _ e => e) (fun _ _ _ _ e => e) (fun _ _ _ _ e => e) (fun x0 _ k _ => k x0) () (fun _ _ _ _ => ()) v
def onIfc (v : AV) : (TypeId → AV → O) → O → O := AV.rec (motive_1 := fun _ => (TypeId → AV → O) → O → O) (motive_2 := fun _ => Unit)
  (fun _ e => e) (fun _ _ e => e) (fun _ _ _ e => e) (fun _ _ e => e) (fun _ _ e => e) (fun _ _ e => e) (fun _ _ _ e => e) (fun _ _ _ _ _ _ e => e) (fun _ _ e => e) (fun _ _ _ _ _ _ e => e) (fun x0 x1 _ k _ => k x0 x1) (fun _ _ _ _ e => e) (fun _ _ _ e => e) () (fun _ _ _ _ => ()) v
def onIN (v : AV) : (Int → Option Nat) → Option Nat → Option Nat := AV.rec (motive_1 := fun _ => (Int → Option Nat) → Option Nat → Option Nat) (motive_2 := fun _ => Unit)
  (fun _ e => e) (fun x0 k _ => k x0) (fun _ _ _ e => e) (fun _ _ e => e) (fun _ _ e => e) (fun _ _ e => e) (fun _ _ _ e => e) (fun _ _ _ _ _ _ e => e) (fun _ _ e => e) (fun _ _ _ _ _ _ e => e) (fun _ _ _ _ e => e) (fun _ _ _ _ e => e) (fun _ _ _ e => e) () (fun _ _ _ _ => ()) v
def onKN (v : AV) : (IntKind → Int → Option Nat) → Option Nat → Option Nat := AV.rec (motive_1 := fun _ => (IntKind → Int → Option Nat) → Option Nat → Option Nat) (motive_2 := fun _ => Unit)
  (fun _ e => e) (fun _ _ e => e) (fun x0 x1 k _ => k x0 x1) (fun _ _ e => e) (fun _ _ e => e) (fun _ _ e => e) (fun _ _ _ e => e) (fun _ _ _ _ _ _ e => e) (fun _ _ e => e) (fun _ _ _ _ _ _ e => e) (fun _ _ _ _ e => e) (fun _ _ _ _ e => e) (fun _ _ _ e => e) () (fun _ _ _ _ => ()) v

inductive R where
  | ok (v : AV) (σ : St)
  | no
abbrev Call := Nat → List AV → St → R
abbrev Kont := AV → St → O
abbrev Ins := Call → FT → St → Kont → O
abbrev Od := FT → AV

def pureRun (P : Program) {α : Type} : Sem α → Option α
  | .pure a => some a
  | .program k => pureRun P (k P)
  | _ => none

def isOne : AV → Bool
  | .any => false
  | .sc v => match v with
    | .agg _ => false
    | .tuple _ => false
    | _ => true
  | .agg _ _ | .tup _ => false
  | _ => true

def ofV1 : Value → AV
  | .int .i64 n => .i n
  | .int kd n => .k kd n
  | .bool t => .b t
  | .string s => .s (s.data.toList.map (·.toNat))
  | v => .sc v
def ofV : Value → AV
  | .agg cs => .agg cs.size (cs.toList.map ofV1)
  | .tuple vs => .tup (vs.toList.map ofV1)
  | v => ofV1 v

/-- a value whose cells are single ones -/
def flat : Value → Bool
  | .agg cs => cs.toList.all fun v => isOne (ofV1 v)
  | _ => true
def ofR (v : Value) : Option AV := match flat v with
  | true => some (ofV v)
  | false => none

def mkStr (l : List Nat) : ByteArray := ⟨(l.map UInt8.ofNat).toArray⟩
def toV1 : AV → Option Value
  | .i n => some (.int .i64 n)
  | .k kd n => some (.int kd n)
  | .b t => some (.bool t)
  | .s l => some (.string (mkStr l))
  | .sc v => some v
  | _ => none
def toVs : List AV → Option (List Value)
  | [] => some []
  | x :: r => match toV1 x, toVs r with
    | some v, some l => some (v :: l)
    | _, _ => none
def toV : AV → Option Value
  | .agg _ cs => match toVs cs with
    | some l => some (.agg l.toArray)
    | none => none
  | .tup cs => match toVs cs with
    | some l => some (.tuple l.toArray)
    | none => none
  | v => toV1 v

def cellsOf : AV → List AV
  | .agg _ cs => cs
  | v => [v]
def numOf : AV → Nat
  | .agg n _ => n
  | _ => 1
/-- may its cells stand in memory? -/
def okCells : AV → Bool
  | .agg _ _ => true
  | v => isOne v

def undefA : AV := .tup []

def optK (x : Option α) (k : α → O) : O := Option.rec .no k x
def optR (x : Option α) (k : α → R) : R := Option.rec .no k x
def optO (x : Option α) (k : α → Option β) : Option β := Option.rec none k x
def ite2 (c : Bool) (x y : β) : β := Bool.rec y x c

def dropN (n : Nat) (l : List α) : List α := Nat.rec (motive := fun _ => List α → List α) (fun l => l) (fun _ ih l => List.rec [] (fun _ t _ => ih t) l) n l
def takeN (n : Nat) (l : List α) : List α := Nat.rec (motive := fun _ => List α → List α) (fun _ => []) (fun _ ih l => List.rec [] (fun x t _ => x :: ih t) l) n l
def headO (l : List α) : Option α := List.rec none (fun x _ _ => some x) l
def headA (l : List AV) : AV := List.rec .any (fun x _ _ => x) l
/-- vs over the cells from off on -/
def overN (vs cs : List AV) : List AV := List.rec (motive := fun _ => List AV → List AV) (fun cs => cs) (fun v _ ih cs => List.rec [] (fun _ t _ => v :: ih t) cs) vs cs
def putN (off : Nat) (vs cs : List AV) : List AV := Nat.rec (motive := fun _ => List AV → List AV) (fun cs => overN vs cs) (fun _ ih cs => List.rec [] (fun c t _ => c :: ih t) cs) off cs

def rdRow (m : Nat) (cs : List AV) (off n : Nat) (k : List AV → β) (no : β) : β :=
  ite2 (Nat.ble (off + n) m) (k (ite2 (Nat.beq n m) cs (takeN n (dropN off cs)))) no
def rdB (B : Blk) (off n : Nat) (k : List AV → β) (no : β) : β := Blk.rec no (fun m cs _ _ => rdRow m cs off n k no) (fun _ => no) B
def rd1B (B : Blk) (off : Nat) (k : AV → β) (no : β) : β := Blk.rec no (fun m cs _ _ => ite2 (Nat.blt off m) (k (headA (dropN off cs))) no) (fun _ => no) B

def overlap (p n fo sz : Nat) : Bool := Nat.blt fo (p + n) && Nat.blt p (fo + sz)
/-- the members of a family, other than b, that have one of the places [p, p+n), are taken away -/
def killH (h : H Blk) (b : Id) (p n : Nat) : Fam → H Blk
  | [] => h
  | (m, fo, sz) :: r => match overlap p n fo sz && !(Id.beq m b) with
      | true => H.set (killH h b p n r) m .dead
      | false => killH h b p n r
def killL (b : Id) (p n : Nat) : Fam → Fam
  | [] => []
  | (m, fo, sz) :: r => match overlap p n fo sz && !(Id.beq m b) with
      | true => killL b p n r
      | false => (m, fo, sz) :: killL b p n r
def St.killF (σ : St) (b : Id) (p n : Nat) (f : Id) : St := ⟨killH σ.h b p n (H.get σ.fams f), σ.next, H.set σ.fams f (killL b p n (H.get σ.fams f))⟩
def St.kill (σ : St) (fam : Option Id) (b : Id) (p n : Nat) : St := Option.rec σ (σ.killF b p n) fam

/-- n cells are stored -/
def wrB (σ : St) (b : Id) (off n : Nat) (vs : List AV) (B : Blk) (k : St → O) : O :=
  Blk.rec .no (fun m cs fam fo => ite2 (Nat.ble (off + n) m) (k (St.kill (σ.setB b (.row m (ite2 (Nat.beq n m) vs (putN off vs cs)) fam fo)) fam b (fo + off) n)) .no) (fun _ => .no) B
def St.wr (σ : St) (b : Id) (off n : Nat) (vs : List AV) (k : St → O) : O := wrB σ b off n vs (σ.getB b) k

def St.new (σ : St) (B : Blk) (mk : Id → AV) (k : Kont) : O := Option.rec .no (fun i => k (mk i) ⟨hput σ.h i B, inc i, σ.fams⟩) σ.next

def odV (v : AV) : Od := fun _ => v
def odF (x y : D8) : Od := fun fr => FT.rec (motive := fun _ => AV) (fun _ s => getA1 (getA2 s x) y) fr

def ptrK (v : AV) (k : Id → Nat → O) : O := onPtr v k .no

/-! the instructions -/
def iMove (x : Od) : Ins := fun _ fr σ k => k (x fr) σ
def pickK (v : AV) (a b : AV) (σ : St) (k : Kont) : O := onB v (fun t => k (ite2 t a b) σ) .no
def iPick (c a b : Od) : Ins := fun _ fr σ k => pickK (c fr) (a fr) (b fr) σ k
def iNew (n : Nat) (cs : List AV) : Ins := fun _ _ σ k => σ.new (.row n cs none 0) (fun b => .ptr b 0) k
def boxK (v : AV) (σ : St) (k : Kont) : O := match v with
  | .agg n cs => σ.new (.row n cs none 0) (fun b => .ptr b 0) k
  | v => ite2 (isOne v) (σ.new (.row 1 [v] none 0) (fun b => .ptr b 0) k) .no
def iBox (x : Od) : Ins := fun _ fr σ k => boxK (x fr) σ k

/-- parts to be filled in: place, size, what -/
def fillA (fr : FT) : List AV → List (Nat × Nat × Od) → Option (List AV)
  | cells, [] => some cells
  | cells, (off, sz, x) :: rest => match Nat.beq (numOf (x fr)) sz && okCells (x fr) with
      | false => none
      | true => fillA fr (putN off (cellsOf (x fr)) cells) rest
def iBuild (n : Nat) (z : List AV) (ps : List (Nat × Nat × Od)) : Ins := fun _ fr σ k => optK (fillA fr z ps) fun cs => k (.agg n cs) σ
def iBuildSlice (z : List AV) (len esz : Nat) (ps : List (Nat × Nat × Od)) : Ins := fun _ fr σ k => optK (fillA fr z ps) fun cs => σ.new (.row (len * esz) cs none 0) (fun b => .sl b 0 len len esz) k
def iLoad1 (x : Od) : Ins := fun _ fr σ k => ptrK (x fr) fun b o => rd1B (σ.getB b) o (fun v => k v σ) .no
def iLoadN (n : Nat) (x : Od) : Ins := fun _ fr σ k => ptrK (x fr) fun b o => rdB (σ.getB b) o n (fun l => k (.agg n l) σ) .no
def storeK (σ : St) (n : Nat) (v : AV) (b : Id) (o : Nat) (k : Kont) : O := match v with
  | .agg m cs => ite2 (Nat.beq m n) (σ.wr b o m cs fun σ' => k undefA σ') .no
  | v => ite2 (Nat.beq 1 n && isOne v) (σ.wr b o 1 [v] fun σ' => k undefA σ') .no
def iStore (n : Nat) (a x : Od) : Ins := fun _ fr σ k => ptrK (a fr) fun b o => storeK σ n (x fr) b o k
def iFieldAddr (d : Nat) (x : Od) : Ins := fun _ fr σ k => ptrK (x fr) fun b o => k (.ptr b (o + d)) σ

def wrap64 (n : Int) : Int := match n with
  | .ofNat m => match Nat.blt m 9223372036854775808 with
    | true => .ofNat m
    | false => IntKind.i64.wrap (.ofNat m)
  | .negSucc m => match Nat.blt m 9223372036854775808 with
    | true => .negSucc m
    | false => IntKind.i64.wrap (.negSucc m)
section
variable (P : Program)

def aggT (t : TypeId) : Option Bool := match P.underlying t with
  | some (.struct _) | some (.array _ _) => some true
  | some _ => some false
  | none => none
def size (t : TypeId) : Option Nat := (P.info? t).map (·.size)
def zeroV (t : TypeId) : Option AV := match P.info? t with
  | some i => match i.zero with
    | some v => match flat v && okCells (ofV v) with
      | true => some (ofV v)
      | false => none
    | none => none
  | none => none
def zero (t : TypeId) : Option (List AV) := match zeroV P t with
  | some v => some (cellsOf v)
  | none => none
def fieldOf (s f : Nat) : Option (TypeId × Nat) := match P.underlying s with
  | some (.struct fs) => match fs[f]? with
    | some x => some (x.type, x.offset)
    | none => none
  | _ => none
def fieldOff (s f : Nat) : Option Nat := match fieldOf P s f with
  | some (t, o) => match size P t with
    | some n => match Nat.beq n 0 with
      | true => none
      | false => some o
    | none => none
  | none => none
def sliceElem (t : TypeId) : Option (TypeId × Nat) := match P.underlying t with
  | some (.slice e) => match size P e with
    | some n => some (e, n)
    | none => none
  | _ => none

def part (t : TypeId) (cs : List AV) (off : Nat) : Option AV := match aggT P t with
  | some true => match size P t with
    | some n => match Nat.ble (off + n) cs.length with
      | true => some (.agg n (takeN n (dropN off cs)))
      | false => none
    | none => none
  | some false => headO (dropN off cs)
  | none => none

def sEq : List Nat → List Nat → Bool
  | [], [] => true
  | a :: r, b :: s => match Nat.beq a b with
    | true => sEq r s
    | false => false
  | _, _ => false

mutual
def aeq : Nat → TypeId → AV → AV → Option Bool
  | 0, _, _, _ => none
  | d + 1, t, x, y =>
    match P.underlying t, x, y with
    | some .bool, .b a, .b b => some (a == b)
    | some (.int _), .i a, .i b => some (a == b)
    | some (.int _), .k k a, .k k' b => if k = k' then some (a == b) else none
    | some .string, .s a, .s b => some (sEq a b)
    | some (.pointer _), .sc (.pointer none), .sc (.pointer none) => some true
    | some (.pointer _), .sc (.pointer none), .ptr _ _ => some false
    | some (.pointer _), .ptr _ _, .sc (.pointer none) => some false
    | some (.pointer e), .ptr a o, .ptr b q => match Id.beq a b, size P e with
      | true, some (_ + 1) => some (Nat.beq o q)
      | _, _ => none
    | some (.interface _), .sc .nilIface, .ifc _ _ => some false
    | some (.interface _), .ifc _ _, .sc .nilIface => some false
    | some (.slice _), .sc (.slice none _ _), .sc (.slice none _ _) => some true
    | some (.slice _), .sc (.slice none _ _), .sl _ _ _ _ _ => some false
    | some (.slice _), .sl _ _ _ _ _, .sc (.slice none _ _) => some false
    | some (.map _ _), .sc (.map none), .sc (.map none) => some true
    | some (.map _ _), .sc (.map none), .mp _ => some false
    | some (.map _ _), .mp _, .sc (.map none) => some false
    | some (.func _ _ _), .sc .nilFunc, .sc .nilFunc => some true
    | some (.func _ _ _), .sc .nilFunc, .fn _ _ _ => some false
    | some (.func _ _ _), .fn _ _ _, .sc .nilFunc => some false
    | some (.struct fs), .agg _ xs, .agg _ ys => match P.stoodInHeld t with
      | true => none
      | false => aeqs d fs.toList xs ys
    | _, _, _ => none
def aeqs : Nat → List Field → List AV → List AV → Option Bool
  | _, [], _, _ => some true
  | 0, _ :: _, _, _ => none
  | d + 1, f :: fs, xs, ys =>
    match f.name == "_" with
    | true => aeqs d fs xs ys
    | false => match part P f.type xs f.offset, part P f.type ys f.offset with
      | some a, some b => match aeq d f.type a b with
        | some true => aeqs d fs xs ys
        | r => r
      | _, _ => none
end

/-- what two values that are no addresses come to (no comparison with == or !=) -/
def binP (op : BinOp) (t : TypeId) (a b : AV) : Option AV := match toV a, toV b with
  | some va, some vb => match pureRun P (Go.binOp op t va vb) with
    | some r => ofR r
    | none => none
  | _, _ => none
def optV (x : Option AV) (σ : St) (k : Kont) : O := match x with
  | some v => k v σ
  | none => .no
def iBin (op : BinOp) (t : TypeId) (x y : Od) : Ins := fun _ fr σ k => optV (binP P op t (x fr) (y fr)) σ k
def intK (a b : AV) (f : Int → Int → AV) (other : Option AV) (σ : St) (k : Kont) : O := onI a (fun x => onI b (fun y => k (f x y) σ) (optV other σ k)) (optV other σ k)
def kN (k : IntKind) : Nat := IntKind.rec 0 1 2 3 4 5 6 7 k
def cmpK (a b : AV) (f : Int → Int → AV) (other : Option AV) (σ : St) (k : Kont) : O := onI a (fun x => onI b (fun y => k (f x y) σ) (optV other σ k))
  (onK a (fun ka x => onK b (fun kb y => ite2 (Nat.beq (kN ka) (kN kb)) (k (f x y) σ) (optV other σ k)) (optV other σ k)) (optV other σ k))
def addF (a b : Int) : AV := .i (wrap64 (a + b))
def subF (a b : Int) : AV := .i (wrap64 (a - b))
def mulF (a b : Int) : AV := .i (wrap64 (a * b))
def ltF (a b : Int) : AV := .b (decide (a < b))
def leF (a b : Int) : AV := .b (decide (a ≤ b))
def gtF (a b : Int) : AV := .b (decide (b < a))
def geF (a b : Int) : AV := .b (decide (b ≤ a))
def iInt (f : Int → Int → AV) (op : BinOp) (t : TypeId) (x y : Od) : Ins := fun _ fr σ k =>
  intK (x fr) (y fr) f (binP P op t (x fr) (y fr)) σ k
def iCmp (f : Int → Int → AV) (op : BinOp) (t : TypeId) (x y : Od) : Ins := fun _ fr σ k =>
  cmpK (x fr) (y fr) f (binP P op t (x fr) (y fr)) σ k
def strCatK (a b : AV) (other : Option AV) (σ : St) (k : Kont) : O := match a, b with
  | .s x, .s y => ite2 (Nat.blt (x.length + y.length) 9223372036854775808) (k (.s (x ++ y)) σ) .no
  | _, _ => optV other σ k
def iCat (t : TypeId) (x y : Od) : Ins := fun _ fr σ k =>
  strCatK (x fr) (y fr) (binP P .add t (x fr) (y fr)) σ k
def eqG (neg : Bool) (t : TypeId) (a b : AV) (σ : St) (k : Kont) : O := match aeq P 60 t a b with
  | some r => k (.b (xor neg r)) σ
  | none => .no
def eqK (neg : Bool) (t : TypeId) (a b : AV) (σ : St) (k : Kont) : O :=
  onI a (fun x => onI b (fun y => k (.b (xor neg (Int.beq' x y))) σ) (eqG P neg t a b σ k))
    (onK a (fun ka x => onK b (fun kb y => ite2 (Nat.beq (kN ka) (kN kb)) (k (.b (xor neg (Int.beq' x y))) σ) (eqG P neg t a b σ k)) (eqG P neg t a b σ k))
      (onS a (fun x => onS b (fun y => k (.b (xor neg (sEq x y))) σ) (eqG P neg t a b σ k)) (eqG P neg t a b σ k)))
def iEq (neg : Bool) (t : TypeId) (x y : Od) : Ins := fun _ fr σ k => eqK P neg t (x fr) (y fr) σ k

def pure1 (f : Value → Sem Value) (a : AV) : Option AV := match toV a with
  | some v => match pureRun P (f v) with
    | some r => ofR r
    | none => none
  | none => none
def pure2 (f : Value → Value → Sem Value) (a b : AV) : Option AV := match toV a, toV b with
  | some v, some u => match pureRun P (f v u) with
    | some r => ofR r
    | none => none
  | _, _ => none
def iPure1 (f : Value → Sem Value) (x : Od) : Ins := fun _ fr σ k => optV (pure1 P f (x fr)) σ k
def iPure2 (f : Value → Value → Sem Value) (x y : Od) : Ins := fun _ fr σ k => optV (pure2 P f (x fr) (y fr)) σ k
def notK (v : AV) (σ : St) (k : Kont) : O := match v with
  | .b t => k (.b (!t)) σ
  | _ => .no
def iNot (x : Od) : Ins := fun _ fr σ k => notK (x fr) σ k

def natI (n : Int) : Option Nat := Int.rec (fun m => some m) (fun _ => none) n
def asNat (v : AV) : Option Nat := onIN v natI (onKN v (fun _ => natI) none)

def idxStrK (a : AV) (j : Option Nat) (σ : St) (k : Kont) : O := onS a (fun l => optK j fun n => optK (headO (dropN n l)) fun c => k (.k .u8 (.ofNat c)) σ) .no
def iIdxStr (x y : Od) : Ins := fun _ fr σ k => idxStrK (x fr) (asNat (y fr)) σ k

def idxK (a : AV) (n : Nat) (sz : Nat) (σ : St) (k : Kont) : O := onSl a (fun b off len _ _ => ite2 (Nat.blt n len) (k (.ptr b (off + n * sz)) σ) .no) .no
def idxAK (a : AV) (n : Nat) (sz len : Nat) (σ : St) (k : Kont) : O := onPtr a (fun b off => ite2 (Nat.blt n len) (k (.ptr b (off + n * sz)) σ) .no) .no
def iIdx (sz : Nat) (x y : Od) : Ins := fun _ fr σ k => optK (asNat (y fr)) fun n => idxK (x fr) n sz σ k
def iIdxA (sz len : Nat) (x y : Od) : Ins := fun _ fr σ k => optK (asNat (y fr)) fun n => idxAK (x fr) n sz len σ k

def bytesOf : List AV → Option (List Nat)
  | [] => some []
  | .k .u8 (.ofNat n) :: r => match bytesOf r with
    | some l => match Nat.blt n 256 with
      | true => some (n :: l)
      | false => none
    | none => none
  | _ => none
def byteA (n : Nat) : AV := .k .u8 (.ofNat n)
def toBytesK (v : AV) (σ : St) (k : Kont) : O := match v with
  | .s l => σ.new (.row l.length (l.map byteA) none 0) (fun b => .sl b 0 l.length l.length 1) k
  | _ => .no
def iToBytes (x : Od) : Ins := fun _ fr σ k => toBytesK (x fr) σ k
def ofBytesK (v : AV) (σ : St) (k : Kont) : O := match v with
  | .sl b off len _ _ => rdB (σ.getB b) off len (fun l => optK (bytesOf l) fun bs => k (.s bs) σ) .no
  | .sc (.slice none _ _) => k (.s []) σ
  | _ => .no
def iOfBytes (x : Od) : Ins := fun _ fr σ k => ofBytesK (x fr) σ k

/-- of slices: the elements' cells and number -/
def elemsK (σ : St) (esz : Nat) (v : AV) (k : Nat → List AV → O) : O := match v with
  | .sc (.slice none 0 0) => k 0 []
  | .sl b off len _ _ => rdB (σ.getB b) off (len * esz) (fun l => k len l) .no
  | .s l => ite2 (Nat.beq esz 1) (k l.length (l.map byteA)) .no
  | _ => .no

/-- the block b as a member of a family: its family, its place in it, the state -/
def enfam (σ : St) (b : Id) (m : Nat) (cs : List AV) (fam : Option Id) (fo : Nat) (k : Id → Nat → St → O) : O :=
  Option.rec (k b 0 ⟨H.set σ.h b (.row m cs (some b) 0), σ.next, H.set σ.fams b ((b, 0, m) :: H.get σ.fams b)⟩) (fun f => k f fo σ) fam
def growN (off len esz n : Nat) (old new : List AV) (k : Kont) (f : Id) (fo : Nat) (i : Id) (σ2 : St) : O :=
  k (.sl i 0 (len + n) (len + n) esz) ⟨H.set σ2.h i (.row ((len + n) * esz) (old ++ new) (some f) (fo + off)), inc i, H.set σ2.fams f ((i, fo + off, (len + n) * esz) :: H.get σ2.fams f)⟩
def growK (off len esz n : Nat) (old new : List AV) (k : Kont) (f : Id) (fo : Nat) (σ1 : St) : O :=
  Option.rec .no (fun i => growN off len esz n old new k f fo i (σ1.killF i (fo + off + len * esz) (n * esz) f)) σ1.next
def growB (σ : St) (b : Id) (off len esz n : Nat) (new : List AV) (B : Blk) (k : Kont) : O :=
  Blk.rec .no (fun m cs fam fo => rdRow m cs off (len * esz) (fun old => enfam σ b m cs fam fo (growK off len esz n old new k)) .no) (fun _ => .no) B
def grow (σ : St) (b : Id) (off len esz n : Nat) (new : List AV) (k : Kont) : O := growB σ b off len esz n new (σ.getB b) k

def room (by_ need : Nat) : Bool := Nat.ble ((2 * need + 768) * by_) 281474976710656 && Nat.ble need 1000000000000
def appendK (σ : St) (esz by_ : Nat) (s : AV) (n : Nat) (new : List AV) (k : Kont) : O := match s with
  | .sc (.slice none 0 0) => ite2 (Nat.beq n 0) (k s σ) (ite2 (room by_ n) (σ.new (.row (n * esz) new none 0) (fun b => .sl b 0 n n esz) k) .no)
  | .sl b off len cap e => ite2 (Nat.beq n 0) (k s σ) (ite2 (Nat.beq e esz)
     (ite2 (Nat.ble (len + n) cap) (σ.wr b (off + len * esz) (n * esz) new fun σ' => k (.sl b off (len + n) cap e) σ') (ite2 (room by_ (len + n)) (grow σ b off len esz n new k) .no)) .no)
  | _ => .no
def iAppend (esz by_ : Nat) (s x : Od) : Ins := fun _ fr σ k => elemsK σ esz (x fr) fun n new => appendK σ esz by_ (s fr) n new k

def optNat (d : Nat) (x : Option AV) : Option Nat := match x with
  | none => some d
  | some v => asNat v
def sliceK2 (esz : Nat) (x : AV) (lo hi : Option AV) (σ : St) (k : Kont) : O := match x with
  | .sl b off len cap e => ite2 (Nat.beq esz e) (optK (optNat 0 lo) fun l => optK (optNat len hi) fun h => ite2 (Nat.ble l h && Nat.ble h cap)
      (k (.sl b (off + l * esz) (h - l) (cap - l) e) σ) .no) .no
  | .sc (.slice none 0 0) => optK (optNat 0 lo) fun l => optK (optNat 0 hi) fun h => ite2 (Nat.beq l 0 && Nat.beq h 0) (k (.sc (.slice none 0 0)) σ) .no
  | _ => .no
def atO (o : Option Od) (fr : FT) : Option AV := match o with
  | some o => some (o fr)
  | none => none
def iSlice (esz : Nat) (x : Od) (lo hi : Option Od) : Ins := fun _ fr σ k => sliceK2 esz (x fr) (atO lo fr) (atO hi fr) σ k
def substrK (x : AV) (lo hi : Option AV) (σ : St) (k : Kont) : O := match x with
  | .s c => optK (optNat 0 lo) fun l => optK (optNat c.length hi) fun h => ite2 (Nat.ble l h && Nat.ble h c.length) (k (.s ((dropN l c).take (h - l))) σ) .no
  | _ => .no
def iSubstr (x : Od) (lo hi : Option Od) : Ins := fun _ fr σ k => substrK (x fr) (atO lo fr) (atO hi fr) σ k

def followA : List FieldStep → TypeId → AV → Option (TypeId × AV)
  | [], t, v => some (t, v)
  | s :: r, _, v => match s.deref, fieldOf P s.struct s.index, v with
    | false, some (t, o), .agg _ cs => match part P t cs o with
      | some x => followA r t x
      | none => none
    | _, _, _ => none
def methodA (t : TypeId) (v : AV) (name : String) : Option (FuncId × AV) :=
  match P.info? t with
  | some i => match i.methods.find? (·.name == name) with
    | some m => match followA P m.path.toList t v, m.func with
      | some (xt, x), some (f, ptr) => match P.underlying xt, ptr with
        | some (.pointer _), true => some (f, x)
        | some (.pointer _), false => none
        | some _, false => some (f, x)
        | _, _ => none
      | _, _ => none
    | none => none
  | none => none

def nilCheckG (v : AV) (σ : St) (k : Kont) : O := match v with
  | .ptr b o => k (.ptr b o) σ
  | .fn (.func f) a c => k (.fn (.func f) a c) σ
  | .fn (.method name) [.ifc t v] c => match methodA P t v name with
      | some _ => k (.fn (.method name) [.ifc t v] c) σ
      | none => .no
  | _ => .no
def nilCheckK (v : AV) (σ : St) (k : Kont) : O := onPtr v (fun b o => k (.ptr b o) σ) (nilCheckG P v σ k)
def iNilCheck (x : Od) : Ins := fun _ fr σ k => nilCheckK P (x fr) σ k
def iIfc (t : TypeId) (x : Od) : Ins := fun _ fr σ k => k (.ifc t (x fr)) σ
def evs (fr : FT) (l : List Od) : List AV := l.map fun x => x fr
def iFn (f : Fn) (first caps : List Od) : Ins := fun _ fr σ k => k (.fn f (evs fr first) (evs fr caps)) σ
def iMap : Ins := fun _ _ σ k => σ.new (.map []) .mp k
def rep (z : List AV) : Nat → List AV
  | 0 => []
  | n + 1 => z ++ rep z n
def makeK (esz bytes : Nat) (z : List AV) (l c : Nat) (σ : St) (k : Kont) : O :=
  ite2 (Nat.ble l c && (Nat.ble c 1000000 && Nat.ble (c * bytes) 1000000)) (σ.new (.row (c * esz) (rep z c) none 0) (fun b => .sl b 0 l c esz) k) .no
def iMake (esz bytes : Nat) (z : List AV) (l c : Od) : Ins := fun _ fr σ k => optK (asNat (l fr)) fun l => optK (asNat (c fr)) fun c => makeK esz bytes z l c σ k
def fieldK (t : TypeId) (o : Nat) (v : AV) (σ : St) (k : Kont) : O := onAgg v (fun _ cs => optK (part P t cs o) fun x => k x σ) .no
def iField (t : TypeId) (o : Nat) (x : Od) : Ins := fun _ fr σ k => fieldK P t o (x fr) σ k

def keyEq1 : AV → AV → Option Bool
  | .i a, .i b => some (Int.beq' a b)
  | .k kd a, .k kd' b => if kd = kd' then some (Int.beq' a b) else none
  | .s a, .s b => some (sEq a b)
  | .b a, .b b => some (a == b)
  | _, _ => none
def keyEqs : List AV → List AV → Option Bool
  | [], [] => some true
  | a :: r, b :: s => match keyEq1 a b with
    | some true => keyEqs r s
    | x => x
  | _, _ => none
def keyEq : AV → AV → Option Bool
  | .s a, .s b => some (sEq a b)
  | .agg _ a, .agg _ b => keyEqs a b
  | a, b => keyEq1 a b
def findE (k : AV) : List (AV × AV) → Option (Option AV)
  | [] => some none
  | (k', v) :: r => match keyEq k k' with
    | some true => some (some v)
    | some false => findE k r
    | none => none
def setE (k : AV) (v : AV) : List (AV × AV) → Option (List (AV × AV))
  | [] => some [(k, v)]
  | (k', v') :: r => match keyEq k k' with
    | some true => some ((k, v) :: r)
    | some false => match setE k v r with
      | some l => some ((k', v') :: l)
      | none => none
    | none => none
/-- the kinds of keys -/
inductive KK where
  | int | str | bool
  | strct (l : List KK)
def kk1 (t : TypeId) : Option KK := match P.underlying t with
  | some (.int _) => some .int
  | some .string => some .str
  | some .bool => some .bool
  | _ => none
def kkFields : Nat → List Field → Option (List KK)
  | _, [] => some []
  | i, f :: fs => match kk1 P f.type, Nat.beq f.offset i && !(f.name == "_"), kkFields (i + 1) fs with
    | some k, true, some l => some (k :: l)
    | _, _, _ => none
def keyKind (t : TypeId) : Option KK := match P.underlying t with
  | some (.struct fs) => match P.stoodInHeld t with
    | true => none
    | false => (kkFields P 0 fs.toList).map .strct
  | _ => kk1 P t
def fits1 (k : KK) (a : AV) : Bool := match k, a with
  | .int, .i _ => true
  | .int, .k _ _ => true
  | .str, .s _ => true
  | .bool, .b _ => true
  | _, _ => false
def fitsL : List KK → List AV → Bool
  | [], [] => true
  | k :: l, a :: r => fits1 k a && fitsL l r
  | _, _ => false
def fits (k : KK) (a : AV) : Bool := match k, a with
  | .strct l, .agg _ cs => fitsL l cs
  | k, a => fits1 k a
def mapAt (σ : St) (m : AV) : Option (List (AV × AV)) := match m with
  | .mp b => match σ.getB b with
    | .map es => some es
    | _ => none
  | .sc (.map none) => some []
  | _ => none
def lookRes (ok : Bool) (z : AV) (r : Option AV) (σ : St) (k : Kont) : O := match r with
  | some v => k (match ok with | true => .tup [v, .b true] | false => v) σ
  | none => k (match ok with | true => .tup [z, .b false] | false => z) σ
def iLookup (kk : KK) (ok : Bool) (z : AV) (m key : Od) : Ins := fun _ fr σ k => ite2 (fits kk (key fr)) (optK (mapAt σ (m fr)) fun es => optK (findE (key fr) es) fun r => lookRes ok z r σ k) .no
def mapSetK (σ : St) (m key v : AV) (k : Kont) : O := match m with
  | .mp b => match σ.getB b with
    | .map es => optK (setE key v es) fun es' => k undefA (σ.setB b (.map es'))
    | _ => .no
  | _ => .no
def iMapSet (kk : KK) (m key v : Od) : Ins := fun _ fr σ k => ite2 (fits kk (key fr)) (mapSetK σ (m fr) (key fr) (v fr) k) .no

def assertK (x : AV) (asserted : TypeId) (ok : Bool) (σ : St) (k : Kont) : O := match P.underlying asserted, x with
  | some (.interface want), .ifc t v => match P.info? t with
    | some i => match Instr.missingMethod want i.methods with
      | none => k (if ok then .tup [.ifc t v, .b true] else .ifc t v) σ
      | some _ => .no
    | none => .no
  | some (.interface _), _ => .no
  | some _, .ifc t v => match Nat.beq t asserted with
    | true => k (if ok then .tup [v, .b true] else v) σ
    | false => .no
  | _, _ => .no
def iAssert (x : Od) (asserted : TypeId) (ok : Bool) : Ins := fun _ fr σ k => assertK P (x fr) asserted ok σ k
def extractK (n : Nat) (v : AV) (σ : St) (k : Kont) : O := onTup v (fun vs => optK (headO (dropN n vs)) fun x => k x σ) .no
def iExtract (n : Nat) (x : Od) : Ins := fun _ fr σ k => extractK n (x fr) σ k
def lenSK (v : AV) (σ : St) (k : Kont) : O := onS v (fun l => k (.i (.ofNat l.length)) σ) .no
def lenLG (v : AV) (σ : St) (k : Kont) : O := match v with
  | .sc (.slice _ n _) => k (.i (.ofNat n)) σ
  | _ => .no
def lenLK (v : AV) (σ : St) (k : Kont) : O := onSl v (fun _ _ n _ _ => k (.i (.ofNat n)) σ) (lenLG v σ k)
def lenMK (v : AV) (σ : St) (k : Kont) : O := match v with
  | .mp b => match σ.getB b with
    | .map es => k (.i (.ofNat es.length)) σ
    | _ => .no
  | .sc (.map none) => k (.i 0) σ
  | _ => .no
def iLenS (x : Od) : Ins := fun _ fr σ k => lenSK (x fr) σ k
def iLenL (x : Od) : Ins := fun _ fr σ k => lenLK (x fr) σ k
def iLenM (x : Od) : Ins := fun _ fr σ k => lenMK (x fr) σ k

def bR (r : R) (k : Kont) : O := R.rec k .no r
def iCall (f : FuncId) (args : List Od) : Ins := fun call fr σ k => bR (call f (evs fr args) σ) k
def calleeK (call : Call) (f : AV) (args : List AV) (σ : St) (k : Kont) : O := match f with
  | .fn (.func f) first caps => bR (call f (first ++ (args ++ caps)) σ) k
  | .fn (.method name) (.ifc t v :: first) _ => match methodA P t v name with
      | some (f, x) => bR (call f (x :: (first ++ args)) σ) k
      | none => .no
  | _ => .no
def iCallV (f : Od) (args : List Od) : Ins := fun call fr σ k => calleeK P call (f fr) (evs fr args) σ k
def invokeK (call : Call) (name : String) (r : AV) (args : List AV) (σ : St) (k : Kont) : O := match r with
  | .ifc t v => match methodA P t v name with
    | some (f, x) => bR (call f (x :: args) σ) k
    | none => .no
  | _ => .no
def iInvoke (name : String) (r : Od) (args : List Od) : Ins := fun call fr σ k => invokeK P call name (r fr) (evs fr args) σ k

/-! code -/
inductive Ops where
  | nil
  | u (f : Ins) (r : AV → Ops)
  | g (f : Ins) (p q : D8) (r : Ops)
  | x (f : Ins) (r : Ops)
  | cu (c : Od) (want : Bool) (f : Ins) (r : AV → Ops)
  | cg (c : Od) (want : Bool) (f : Ins) (p q : D8) (r : Ops)
  | cx (c : Od) (want : Bool) (f : Ins) (r : Ops)
  | d (f : Od) (r : Ops)

inductive CC where
  | skip
  | reg (o : Ops)
  | seq (a b : CC)
  | cond (c : Od) (a b : CC)
  | block (id : Nat) (b : CC)
  | loop (b : CC)
  | exit (id : Nat)
  | ret
  | bad

def isB (v : AV) (want : Bool) (a b : O) : O := onB v (fun t => ite2 t (ite2 want a b) (ite2 want b a)) (onTup v (fun _ => b) .no)
def pushD (f : AV) (fr : FT) : FT := FT.rec (fun d s => ⟨f :: d, s⟩) fr
def isFn (v : AV) (a : O) : O := match v with
  | .fn (.func _) _ _ => a
  | _ => .no
def execR (o : Ops) : Call → FT → St → O :=
  Ops.rec (motive := fun _ => Call → FT → St → O) (fun _ fr σ => .nrm fr σ)
    (fun f _ ih call fr σ => f call fr σ fun v σ' => ih v call fr σ')
    (fun f p q _ ih call fr σ => f call fr σ fun v σ' => ih call (FT.set fr p q v) σ')
    (fun f _ ih call fr σ => f call fr σ fun _ σ' => ih call fr σ')
    (fun c w f _ ih call fr σ => isB (c fr) w (f call fr σ fun v σ' => ih v call fr σ') (ih undefA call fr σ))
    (fun c w f p q _ ih call fr σ => isB (c fr) w (f call fr σ fun v σ' => ih call (FT.set fr p q v) σ') (ih call (FT.set fr p q undefA) σ))
    (fun c w f _ ih call fr σ => isB (c fr) w (f call fr σ fun _ σ' => ih call fr σ') (ih call fr σ))
    (fun f _ ih call fr σ => isFn (f fr) (ih call (pushD (f fr) fr) σ)) o
def exec (call : Call) (o : Ops) : FT → St → O := execR o call

def seqO (x : O) (k : FT → St → O) : O := O.rec k (fun id fr σ => .ex id fr σ) (fun fr σ => .ret fr σ) .no x
def blockO (id : Nat) (x : O) : O := O.rec (fun fr σ => .nrm fr σ) (fun j fr σ => ite2 (Nat.beq j id) (.nrm fr σ) (.ex j fr σ)) (fun fr σ => .ret fr σ) .no x
def condO (v : AV) (a b : O) : O := onB v (fun t => ite2 t a b) .no
def iterS (body : FT → St → O) (_ : Nat) (ih : FT → St → O) (fr : FT) (σ : St) : O := seqO (body fr σ) ih
def iter (body : FT → St → O) (n : Nat) : FT → St → O := Nat.rec (motive := fun _ => FT → St → O) (fun _ _ => .no) (iterS body) n

def evR (c : CC) : Nat → Call → FT → St → O :=
  CC.rec (motive := fun _ => Nat → Call → FT → St → O) (fun _ _ fr σ => .nrm fr σ)
    (fun o _ call fr σ => execR o call fr σ)
    (fun _ _ iha ihb N call fr σ => seqO (iha N call fr σ) (ihb N call))
    (fun c _ _ iha ihb N call fr σ => condO (c fr) (iha N call fr σ) (ihb N call fr σ))
    (fun id _ ih N call fr σ => blockO id (ih N call fr σ))
    (fun _ ih N call fr σ => iter (ih N call) N fr σ)
    (fun id _ _ fr σ => .ex id fr σ)
    (fun _ _ fr σ => .ret fr σ)
    (fun _ _ _ _ => .no) c
def evCC (N : Nat) (call : Call) (c : CC) : FT → St → O := evR c N call

inductive Res where
  | t (x : Od)
  | c1 (x : Od)
  | cN (n : Nat) (x : Od)

structure CFn where
  code : CC
  params : List (D8 × D8)
  res : List Res

def ptrR (v : AV) (k : Id → Nat → R) : R := match v with
  | .ptr b o => k b o
  | _ => .no
def resK (σ : St) (fr : FT) (r : Res) (k : AV → R) : R :=
  Res.rec (fun x => k (x fr)) (fun x => ptrR (x fr) fun b o => rd1B (σ.getB b) o k .no) (fun n x => ptrR (x fr) fun b o => rdB (σ.getB b) o n (fun l => k (.agg n l)) .no) r
def res1 (l : List AV) : AV := match l with
  | [v] => v
  | l => .tup l
def resA (σ : St) (fr : FT) (l : List Res) : (List AV → R) → R :=
  List.rec (motive := fun _ => (List AV → R) → R) (fun k => k []) (fun r _ ih k => resK σ fr r fun v => ih fun vs => k (v :: vs)) l

structure Cfg where
  known : FuncId → List AV → Option AV
  idle : List FuncId

variable (C : Cfg)
def idleAll : List AV → Bool
  | [] => true
  | .fn (.func f) _ _ :: r => C.idle.contains f && idleAll r
  | _ => false
def leave (cf : CFn) (fr : FT) (σ : St) : R := ite2 (idleAll C fr.d) (resA σ fr cf.res fun l => .ok (res1 l) σ) .no
def outR (cf : CFn) (x : O) : R := O.rec (fun fr σ => leave C cf fr σ) (fun _ _ _ => .no) (fun fr σ => leave C cf fr σ) .no x
def args0 (ps : List (D8 × D8)) : List AV → FT → FT :=
  List.rec (motive := fun _ => List AV → FT → FT) (fun _ t => t) (fun p _ ih l t => List.rec t (fun v r _ => ih r (FT.set t p.1 p.2 v)) l) ps
def enter (N : Nat) (cf : CFn) (call : Call) (args : List AV) (σ : St) : R :=
  outR C cf (evCC N call cf.code (args0 cf.params args FT.empty) σ)
def callS (N : Nat) (tab : Nat → Option CFn) (_ : Nat) (ih : Call) (f : Nat) (args : List AV) (σ : St) : R :=
  Option.rec (optR (tab f) fun cf => enter C N cf ih args σ) (fun v => .ok v σ) (C.known f args)
def callN (N : Nat) (tab : Nat → Option CFn) (n : Nat) : Call := Nat.rec (motive := fun _ => Call) (fun _ _ _ => .no) (callS C N tab) n

/-! the compiler -/
def tmpMask : Operand → Nat
  | .tmp t => 2 ^ t
  | _ => 0
def opMask (o : Oper) : Nat := (o.op.operands.toList.foldl (fun m x => m ||| tmpMask x) 0) ||| (match o.dst with | some d => 2 ^ d | none => 0)
def regMask (ops : List Oper) : Nat := ops.foldl (fun m o => m ||| opMask o) 0
/-- (seen, global): temporaries seen so far; those that stand in two places -/
def maskC : Code → Nat × Nat → Nat × Nat
  | .region _ ops _, (s, g) => match regMask ops.toList with
    | m => (s ||| m, g ||| (s &&& m))
  | .seq a b, x => maskC b (maskC a x)
  | .cond c a b, (s, g) => maskC b (maskC a (s, g ||| tmpMask c))
  | .block _ b, x => maskC b x
  | .loop b, x => maskC b x
  | .scope b, x => maskC b x
  | _, x => x
def resMask : ResultVar → Nat
  | .tmp t => 2 ^ t
  | .cell t _ => 2 ^ t
def bitsOf (m : Nat) : Nat → Nat → List Nat
  | 0, _ => []
  | f + 1, t => match Nat.testBit m t with
    | true => t :: bitsOf m f (t + 1)
    | false => bitsOf m f (t + 1)
def globals (fn : Func) (c : Code) : List Nat :=
  bitsOf ((maskC c (0, 0)).2 ||| (2 ^ fn.params.size - 1) ||| (2 ^ (fn.params.size + fn.nfree) - 1) ||| fn.results.toList.foldl (fun m r => m ||| resMask r) 0) fn.ntmps 0

/-- the place of a function's variable -/
def d8 : Nat → Option D8
  | 0 => some .d0 | 1 => some .d1 | 2 => some .d2 | 3 => some .d3 | 4 => some .d4 | 5 => some .d5 | 6 => some .d6 | 7 => some .d7 | _ => none
def slot (k : Nat) : Option (D8 × D8) := match d8 (k / 8), d8 (k % 8) with
  | some x, some y => some (x, y)
  | _, _ => none
def idx (t : Nat) : List Nat → Nat → Option Nat
  | [], _ => none
  | x :: r, k => match Nat.beq x t with
    | true => some k
    | false => idx t r (k + 1)

/-- what stands for a temporary within its region: a value, or a variable's place -/
inductive L where
  | val (v : AV)
  | var (x y : D8)
def L.od : L → Od
  | .val v => odV v
  | .var x y => odF x y
def loc? (t : Nat) : List (Nat × L) → Option L
  | [] => none
  | (x, v) :: r => match Nat.beq x t with
    | true => some v
    | false => loc? t r
def slotOf (gs : List Nat) (t : Nat) : Option (D8 × D8) := match idx t gs 0 with
  | some k => slot k
  | none => none
def codL (gs : List Nat) (loc : List (Nat × L)) : Operand → Option L
  | .tmp t => match loc? t loc with
    | some l => some l
    | none => match slotOf gs t with
      | some (x, y) => some (.var x y)
      | none => none
  | .const v => (ofR v).map .val
  | .global _ => none
  | .func f => some (.val (.fn (.func f) [] []))
def cod (gs : List Nat) (loc : List (Nat × L)) (x : Operand) : Option Od := (codL gs loc x).map L.od
/-- those that do not stand for a variable's place -/
def drops (x y : D8) : List (Nat × L) → List (Nat × L)
  | [] => []
  | (t, .val v) :: r => (t, .val v) :: drops x y r
  | (t, .var a b) :: r => match D8.beq a x && D8.beq b y with
    | true => drops x y r
    | false => (t, .var a b) :: drops x y r

def mapO {α β : Type} (f : α → Option β) : List α → Option (List β)
  | [] => some []
  | x :: r => match f x, mapO f r with
    | some y, some l => some (y :: l)
    | _, _ => none

def o2 {α : Type} (x y : Option Od) (k : Od → Od → Option α) : Option α := match x, y with
  | some a, some b => k a b
  | _, _ => none

def placesS (fs : Array Field) (od : Operand → Option Od) : List (Nat × Operand) → Option (List (Nat × Nat × Od))
  | [] => some []
  | (i, x) :: r => match fs[i]?, od x, placesS fs od r with
    | some f, some y, some l => match size P f.type with
      | some n => some ((f.offset, n, y) :: l)
      | none => none
    | _, _, _ => none
def placesA (sz : Nat) (od : Operand → Option Od) : List (Nat × Operand) → Option (List (Nat × Nat × Od))
  | [] => some []
  | (i, x) :: r => match od x, placesA sz od r with
    | some y, some l => some ((i * sz, sz, y) :: l)
    | _, _ => none

def inAll (n : Nat) : List (Nat × Nat × Od) → Bool
  | [] => true
  | (o, s, _) :: r => Nat.ble (o + s) n && inAll n r
/-- the zero cells of a row -/
def zeros (e : TypeId) (sz len : Nat) : Option (List AV) := match Nat.beq (len * sz) 0 with
  | true => some []
  | false => match zero P e with
    | some z => match Nat.beq z.length sz with
      | true => some (rep z len)
      | false => none
    | none => none

def optOd (od : Operand → Option Od) : Option Operand → Option (Option Od)
  | none => some none
  | some x => match od x with
    | some y => some (some y)
    | none => none

/-- may two values of a type be held against one another? -/
def eqOk (t : TypeId) : Bool := match P.underlying t with
  | some (.struct _) => !(P.eqGuardType P.depth t)
  | some (.array _ _) => false
  | some _ => true
  | none => false
def cmpBin (op : BinOp) (t : TypeId) (a b : Od) : Option Ins := match op, P.underlying t with
  | .eql, _ => match eqOk P t with
    | true => some (iEq P false t a b)
    | false => none
  | .neq, _ => match eqOk P t with
    | true => some (iEq P true t a b)
    | false => none
  | .add, some .string => some (iCat P t a b)
  | .add, _ => some (iInt P addF .add t a b)
  | .sub, _ => some (iInt P subF .sub t a b)
  | .mul, _ => some (iInt P mulF .mul t a b)
  | .lss, _ => some (iCmp P ltF .lss t a b)
  | .leq, _ => some (iCmp P leF .leq t a b)
  | .gtr, _ => some (iCmp P gtF .gtr t a b)
  | .geq, _ => some (iCmp P geF .geq t a b)
  | op, _ => some (iBin P op t a b)

def cmpConv (s d : TypeId) (x : Od) : Option Ins := match P.underlying s, P.underlying d with
  | some .string, some (.slice e) => match P.underlying e with
    | some (.int .u8) => some (iToBytes x)
    | _ => none
  | some (.slice e), some .string => match P.underlying e with
    | some (.int .u8) => some (iOfBytes x)
    | _ => none
  | some _, some _ => some (iPure1 P (Go.convert s d) x)
  | _, _ => none

def cmpOp (od : Operand → Option Od) (o : Oper) : Option Ins :=
  match o.op with
  | .move x | .assign x => (od x).map iMove
  | .pick c a b => match od c with
    | some c => o2 (od a) (od b) fun a b => some (iPick c a b)
    | none => none
  | .alloc t => (zeroV P t).map fun z => iNew (numOf z) (cellsOf z)
  | .box _ x => (od x).map iBox
  | .build t ps => match zero P t, P.underlying t with
    | some z, some (.struct fs) => match fs.toList.all (fun f => (size P f.type).isSome), placesS P fs od ps.toList with
      | true, some l => match inAll z.length l with
        | true => some (iBuild z.length z l)
        | false => none
      | _, _ => none
    | some z, some (.array _ e) => match size P e with
      | some sz => match placesA sz od ps.toList with
        | some l => match inAll z.length l with
          | true => some (iBuild z.length z l)
          | false => none
        | none => none
      | none => none
    | _, _ => none
  | .buildSlice t len ps => match sliceElem P t with
    | some (e, sz) => match zeros P e sz len, Nat.ble (len * sz) 16777216, placesA sz od ps.toList with
      | some z, true, some l => match inAll (len * sz) l with
        | true => some (iBuildSlice z len sz l)
        | false => none
      | _, _, _ => none
    | none => none
  | .load t a => match aggT P t, size P t with
    | some true, some n => (od a).map (iLoadN n)
    | some false, _ => (od a).map iLoad1
    | _, _ => none
  | .store t a x => match size P t with
    | some n => o2 (od a) (od x) fun a x => some (iStore n a x)
    | none => none
  | .nilCheck x => (od x).map (iNilCheck P)
  | .binOp op t x y _ => o2 (od x) (od y) fun a b => cmpBin P op t a b
  | .unOp op _ x => match op with
    | .not => (od x).map iNot
    | _ => (od x).map (iPure1 P (Op.unary op))
  | .convert s d x => match od x with
    | some x => cmpConv P s d x
    | none => none
  | .makeInterface t x => match P.underlying t with
    | some (.interface _) => none
    | some _ => (od x).map (iIfc t)
    | none => none
  | .makeFunc f first caps => match mapO od first.toList, mapO od caps.toList with
    | some a, some b => some (iFn f a b)
    | _, _ => none
  | .makeMap _ none => some iMap
  | .makeSlice t l c => match sliceElem P t with
    | some (e, sz) => match zeroV P e, P.info? e with
      | some z, some i => match Nat.beq (numOf z) sz with
        | true => o2 (od l) (od c) fun l c => some (iMake sz i.bytes (cellsOf z) l c)
        | false => none
      | _, _ => none
    | none => none
  | .slice t x lo hi none => match P.underlying t, od x, optOd od lo, optOd od hi with
    | some .string, some x, some lo, some hi => some (iSubstr x lo hi)
    | some (.slice e), some x, some lo, some hi => match size P e with
      | some sz => some (iSlice sz x lo hi)
      | none => none
    | _, _, _, _ => none
  | .fieldAddr s x f => match fieldOff P s f with
    | some d => (od x).map (iFieldAddr d)
    | none => none
  | .field s x f => match fieldOf P s f with
    | some (t, o) => (od x).map (iField P t o)
    | none => none
  | .indexAddr t x i => match P.underlying t with
    | some (.slice e) => match size P e with
      | some sz => o2 (od x) (od i) fun x i => some (iIdx sz x i)
      | none => none
    | some (.array n e) => match size P e with
      | some sz => o2 (od x) (od i) fun x i => some (iIdxA sz n x i)
      | none => none
    | _ => none
  | .index t x i => match P.underlying t with
    | some .string => o2 (od x) (od i) fun x i => some (iIdxStr x i)
    | _ => none
  | .lookup t m k ok => match P.underlying t with
    | some (.map kt e) => match zeroV P e, keyKind P kt with
      | some z, some kk => o2 (od m) (od k) fun m k => some (iLookup kk ok z m k)
      | _, _ => none
    | _ => none
  | .mapUpdate t m k v | .insert t m k v => match P.underlying t, od v with
    | some (.map kt _), some v => match keyKind P kt with
      | some kk => o2 (od m) (od k) fun m k => some (iMapSet kk m k v)
      | none => none
    | _, _ => none
  | .typeAssert x _ a ok => (od x).map fun x => iAssert P x a ok
  | .extract x i => (od x).map (iExtract i)
  | .call c => match c.callee with
    | .value (.func f) => (mapO od c.args.toList).map (iCall f)
    | .value f => match od f with
      | some f => (mapO od c.args.toList).map (iCallV P f)
      | none => none
    | .invoke r name => match od r with
      | some r => (mapO od c.args.toList).map (iInvoke P name r)
      | none => none
    | .builtin b => match b, mapO od c.args.toList with
      | .len, some [x] => match c.argTypes[0]? with
        | some t => match P.underlying t with
          | some .string => some (iLenS x)
          | some (.slice _) => some (iLenL x)
          | some (.map _ _) => some (iLenM x)
          | _ => none
        | none => none
      | .append, some [s, x] => match c.argTypes.toList with
        | [t, tx] => match sliceElem P t, P.underlying tx with
          | _, some (.int _) => none
          | some (e, esz), some _ => match zeroV P e, P.info? e with
            | some z, some i => match Nat.beq (numOf z) esz with
              | true => some (iAppend esz i.bytes s x)
              | false => none
            | _, _ => none
          | _, _ => none
        | _ => none
      | .max, some [x, y] => some (iPure2 P (fun a b => Builtin.max_ c.argTypes o.type #[a, b]) x y)
      | .min, some [x, y] => some (iPure2 P (fun a b => Builtin.min_ c.argTypes o.type #[a, b]) x y)
      | _, _ => none
  | _ => none

def failI : Ins := fun _ _ _ _ => .no
def cmpI (od : Operand → Option Od) (o : Oper) : Ins := match cmpOp P od o with
  | some f => f
  | none => failI

/-- a temporary that is just what another operand is -/
def alias (gs : List Nat) (loc : List (Nat × L)) (o : Oper) (r : List Oper) : Option L := match o.op with
  | .move x => match codL gs loc x with
    | some (.val v) => some (.val v)
    | some (.var a b) => match r.all fun o' => match o'.dst with
        | some d => match slotOf gs d with
          | some (x, y) => !(D8.beq a x && D8.beq b y)
          | none => true
        | none => true with
      | true => some (.var a b)
      | false => none
    | none => none
  | _ => none
/-- may a temporary be set? -/
def okD (nt : Nat) (d : Nat) (loc : List (Nat × L)) : Bool := Nat.blt d nt && (loc? d loc).isNone
def cmpOps (gs : List Nat) (nt : Nat) (ops : Array Oper) : List Oper → List (Nat × L) → Ops
  | [], _ => .nil
  | o :: r, loc =>
    match o.op with
    | .defer c => match c.callee with
      | .value f => match cod gs loc f, o.dst, o.guard with
        | some f, none, none => .d f (cmpOps gs nt ops r loc)
        | _, _, _ => .x failI .nil
      | _ => .x failI .nil
    | _ => match o.guard, o.dst with
      | none, some d => match okD nt d loc with
        | false => .x failI .nil
        | true => match slotOf gs d with
          | some (x, y) => .g (cmpI P (cod gs loc) o) x y (cmpOps gs nt ops r (drops x y loc))
          | none => match alias gs loc o r with
            | some l => cmpOps gs nt ops r ((d, l) :: loc)
            | none => .u (cmpI P (cod gs loc) o) (fun v => cmpOps gs nt ops r ((d, .val v) :: loc))
      | none, none => .x (cmpI P (cod gs loc) o) (cmpOps gs nt ops r loc)
      | some (j, w), d => match (match (ops[j]?).bind (·.dst) with | some t => cod gs loc (.tmp t) | none => none) with
        | none => .x failI .nil
        | some c => match d with
          | some d => match okD nt d loc with
            | false => .x failI .nil
            | true => match slotOf gs d with
              | some (x, y) => .cg c w (cmpI P (cod gs loc) o) x y (cmpOps gs nt ops r (drops x y loc))
              | none => .cu c w (cmpI P (cod gs loc) o) (fun v => cmpOps gs nt ops r ((d, .val v) :: loc))
          | none => .cx c w (cmpI P (cod gs loc) o) (cmpOps gs nt ops r loc)

/-! regions whose order is open -/
def eqL (f : AV → AV → Bool) : List AV → List AV → Bool
  | [], [] => true
  | a :: r, b :: s => f a b && eqL f r s
  | _, _ => false
def eqSc : Value → Value → Bool
  | .pointer none, .pointer none => true
  | .slice none 0 0, .slice none 0 0 => true
  | .map none, .map none => true
  | .nilFunc, .nilFunc => true
  | .nilIface, .nilIface => true
  | _, _ => false
def eqFn : Fn → Fn → Bool
  | .func f, .func g => Nat.beq f g
  | .method f, .method g => f == g
  | _, _ => false
def eqInt (a b : Int) : Bool := Int.beq' a b
def eqKind (a b : IntKind) : Bool := decide (a = b)
def avEq : Nat → AV → AV → Bool
  | 0, _, _ => false
  | n + 1, x, y => match x, y with
    | .any, .any => true
    | .i a, .i b => eqInt a b
    | .k k a, .k k' b => eqKind k k' && eqInt a b
    | .b a, .b b => a == b
    | .s a, .s b => sEq a b
    | .sc a, .sc b => eqSc a b
    | .ptr a o, .ptr b o' => Id.beq a b && Nat.beq o o'
    | .sl a o l c e, .sl a' o' l' c' e' => (Id.beq a a' && (Nat.beq o o' && Nat.beq l l')) && (Nat.beq c c' && Nat.beq e e')
    | .mp a, .mp b => Id.beq a b
    | .fn f a c, .fn f' a' c' => eqFn f f' && (eqL (avEq n) a a' && eqL (avEq n) c c')
    | .ifc t v, .ifc t' v' => Nat.beq t t' && avEq n v v'
    | .agg m cs, .agg m' cs' => Nat.beq m m' && eqL (avEq n) cs cs'
    | .tup cs, .tup cs' => eqL (avEq n) cs cs'
    | _, _ => false

def K0 : Kont := fun v σ => .nrm ⟨[v], S8.all (S8.all .any)⟩ σ
def reL (l : List AV) (k : AV → O) : O := List.rec .no (fun v _ _ => k v) l
def reF (t : FT) (k : AV → O) : O := FT.rec (fun d _ => reL d k) t
def reK (x : O) (k : Kont) : O := O.rec (fun t σ => reF t fun v => k v σ) (fun _ _ _ => .no) (fun _ _ => .no) .no x
/-- under a guard -/
def iGd (c : Od) (want : Bool) (f : Ins) : Ins := fun call fr σ k => isB (c fr) want (f call fr σ k) (k undefA σ)
/-- a read; a read that comes to the same again; an effect -/
def iRd (f : Ins) : Ins := fun call fr σ k => reK (f call fr σ K0) fun v _ => k v σ
def iChk (f : Ins) (v : AV) : Ins := fun call fr σ k => reK (f call fr σ K0) fun v' _ => ite2 (avEq 20 v v') (k undefA σ) .no
def iEf (f : Ins) : Ins := fun call fr σ k => reK (f call fr σ K0) k
structure AlR where
  n : Nat
  cs : List AV
  to : Id → AV
abbrev Al := FT → Option AlR
def alK (x : Option AlR) (k : Nat → List AV → (Id → AV) → O) : O := match x with
  | some ⟨n, cs, mk⟩ => k n cs mk
  | none => .no
/-- a number is set aside for a block that comes, some time -/
def iRs (al : Al) : Ins := fun _ fr σ k => alK (al fr) fun _ _ mk => Option.rec .no (fun i => k (mk i) ⟨σ.h, inc i, σ.fams⟩) σ.next
def idOf : AV → Option Id
  | .ptr b _ => some b
  | .sl b _ _ _ _ => some b
  | _ => none
def deadK (B : Blk) (k : O) : O := match B with
  | .dead => k
  | _ => .no
/-- from here on the block is there -/
def iMt (al : Al) (v : AV) : Ins := fun _ fr σ k => alK (al fr) fun n cs _ => optK (idOf v) fun b => deadK (σ.getB b) (k undefA (σ.setB b (.row n cs none 0)))
def noHit (b : Id) (p n : Nat) : Fam → Bool
  | [] => true
  | (m, fo, sz) :: r => !(overlap p n fo sz && !(Id.beq m b)) && noHit b p n r
/-- would a store of n cells take no other block away? -/
def lone (σ : St) (b : Id) (o n : Nat) : Bool := match σ.getB b with
  | .row _ _ none _ => true
  | .row _ _ (some f) fo => noHit b (fo + o) n (H.get σ.fams f)
  | _ => false
/-- two stores that do not touch one another -/
def iPair (n1 : Nat) (d1 : Od) (n2 : Nat) (d2 : Od) : Ins := fun _ fr σ k => ptrK (d1 fr) fun b1 o1 => ptrK (d2 fr) fun b2 o2 =>
  ite2 (!(Id.beq b1 b2) && (lone σ b1 o1 n1 && lone σ b2 o2 n2)) (k undefA σ) .no
def chkL (call : Call) (fr : FT) (σ : St) (o : O) : List (Ins × AV) → O
  | [] => o
  | (f, v) :: r => iChk f v call fr σ fun _ _ => chkL call fr σ o r
/-- the other one first: do the reads come to the same then too? -/
def iSide (f : Ins) (l : List (Ins × AV)) : Ins := fun call fr σ k => reK (f call fr σ K0) fun _ σ2 => chkL call fr σ2 (k undefA σ) l

def dstAt (t : Nat) : List Oper → Nat → Option Nat
  | [], _ => none
  | o :: r, i => match o.dst with
    | some d => match Nat.beq d t with
      | true => some i
      | false => dstAt t r (i + 1)
    | none => dstAt t r (i + 1)
def vAt (i : Nat) : List (Nat × AV) → Option AV
  | [] => none
  | (k, v) :: r => match Nat.beq k i with
    | true => some v
    | false => vAt i r
def odS (gs : List Nat) (t : Nat) : Option Od := match slotOf gs t with
  | some (x, y) => some (odF x y)
  | none => none
/-- what stands for an operand of operation i; ms: what is ahead in whatever order -/
def odD (gs : List Nat) (ops : List Oper) (loc : List (Nat × AV)) (ms : List Nat) (i : Nat) : Operand → Option Od
  | .tmp t => match dstAt t ops 0 with
    | some k => match Nat.testBit (ms.getD i 0) k with
      | true => match vAt k loc with
        | some v => some (odV v)
        | none => none
      | false => match Nat.beq k i || Nat.testBit (ms.getD k 0) i with
        | true => odS gs t
        | false => none
    | none => odS gs t
  | .const v => (ofR v).map odV
  | .global _ => none
  | .func f => some (odV (.fn (.func f) [] []))
def nth (l : List Oper) (i : Nat) : Option Oper := headO (dropN i l)
/-- the instruction of an operation, its guard too -/
def insD (od : Operand → Option Od) (ops : List Oper) (o : Oper) : Ins := match o.guard with
  | none => cmpI P od o
  | some (j, w) => match nth ops j with
    | some g => match g.dst with
      | some t => match od (.tmp t) with
        | some c => iGd c w (cmpI P od o)
        | none => failI
      | none => failI
    | none => failI
def alNew (n : Nat) (cs : List AV) : Al := fun _ => some ⟨n, cs, fun b => .ptr b 0⟩
def alBox (d : Od) : Al := fun fr => match okCells (d fr) with
  | true => some ⟨numOf (d fr), cellsOf (d fr), fun b => .ptr b 0⟩
  | false => none
def alSl (z : List AV) (len sz : Nat) (l : List (Nat × Nat × Od)) : Al := fun fr => match fillA fr z l with
  | some cs => some ⟨len * sz, cs, fun b => .sl b 0 len len sz⟩
  | none => none
def alOf (od : Operand → Option Od) (o : Oper) : Option Al := match o.guard with
  | some _ => none
  | none => match o.op with
    | .alloc t => (zeroV P t).map fun z => alNew (numOf z) (cellsOf z)
    | .box _ x => (od x).map alBox
    | .buildSlice t len ps => match sliceElem P t with
      | some (e, sz) => match zeros P e sz len, Nat.ble (len * sz) 16777216, placesA sz od ps.toList with
        | some z, true, some l => match inAll (len * sz) l with
          | true => some (alSl z len sz l)
          | false => none
        | _, _, _ => none
      | none => none
    | _ => none

/-- one that is set aside: which operation, its block, its value -/
structure Sa where
  i : Nat
  al : Al
  v : AV
def saAt (i : Nat) : List Sa → Option Sa
  | [] => none
  | p :: r => match Nat.beq p.i i with
    | true => some p
    | false => saAt i r
def saDrop (i : Nat) : List Sa → List Sa
  | [] => []
  | p :: r => match Nat.beq p.i i with
    | true => r
    | false => p :: saDrop i r
/-- those set aside are there from here on -/
def matsD (k : List Sa → Ops) : List Nat → List Sa → Ops
  | [], A => k A
  | i :: r, A => match saAt i A with
    | some ⟨_, al, v⟩ => .x (iMt al v) (matsD k r (saDrop i A))
    | none => .x failI .nil
/-- all others wait for one that is not done -/
def blocked (D : List (Nat × AV)) (e : Nat) : List Oper → Nat → Bool
  | [], _ => true
  | o :: r, i => (Nat.beq i e || ((vAt i D).isSome || (waits o).any fun k => (vAt k D).isNone)) && blocked D e r (i + 1)
/-- are all that may still come read again? -/
def covers (S : Nat) (A : List Sa) (cs : List Nat) : List (Nat × AV) → Bool
  | [] => true
  | (i, _) :: r => (Nat.testBit S i || ((saAt i A).isSome || cs.any fun k => Nat.beq k i)) && covers S A cs r
def chksD (f : Nat → Option (Ins × AV)) (k : Ops) : List Nat → Ops
  | [] => k
  | i :: r => match f i with
    | some (f1, v) => .x (iChk f1 v) (chksD f k r)
    | none => .x failI .nil
def chkO (f : Nat → Option (Ins × AV)) : List Nat → Option (List (Ins × AV))
  | [] => some []
  | i :: r => match f i, chkO f r with
    | some x, some l => some (x :: l)
    | _, _ => none
def finD (gs : List Nat) (ops : List Oper) : List (Nat × AV) → Ops
  | [] => .nil
  | (i, v) :: r => match nth ops i with
    | some o => match o.dst with
      | some d => match slotOf gs d with
        | some (x, y) => .g (iMove (odV v)) x y (finD gs ops r)
        | none => finD gs ops r
      | none => finD gs ops r
    | none => finD gs ops r
def doneD (D : List (Nat × AV)) : List Oper → Nat → Bool
  | [], _ => true
  | _ :: r, i => (vAt i D).isSome && doneD D r (i + 1)
/-- the read i, to be looked at again -/
def rdAt (gs : List Nat) (ops : List Oper) (ms : List Nat) (loc : List (Nat × AV)) (i : Nat) : Option (Ins × AV) := match nth ops i, vAt i loc with
  | some o, some v => match isRd P o with
    | true => some (insD P (odD gs ops loc ms i) ops o, v)
    | false => none
  | _, _ => none
def insAt (gs : List Nat) (ops : List Oper) (ms : List Nat) (loc : List (Nat × AV)) (i : Nat) (o : Oper) : Ins := insD P (odD gs ops loc ms i) ops o
def ahead (m : Nat) : List Nat → Bool
  | [] => true
  | k :: r => Nat.testBit m k && ahead m r
def stOf (od : Operand → Option Od) (o : Oper) : Option (Nat × Od) := match isSt o, o.op with
  | true, .store t a _ => match size P t, od a with
    | some n, some d => some (n, d)
    | _, _ => none
  | _, _ => none
def sure (ms : List Nat) (S e : Nat) : Nat := (S ||| 2 ^ e) ||| ms.getD e 0
def bad : Ops := .x failI .nil
def cmpPl (gs : List Nat) (ops : List Oper) (ms : List Nat) : List Pl → List (Nat × AV) → Nat → List Sa → Ops
  | [], loc, _, A => match doneD loc ops 0 with
    | true => matsD (fun _ => finD gs ops loc) (A.map (·.i)) A
    | false => bad
  | .rd i :: r, loc, S, A => match nth ops i with
    | some o => match isRd P o && (vAt i loc).isNone with
      | true => .u (iRd (insAt P gs ops ms loc i o)) fun v => cmpPl gs ops ms r ((i, v) :: loc) S A
      | false => bad
    | none => bad
  | .rs i cs :: r, loc, S, A => match nth ops i with
    | some o => match alOf P (odD gs ops loc ms i) o, (vAt i loc).isNone && covers S A cs loc with
      | some al, true => .u (iRs al) fun v => chksD (rdAt P gs ops ms loc) (cmpPl gs ops ms r ((i, v) :: loc) S (⟨i, al, v⟩ :: A)) cs
      | _, _ => bad
    | none => bad
  | .ef e mt cs :: r, loc, S, A => match nth ops e with
    | some o => match (vAt e loc).isNone && (ahead (ms.getD e 0) mt && blocked loc e ops 0) with
      | true => matsD (fun A => match covers (sure ms S e) A cs loc with
          | true => .u (iEf (insAt P gs ops ms loc e o)) fun v => chksD (rdAt P gs ops ms ((e, v) :: loc)) (cmpPl gs ops ms r ((e, v) :: loc) (sure ms S e) A) cs
          | false => bad) mt A
      | false => bad
    | none => bad
  | .e2 e f mt c1 c2 c :: r, loc, S, A => match nth ops e, nth ops f with
    | some o, some q => match stOf P (odD gs ops loc ms e) o, stOf P (odD gs ops loc ms f) q with
      | some (n1, d1), some (n2, d2) => match (((vAt e loc).isNone && (vAt f loc).isNone) && !(Nat.beq e f)) && ((ahead (ms.getD e 0) mt && ahead (ms.getD f 0) mt) && (blocked ((f, undefA) :: loc) e ops 0 && blocked ((e, undefA) :: loc) f ops 0)) with
        | true => matsD (fun A => match covers (sure ms S e) A c1 loc && (covers (sure ms S f) A c2 loc && covers (sure ms (sure ms S e) f) A c loc), chkO (rdAt P gs ops ms loc) c2 with
          | true, some l => .x (iPair n1 d1 n2 d2) (.x (iSide (insAt P gs ops ms loc f q) l) (.x (iEf (insAt P gs ops ms loc e o)) (chksD (rdAt P gs ops ms loc) (.x (iEf (insAt P gs ops ms loc f q))
              (chksD (rdAt P gs ops ms loc) (cmpPl gs ops ms r ((f, undefA) :: (e, undefA) :: loc) (sure ms (sure ms S e) f) A) c)) c1)))
          | _, _ => bad) mt A
        | false => bad
      | _, _ => bad
    | _, _ => bad
/-- each sets a variable of its own; none waits for a later one -/
def regOk (nt : Nat) (all : List Oper) : List Oper → Nat → Bool
  | [], _ => true
  | o :: r, i => (match o.dst with
      | some d => Nat.blt d nt && (match dstAt d all 0 with | some j => Nat.beq j i | none => false)
      | none => true) && ((waits o).all (fun k => Nat.blt k i) && regOk nt all r (i + 1))
def cmpDraw (gs : List Nat) (nt : Nat) (ops : List Oper) : Ops := match regOk nt ops ops 0 with
  | true => match cloM ops [] with
    | ms => cmpPl P gs ops ms (planD P ops ms (2 * ops.length) 0 0 [] []) [] 0 []
  | false => bad

def cmpC (gs : List Nat) (nt : Nat) : Code → CC
  | .skip => .skip
  | .label _ => .skip
  | .region _ ops false => .reg (cmpOps P gs nt ops ops.toList [])
  | .region _ ops true => .reg (cmpDraw P gs nt ops.toList)
  | .seq a b => .seq (cmpC gs nt a) (cmpC gs nt b)
  | .cond c a b => match cod gs [] c with
    | some c => .cond c (cmpC gs nt a) (cmpC gs nt b)
    | none => .bad
  | .block id b => .block id (cmpC gs nt b)
  | .loop b => .loop (cmpC gs nt b)
  | .scope b => cmpC gs nt b
  | .exit id => .exit id
  | .ret => .ret
  | _ => .bad

def cmpRes (gs : List Nat) : ResultVar → Option Res
  | .tmp t => (cod gs [] (.tmp t)).map .t
  | .cell t ty => match cod gs [] (.tmp t), aggT P ty, size P ty with
    | some x, some true, some n => some (.cN n x)
    | some x, some false, _ => some (.c1 x)
    | _, _, _ => none

def cmpFn (f : FuncId) : Option CFn := match P.funcs[f]? with
  | some fn => match fn.name == "runtime.NumGoroutine", fn.body with
    | false, some c => match globals fn c with
      | gs => match mapO (cmpRes P gs) fn.results.toList, mapO (slotOf gs) (List.range (fn.params.size + fn.nfree)) with
        | some rs, some ps => some ⟨cmpC P gs fn.ntmps c, ps, rs⟩
        | _, _ => none
    | _, _ => none
  | none => none

/-- a table of functions, by their numbers -/
inductive TT where
  | no
  | leaf (g : Nat) (c : CFn)
  | node (k : Nat) (l r : TT)
def TT.find (t : TT) (f : Nat) : Option CFn := TT.rec (motive := fun _ => Option CFn) none (fun g c => ite2 (Nat.beq g f) (some c) none) (fun k _ _ l r => ite2 (Nat.blt f k) l r) t
def find (f : Nat) : List (Nat × CFn) → Option CFn
  | [] => none
  | (g, c) :: r => match Nat.beq g f with
    | true => some c
    | false => find f r

def isTrue : R → Bool
  | .ok (.b t) _ => t
  | _ => false
end
end
end Go.AE
