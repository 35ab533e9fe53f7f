/-
  NARROWER THAN 'FOR EVERY INPUT', by the rows' own cells (each row's printed sentence says how): ExpandStrips: loops.
  DERIVED. THE GIVEN ROWS OF THIS SEAT. 6 by the template 'for every input the law returns true; each argument reads behind the call as it read before'; 0 by the template 'total and deterministic' (their statements: YtckocomalpjkdaaGreatTotals.lean).
  GIVEN WITH THE SEED: the statements are not yours to turn. If you find one false, say at which input.
  Laid BY PROGRAM, IN A SANDBOX (cutbox-rows.mjs): the forced cells as the released guide's own fill.sh prints them over the translation 7368f177830b7a3e… (all of the seat's roots in one cut). By AI agents, Wed Nov 11 2026. No macro, syntax, notation, axiom, sorry.
-/
import Derived.Test.YtckocomalpjkdaaGreatChecked
import GoSem.Claim
import GoSem.ClaimJoined
import GoSem.ClaimMapViews
import Derived.JoinedTies
import Derived.KernelRfl
namespace Go.Proofs.YtckocomalpjkdaaGreat
/- THE CELL 'sum', in the pinned program and in every row, IS THE sha256 OF THE DUMP (.gsa) THAT YtckocomalpjkdaaGreatProg.lean LOADS. Nothing in Lean hashes anything: it is a label: what it is worth is what the hold of that sum in a sandbox is worth. -/
noncomputable def Tryz.pinned : Pinned := { name := "ytckocomalpjkdaagreat", sum := "7368f177830b7a3e3fd9a6344d80e8d979a080b2a429d2c1cfb36e1652dd447b", checked := Tryz.checked }
namespace Rows
def none {H : Type} : Left H := { results := [], args := [] }

/-- 'tandemlaw08.ExpandStrips': WHATEVER THE INPUT: true; the input reads as it did. -/
def expandStripsSpec : ChangeSpec := { name := "expandStrips", fn := fun _ => fun
  | [d] => { results := [.lit (.bool true)], args := [d] }
  | _ => none }
def expandStripsRow : OpenClaim := { program := "ytckocomalpjkdaagreat", sum := "7368f177830b7a3e3fd9a6344d80e8d979a080b2a429d2c1cfb36e1652dd447b", func := "tandem/tandemlaw08.ExpandStrips", spec := "expandStrips", unfollowed := true, recurses := true, loops := true, plainKeys := false, apart := false }
def ExpandStripsSaid : Prop := expandStripsRow.holds Tryz.pinned (OpenSpec.ofChange expandStripsSpec)

/-- ITS FALSE NEIGHBOUR: 'it returns false'. Refute it at one input. -/
def expandStripsWrong : ChangeSpec := { name := "expandStrips", fn := fun _ => fun
  | [d] => { results := [.lit (.bool false)], args := [d] }
  | _ => none }
def ExpandStripsWrongFalsely : Prop := expandStripsRow.holds Tryz.pinned (OpenSpec.ofChange expandStripsWrong)

/-- 'tandemlaw08.ExpandClean': WHATEVER THE INPUT: true; the input reads as it did. -/
def expandCleanSpec : ChangeSpec := { name := "expandClean", fn := fun _ => fun
  | [d] => { results := [.lit (.bool true)], args := [d] }
  | _ => none }
def expandCleanRow : OpenClaim := { program := "ytckocomalpjkdaagreat", sum := "7368f177830b7a3e3fd9a6344d80e8d979a080b2a429d2c1cfb36e1652dd447b", func := "tandem/tandemlaw08.ExpandClean", spec := "expandClean", unfollowed := true, recurses := true, plainKeys := false, apart := false }
def ExpandCleanSaid : Prop := expandCleanRow.holds Tryz.pinned (OpenSpec.ofChange expandCleanSpec)

/-- ITS FALSE NEIGHBOUR: 'it returns false'. Refute it at one input. -/
def expandCleanWrong : ChangeSpec := { name := "expandClean", fn := fun _ => fun
  | [d] => { results := [.lit (.bool false)], args := [d] }
  | _ => none }
def ExpandCleanWrongFalsely : Prop := expandCleanRow.holds Tryz.pinned (OpenSpec.ofChange expandCleanWrong)

/-- 'tandemlaw08.ExpandHygiene': WHATEVER THE INPUT: true; the input reads as it did. -/
def expandHygieneSpec : ChangeSpec := { name := "expandHygiene", fn := fun _ => fun
  | [d1, d2, d3] => { results := [.lit (.bool true)], args := [d1, d2, d3] }
  | _ => none }
def expandHygieneRow : OpenClaim := { program := "ytckocomalpjkdaagreat", sum := "7368f177830b7a3e3fd9a6344d80e8d979a080b2a429d2c1cfb36e1652dd447b", func := "tandem/tandemlaw08.ExpandHygiene", spec := "expandHygiene", unfollowed := true, recurses := true, plainKeys := false, apart := false }
def ExpandHygieneSaid : Prop := expandHygieneRow.holds Tryz.pinned (OpenSpec.ofChange expandHygieneSpec)

/-- ITS FALSE NEIGHBOUR: 'it returns false'. Refute it at one input. -/
def expandHygieneWrong : ChangeSpec := { name := "expandHygiene", fn := fun _ => fun
  | [d1, d2, d3] => { results := [.lit (.bool false)], args := [d1, d2, d3] }
  | _ => none }
def ExpandHygieneWrongFalsely : Prop := expandHygieneRow.holds Tryz.pinned (OpenSpec.ofChange expandHygieneWrong)

/-- 'tandemlaw08.ExpandNames': WHATEVER THE INPUT: true; the input reads as it did. -/
def expandNamesSpec : ChangeSpec := { name := "expandNames", fn := fun _ => fun
  | [d1, d2] => { results := [.lit (.bool true)], args := [d1, d2] }
  | _ => none }
def expandNamesRow : OpenClaim := { program := "ytckocomalpjkdaagreat", sum := "7368f177830b7a3e3fd9a6344d80e8d979a080b2a429d2c1cfb36e1652dd447b", func := "tandem/tandemlaw08.ExpandNames", spec := "expandNames", unfollowed := true, recurses := true, plainKeys := false, apart := false }
def ExpandNamesSaid : Prop := expandNamesRow.holds Tryz.pinned (OpenSpec.ofChange expandNamesSpec)

/-- ITS FALSE NEIGHBOUR: 'it returns false'. Refute it at one input. -/
def expandNamesWrong : ChangeSpec := { name := "expandNames", fn := fun _ => fun
  | [d1, d2] => { results := [.lit (.bool false)], args := [d1, d2] }
  | _ => none }
def ExpandNamesWrongFalsely : Prop := expandNamesRow.holds Tryz.pinned (OpenSpec.ofChange expandNamesWrong)

/-- 'tandemlaw08.ExpandJoins': WHATEVER THE INPUT: true; the input reads as it did. -/
def expandJoinsSpec : ChangeSpec := { name := "expandJoins", fn := fun _ => fun
  | [d1, d2] => { results := [.lit (.bool true)], args := [d1, d2] }
  | _ => none }
def expandJoinsRow : OpenClaim := { program := "ytckocomalpjkdaagreat", sum := "7368f177830b7a3e3fd9a6344d80e8d979a080b2a429d2c1cfb36e1652dd447b", func := "tandem/tandemlaw08.ExpandJoins", spec := "expandJoins", unfollowed := true, recurses := true, plainKeys := false, apart := false }
def ExpandJoinsSaid : Prop := expandJoinsRow.holds Tryz.pinned (OpenSpec.ofChange expandJoinsSpec)

/-- ITS FALSE NEIGHBOUR: 'it returns false'. Refute it at one input. -/
def expandJoinsWrong : ChangeSpec := { name := "expandJoins", fn := fun _ => fun
  | [d1, d2] => { results := [.lit (.bool false)], args := [d1, d2] }
  | _ => none }
def ExpandJoinsWrongFalsely : Prop := expandJoinsRow.holds Tryz.pinned (OpenSpec.ofChange expandJoinsWrong)

/-- 'tandemlaw08.ExpandLoops': WHATEVER THE INPUT: true; the input reads as it did. -/
def expandLoopsSpec : ChangeSpec := { name := "expandLoops", fn := fun _ => fun
  | [d] => { results := [.lit (.bool true)], args := [d] }
  | _ => none }
def expandLoopsRow : OpenClaim := { program := "ytckocomalpjkdaagreat", sum := "7368f177830b7a3e3fd9a6344d80e8d979a080b2a429d2c1cfb36e1652dd447b", func := "tandem/tandemlaw08.ExpandLoops", spec := "expandLoops", unfollowed := true, recurses := true, plainKeys := false, apart := false }
def ExpandLoopsSaid : Prop := expandLoopsRow.holds Tryz.pinned (OpenSpec.ofChange expandLoopsSpec)

/-- ITS FALSE NEIGHBOUR: 'it returns false'. Refute it at one input. -/
def expandLoopsWrong : ChangeSpec := { name := "expandLoops", fn := fun _ => fun
  | [d] => { results := [.lit (.bool false)], args := [d] }
  | _ => none }
def ExpandLoopsWrongFalsely : Prop := expandLoopsRow.holds Tryz.pinned (OpenSpec.ofChange expandLoopsWrong)

/- THE SECOND FORM. 'bulk': how many values and letters a reading holds, each counted each time it is reached (what is shared counts as often as it is met; a slice's spare places count too). A statement '..UptoSaid' is the law's where the arguments, and the package variables that the reading takes, are together of bulk at most 1048576: NARROWER than '..Said'. Prove '..Said' where nothing that the law and all that it calls make is longer than what came in: it says more and counts as full. Else prove '..UptoSaid'. A law counts once. -/
mutual
def uptoBulk {H : Type} : DataW H → Nat
  | .lit (.string bytes) => bytes.length + 1
  | .lit _ => 1
  | .nil => 1
  | .ptr d => uptoBulk d + 1
  | .slice elems spare => uptoBulkAll elems + uptoBulkAll spare + 1
  | .agg parts => uptoBulkAll parts + 1
  | .iface _ d => uptoBulk d + 1
  | .map entries => uptoBulkEntries entries + 1
  | .held _ => 1
def uptoBulkAll {H : Type} : List (DataW H) → Nat
  | [] => 0
  | d :: r => uptoBulk d + uptoBulkAll r
def uptoBulkEntries {H : Type} : List (Lit × DataW H) → Nat
  | [] => 0
  | x :: r => uptoBulkEntry x + uptoBulkEntries r
def uptoBulkEntry {H : Type} : Lit × DataW H → Nat
  | (.string bytes, d) => bytes.length + uptoBulk d + 1
  | (_, d) => uptoBulk d + 1
 end
def uptoSmall : (H : Type) → List (DataW H) → Bool := fun _ ds => decide (uptoBulkAll ds ≤ 1048576)
def OpenSpec.upto (s : _root_.Go.ChangeSpec) : _root_.Go.OpenSpec := { _root_.Go.OpenSpec.ofChange s with cond := some uptoSmall }

/-- 'tandemlaw08.ExpandStrips', WHERE WHAT IT READS IS OF BULK AT MOST 1048576: true; the input reads as it did. -/
def expandStripsUptoRow : OpenClaim := { program := "ytckocomalpjkdaagreat", sum := "7368f177830b7a3e3fd9a6344d80e8d979a080b2a429d2c1cfb36e1652dd447b", func := "tandem/tandemlaw08.ExpandStrips", spec := "expandStrips", unfollowed := true, recurses := true, loops := true, plainKeys := false, apart := false, narrowed := true }
def ExpandStripsUptoSaid : Prop := expandStripsUptoRow.holds Tryz.pinned (OpenSpec.upto expandStripsSpec)

/-- 'tandemlaw08.ExpandClean', WHERE WHAT IT READS IS OF BULK AT MOST 1048576: true; the input reads as it did. -/
def expandCleanUptoRow : OpenClaim := { program := "ytckocomalpjkdaagreat", sum := "7368f177830b7a3e3fd9a6344d80e8d979a080b2a429d2c1cfb36e1652dd447b", func := "tandem/tandemlaw08.ExpandClean", spec := "expandClean", unfollowed := true, recurses := true, plainKeys := false, apart := false, narrowed := true }
def ExpandCleanUptoSaid : Prop := expandCleanUptoRow.holds Tryz.pinned (OpenSpec.upto expandCleanSpec)

/-- 'tandemlaw08.ExpandHygiene', WHERE WHAT IT READS IS OF BULK AT MOST 1048576: true; the input reads as it did. -/
def expandHygieneUptoRow : OpenClaim := { program := "ytckocomalpjkdaagreat", sum := "7368f177830b7a3e3fd9a6344d80e8d979a080b2a429d2c1cfb36e1652dd447b", func := "tandem/tandemlaw08.ExpandHygiene", spec := "expandHygiene", unfollowed := true, recurses := true, plainKeys := false, apart := false, narrowed := true }
def ExpandHygieneUptoSaid : Prop := expandHygieneUptoRow.holds Tryz.pinned (OpenSpec.upto expandHygieneSpec)

/-- 'tandemlaw08.ExpandNames', WHERE WHAT IT READS IS OF BULK AT MOST 1048576: true; the input reads as it did. -/
def expandNamesUptoRow : OpenClaim := { program := "ytckocomalpjkdaagreat", sum := "7368f177830b7a3e3fd9a6344d80e8d979a080b2a429d2c1cfb36e1652dd447b", func := "tandem/tandemlaw08.ExpandNames", spec := "expandNames", unfollowed := true, recurses := true, plainKeys := false, apart := false, narrowed := true }
def ExpandNamesUptoSaid : Prop := expandNamesUptoRow.holds Tryz.pinned (OpenSpec.upto expandNamesSpec)

/-- 'tandemlaw08.ExpandJoins', WHERE WHAT IT READS IS OF BULK AT MOST 1048576: true; the input reads as it did. -/
def expandJoinsUptoRow : OpenClaim := { program := "ytckocomalpjkdaagreat", sum := "7368f177830b7a3e3fd9a6344d80e8d979a080b2a429d2c1cfb36e1652dd447b", func := "tandem/tandemlaw08.ExpandJoins", spec := "expandJoins", unfollowed := true, recurses := true, plainKeys := false, apart := false, narrowed := true }
def ExpandJoinsUptoSaid : Prop := expandJoinsUptoRow.holds Tryz.pinned (OpenSpec.upto expandJoinsSpec)

/-- 'tandemlaw08.ExpandLoops', WHERE WHAT IT READS IS OF BULK AT MOST 1048576: true; the input reads as it did. -/
def expandLoopsUptoRow : OpenClaim := { program := "ytckocomalpjkdaagreat", sum := "7368f177830b7a3e3fd9a6344d80e8d979a080b2a429d2c1cfb36e1652dd447b", func := "tandem/tandemlaw08.ExpandLoops", spec := "expandLoops", unfollowed := true, recurses := true, plainKeys := false, apart := false, narrowed := true }
def ExpandLoopsUptoSaid : Prop := expandLoopsUptoRow.holds Tryz.pinned (OpenSpec.upto expandLoopsSpec)

end Rows
end Go.Proofs.YtckocomalpjkdaaGreat
