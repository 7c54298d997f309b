/-
  No cell of these rows narrows 'for every input' (looked for: loops, veiled, ifaces, maps, wideKeys, modest, calm, conditions, laid).
  DERIVED. THE GIVEN ROWS OF THIS SEAT. 7 by the template 'for every input the law returns true; each argument reads behind the call as it read before'; 0 by the template 'total and deterministic' (their statements: YtceihkmakfdcnaaGreatTotals.lean).
  GIVEN WITH THE SEED: the statements are not yours to turn. If you find one false, say at which input.
  Laid BY PROGRAM, IN A SANDBOX (cutbox-rows.mjs): the forced cells as the released guide's own fill.sh prints them over the translation 38bfb844e8c82aa5… (all of the seat's roots in one cut). By AI agents, Wed Nov 11 2026. No macro, syntax, notation, axiom, sorry.
-/
import Derived.Test.YtceihkmakfdcnaaGreatChecked
import GoSem.Claim
import GoSem.ClaimJoined
import GoSem.ClaimMapViews
import Derived.JoinedTies
import Derived.KernelRfl
namespace Go.Proofs.YtceihkmakfdcnaaGreat
/- THE CELL 'sum', in the pinned program and in every row, IS THE sha256 OF THE DUMP (.gsa) THAT YtceihkmakfdcnaaGreatProg.lean LOADS. Nothing in Lean hashes anything: it is a label: what it is worth is what the hold of that sum in a sandbox is worth. -/
noncomputable def Tryz.pinned : Pinned := { name := "ytceihkmakfdcnaagreat", sum := "38bfb844e8c82aa564eaf0a8b051302f3bbfec0df850d664601a07f9725a04ac", checked := Tryz.checked }
namespace Rows
def none {H : Type} : Left H := { results := [], args := [] }

/-- 'eliminantlaw10.FieldMatchesReference': WHATEVER THE INPUT: true; the input reads as it did. -/
def fieldMatchesReferenceSpec : ChangeSpec := { name := "fieldMatchesReference", fn := fun _ => fun
  | [d1, d2, d3] => { results := [.lit (.bool true)], args := [d1, d2, d3] }
  | _ => none }
def fieldMatchesReferenceRow : OpenClaim := { program := "ytceihkmakfdcnaagreat", sum := "38bfb844e8c82aa564eaf0a8b051302f3bbfec0df850d664601a07f9725a04ac", func := "eliminant/eliminantlaw10.FieldMatchesReference", spec := "fieldMatchesReference", unfollowed := true, recurses := true, apart := false }
def FieldMatchesReferenceSaid : Prop := fieldMatchesReferenceRow.holds Tryz.pinned (OpenSpec.ofChange fieldMatchesReferenceSpec)

/-- ITS FALSE NEIGHBOUR: 'it returns false'. Refute it at one input. -/
def fieldMatchesReferenceWrong : ChangeSpec := { name := "fieldMatchesReference", fn := fun _ => fun
  | [d1, d2, d3] => { results := [.lit (.bool false)], args := [d1, d2, d3] }
  | _ => none }
def FieldMatchesReferenceWrongFalsely : Prop := fieldMatchesReferenceRow.holds Tryz.pinned (OpenSpec.ofChange fieldMatchesReferenceWrong)

/-- 'eliminantlaw10.FieldDefines': WHATEVER THE INPUT: true; the input reads as it did. -/
def fieldDefinesSpec : ChangeSpec := { name := "fieldDefines", fn := fun _ => fun
  | [d1, d2, d3] => { results := [.lit (.bool true)], args := [d1, d2, d3] }
  | _ => none }
def fieldDefinesRow : OpenClaim := { program := "ytceihkmakfdcnaagreat", sum := "38bfb844e8c82aa564eaf0a8b051302f3bbfec0df850d664601a07f9725a04ac", func := "eliminant/eliminantlaw10.FieldDefines", spec := "fieldDefines", unfollowed := true, recurses := true, apart := false }
def FieldDefinesSaid : Prop := fieldDefinesRow.holds Tryz.pinned (OpenSpec.ofChange fieldDefinesSpec)

/-- ITS FALSE NEIGHBOUR: 'it returns false'. Refute it at one input. -/
def fieldDefinesWrong : ChangeSpec := { name := "fieldDefines", fn := fun _ => fun
  | [d1, d2, d3] => { results := [.lit (.bool false)], args := [d1, d2, d3] }
  | _ => none }
def FieldDefinesWrongFalsely : Prop := fieldDefinesRow.holds Tryz.pinned (OpenSpec.ofChange fieldDefinesWrong)

/-- 'eliminantlaw10.FieldAxioms': WHATEVER THE INPUT: true; the input reads as it did. -/
def fieldAxiomsSpec : ChangeSpec := { name := "fieldAxioms", fn := fun _ => fun
  | [d1, d2] => { results := [.lit (.bool true)], args := [d1, d2] }
  | _ => none }
def fieldAxiomsRow : OpenClaim := { program := "ytceihkmakfdcnaagreat", sum := "38bfb844e8c82aa564eaf0a8b051302f3bbfec0df850d664601a07f9725a04ac", func := "eliminant/eliminantlaw10.FieldAxioms", spec := "fieldAxioms", unfollowed := true, recurses := true, apart := false }
def FieldAxiomsSaid : Prop := fieldAxiomsRow.holds Tryz.pinned (OpenSpec.ofChange fieldAxiomsSpec)

/-- ITS FALSE NEIGHBOUR: 'it returns false'. Refute it at one input. -/
def fieldAxiomsWrong : ChangeSpec := { name := "fieldAxioms", fn := fun _ => fun
  | [d1, d2] => { results := [.lit (.bool false)], args := [d1, d2] }
  | _ => none }
def FieldAxiomsWrongFalsely : Prop := fieldAxiomsRow.holds Tryz.pinned (OpenSpec.ofChange fieldAxiomsWrong)

/-- 'eliminantlaw10.FieldNorms': WHATEVER THE INPUT: true; the input reads as it did. -/
def fieldNormsSpec : ChangeSpec := { name := "fieldNorms", fn := fun _ => fun
  | [d1, d2, d3] => { results := [.lit (.bool true)], args := [d1, d2, d3] }
  | _ => none }
def fieldNormsRow : OpenClaim := { program := "ytceihkmakfdcnaagreat", sum := "38bfb844e8c82aa564eaf0a8b051302f3bbfec0df850d664601a07f9725a04ac", func := "eliminant/eliminantlaw10.FieldNorms", spec := "fieldNorms", unfollowed := true, recurses := true, apart := false }
def FieldNormsSaid : Prop := fieldNormsRow.holds Tryz.pinned (OpenSpec.ofChange fieldNormsSpec)

/-- ITS FALSE NEIGHBOUR: 'it returns false'. Refute it at one input. -/
def fieldNormsWrong : ChangeSpec := { name := "fieldNorms", fn := fun _ => fun
  | [d1, d2, d3] => { results := [.lit (.bool false)], args := [d1, d2, d3] }
  | _ => none }
def FieldNormsWrongFalsely : Prop := fieldNormsRow.holds Tryz.pinned (OpenSpec.ofChange fieldNormsWrong)

/-- 'eliminantlaw10.FieldMinimal': WHATEVER THE INPUT: true; the input reads as it did. -/
def fieldMinimalSpec : ChangeSpec := { name := "fieldMinimal", fn := fun _ => fun
  | [d1, d2] => { results := [.lit (.bool true)], args := [d1, d2] }
  | _ => none }
def fieldMinimalRow : OpenClaim := { program := "ytceihkmakfdcnaagreat", sum := "38bfb844e8c82aa564eaf0a8b051302f3bbfec0df850d664601a07f9725a04ac", func := "eliminant/eliminantlaw10.FieldMinimal", spec := "fieldMinimal", unfollowed := true, recurses := true, apart := false }
def FieldMinimalSaid : Prop := fieldMinimalRow.holds Tryz.pinned (OpenSpec.ofChange fieldMinimalSpec)

/-- ITS FALSE NEIGHBOUR: 'it returns false'. Refute it at one input. -/
def fieldMinimalWrong : ChangeSpec := { name := "fieldMinimal", fn := fun _ => fun
  | [d1, d2] => { results := [.lit (.bool false)], args := [d1, d2] }
  | _ => none }
def FieldMinimalWrongFalsely : Prop := fieldMinimalRow.holds Tryz.pinned (OpenSpec.ofChange fieldMinimalWrong)

/-- 'eliminantlaw10.FieldDivisors': WHATEVER THE INPUT: true; the input reads as it did. -/
def fieldDivisorsSpec : ChangeSpec := { name := "fieldDivisors", fn := fun _ => fun
  | [d1, d2, d3] => { results := [.lit (.bool true)], args := [d1, d2, d3] }
  | _ => none }
def fieldDivisorsRow : OpenClaim := { program := "ytceihkmakfdcnaagreat", sum := "38bfb844e8c82aa564eaf0a8b051302f3bbfec0df850d664601a07f9725a04ac", func := "eliminant/eliminantlaw10.FieldDivisors", spec := "fieldDivisors", unfollowed := true, recurses := true, apart := false }
def FieldDivisorsSaid : Prop := fieldDivisorsRow.holds Tryz.pinned (OpenSpec.ofChange fieldDivisorsSpec)

/-- ITS FALSE NEIGHBOUR: 'it returns false'. Refute it at one input. -/
def fieldDivisorsWrong : ChangeSpec := { name := "fieldDivisors", fn := fun _ => fun
  | [d1, d2, d3] => { results := [.lit (.bool false)], args := [d1, d2, d3] }
  | _ => none }
def FieldDivisorsWrongFalsely : Prop := fieldDivisorsRow.holds Tryz.pinned (OpenSpec.ofChange fieldDivisorsWrong)

/-- 'eliminantlaw10.FieldValues': WHATEVER THE INPUT: true; the input reads as it did. -/
def fieldValuesSpec : ChangeSpec := { name := "fieldValues", fn := fun _ => fun
  | [d1, d2, d3] => { results := [.lit (.bool true)], args := [d1, d2, d3] }
  | _ => none }
def fieldValuesRow : OpenClaim := { program := "ytceihkmakfdcnaagreat", sum := "38bfb844e8c82aa564eaf0a8b051302f3bbfec0df850d664601a07f9725a04ac", func := "eliminant/eliminantlaw10.FieldValues", spec := "fieldValues", unfollowed := true, recurses := true, apart := false }
def FieldValuesSaid : Prop := fieldValuesRow.holds Tryz.pinned (OpenSpec.ofChange fieldValuesSpec)

/-- ITS FALSE NEIGHBOUR: 'it returns false'. Refute it at one input. -/
def fieldValuesWrong : ChangeSpec := { name := "fieldValues", fn := fun _ => fun
  | [d1, d2, d3] => { results := [.lit (.bool false)], args := [d1, d2, d3] }
  | _ => none }
def FieldValuesWrongFalsely : Prop := fieldValuesRow.holds Tryz.pinned (OpenSpec.ofChange fieldValuesWrong)

/- THE SECOND FORM. 'bulk': how many values and letters a reading holds, each counted each time it is reached (what is shared counts as often as it is met; a slice's spare places count too). A statement '..UptoSaid' is the law's where the arguments, and the package variables that the reading takes, are together of bulk at most 1048576: NARROWER than '..Said'. Prove '..Said' where nothing that the law and all that it calls make is longer than what came in: it says more and counts as full. Else prove '..UptoSaid'. A law counts once. -/
mutual
def uptoBulk {H : Type} : DataW H → Nat
  | .lit (.string bytes) => bytes.length + 1
  | .lit _ => 1
  | .nil => 1
  | .ptr d => uptoBulk d + 1
  | .slice elems spare => uptoBulkAll elems + uptoBulkAll spare + 1
  | .agg parts => uptoBulkAll parts + 1
  | .iface _ d => uptoBulk d + 1
  | .map entries => uptoBulkEntries entries + 1
  | .held _ => 1
def uptoBulkAll {H : Type} : List (DataW H) → Nat
  | [] => 0
  | d :: r => uptoBulk d + uptoBulkAll r
def uptoBulkEntries {H : Type} : List (Lit × DataW H) → Nat
  | [] => 0
  | x :: r => uptoBulkEntry x + uptoBulkEntries r
def uptoBulkEntry {H : Type} : Lit × DataW H → Nat
  | (.string bytes, d) => bytes.length + uptoBulk d + 1
  | (_, d) => uptoBulk d + 1
 end
def uptoSmall : (H : Type) → List (DataW H) → Bool := fun _ ds => decide (uptoBulkAll ds ≤ 1048576)
def OpenSpec.upto (s : _root_.Go.ChangeSpec) : _root_.Go.OpenSpec := { _root_.Go.OpenSpec.ofChange s with cond := some uptoSmall }

/-- 'eliminantlaw10.FieldMatchesReference', WHERE WHAT IT READS IS OF BULK AT MOST 1048576: true; the input reads as it did. -/
def fieldMatchesReferenceUptoRow : OpenClaim := { program := "ytceihkmakfdcnaagreat", sum := "38bfb844e8c82aa564eaf0a8b051302f3bbfec0df850d664601a07f9725a04ac", func := "eliminant/eliminantlaw10.FieldMatchesReference", spec := "fieldMatchesReference", unfollowed := true, recurses := true, apart := false, narrowed := true }
def FieldMatchesReferenceUptoSaid : Prop := fieldMatchesReferenceUptoRow.holds Tryz.pinned (OpenSpec.upto fieldMatchesReferenceSpec)

/-- 'eliminantlaw10.FieldDefines', WHERE WHAT IT READS IS OF BULK AT MOST 1048576: true; the input reads as it did. -/
def fieldDefinesUptoRow : OpenClaim := { program := "ytceihkmakfdcnaagreat", sum := "38bfb844e8c82aa564eaf0a8b051302f3bbfec0df850d664601a07f9725a04ac", func := "eliminant/eliminantlaw10.FieldDefines", spec := "fieldDefines", unfollowed := true, recurses := true, apart := false, narrowed := true }
def FieldDefinesUptoSaid : Prop := fieldDefinesUptoRow.holds Tryz.pinned (OpenSpec.upto fieldDefinesSpec)

/-- 'eliminantlaw10.FieldAxioms', WHERE WHAT IT READS IS OF BULK AT MOST 1048576: true; the input reads as it did. -/
def fieldAxiomsUptoRow : OpenClaim := { program := "ytceihkmakfdcnaagreat", sum := "38bfb844e8c82aa564eaf0a8b051302f3bbfec0df850d664601a07f9725a04ac", func := "eliminant/eliminantlaw10.FieldAxioms", spec := "fieldAxioms", unfollowed := true, recurses := true, apart := false, narrowed := true }
def FieldAxiomsUptoSaid : Prop := fieldAxiomsUptoRow.holds Tryz.pinned (OpenSpec.upto fieldAxiomsSpec)

/-- 'eliminantlaw10.FieldNorms', WHERE WHAT IT READS IS OF BULK AT MOST 1048576: true; the input reads as it did. -/
def fieldNormsUptoRow : OpenClaim := { program := "ytceihkmakfdcnaagreat", sum := "38bfb844e8c82aa564eaf0a8b051302f3bbfec0df850d664601a07f9725a04ac", func := "eliminant/eliminantlaw10.FieldNorms", spec := "fieldNorms", unfollowed := true, recurses := true, apart := false, narrowed := true }
def FieldNormsUptoSaid : Prop := fieldNormsUptoRow.holds Tryz.pinned (OpenSpec.upto fieldNormsSpec)

/-- 'eliminantlaw10.FieldMinimal', WHERE WHAT IT READS IS OF BULK AT MOST 1048576: true; the input reads as it did. -/
def fieldMinimalUptoRow : OpenClaim := { program := "ytceihkmakfdcnaagreat", sum := "38bfb844e8c82aa564eaf0a8b051302f3bbfec0df850d664601a07f9725a04ac", func := "eliminant/eliminantlaw10.FieldMinimal", spec := "fieldMinimal", unfollowed := true, recurses := true, apart := false, narrowed := true }
def FieldMinimalUptoSaid : Prop := fieldMinimalUptoRow.holds Tryz.pinned (OpenSpec.upto fieldMinimalSpec)

/-- 'eliminantlaw10.FieldDivisors', WHERE WHAT IT READS IS OF BULK AT MOST 1048576: true; the input reads as it did. -/
def fieldDivisorsUptoRow : OpenClaim := { program := "ytceihkmakfdcnaagreat", sum := "38bfb844e8c82aa564eaf0a8b051302f3bbfec0df850d664601a07f9725a04ac", func := "eliminant/eliminantlaw10.FieldDivisors", spec := "fieldDivisors", unfollowed := true, recurses := true, apart := false, narrowed := true }
def FieldDivisorsUptoSaid : Prop := fieldDivisorsUptoRow.holds Tryz.pinned (OpenSpec.upto fieldDivisorsSpec)

/-- 'eliminantlaw10.FieldValues', WHERE WHAT IT READS IS OF BULK AT MOST 1048576: true; the input reads as it did. -/
def fieldValuesUptoRow : OpenClaim := { program := "ytceihkmakfdcnaagreat", sum := "38bfb844e8c82aa564eaf0a8b051302f3bbfec0df850d664601a07f9725a04ac", func := "eliminant/eliminantlaw10.FieldValues", spec := "fieldValues", unfollowed := true, recurses := true, apart := false, narrowed := true }
def FieldValuesUptoSaid : Prop := fieldValuesUptoRow.holds Tryz.pinned (OpenSpec.upto fieldValuesSpec)

end Rows
end Go.Proofs.YtceihkmakfdcnaaGreat
