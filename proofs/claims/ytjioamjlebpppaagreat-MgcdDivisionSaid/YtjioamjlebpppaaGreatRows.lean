/-
  No cell of these rows narrows 'for every input' (looked for: loops, veiled, ifaces, maps, wideKeys, modest, calm, conditions, laid).
  DERIVED. THE GIVEN ROWS OF THIS SEAT. 7 by the template 'for every input the law returns true; each argument reads behind the call as it read before'; 0 by the template 'total and deterministic' (their statements: YtjioamjlebpppaaGreatTotals.lean).
  GIVEN WITH THE SEED: the statements are not yours to turn. If you find one false, say at which input.
  Laid BY PROGRAM, IN A SANDBOX (cutbox-rows.mjs): the forced cells as the released guide's own fill.sh prints them over the translation 6daa3c0668f51fc2… (all of the seat's roots in one cut). By AI agents, Wed Nov 11 2026. No macro, syntax, notation, axiom, sorry.
-/
import Derived.Test.YtjioamjlebpppaaGreatChecked
import GoSem.Claim
import GoSem.ClaimJoined
import GoSem.ClaimMapViews
import Derived.JoinedTies
import Derived.KernelRfl
namespace Go.Proofs.YtjioamjlebpppaaGreat
/- THE CELL 'sum', in the pinned program and in every row, IS THE sha256 OF THE DUMP (.gsa) THAT YtjioamjlebpppaaGreatProg.lean LOADS. Nothing in Lean hashes anything: it is a label: what it is worth is what the hold of that sum in a sandbox is worth. -/
noncomputable def Tryz.pinned : Pinned := { name := "ytjioamjlebpppaagreat", sum := "6daa3c0668f51fc263a70f7ea419af1c4ca37da7740faa9a87f44a41a6a5b5d7", checked := Tryz.checked }
namespace Rows
def none {H : Type} : Left H := { results := [], args := [] }

/-- 'eliminantlaw08.MgcdResultants': WHATEVER THE INPUT: true; the input reads as it did. -/
def mgcdResultantsSpec : ChangeSpec := { name := "mgcdResultants", fn := fun _ => fun
  | [d1, d2] => { results := [.lit (.bool true)], args := [d1, d2] }
  | _ => none }
def mgcdResultantsRow : OpenClaim := { program := "ytjioamjlebpppaagreat", sum := "6daa3c0668f51fc263a70f7ea419af1c4ca37da7740faa9a87f44a41a6a5b5d7", func := "eliminant/eliminantlaw08.MgcdResultants", spec := "mgcdResultants", unfollowed := true, recurses := true, plainKeys := false, apart := false }
def MgcdResultantsSaid : Prop := mgcdResultantsRow.holds Tryz.pinned (OpenSpec.ofChange mgcdResultantsSpec)

/-- ITS FALSE NEIGHBOUR: 'it returns false'. Refute it at one input. -/
def mgcdResultantsWrong : ChangeSpec := { name := "mgcdResultants", fn := fun _ => fun
  | [d1, d2] => { results := [.lit (.bool false)], args := [d1, d2] }
  | _ => none }
def MgcdResultantsWrongFalsely : Prop := mgcdResultantsRow.holds Tryz.pinned (OpenSpec.ofChange mgcdResultantsWrong)

/-- 'eliminantlaw08.MgcdDivides': WHATEVER THE INPUT: true; the input reads as it did. -/
def mgcdDividesSpec : ChangeSpec := { name := "mgcdDivides", fn := fun _ => fun
  | [d] => { results := [.lit (.bool true)], args := [d] }
  | _ => none }
def mgcdDividesRow : OpenClaim := { program := "ytjioamjlebpppaagreat", sum := "6daa3c0668f51fc263a70f7ea419af1c4ca37da7740faa9a87f44a41a6a5b5d7", func := "eliminant/eliminantlaw08.MgcdDivides", spec := "mgcdDivides", unfollowed := true, recurses := true, plainKeys := false, apart := false }
def MgcdDividesSaid : Prop := mgcdDividesRow.holds Tryz.pinned (OpenSpec.ofChange mgcdDividesSpec)

/-- ITS FALSE NEIGHBOUR: 'it returns false'. Refute it at one input. -/
def mgcdDividesWrong : ChangeSpec := { name := "mgcdDivides", fn := fun _ => fun
  | [d] => { results := [.lit (.bool false)], args := [d] }
  | _ => none }
def MgcdDividesWrongFalsely : Prop := mgcdDividesRow.holds Tryz.pinned (OpenSpec.ofChange mgcdDividesWrong)

/-- 'eliminantlaw08.MgcdDivision': WHATEVER THE INPUT: true; the input reads as it did. -/
def mgcdDivisionSpec : ChangeSpec := { name := "mgcdDivision", fn := fun _ => fun
  | [d] => { results := [.lit (.bool true)], args := [d] }
  | _ => none }
def mgcdDivisionRow : OpenClaim := { program := "ytjioamjlebpppaagreat", sum := "6daa3c0668f51fc263a70f7ea419af1c4ca37da7740faa9a87f44a41a6a5b5d7", func := "eliminant/eliminantlaw08.MgcdDivision", spec := "mgcdDivision", unfollowed := true, recurses := true, plainKeys := false, apart := false }
def MgcdDivisionSaid : Prop := mgcdDivisionRow.holds Tryz.pinned (OpenSpec.ofChange mgcdDivisionSpec)

/-- ITS FALSE NEIGHBOUR: 'it returns false'. Refute it at one input. -/
def mgcdDivisionWrong : ChangeSpec := { name := "mgcdDivision", fn := fun _ => fun
  | [d] => { results := [.lit (.bool false)], args := [d] }
  | _ => none }
def MgcdDivisionWrongFalsely : Prop := mgcdDivisionRow.holds Tryz.pinned (OpenSpec.ofChange mgcdDivisionWrong)

/-- 'eliminantlaw08.MgcdVanishes': WHATEVER THE INPUT: true; the input reads as it did. -/
def mgcdVanishesSpec : ChangeSpec := { name := "mgcdVanishes", fn := fun _ => fun
  | [d1, d2] => { results := [.lit (.bool true)], args := [d1, d2] }
  | _ => none }
def mgcdVanishesRow : OpenClaim := { program := "ytjioamjlebpppaagreat", sum := "6daa3c0668f51fc263a70f7ea419af1c4ca37da7740faa9a87f44a41a6a5b5d7", func := "eliminant/eliminantlaw08.MgcdVanishes", spec := "mgcdVanishes", unfollowed := true, recurses := true, plainKeys := false, apart := false }
def MgcdVanishesSaid : Prop := mgcdVanishesRow.holds Tryz.pinned (OpenSpec.ofChange mgcdVanishesSpec)

/-- ITS FALSE NEIGHBOUR: 'it returns false'. Refute it at one input. -/
def mgcdVanishesWrong : ChangeSpec := { name := "mgcdVanishes", fn := fun _ => fun
  | [d1, d2] => { results := [.lit (.bool false)], args := [d1, d2] }
  | _ => none }
def MgcdVanishesWrongFalsely : Prop := mgcdVanishesRow.holds Tryz.pinned (OpenSpec.ofChange mgcdVanishesWrong)

/-- 'eliminantlaw08.MgcdDoubles': WHATEVER THE INPUT: true; the input reads as it did. -/
def mgcdDoublesSpec : ChangeSpec := { name := "mgcdDoubles", fn := fun _ => fun
  | [d1, d2] => { results := [.lit (.bool true)], args := [d1, d2] }
  | _ => none }
def mgcdDoublesRow : OpenClaim := { program := "ytjioamjlebpppaagreat", sum := "6daa3c0668f51fc263a70f7ea419af1c4ca37da7740faa9a87f44a41a6a5b5d7", func := "eliminant/eliminantlaw08.MgcdDoubles", spec := "mgcdDoubles", unfollowed := true, recurses := true, plainKeys := false, apart := false }
def MgcdDoublesSaid : Prop := mgcdDoublesRow.holds Tryz.pinned (OpenSpec.ofChange mgcdDoublesSpec)

/-- ITS FALSE NEIGHBOUR: 'it returns false'. Refute it at one input. -/
def mgcdDoublesWrong : ChangeSpec := { name := "mgcdDoubles", fn := fun _ => fun
  | [d1, d2] => { results := [.lit (.bool false)], args := [d1, d2] }
  | _ => none }
def MgcdDoublesWrongFalsely : Prop := mgcdDoublesRow.holds Tryz.pinned (OpenSpec.ofChange mgcdDoublesWrong)

/-- 'eliminantlaw08.MgcdContents': WHATEVER THE INPUT: true; the input reads as it did. -/
def mgcdContentsSpec : ChangeSpec := { name := "mgcdContents", fn := fun _ => fun
  | [d1, d2] => { results := [.lit (.bool true)], args := [d1, d2] }
  | _ => none }
def mgcdContentsRow : OpenClaim := { program := "ytjioamjlebpppaagreat", sum := "6daa3c0668f51fc263a70f7ea419af1c4ca37da7740faa9a87f44a41a6a5b5d7", func := "eliminant/eliminantlaw08.MgcdContents", spec := "mgcdContents", unfollowed := true, recurses := true, plainKeys := false, apart := false }
def MgcdContentsSaid : Prop := mgcdContentsRow.holds Tryz.pinned (OpenSpec.ofChange mgcdContentsSpec)

/-- ITS FALSE NEIGHBOUR: 'it returns false'. Refute it at one input. -/
def mgcdContentsWrong : ChangeSpec := { name := "mgcdContents", fn := fun _ => fun
  | [d1, d2] => { results := [.lit (.bool false)], args := [d1, d2] }
  | _ => none }
def MgcdContentsWrongFalsely : Prop := mgcdContentsRow.holds Tryz.pinned (OpenSpec.ofChange mgcdContentsWrong)

/-- 'eliminantlaw08.MgcdParts': WHATEVER THE INPUT: true; the input reads as it did. -/
def mgcdPartsSpec : ChangeSpec := { name := "mgcdParts", fn := fun _ => fun
  | [d] => { results := [.lit (.bool true)], args := [d] }
  | _ => none }
def mgcdPartsRow : OpenClaim := { program := "ytjioamjlebpppaagreat", sum := "6daa3c0668f51fc263a70f7ea419af1c4ca37da7740faa9a87f44a41a6a5b5d7", func := "eliminant/eliminantlaw08.MgcdParts", spec := "mgcdParts", unfollowed := true, recurses := true, plainKeys := false, apart := false }
def MgcdPartsSaid : Prop := mgcdPartsRow.holds Tryz.pinned (OpenSpec.ofChange mgcdPartsSpec)

/-- ITS FALSE NEIGHBOUR: 'it returns false'. Refute it at one input. -/
def mgcdPartsWrong : ChangeSpec := { name := "mgcdParts", fn := fun _ => fun
  | [d] => { results := [.lit (.bool false)], args := [d] }
  | _ => none }
def MgcdPartsWrongFalsely : Prop := mgcdPartsRow.holds Tryz.pinned (OpenSpec.ofChange mgcdPartsWrong)

/- THE SECOND FORM. 'bulk': how many values and letters a reading holds, each counted each time it is reached (what is shared counts as often as it is met; a slice's spare places count too). A statement '..UptoSaid' is the law's where the arguments, and the package variables that the reading takes, are together of bulk at most 1048576: NARROWER than '..Said'. Prove '..Said' where nothing that the law and all that it calls make is longer than what came in: it says more and counts as full. Else prove '..UptoSaid'. A law counts once. -/
mutual
def uptoBulk {H : Type} : DataW H → Nat
  | .lit (.string bytes) => bytes.length + 1
  | .lit _ => 1
  | .nil => 1
  | .ptr d => uptoBulk d + 1
  | .slice elems spare => uptoBulkAll elems + uptoBulkAll spare + 1
  | .agg parts => uptoBulkAll parts + 1
  | .iface _ d => uptoBulk d + 1
  | .map entries => uptoBulkEntries entries + 1
  | .held _ => 1
def uptoBulkAll {H : Type} : List (DataW H) → Nat
  | [] => 0
  | d :: r => uptoBulk d + uptoBulkAll r
def uptoBulkEntries {H : Type} : List (Lit × DataW H) → Nat
  | [] => 0
  | x :: r => uptoBulkEntry x + uptoBulkEntries r
def uptoBulkEntry {H : Type} : Lit × DataW H → Nat
  | (.string bytes, d) => bytes.length + uptoBulk d + 1
  | (_, d) => uptoBulk d + 1
 end
def uptoSmall : (H : Type) → List (DataW H) → Bool := fun _ ds => decide (uptoBulkAll ds ≤ 1048576)
def OpenSpec.upto (s : _root_.Go.ChangeSpec) : _root_.Go.OpenSpec := { _root_.Go.OpenSpec.ofChange s with cond := some uptoSmall }

/-- 'eliminantlaw08.MgcdResultants', WHERE WHAT IT READS IS OF BULK AT MOST 1048576: true; the input reads as it did. -/
def mgcdResultantsUptoRow : OpenClaim := { program := "ytjioamjlebpppaagreat", sum := "6daa3c0668f51fc263a70f7ea419af1c4ca37da7740faa9a87f44a41a6a5b5d7", func := "eliminant/eliminantlaw08.MgcdResultants", spec := "mgcdResultants", unfollowed := true, recurses := true, plainKeys := false, apart := false, narrowed := true }
def MgcdResultantsUptoSaid : Prop := mgcdResultantsUptoRow.holds Tryz.pinned (OpenSpec.upto mgcdResultantsSpec)

/-- 'eliminantlaw08.MgcdDivides', WHERE WHAT IT READS IS OF BULK AT MOST 1048576: true; the input reads as it did. -/
def mgcdDividesUptoRow : OpenClaim := { program := "ytjioamjlebpppaagreat", sum := "6daa3c0668f51fc263a70f7ea419af1c4ca37da7740faa9a87f44a41a6a5b5d7", func := "eliminant/eliminantlaw08.MgcdDivides", spec := "mgcdDivides", unfollowed := true, recurses := true, plainKeys := false, apart := false, narrowed := true }
def MgcdDividesUptoSaid : Prop := mgcdDividesUptoRow.holds Tryz.pinned (OpenSpec.upto mgcdDividesSpec)

/-- 'eliminantlaw08.MgcdDivision', WHERE WHAT IT READS IS OF BULK AT MOST 1048576: true; the input reads as it did. -/
def mgcdDivisionUptoRow : OpenClaim := { program := "ytjioamjlebpppaagreat", sum := "6daa3c0668f51fc263a70f7ea419af1c4ca37da7740faa9a87f44a41a6a5b5d7", func := "eliminant/eliminantlaw08.MgcdDivision", spec := "mgcdDivision", unfollowed := true, recurses := true, plainKeys := false, apart := false, narrowed := true }
def MgcdDivisionUptoSaid : Prop := mgcdDivisionUptoRow.holds Tryz.pinned (OpenSpec.upto mgcdDivisionSpec)

/-- 'eliminantlaw08.MgcdVanishes', WHERE WHAT IT READS IS OF BULK AT MOST 1048576: true; the input reads as it did. -/
def mgcdVanishesUptoRow : OpenClaim := { program := "ytjioamjlebpppaagreat", sum := "6daa3c0668f51fc263a70f7ea419af1c4ca37da7740faa9a87f44a41a6a5b5d7", func := "eliminant/eliminantlaw08.MgcdVanishes", spec := "mgcdVanishes", unfollowed := true, recurses := true, plainKeys := false, apart := false, narrowed := true }
def MgcdVanishesUptoSaid : Prop := mgcdVanishesUptoRow.holds Tryz.pinned (OpenSpec.upto mgcdVanishesSpec)

/-- 'eliminantlaw08.MgcdDoubles', WHERE WHAT IT READS IS OF BULK AT MOST 1048576: true; the input reads as it did. -/
def mgcdDoublesUptoRow : OpenClaim := { program := "ytjioamjlebpppaagreat", sum := "6daa3c0668f51fc263a70f7ea419af1c4ca37da7740faa9a87f44a41a6a5b5d7", func := "eliminant/eliminantlaw08.MgcdDoubles", spec := "mgcdDoubles", unfollowed := true, recurses := true, plainKeys := false, apart := false, narrowed := true }
def MgcdDoublesUptoSaid : Prop := mgcdDoublesUptoRow.holds Tryz.pinned (OpenSpec.upto mgcdDoublesSpec)

/-- 'eliminantlaw08.MgcdContents', WHERE WHAT IT READS IS OF BULK AT MOST 1048576: true; the input reads as it did. -/
def mgcdContentsUptoRow : OpenClaim := { program := "ytjioamjlebpppaagreat", sum := "6daa3c0668f51fc263a70f7ea419af1c4ca37da7740faa9a87f44a41a6a5b5d7", func := "eliminant/eliminantlaw08.MgcdContents", spec := "mgcdContents", unfollowed := true, recurses := true, plainKeys := false, apart := false, narrowed := true }
def MgcdContentsUptoSaid : Prop := mgcdContentsUptoRow.holds Tryz.pinned (OpenSpec.upto mgcdContentsSpec)

/-- 'eliminantlaw08.MgcdParts', WHERE WHAT IT READS IS OF BULK AT MOST 1048576: true; the input reads as it did. -/
def mgcdPartsUptoRow : OpenClaim := { program := "ytjioamjlebpppaagreat", sum := "6daa3c0668f51fc263a70f7ea419af1c4ca37da7740faa9a87f44a41a6a5b5d7", func := "eliminant/eliminantlaw08.MgcdParts", spec := "mgcdParts", unfollowed := true, recurses := true, plainKeys := false, apart := false, narrowed := true }
def MgcdPartsUptoSaid : Prop := mgcdPartsUptoRow.holds Tryz.pinned (OpenSpec.upto mgcdPartsSpec)

end Rows
end Go.Proofs.YtjioamjlebpppaaGreat
