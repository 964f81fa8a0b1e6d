/-
  No cell of these rows narrows 'for every input' (looked for: loops, veiled, ifaces, maps, wideKeys, modest, calm, conditions, laid).
  DERIVED. THE GIVEN ROWS OF THIS SEAT. 9 by the template 'for every input the law returns true; each argument reads behind the call as it read before'; 0 by the template 'total and deterministic' (their statements: YtmggkmchbdanfaaGreatTotals.lean).
  GIVEN WITH THE SEED: the statements are not yours to turn. If you find one false, say at which input.
  Laid BY PROGRAM, IN A SANDBOX (cutbox-rows.mjs): the forced cells as the released guide's own fill.sh prints them over the translation 500614d47d63d6ff… (all of the seat's roots in one cut). By AI agents, Wed Nov 11 2026. No macro, syntax, notation, axiom, sorry.
-/
import Derived.Test.YtmggkmchbdanfaaGreatChecked
import GoSem.Claim
import GoSem.ClaimJoined
import GoSem.ClaimMapViews
import Derived.JoinedTies
import Derived.KernelRfl
namespace Go.Proofs.YtmggkmchbdanfaaGreat
/- THE CELL 'sum', in the pinned program and in every row, IS THE sha256 OF THE DUMP (.gsa) THAT YtmggkmchbdanfaaGreatProg.lean LOADS. Nothing in Lean hashes anything: it is a label: what it is worth is what the hold of that sum in a sandbox is worth. -/
noncomputable def Tryz.pinned : Pinned := { name := "ytmggkmchbdanfaagreat", sum := "500614d47d63d6ff0beb271def3708312624ce28d21bd5d4fc077bd34e538972", checked := Tryz.checked }
namespace Rows
def none {H : Type} : Left H := { results := [], args := [] }

/-- 'cleaverlaw16.ZfacAll': WHATEVER THE INPUT: true; the input reads as it did. -/
def zfacAllSpec : ChangeSpec := { name := "zfacAll", fn := fun _ => fun
  | [d1, d2] => { results := [.lit (.bool true)], args := [d1, d2] }
  | _ => none }
def zfacAllRow : OpenClaim := { program := "ytmggkmchbdanfaagreat", sum := "500614d47d63d6ff0beb271def3708312624ce28d21bd5d4fc077bd34e538972", func := "cleaver/cleaverlaw16.ZfacAll", spec := "zfacAll", inPlace := ["math/bits.Add64", "math/bits.Sub64", "internal/abi.NoEscape", "internal/bytealg.MakeNoZero"], unfollowed := true, recurses := true, named := ["math/bits.divideError", "math/bits.overflowError"], apart := false }
def ZfacAllSaid : Prop := zfacAllRow.holds Tryz.pinned (OpenSpec.ofChange zfacAllSpec)

/-- ITS FALSE NEIGHBOUR: 'it returns false'. Refute it at one input. -/
def zfacAllWrong : ChangeSpec := { name := "zfacAll", fn := fun _ => fun
  | [d1, d2] => { results := [.lit (.bool false)], args := [d1, d2] }
  | _ => none }
def ZfacAllWrongFalsely : Prop := zfacAllRow.holds Tryz.pinned (OpenSpec.ofChange zfacAllWrong)

/-- 'cleaverlaw16.ZfacProduct': WHATEVER THE INPUT: true; the input reads as it did. -/
def zfacProductSpec : ChangeSpec := { name := "zfacProduct", fn := fun _ => fun
  | [d1, d2] => { results := [.lit (.bool true)], args := [d1, d2] }
  | _ => none }
def zfacProductRow : OpenClaim := { program := "ytmggkmchbdanfaagreat", sum := "500614d47d63d6ff0beb271def3708312624ce28d21bd5d4fc077bd34e538972", func := "cleaver/cleaverlaw16.ZfacProduct", spec := "zfacProduct", inPlace := ["math/bits.Add64", "math/bits.Sub64", "internal/abi.NoEscape", "internal/bytealg.MakeNoZero"], unfollowed := true, recurses := true, named := ["math/bits.divideError", "math/bits.overflowError"], apart := false }
def ZfacProductSaid : Prop := zfacProductRow.holds Tryz.pinned (OpenSpec.ofChange zfacProductSpec)

/-- ITS FALSE NEIGHBOUR: 'it returns false'. Refute it at one input. -/
def zfacProductWrong : ChangeSpec := { name := "zfacProduct", fn := fun _ => fun
  | [d1, d2] => { results := [.lit (.bool false)], args := [d1, d2] }
  | _ => none }
def ZfacProductWrongFalsely : Prop := zfacProductRow.holds Tryz.pinned (OpenSpec.ofChange zfacProductWrong)

/-- 'cleaverlaw16.ZfacBoth': WHATEVER THE INPUT: true; the input reads as it did. -/
def zfacBothSpec : ChangeSpec := { name := "zfacBoth", fn := fun _ => fun
  | [d1, d2] => { results := [.lit (.bool true)], args := [d1, d2] }
  | _ => none }
def zfacBothRow : OpenClaim := { program := "ytmggkmchbdanfaagreat", sum := "500614d47d63d6ff0beb271def3708312624ce28d21bd5d4fc077bd34e538972", func := "cleaver/cleaverlaw16.ZfacBoth", spec := "zfacBoth", inPlace := ["math/bits.Add64", "math/bits.Sub64", "internal/abi.NoEscape", "internal/bytealg.MakeNoZero"], unfollowed := true, recurses := true, named := ["math/bits.divideError", "math/bits.overflowError"], apart := false }
def ZfacBothSaid : Prop := zfacBothRow.holds Tryz.pinned (OpenSpec.ofChange zfacBothSpec)

/-- ITS FALSE NEIGHBOUR: 'it returns false'. Refute it at one input. -/
def zfacBothWrong : ChangeSpec := { name := "zfacBoth", fn := fun _ => fun
  | [d1, d2] => { results := [.lit (.bool false)], args := [d1, d2] }
  | _ => none }
def ZfacBothWrongFalsely : Prop := zfacBothRow.holds Tryz.pinned (OpenSpec.ofChange zfacBothWrong)

/-- 'cleaverlaw16.ZfacDraws': WHATEVER THE INPUT: true; the input reads as it did. -/
def zfacDrawsSpec : ChangeSpec := { name := "zfacDraws", fn := fun _ => fun
  | [d1, d2, d3] => { results := [.lit (.bool true)], args := [d1, d2, d3] }
  | _ => none }
def zfacDrawsRow : OpenClaim := { program := "ytmggkmchbdanfaagreat", sum := "500614d47d63d6ff0beb271def3708312624ce28d21bd5d4fc077bd34e538972", func := "cleaver/cleaverlaw16.ZfacDraws", spec := "zfacDraws", inPlace := ["math/bits.Add64", "math/bits.Sub64", "internal/abi.NoEscape", "internal/bytealg.MakeNoZero"], unfollowed := true, recurses := true, named := ["math/bits.divideError", "math/bits.overflowError"], apart := false }
def ZfacDrawsSaid : Prop := zfacDrawsRow.holds Tryz.pinned (OpenSpec.ofChange zfacDrawsSpec)

/-- ITS FALSE NEIGHBOUR: 'it returns false'. Refute it at one input. -/
def zfacDrawsWrong : ChangeSpec := { name := "zfacDraws", fn := fun _ => fun
  | [d1, d2, d3] => { results := [.lit (.bool false)], args := [d1, d2, d3] }
  | _ => none }
def ZfacDrawsWrongFalsely : Prop := zfacDrawsRow.holds Tryz.pinned (OpenSpec.ofChange zfacDrawsWrong)

/-- 'cleaverlaw16.ZfacRoots': WHATEVER THE INPUT: true; the input reads as it did. -/
def zfacRootsSpec : ChangeSpec := { name := "zfacRoots", fn := fun _ => fun
  | [d1, d2] => { results := [.lit (.bool true)], args := [d1, d2] }
  | _ => none }
def zfacRootsRow : OpenClaim := { program := "ytmggkmchbdanfaagreat", sum := "500614d47d63d6ff0beb271def3708312624ce28d21bd5d4fc077bd34e538972", func := "cleaver/cleaverlaw16.ZfacRoots", spec := "zfacRoots", inPlace := ["math/bits.Add64", "math/bits.Sub64", "internal/abi.NoEscape", "internal/bytealg.MakeNoZero"], unfollowed := true, recurses := true, named := ["math/bits.divideError", "math/bits.overflowError"], apart := false }
def ZfacRootsSaid : Prop := zfacRootsRow.holds Tryz.pinned (OpenSpec.ofChange zfacRootsSpec)

/-- ITS FALSE NEIGHBOUR: 'it returns false'. Refute it at one input. -/
def zfacRootsWrong : ChangeSpec := { name := "zfacRoots", fn := fun _ => fun
  | [d1, d2] => { results := [.lit (.bool false)], args := [d1, d2] }
  | _ => none }
def ZfacRootsWrongFalsely : Prop := zfacRootsRow.holds Tryz.pinned (OpenSpec.ofChange zfacRootsWrong)

/-- 'cleaverlaw16.ZfacUnity': WHATEVER THE INPUT: true; the input reads as it did. -/
def zfacUnitySpec : ChangeSpec := { name := "zfacUnity", fn := fun _ => fun
  | [d] => { results := [.lit (.bool true)], args := [d] }
  | _ => none }
def zfacUnityRow : OpenClaim := { program := "ytmggkmchbdanfaagreat", sum := "500614d47d63d6ff0beb271def3708312624ce28d21bd5d4fc077bd34e538972", func := "cleaver/cleaverlaw16.ZfacUnity", spec := "zfacUnity", inPlace := ["math/bits.Add64", "math/bits.Sub64", "internal/abi.NoEscape", "internal/bytealg.MakeNoZero"], unfollowed := true, recurses := true, named := ["math/bits.divideError", "math/bits.overflowError"], apart := false }
def ZfacUnitySaid : Prop := zfacUnityRow.holds Tryz.pinned (OpenSpec.ofChange zfacUnitySpec)

/-- ITS FALSE NEIGHBOUR: 'it returns false'. Refute it at one input. -/
def zfacUnityWrong : ChangeSpec := { name := "zfacUnity", fn := fun _ => fun
  | [d] => { results := [.lit (.bool false)], args := [d] }
  | _ => none }
def ZfacUnityWrongFalsely : Prop := zfacUnityRow.holds Tryz.pinned (OpenSpec.ofChange zfacUnityWrong)

/-- 'cleaverlaw16.ZfacRefuses': WHATEVER THE INPUT: true; the input reads as it did. -/
def zfacRefusesSpec : ChangeSpec := { name := "zfacRefuses", fn := fun _ => fun
  | [d1, d2, d3] => { results := [.lit (.bool true)], args := [d1, d2, d3] }
  | _ => none }
def zfacRefusesRow : OpenClaim := { program := "ytmggkmchbdanfaagreat", sum := "500614d47d63d6ff0beb271def3708312624ce28d21bd5d4fc077bd34e538972", func := "cleaver/cleaverlaw16.ZfacRefuses", spec := "zfacRefuses", inPlace := ["math/bits.Add64", "math/bits.Sub64", "internal/abi.NoEscape", "internal/bytealg.MakeNoZero"], unfollowed := true, recurses := true, named := ["math/bits.divideError", "math/bits.overflowError"], apart := false }
def ZfacRefusesSaid : Prop := zfacRefusesRow.holds Tryz.pinned (OpenSpec.ofChange zfacRefusesSpec)

/-- ITS FALSE NEIGHBOUR: 'it returns false'. Refute it at one input. -/
def zfacRefusesWrong : ChangeSpec := { name := "zfacRefuses", fn := fun _ => fun
  | [d1, d2, d3] => { results := [.lit (.bool false)], args := [d1, d2, d3] }
  | _ => none }
def ZfacRefusesWrongFalsely : Prop := zfacRefusesRow.holds Tryz.pinned (OpenSpec.ofChange zfacRefusesWrong)

/-- 'cleaverlaw21.NpolyNone': WHATEVER THE INPUT: true; the input reads as it did. -/
def npolyNoneSpec : ChangeSpec := { name := "npolyNone", fn := fun _ => fun
  | [d1, d2, d3] => { results := [.lit (.bool true)], args := [d1, d2, d3] }
  | _ => none }
def npolyNoneRow : OpenClaim := { program := "ytmggkmchbdanfaagreat", sum := "500614d47d63d6ff0beb271def3708312624ce28d21bd5d4fc077bd34e538972", func := "cleaver/cleaverlaw21.NpolyNone", spec := "npolyNone", inPlace := ["math/bits.Add64", "math/bits.Sub64"], unfollowed := true, recurses := true, named := ["math/bits.divideError", "math/bits.overflowError"], apart := false }
def NpolyNoneSaid : Prop := npolyNoneRow.holds Tryz.pinned (OpenSpec.ofChange npolyNoneSpec)

/-- ITS FALSE NEIGHBOUR: 'it returns false'. Refute it at one input. -/
def npolyNoneWrong : ChangeSpec := { name := "npolyNone", fn := fun _ => fun
  | [d1, d2, d3] => { results := [.lit (.bool false)], args := [d1, d2, d3] }
  | _ => none }
def NpolyNoneWrongFalsely : Prop := npolyNoneRow.holds Tryz.pinned (OpenSpec.ofChange npolyNoneWrong)

/-- 'cleaverlaw20.FieldNone': WHATEVER THE INPUT: true; the input reads as it did. -/
def fieldNoneSpec : ChangeSpec := { name := "fieldNone", fn := fun _ => fun
  | [d1, d2] => { results := [.lit (.bool true)], args := [d1, d2] }
  | _ => none }
def fieldNoneRow : OpenClaim := { program := "ytmggkmchbdanfaagreat", sum := "500614d47d63d6ff0beb271def3708312624ce28d21bd5d4fc077bd34e538972", func := "cleaver/cleaverlaw20.FieldNone", spec := "fieldNone", inPlace := ["math/bits.Add64", "math/bits.Sub64", "internal/abi.NoEscape", "internal/bytealg.MakeNoZero"], unfollowed := true, recurses := true, named := ["math/bits.divideError", "math/bits.overflowError"], apart := false }
def FieldNoneSaid : Prop := fieldNoneRow.holds Tryz.pinned (OpenSpec.ofChange fieldNoneSpec)

/-- ITS FALSE NEIGHBOUR: 'it returns false'. Refute it at one input. -/
def fieldNoneWrong : ChangeSpec := { name := "fieldNone", fn := fun _ => fun
  | [d1, d2] => { results := [.lit (.bool false)], args := [d1, d2] }
  | _ => none }
def FieldNoneWrongFalsely : Prop := fieldNoneRow.holds Tryz.pinned (OpenSpec.ofChange fieldNoneWrong)

/- THE SECOND FORM. 'bulk': how many values and letters a reading holds, each counted each time it is reached (what is shared counts as often as it is met; a slice's spare places count too). A statement '..UptoSaid' is the law's where the arguments, and the package variables that the reading takes, are together of bulk at most 1048576: NARROWER than '..Said'. Prove '..Said' where nothing that the law and all that it calls make is longer than what came in: it says more and counts as full. Else prove '..UptoSaid'. A law counts once. -/
mutual
def uptoBulk {H : Type} : DataW H → Nat
  | .lit (.string bytes) => bytes.length + 1
  | .lit _ => 1
  | .nil => 1
  | .ptr d => uptoBulk d + 1
  | .slice elems spare => uptoBulkAll elems + uptoBulkAll spare + 1
  | .agg parts => uptoBulkAll parts + 1
  | .iface _ d => uptoBulk d + 1
  | .map entries => uptoBulkEntries entries + 1
  | .held _ => 1
def uptoBulkAll {H : Type} : List (DataW H) → Nat
  | [] => 0
  | d :: r => uptoBulk d + uptoBulkAll r
def uptoBulkEntries {H : Type} : List (Lit × DataW H) → Nat
  | [] => 0
  | x :: r => uptoBulkEntry x + uptoBulkEntries r
def uptoBulkEntry {H : Type} : Lit × DataW H → Nat
  | (.string bytes, d) => bytes.length + uptoBulk d + 1
  | (_, d) => uptoBulk d + 1
 end
def uptoSmall : (H : Type) → List (DataW H) → Bool := fun _ ds => decide (uptoBulkAll ds ≤ 1048576)
def OpenSpec.upto (s : _root_.Go.ChangeSpec) : _root_.Go.OpenSpec := { _root_.Go.OpenSpec.ofChange s with cond := some uptoSmall }

/-- 'cleaverlaw16.ZfacAll', WHERE WHAT IT READS IS OF BULK AT MOST 1048576: true; the input reads as it did. -/
def zfacAllUptoRow : OpenClaim := { program := "ytmggkmchbdanfaagreat", sum := "500614d47d63d6ff0beb271def3708312624ce28d21bd5d4fc077bd34e538972", func := "cleaver/cleaverlaw16.ZfacAll", spec := "zfacAll", inPlace := ["math/bits.Add64", "math/bits.Sub64", "internal/abi.NoEscape", "internal/bytealg.MakeNoZero"], unfollowed := true, recurses := true, named := ["math/bits.divideError", "math/bits.overflowError"], apart := false, narrowed := true }
def ZfacAllUptoSaid : Prop := zfacAllUptoRow.holds Tryz.pinned (OpenSpec.upto zfacAllSpec)

/-- 'cleaverlaw16.ZfacProduct', WHERE WHAT IT READS IS OF BULK AT MOST 1048576: true; the input reads as it did. -/
def zfacProductUptoRow : OpenClaim := { program := "ytmggkmchbdanfaagreat", sum := "500614d47d63d6ff0beb271def3708312624ce28d21bd5d4fc077bd34e538972", func := "cleaver/cleaverlaw16.ZfacProduct", spec := "zfacProduct", inPlace := ["math/bits.Add64", "math/bits.Sub64", "internal/abi.NoEscape", "internal/bytealg.MakeNoZero"], unfollowed := true, recurses := true, named := ["math/bits.divideError", "math/bits.overflowError"], apart := false, narrowed := true }
def ZfacProductUptoSaid : Prop := zfacProductUptoRow.holds Tryz.pinned (OpenSpec.upto zfacProductSpec)

/-- 'cleaverlaw16.ZfacBoth', WHERE WHAT IT READS IS OF BULK AT MOST 1048576: true; the input reads as it did. -/
def zfacBothUptoRow : OpenClaim := { program := "ytmggkmchbdanfaagreat", sum := "500614d47d63d6ff0beb271def3708312624ce28d21bd5d4fc077bd34e538972", func := "cleaver/cleaverlaw16.ZfacBoth", spec := "zfacBoth", inPlace := ["math/bits.Add64", "math/bits.Sub64", "internal/abi.NoEscape", "internal/bytealg.MakeNoZero"], unfollowed := true, recurses := true, named := ["math/bits.divideError", "math/bits.overflowError"], apart := false, narrowed := true }
def ZfacBothUptoSaid : Prop := zfacBothUptoRow.holds Tryz.pinned (OpenSpec.upto zfacBothSpec)

/-- 'cleaverlaw16.ZfacDraws', WHERE WHAT IT READS IS OF BULK AT MOST 1048576: true; the input reads as it did. -/
def zfacDrawsUptoRow : OpenClaim := { program := "ytmggkmchbdanfaagreat", sum := "500614d47d63d6ff0beb271def3708312624ce28d21bd5d4fc077bd34e538972", func := "cleaver/cleaverlaw16.ZfacDraws", spec := "zfacDraws", inPlace := ["math/bits.Add64", "math/bits.Sub64", "internal/abi.NoEscape", "internal/bytealg.MakeNoZero"], unfollowed := true, recurses := true, named := ["math/bits.divideError", "math/bits.overflowError"], apart := false, narrowed := true }
def ZfacDrawsUptoSaid : Prop := zfacDrawsUptoRow.holds Tryz.pinned (OpenSpec.upto zfacDrawsSpec)

/-- 'cleaverlaw16.ZfacRoots', WHERE WHAT IT READS IS OF BULK AT MOST 1048576: true; the input reads as it did. -/
def zfacRootsUptoRow : OpenClaim := { program := "ytmggkmchbdanfaagreat", sum := "500614d47d63d6ff0beb271def3708312624ce28d21bd5d4fc077bd34e538972", func := "cleaver/cleaverlaw16.ZfacRoots", spec := "zfacRoots", inPlace := ["math/bits.Add64", "math/bits.Sub64", "internal/abi.NoEscape", "internal/bytealg.MakeNoZero"], unfollowed := true, recurses := true, named := ["math/bits.divideError", "math/bits.overflowError"], apart := false, narrowed := true }
def ZfacRootsUptoSaid : Prop := zfacRootsUptoRow.holds Tryz.pinned (OpenSpec.upto zfacRootsSpec)

/-- 'cleaverlaw16.ZfacUnity', WHERE WHAT IT READS IS OF BULK AT MOST 1048576: true; the input reads as it did. -/
def zfacUnityUptoRow : OpenClaim := { program := "ytmggkmchbdanfaagreat", sum := "500614d47d63d6ff0beb271def3708312624ce28d21bd5d4fc077bd34e538972", func := "cleaver/cleaverlaw16.ZfacUnity", spec := "zfacUnity", inPlace := ["math/bits.Add64", "math/bits.Sub64", "internal/abi.NoEscape", "internal/bytealg.MakeNoZero"], unfollowed := true, recurses := true, named := ["math/bits.divideError", "math/bits.overflowError"], apart := false, narrowed := true }
def ZfacUnityUptoSaid : Prop := zfacUnityUptoRow.holds Tryz.pinned (OpenSpec.upto zfacUnitySpec)

/-- 'cleaverlaw16.ZfacRefuses', WHERE WHAT IT READS IS OF BULK AT MOST 1048576: true; the input reads as it did. -/
def zfacRefusesUptoRow : OpenClaim := { program := "ytmggkmchbdanfaagreat", sum := "500614d47d63d6ff0beb271def3708312624ce28d21bd5d4fc077bd34e538972", func := "cleaver/cleaverlaw16.ZfacRefuses", spec := "zfacRefuses", inPlace := ["math/bits.Add64", "math/bits.Sub64", "internal/abi.NoEscape", "internal/bytealg.MakeNoZero"], unfollowed := true, recurses := true, named := ["math/bits.divideError", "math/bits.overflowError"], apart := false, narrowed := true }
def ZfacRefusesUptoSaid : Prop := zfacRefusesUptoRow.holds Tryz.pinned (OpenSpec.upto zfacRefusesSpec)

/-- 'cleaverlaw21.NpolyNone', WHERE WHAT IT READS IS OF BULK AT MOST 1048576: true; the input reads as it did. -/
def npolyNoneUptoRow : OpenClaim := { program := "ytmggkmchbdanfaagreat", sum := "500614d47d63d6ff0beb271def3708312624ce28d21bd5d4fc077bd34e538972", func := "cleaver/cleaverlaw21.NpolyNone", spec := "npolyNone", inPlace := ["math/bits.Add64", "math/bits.Sub64"], unfollowed := true, recurses := true, named := ["math/bits.divideError", "math/bits.overflowError"], apart := false, narrowed := true }
def NpolyNoneUptoSaid : Prop := npolyNoneUptoRow.holds Tryz.pinned (OpenSpec.upto npolyNoneSpec)

/-- 'cleaverlaw20.FieldNone', WHERE WHAT IT READS IS OF BULK AT MOST 1048576: true; the input reads as it did. -/
def fieldNoneUptoRow : OpenClaim := { program := "ytmggkmchbdanfaagreat", sum := "500614d47d63d6ff0beb271def3708312624ce28d21bd5d4fc077bd34e538972", func := "cleaver/cleaverlaw20.FieldNone", spec := "fieldNone", inPlace := ["math/bits.Add64", "math/bits.Sub64", "internal/abi.NoEscape", "internal/bytealg.MakeNoZero"], unfollowed := true, recurses := true, named := ["math/bits.divideError", "math/bits.overflowError"], apart := false, narrowed := true }
def FieldNoneUptoSaid : Prop := fieldNoneUptoRow.holds Tryz.pinned (OpenSpec.upto fieldNoneSpec)

end Rows
end Go.Proofs.YtmggkmchbdanfaaGreat
