/-
  No cell of these rows narrows 'for every input' (looked for: loops, veiled, ifaces, maps, wideKeys, modest, calm, conditions, laid).
  DERIVED. THE GIVEN ROWS OF THIS SEAT. 8 by the template 'for every input the law returns true; each argument reads behind the call as it read before'; 0 by the template 'total and deterministic' (their statements: YtoegnnjcmlghhaaGreatTotals.lean).
  GIVEN WITH THE SEED: the statements are not yours to turn. If you find one false, say at which input.
  Laid BY PROGRAM, IN A SANDBOX (cutbox-rows.mjs): the forced cells as the released guide's own fill.sh prints them over the translation f1de013c8038eee0… (all of the seat's roots in one cut). By AI agents, Wed Nov 11 2026. No macro, syntax, notation, axiom, sorry.
-/
import Derived.Test.YtoegnnjcmlghhaaGreatChecked
import GoSem.Claim
import GoSem.ClaimJoined
import GoSem.ClaimMapViews
import Derived.JoinedTies
import Derived.KernelRfl
namespace Go.Proofs.YtoegnnjcmlghhaaGreat
/- THE CELL 'sum', in the pinned program and in every row, IS THE sha256 OF THE DUMP (.gsa) THAT YtoegnnjcmlghhaaGreatProg.lean LOADS. Nothing in Lean hashes anything: it is a label: what it is worth is what the hold of that sum in a sandbox is worth. -/
noncomputable def Tryz.pinned : Pinned := { name := "ytoegnnjcmlghhaagreat", sum := "f1de013c8038eee04092ddf02950d3d9922cefdd37c2b8a0f15d9e9588871cfd", checked := Tryz.checked }
namespace Rows
def none {H : Type} : Left H := { results := [], args := [] }

/-- 'cleaverlaw21.NpolyDivides': WHATEVER THE INPUT: true; the input reads as it did. -/
def npolyDividesSpec : ChangeSpec := { name := "npolyDivides", fn := fun _ => fun
  | [d1, d2, d3] => { results := [.lit (.bool true)], args := [d1, d2, d3] }
  | _ => none }
def npolyDividesRow : OpenClaim := { program := "ytoegnnjcmlghhaagreat", sum := "f1de013c8038eee04092ddf02950d3d9922cefdd37c2b8a0f15d9e9588871cfd", func := "cleaver/cleaverlaw21.NpolyDivides", spec := "npolyDivides", inPlace := ["math/bits.Add64", "math/bits.Sub64"], unfollowed := true, recurses := true, named := ["math/bits.divideError", "math/bits.overflowError"], apart := false }
def NpolyDividesSaid : Prop := npolyDividesRow.holds Tryz.pinned (OpenSpec.ofChange npolyDividesSpec)

/-- ITS FALSE NEIGHBOUR: 'it returns false'. Refute it at one input. -/
def npolyDividesWrong : ChangeSpec := { name := "npolyDivides", fn := fun _ => fun
  | [d1, d2, d3] => { results := [.lit (.bool false)], args := [d1, d2, d3] }
  | _ => none }
def NpolyDividesWrongFalsely : Prop := npolyDividesRow.holds Tryz.pinned (OpenSpec.ofChange npolyDividesWrong)

/-- 'cleaverlaw21.NpolyMore': WHATEVER THE INPUT: true; the input reads as it did. -/
def npolyMoreSpec : ChangeSpec := { name := "npolyMore", fn := fun _ => fun
  | [d1, d2, d3, d4] => { results := [.lit (.bool true)], args := [d1, d2, d3, d4] }
  | _ => none }
def npolyMoreRow : OpenClaim := { program := "ytoegnnjcmlghhaagreat", sum := "f1de013c8038eee04092ddf02950d3d9922cefdd37c2b8a0f15d9e9588871cfd", func := "cleaver/cleaverlaw21.NpolyMore", spec := "npolyMore", inPlace := ["math/bits.Add64", "math/bits.Sub64"], unfollowed := true, recurses := true, named := ["math/bits.divideError", "math/bits.overflowError"], apart := false }
def NpolyMoreSaid : Prop := npolyMoreRow.holds Tryz.pinned (OpenSpec.ofChange npolyMoreSpec)

/-- ITS FALSE NEIGHBOUR: 'it returns false'. Refute it at one input. -/
def npolyMoreWrong : ChangeSpec := { name := "npolyMore", fn := fun _ => fun
  | [d1, d2, d3, d4] => { results := [.lit (.bool false)], args := [d1, d2, d3, d4] }
  | _ => none }
def NpolyMoreWrongFalsely : Prop := npolyMoreRow.holds Tryz.pinned (OpenSpec.ofChange npolyMoreWrong)

/-- 'cleaverlaw21.NpolyRest': WHATEVER THE INPUT: true; the input reads as it did. -/
def npolyRestSpec : ChangeSpec := { name := "npolyRest", fn := fun _ => fun
  | [d1, d2, d3] => { results := [.lit (.bool true)], args := [d1, d2, d3] }
  | _ => none }
def npolyRestRow : OpenClaim := { program := "ytoegnnjcmlghhaagreat", sum := "f1de013c8038eee04092ddf02950d3d9922cefdd37c2b8a0f15d9e9588871cfd", func := "cleaver/cleaverlaw21.NpolyRest", spec := "npolyRest", inPlace := ["math/bits.Add64", "math/bits.Sub64"], unfollowed := true, recurses := true, named := ["math/bits.divideError", "math/bits.overflowError"], apart := false }
def NpolyRestSaid : Prop := npolyRestRow.holds Tryz.pinned (OpenSpec.ofChange npolyRestSpec)

/-- ITS FALSE NEIGHBOUR: 'it returns false'. Refute it at one input. -/
def npolyRestWrong : ChangeSpec := { name := "npolyRest", fn := fun _ => fun
  | [d1, d2, d3] => { results := [.lit (.bool false)], args := [d1, d2, d3] }
  | _ => none }
def NpolyRestWrongFalsely : Prop := npolyRestRow.holds Tryz.pinned (OpenSpec.ofChange npolyRestWrong)

/-- 'cleaverlaw21.NpolyRing': WHATEVER THE INPUT: true; the input reads as it did. -/
def npolyRingSpec : ChangeSpec := { name := "npolyRing", fn := fun _ => fun
  | [d1, d2, d3, d4] => { results := [.lit (.bool true)], args := [d1, d2, d3, d4] }
  | _ => none }
def npolyRingRow : OpenClaim := { program := "ytoegnnjcmlghhaagreat", sum := "f1de013c8038eee04092ddf02950d3d9922cefdd37c2b8a0f15d9e9588871cfd", func := "cleaver/cleaverlaw21.NpolyRing", spec := "npolyRing", inPlace := ["math/bits.Add64", "math/bits.Sub64"], unfollowed := true, recurses := true, named := ["math/bits.divideError", "math/bits.overflowError"], apart := false }
def NpolyRingSaid : Prop := npolyRingRow.holds Tryz.pinned (OpenSpec.ofChange npolyRingSpec)

/-- ITS FALSE NEIGHBOUR: 'it returns false'. Refute it at one input. -/
def npolyRingWrong : ChangeSpec := { name := "npolyRing", fn := fun _ => fun
  | [d1, d2, d3, d4] => { results := [.lit (.bool false)], args := [d1, d2, d3, d4] }
  | _ => none }
def NpolyRingWrongFalsely : Prop := npolyRingRow.holds Tryz.pinned (OpenSpec.ofChange npolyRingWrong)

/-- 'cleaverlaw21.NpolyAdds': WHATEVER THE INPUT: true; the input reads as it did. -/
def npolyAddsSpec : ChangeSpec := { name := "npolyAdds", fn := fun _ => fun
  | [d1, d2, d3, d4] => { results := [.lit (.bool true)], args := [d1, d2, d3, d4] }
  | _ => none }
def npolyAddsRow : OpenClaim := { program := "ytoegnnjcmlghhaagreat", sum := "f1de013c8038eee04092ddf02950d3d9922cefdd37c2b8a0f15d9e9588871cfd", func := "cleaver/cleaverlaw21.NpolyAdds", spec := "npolyAdds", inPlace := ["math/bits.Add64", "math/bits.Sub64"], unfollowed := true, recurses := true, named := ["math/bits.divideError", "math/bits.overflowError"], apart := false }
def NpolyAddsSaid : Prop := npolyAddsRow.holds Tryz.pinned (OpenSpec.ofChange npolyAddsSpec)

/-- ITS FALSE NEIGHBOUR: 'it returns false'. Refute it at one input. -/
def npolyAddsWrong : ChangeSpec := { name := "npolyAdds", fn := fun _ => fun
  | [d1, d2, d3, d4] => { results := [.lit (.bool false)], args := [d1, d2, d3, d4] }
  | _ => none }
def NpolyAddsWrongFalsely : Prop := npolyAddsRow.holds Tryz.pinned (OpenSpec.ofChange npolyAddsWrong)

/-- 'cleaverlaw20.FieldMakes': WHATEVER THE INPUT: true; the input reads as it did. -/
def fieldMakesSpec : ChangeSpec := { name := "fieldMakes", fn := fun _ => fun
  | [d] => { results := [.lit (.bool true)], args := [d] }
  | _ => none }
def fieldMakesRow : OpenClaim := { program := "ytoegnnjcmlghhaagreat", sum := "f1de013c8038eee04092ddf02950d3d9922cefdd37c2b8a0f15d9e9588871cfd", func := "cleaver/cleaverlaw20.FieldMakes", spec := "fieldMakes", inPlace := ["math/bits.Add64", "math/bits.Sub64", "internal/abi.NoEscape", "internal/bytealg.MakeNoZero"], unfollowed := true, recurses := true, named := ["math/bits.divideError", "math/bits.overflowError"], apart := false }
def FieldMakesSaid : Prop := fieldMakesRow.holds Tryz.pinned (OpenSpec.ofChange fieldMakesSpec)

/-- ITS FALSE NEIGHBOUR: 'it returns false'. Refute it at one input. -/
def fieldMakesWrong : ChangeSpec := { name := "fieldMakes", fn := fun _ => fun
  | [d] => { results := [.lit (.bool false)], args := [d] }
  | _ => none }
def FieldMakesWrongFalsely : Prop := fieldMakesRow.holds Tryz.pinned (OpenSpec.ofChange fieldMakesWrong)

/-- 'cleaverlaw20.FieldLengths': WHATEVER THE INPUT: true; the input reads as it did. -/
def fieldLengthsSpec : ChangeSpec := { name := "fieldLengths", fn := fun _ => fun
  | [d1, d2, d3, d4] => { results := [.lit (.bool true)], args := [d1, d2, d3, d4] }
  | _ => none }
def fieldLengthsRow : OpenClaim := { program := "ytoegnnjcmlghhaagreat", sum := "f1de013c8038eee04092ddf02950d3d9922cefdd37c2b8a0f15d9e9588871cfd", func := "cleaver/cleaverlaw20.FieldLengths", spec := "fieldLengths", inPlace := ["math/bits.Add64", "math/bits.Sub64", "internal/abi.NoEscape", "internal/bytealg.MakeNoZero"], unfollowed := true, recurses := true, named := ["math/bits.divideError", "math/bits.overflowError"], apart := false }
def FieldLengthsSaid : Prop := fieldLengthsRow.holds Tryz.pinned (OpenSpec.ofChange fieldLengthsSpec)

/-- ITS FALSE NEIGHBOUR: 'it returns false'. Refute it at one input. -/
def fieldLengthsWrong : ChangeSpec := { name := "fieldLengths", fn := fun _ => fun
  | [d1, d2, d3, d4] => { results := [.lit (.bool false)], args := [d1, d2, d3, d4] }
  | _ => none }
def FieldLengthsWrongFalsely : Prop := fieldLengthsRow.holds Tryz.pinned (OpenSpec.ofChange fieldLengthsWrong)

/-- 'cleaverlaw20.FieldRing': WHATEVER THE INPUT: true; the input reads as it did. -/
def fieldRingSpec : ChangeSpec := { name := "fieldRing", fn := fun _ => fun
  | [d1, d2, d3, d4] => { results := [.lit (.bool true)], args := [d1, d2, d3, d4] }
  | _ => none }
def fieldRingRow : OpenClaim := { program := "ytoegnnjcmlghhaagreat", sum := "f1de013c8038eee04092ddf02950d3d9922cefdd37c2b8a0f15d9e9588871cfd", func := "cleaver/cleaverlaw20.FieldRing", spec := "fieldRing", inPlace := ["math/bits.Add64", "math/bits.Sub64", "internal/abi.NoEscape", "internal/bytealg.MakeNoZero"], unfollowed := true, recurses := true, named := ["math/bits.divideError", "math/bits.overflowError"], apart := false }
def FieldRingSaid : Prop := fieldRingRow.holds Tryz.pinned (OpenSpec.ofChange fieldRingSpec)

/-- ITS FALSE NEIGHBOUR: 'it returns false'. Refute it at one input. -/
def fieldRingWrong : ChangeSpec := { name := "fieldRing", fn := fun _ => fun
  | [d1, d2, d3, d4] => { results := [.lit (.bool false)], args := [d1, d2, d3, d4] }
  | _ => none }
def FieldRingWrongFalsely : Prop := fieldRingRow.holds Tryz.pinned (OpenSpec.ofChange fieldRingWrong)

/- THE SECOND FORM. 'bulk': how many values and letters a reading holds, each counted each time it is reached (what is shared counts as often as it is met; a slice's spare places count too). A statement '..UptoSaid' is the law's where the arguments, and the package variables that the reading takes, are together of bulk at most 1048576: NARROWER than '..Said'. Prove '..Said' where nothing that the law and all that it calls make is longer than what came in: it says more and counts as full. Else prove '..UptoSaid'. A law counts once. -/
mutual
def uptoBulk {H : Type} : DataW H → Nat
  | .lit (.string bytes) => bytes.length + 1
  | .lit _ => 1
  | .nil => 1
  | .ptr d => uptoBulk d + 1
  | .slice elems spare => uptoBulkAll elems + uptoBulkAll spare + 1
  | .agg parts => uptoBulkAll parts + 1
  | .iface _ d => uptoBulk d + 1
  | .map entries => uptoBulkEntries entries + 1
  | .held _ => 1
def uptoBulkAll {H : Type} : List (DataW H) → Nat
  | [] => 0
  | d :: r => uptoBulk d + uptoBulkAll r
def uptoBulkEntries {H : Type} : List (Lit × DataW H) → Nat
  | [] => 0
  | x :: r => uptoBulkEntry x + uptoBulkEntries r
def uptoBulkEntry {H : Type} : Lit × DataW H → Nat
  | (.string bytes, d) => bytes.length + uptoBulk d + 1
  | (_, d) => uptoBulk d + 1
 end
def uptoSmall : (H : Type) → List (DataW H) → Bool := fun _ ds => decide (uptoBulkAll ds ≤ 1048576)
def OpenSpec.upto (s : _root_.Go.ChangeSpec) : _root_.Go.OpenSpec := { _root_.Go.OpenSpec.ofChange s with cond := some uptoSmall }

/-- 'cleaverlaw21.NpolyDivides', WHERE WHAT IT READS IS OF BULK AT MOST 1048576: true; the input reads as it did. -/
def npolyDividesUptoRow : OpenClaim := { program := "ytoegnnjcmlghhaagreat", sum := "f1de013c8038eee04092ddf02950d3d9922cefdd37c2b8a0f15d9e9588871cfd", func := "cleaver/cleaverlaw21.NpolyDivides", spec := "npolyDivides", inPlace := ["math/bits.Add64", "math/bits.Sub64"], unfollowed := true, recurses := true, named := ["math/bits.divideError", "math/bits.overflowError"], apart := false, narrowed := true }
def NpolyDividesUptoSaid : Prop := npolyDividesUptoRow.holds Tryz.pinned (OpenSpec.upto npolyDividesSpec)

/-- 'cleaverlaw21.NpolyMore', WHERE WHAT IT READS IS OF BULK AT MOST 1048576: true; the input reads as it did. -/
def npolyMoreUptoRow : OpenClaim := { program := "ytoegnnjcmlghhaagreat", sum := "f1de013c8038eee04092ddf02950d3d9922cefdd37c2b8a0f15d9e9588871cfd", func := "cleaver/cleaverlaw21.NpolyMore", spec := "npolyMore", inPlace := ["math/bits.Add64", "math/bits.Sub64"], unfollowed := true, recurses := true, named := ["math/bits.divideError", "math/bits.overflowError"], apart := false, narrowed := true }
def NpolyMoreUptoSaid : Prop := npolyMoreUptoRow.holds Tryz.pinned (OpenSpec.upto npolyMoreSpec)

/-- 'cleaverlaw21.NpolyRest', WHERE WHAT IT READS IS OF BULK AT MOST 1048576: true; the input reads as it did. -/
def npolyRestUptoRow : OpenClaim := { program := "ytoegnnjcmlghhaagreat", sum := "f1de013c8038eee04092ddf02950d3d9922cefdd37c2b8a0f15d9e9588871cfd", func := "cleaver/cleaverlaw21.NpolyRest", spec := "npolyRest", inPlace := ["math/bits.Add64", "math/bits.Sub64"], unfollowed := true, recurses := true, named := ["math/bits.divideError", "math/bits.overflowError"], apart := false, narrowed := true }
def NpolyRestUptoSaid : Prop := npolyRestUptoRow.holds Tryz.pinned (OpenSpec.upto npolyRestSpec)

/-- 'cleaverlaw21.NpolyRing', WHERE WHAT IT READS IS OF BULK AT MOST 1048576: true; the input reads as it did. -/
def npolyRingUptoRow : OpenClaim := { program := "ytoegnnjcmlghhaagreat", sum := "f1de013c8038eee04092ddf02950d3d9922cefdd37c2b8a0f15d9e9588871cfd", func := "cleaver/cleaverlaw21.NpolyRing", spec := "npolyRing", inPlace := ["math/bits.Add64", "math/bits.Sub64"], unfollowed := true, recurses := true, named := ["math/bits.divideError", "math/bits.overflowError"], apart := false, narrowed := true }
def NpolyRingUptoSaid : Prop := npolyRingUptoRow.holds Tryz.pinned (OpenSpec.upto npolyRingSpec)

/-- 'cleaverlaw21.NpolyAdds', WHERE WHAT IT READS IS OF BULK AT MOST 1048576: true; the input reads as it did. -/
def npolyAddsUptoRow : OpenClaim := { program := "ytoegnnjcmlghhaagreat", sum := "f1de013c8038eee04092ddf02950d3d9922cefdd37c2b8a0f15d9e9588871cfd", func := "cleaver/cleaverlaw21.NpolyAdds", spec := "npolyAdds", inPlace := ["math/bits.Add64", "math/bits.Sub64"], unfollowed := true, recurses := true, named := ["math/bits.divideError", "math/bits.overflowError"], apart := false, narrowed := true }
def NpolyAddsUptoSaid : Prop := npolyAddsUptoRow.holds Tryz.pinned (OpenSpec.upto npolyAddsSpec)

/-- 'cleaverlaw20.FieldMakes', WHERE WHAT IT READS IS OF BULK AT MOST 1048576: true; the input reads as it did. -/
def fieldMakesUptoRow : OpenClaim := { program := "ytoegnnjcmlghhaagreat", sum := "f1de013c8038eee04092ddf02950d3d9922cefdd37c2b8a0f15d9e9588871cfd", func := "cleaver/cleaverlaw20.FieldMakes", spec := "fieldMakes", inPlace := ["math/bits.Add64", "math/bits.Sub64", "internal/abi.NoEscape", "internal/bytealg.MakeNoZero"], unfollowed := true, recurses := true, named := ["math/bits.divideError", "math/bits.overflowError"], apart := false, narrowed := true }
def FieldMakesUptoSaid : Prop := fieldMakesUptoRow.holds Tryz.pinned (OpenSpec.upto fieldMakesSpec)

/-- 'cleaverlaw20.FieldLengths', WHERE WHAT IT READS IS OF BULK AT MOST 1048576: true; the input reads as it did. -/
def fieldLengthsUptoRow : OpenClaim := { program := "ytoegnnjcmlghhaagreat", sum := "f1de013c8038eee04092ddf02950d3d9922cefdd37c2b8a0f15d9e9588871cfd", func := "cleaver/cleaverlaw20.FieldLengths", spec := "fieldLengths", inPlace := ["math/bits.Add64", "math/bits.Sub64", "internal/abi.NoEscape", "internal/bytealg.MakeNoZero"], unfollowed := true, recurses := true, named := ["math/bits.divideError", "math/bits.overflowError"], apart := false, narrowed := true }
def FieldLengthsUptoSaid : Prop := fieldLengthsUptoRow.holds Tryz.pinned (OpenSpec.upto fieldLengthsSpec)

/-- 'cleaverlaw20.FieldRing', WHERE WHAT IT READS IS OF BULK AT MOST 1048576: true; the input reads as it did. -/
def fieldRingUptoRow : OpenClaim := { program := "ytoegnnjcmlghhaagreat", sum := "f1de013c8038eee04092ddf02950d3d9922cefdd37c2b8a0f15d9e9588871cfd", func := "cleaver/cleaverlaw20.FieldRing", spec := "fieldRing", inPlace := ["math/bits.Add64", "math/bits.Sub64", "internal/abi.NoEscape", "internal/bytealg.MakeNoZero"], unfollowed := true, recurses := true, named := ["math/bits.divideError", "math/bits.overflowError"], apart := false, narrowed := true }
def FieldRingUptoSaid : Prop := fieldRingUptoRow.holds Tryz.pinned (OpenSpec.upto fieldRingSpec)

end Rows
end Go.Proofs.YtoegnnjcmlghhaaGreat
