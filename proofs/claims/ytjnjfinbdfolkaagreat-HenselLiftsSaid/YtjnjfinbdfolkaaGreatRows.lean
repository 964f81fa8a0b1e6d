/-
  No cell of these rows narrows 'for every input' (looked for: loops, veiled, ifaces, maps, wideKeys, modest, calm, conditions, laid).
  DERIVED. THE GIVEN ROWS OF THIS SEAT. 9 by the template 'for every input the law returns true; each argument reads behind the call as it read before'; 0 by the template 'total and deterministic' (their statements: YtjnjfinbdfolkaaGreatTotals.lean).
  GIVEN WITH THE SEED: the statements are not yours to turn. If you find one false, say at which input.
  Laid BY PROGRAM, IN A SANDBOX (cutbox-rows.mjs): the forced cells as the released guide's own fill.sh prints them over the translation 59d55c7fcf10d11e… (all of the seat's roots in one cut). By AI agents, Wed Nov 11 2026. No macro, syntax, notation, axiom, sorry.
-/
import Derived.Test.YtjnjfinbdfolkaaGreatChecked
import GoSem.Claim
import GoSem.ClaimJoined
import GoSem.ClaimMapViews
import Derived.JoinedTies
import Derived.KernelRfl
namespace Go.Proofs.YtjnjfinbdfolkaaGreat
/- THE CELL 'sum', in the pinned program and in every row, IS THE sha256 OF THE DUMP (.gsa) THAT YtjnjfinbdfolkaaGreatProg.lean LOADS. Nothing in Lean hashes anything: it is a label: what it is worth is what the hold of that sum in a sandbox is worth. -/
noncomputable def Tryz.pinned : Pinned := { name := "ytjnjfinbdfolkaagreat", sum := "59d55c7fcf10d11ef0807a7ffe427c4f46a664a6d9b81b5778493d2b3b88b904", checked := Tryz.checked }
namespace Rows
def none {H : Type} : Left H := { results := [], args := [] }

/-- 'cleaverlaw13.HenselPowers': WHATEVER THE INPUT: true; the input reads as it did. -/
def henselPowersSpec : ChangeSpec := { name := "henselPowers", fn := fun _ => fun
  | [d1, d2] => { results := [.lit (.bool true)], args := [d1, d2] }
  | _ => none }
def henselPowersRow : OpenClaim := { program := "ytjnjfinbdfolkaagreat", sum := "59d55c7fcf10d11ef0807a7ffe427c4f46a664a6d9b81b5778493d2b3b88b904", func := "cleaver/cleaverlaw13.HenselPowers", spec := "henselPowers", inPlace := ["math/bits.Add64", "math/bits.Sub64"], unfollowed := true, recurses := true, named := ["math/bits.divideError", "math/bits.overflowError"], apart := false }
def HenselPowersSaid : Prop := henselPowersRow.holds Tryz.pinned (OpenSpec.ofChange henselPowersSpec)

/-- ITS FALSE NEIGHBOUR: 'it returns false'. Refute it at one input. -/
def henselPowersWrong : ChangeSpec := { name := "henselPowers", fn := fun _ => fun
  | [d1, d2] => { results := [.lit (.bool false)], args := [d1, d2] }
  | _ => none }
def HenselPowersWrongFalsely : Prop := henselPowersRow.holds Tryz.pinned (OpenSpec.ofChange henselPowersWrong)

/-- 'cleaverlaw13.HenselLifts': WHATEVER THE INPUT: true; the input reads as it did. -/
def henselLiftsSpec : ChangeSpec := { name := "henselLifts", fn := fun _ => fun
  | [d1, d2, d3, d4] => { results := [.lit (.bool true)], args := [d1, d2, d3, d4] }
  | _ => none }
def henselLiftsRow : OpenClaim := { program := "ytjnjfinbdfolkaagreat", sum := "59d55c7fcf10d11ef0807a7ffe427c4f46a664a6d9b81b5778493d2b3b88b904", func := "cleaver/cleaverlaw13.HenselLifts", spec := "henselLifts", inPlace := ["math/bits.Add64", "math/bits.Sub64"], unfollowed := true, recurses := true, named := ["math/bits.divideError", "math/bits.overflowError"], apart := false }
def HenselLiftsSaid : Prop := henselLiftsRow.holds Tryz.pinned (OpenSpec.ofChange henselLiftsSpec)

/-- ITS FALSE NEIGHBOUR: 'it returns false'. Refute it at one input. -/
def henselLiftsWrong : ChangeSpec := { name := "henselLifts", fn := fun _ => fun
  | [d1, d2, d3, d4] => { results := [.lit (.bool false)], args := [d1, d2, d3, d4] }
  | _ => none }
def HenselLiftsWrongFalsely : Prop := henselLiftsRow.holds Tryz.pinned (OpenSpec.ofChange henselLiftsWrong)

/-- 'cleaverlaw13.HenselDown': WHATEVER THE INPUT: true; the input reads as it did. -/
def henselDownSpec : ChangeSpec := { name := "henselDown", fn := fun _ => fun
  | [d1, d2, d3, d4, d5] => { results := [.lit (.bool true)], args := [d1, d2, d3, d4, d5] }
  | _ => none }
def henselDownRow : OpenClaim := { program := "ytjnjfinbdfolkaagreat", sum := "59d55c7fcf10d11ef0807a7ffe427c4f46a664a6d9b81b5778493d2b3b88b904", func := "cleaver/cleaverlaw13.HenselDown", spec := "henselDown", inPlace := ["math/bits.Add64", "math/bits.Sub64"], unfollowed := true, recurses := true, named := ["math/bits.divideError", "math/bits.overflowError"], apart := false }
def HenselDownSaid : Prop := henselDownRow.holds Tryz.pinned (OpenSpec.ofChange henselDownSpec)

/-- ITS FALSE NEIGHBOUR: 'it returns false'. Refute it at one input. -/
def henselDownWrong : ChangeSpec := { name := "henselDown", fn := fun _ => fun
  | [d1, d2, d3, d4, d5] => { results := [.lit (.bool false)], args := [d1, d2, d3, d4, d5] }
  | _ => none }
def HenselDownWrongFalsely : Prop := henselDownRow.holds Tryz.pinned (OpenSpec.ofChange henselDownWrong)

/-- 'cleaverlaw15.ShortNeeds': WHATEVER THE INPUT: true; the input reads as it did. -/
def shortNeedsSpec : ChangeSpec := { name := "shortNeeds", fn := fun _ => fun
  | [d1, d2, d3] => { results := [.lit (.bool true)], args := [d1, d2, d3] }
  | _ => none }
def shortNeedsRow : OpenClaim := { program := "ytjnjfinbdfolkaagreat", sum := "59d55c7fcf10d11ef0807a7ffe427c4f46a664a6d9b81b5778493d2b3b88b904", func := "cleaver/cleaverlaw15.ShortNeeds", spec := "shortNeeds", inPlace := ["math/bits.Add64", "math/bits.Sub64"], unfollowed := true, recurses := true, named := ["math/bits.divideError", "math/bits.overflowError"], apart := false }
def ShortNeedsSaid : Prop := shortNeedsRow.holds Tryz.pinned (OpenSpec.ofChange shortNeedsSpec)

/-- ITS FALSE NEIGHBOUR: 'it returns false'. Refute it at one input. -/
def shortNeedsWrong : ChangeSpec := { name := "shortNeeds", fn := fun _ => fun
  | [d1, d2, d3] => { results := [.lit (.bool false)], args := [d1, d2, d3] }
  | _ => none }
def ShortNeedsWrongFalsely : Prop := shortNeedsRow.holds Tryz.pinned (OpenSpec.ofChange shortNeedsWrong)

/-- 'cleaverlaw13.HenselProduct': WHATEVER THE INPUT: true; the input reads as it did. -/
def henselProductSpec : ChangeSpec := { name := "henselProduct", fn := fun _ => fun
  | [d1, d2, d3, d4] => { results := [.lit (.bool true)], args := [d1, d2, d3, d4] }
  | _ => none }
def henselProductRow : OpenClaim := { program := "ytjnjfinbdfolkaagreat", sum := "59d55c7fcf10d11ef0807a7ffe427c4f46a664a6d9b81b5778493d2b3b88b904", func := "cleaver/cleaverlaw13.HenselProduct", spec := "henselProduct", inPlace := ["math/bits.Add64", "math/bits.Sub64"], unfollowed := true, recurses := true, named := ["math/bits.divideError", "math/bits.overflowError"], apart := false }
def HenselProductSaid : Prop := henselProductRow.holds Tryz.pinned (OpenSpec.ofChange henselProductSpec)

/-- ITS FALSE NEIGHBOUR: 'it returns false'. Refute it at one input. -/
def henselProductWrong : ChangeSpec := { name := "henselProduct", fn := fun _ => fun
  | [d1, d2, d3, d4] => { results := [.lit (.bool false)], args := [d1, d2, d3, d4] }
  | _ => none }
def HenselProductWrongFalsely : Prop := henselProductRow.holds Tryz.pinned (OpenSpec.ofChange henselProductWrong)

/-- 'cleaverlaw13.HenselDivides': WHATEVER THE INPUT: true; the input reads as it did. -/
def henselDividesSpec : ChangeSpec := { name := "henselDivides", fn := fun _ => fun
  | [d1, d2, d3] => { results := [.lit (.bool true)], args := [d1, d2, d3] }
  | _ => none }
def henselDividesRow : OpenClaim := { program := "ytjnjfinbdfolkaagreat", sum := "59d55c7fcf10d11ef0807a7ffe427c4f46a664a6d9b81b5778493d2b3b88b904", func := "cleaver/cleaverlaw13.HenselDivides", spec := "henselDivides", inPlace := ["math/bits.Add64", "math/bits.Sub64"], unfollowed := true, recurses := true, named := ["math/bits.divideError", "math/bits.overflowError"], apart := false }
def HenselDividesSaid : Prop := henselDividesRow.holds Tryz.pinned (OpenSpec.ofChange henselDividesSpec)

/-- ITS FALSE NEIGHBOUR: 'it returns false'. Refute it at one input. -/
def henselDividesWrong : ChangeSpec := { name := "henselDivides", fn := fun _ => fun
  | [d1, d2, d3] => { results := [.lit (.bool false)], args := [d1, d2, d3] }
  | _ => none }
def HenselDividesWrongFalsely : Prop := henselDividesRow.holds Tryz.pinned (OpenSpec.ofChange henselDividesWrong)

/-- 'cleaverlaw13.HenselRests': WHATEVER THE INPUT: true; the input reads as it did. -/
def henselRestsSpec : ChangeSpec := { name := "henselRests", fn := fun _ => fun
  | [d1, d2, d3] => { results := [.lit (.bool true)], args := [d1, d2, d3] }
  | _ => none }
def henselRestsRow : OpenClaim := { program := "ytjnjfinbdfolkaagreat", sum := "59d55c7fcf10d11ef0807a7ffe427c4f46a664a6d9b81b5778493d2b3b88b904", func := "cleaver/cleaverlaw13.HenselRests", spec := "henselRests", inPlace := ["math/bits.Add64", "math/bits.Sub64"], unfollowed := true, recurses := true, named := ["math/bits.divideError", "math/bits.overflowError"], apart := false }
def HenselRestsSaid : Prop := henselRestsRow.holds Tryz.pinned (OpenSpec.ofChange henselRestsSpec)

/-- ITS FALSE NEIGHBOUR: 'it returns false'. Refute it at one input. -/
def henselRestsWrong : ChangeSpec := { name := "henselRests", fn := fun _ => fun
  | [d1, d2, d3] => { results := [.lit (.bool false)], args := [d1, d2, d3] }
  | _ => none }
def HenselRestsWrongFalsely : Prop := henselRestsRow.holds Tryz.pinned (OpenSpec.ofChange henselRestsWrong)

/-- 'cleaverlaw15.ShortEisenstein': WHATEVER THE INPUT: true; the input reads as it did. -/
def shortEisensteinSpec : ChangeSpec := { name := "shortEisenstein", fn := fun _ => fun
  | [d1, d2, d3] => { results := [.lit (.bool true)], args := [d1, d2, d3] }
  | _ => none }
def shortEisensteinRow : OpenClaim := { program := "ytjnjfinbdfolkaagreat", sum := "59d55c7fcf10d11ef0807a7ffe427c4f46a664a6d9b81b5778493d2b3b88b904", func := "cleaver/cleaverlaw15.ShortEisenstein", spec := "shortEisenstein", inPlace := ["math/bits.Add64", "math/bits.Sub64"], unfollowed := true, recurses := true, named := ["math/bits.divideError", "math/bits.overflowError"], apart := false }
def ShortEisensteinSaid : Prop := shortEisensteinRow.holds Tryz.pinned (OpenSpec.ofChange shortEisensteinSpec)

/-- ITS FALSE NEIGHBOUR: 'it returns false'. Refute it at one input. -/
def shortEisensteinWrong : ChangeSpec := { name := "shortEisenstein", fn := fun _ => fun
  | [d1, d2, d3] => { results := [.lit (.bool false)], args := [d1, d2, d3] }
  | _ => none }
def ShortEisensteinWrongFalsely : Prop := shortEisensteinRow.holds Tryz.pinned (OpenSpec.ofChange shortEisensteinWrong)

/-- 'cleaverlaw15.ShortFinds': WHATEVER THE INPUT: true; the input reads as it did. -/
def shortFindsSpec : ChangeSpec := { name := "shortFinds", fn := fun _ => fun
  | [d1, d2] => { results := [.lit (.bool true)], args := [d1, d2] }
  | _ => none }
def shortFindsRow : OpenClaim := { program := "ytjnjfinbdfolkaagreat", sum := "59d55c7fcf10d11ef0807a7ffe427c4f46a664a6d9b81b5778493d2b3b88b904", func := "cleaver/cleaverlaw15.ShortFinds", spec := "shortFinds", inPlace := ["math/bits.Add64", "math/bits.Sub64"], unfollowed := true, recurses := true, named := ["math/bits.divideError", "math/bits.overflowError"], apart := false }
def ShortFindsSaid : Prop := shortFindsRow.holds Tryz.pinned (OpenSpec.ofChange shortFindsSpec)

/-- ITS FALSE NEIGHBOUR: 'it returns false'. Refute it at one input. -/
def shortFindsWrong : ChangeSpec := { name := "shortFinds", fn := fun _ => fun
  | [d1, d2] => { results := [.lit (.bool false)], args := [d1, d2] }
  | _ => none }
def ShortFindsWrongFalsely : Prop := shortFindsRow.holds Tryz.pinned (OpenSpec.ofChange shortFindsWrong)

/- THE SECOND FORM. 'bulk': how many values and letters a reading holds, each counted each time it is reached (what is shared counts as often as it is met; a slice's spare places count too). A statement '..UptoSaid' is the law's where the arguments, and the package variables that the reading takes, are together of bulk at most 1048576: NARROWER than '..Said'. Prove '..Said' where nothing that the law and all that it calls make is longer than what came in: it says more and counts as full. Else prove '..UptoSaid'. A law counts once. -/
mutual
def uptoBulk {H : Type} : DataW H → Nat
  | .lit (.string bytes) => bytes.length + 1
  | .lit _ => 1
  | .nil => 1
  | .ptr d => uptoBulk d + 1
  | .slice elems spare => uptoBulkAll elems + uptoBulkAll spare + 1
  | .agg parts => uptoBulkAll parts + 1
  | .iface _ d => uptoBulk d + 1
  | .map entries => uptoBulkEntries entries + 1
  | .held _ => 1
def uptoBulkAll {H : Type} : List (DataW H) → Nat
  | [] => 0
  | d :: r => uptoBulk d + uptoBulkAll r
def uptoBulkEntries {H : Type} : List (Lit × DataW H) → Nat
  | [] => 0
  | x :: r => uptoBulkEntry x + uptoBulkEntries r
def uptoBulkEntry {H : Type} : Lit × DataW H → Nat
  | (.string bytes, d) => bytes.length + uptoBulk d + 1
  | (_, d) => uptoBulk d + 1
 end
def uptoSmall : (H : Type) → List (DataW H) → Bool := fun _ ds => decide (uptoBulkAll ds ≤ 1048576)
def OpenSpec.upto (s : _root_.Go.ChangeSpec) : _root_.Go.OpenSpec := { _root_.Go.OpenSpec.ofChange s with cond := some uptoSmall }

/-- 'cleaverlaw13.HenselPowers', WHERE WHAT IT READS IS OF BULK AT MOST 1048576: true; the input reads as it did. -/
def henselPowersUptoRow : OpenClaim := { program := "ytjnjfinbdfolkaagreat", sum := "59d55c7fcf10d11ef0807a7ffe427c4f46a664a6d9b81b5778493d2b3b88b904", func := "cleaver/cleaverlaw13.HenselPowers", spec := "henselPowers", inPlace := ["math/bits.Add64", "math/bits.Sub64"], unfollowed := true, recurses := true, named := ["math/bits.divideError", "math/bits.overflowError"], apart := false, narrowed := true }
def HenselPowersUptoSaid : Prop := henselPowersUptoRow.holds Tryz.pinned (OpenSpec.upto henselPowersSpec)

/-- 'cleaverlaw13.HenselLifts', WHERE WHAT IT READS IS OF BULK AT MOST 1048576: true; the input reads as it did. -/
def henselLiftsUptoRow : OpenClaim := { program := "ytjnjfinbdfolkaagreat", sum := "59d55c7fcf10d11ef0807a7ffe427c4f46a664a6d9b81b5778493d2b3b88b904", func := "cleaver/cleaverlaw13.HenselLifts", spec := "henselLifts", inPlace := ["math/bits.Add64", "math/bits.Sub64"], unfollowed := true, recurses := true, named := ["math/bits.divideError", "math/bits.overflowError"], apart := false, narrowed := true }
def HenselLiftsUptoSaid : Prop := henselLiftsUptoRow.holds Tryz.pinned (OpenSpec.upto henselLiftsSpec)

/-- 'cleaverlaw13.HenselDown', WHERE WHAT IT READS IS OF BULK AT MOST 1048576: true; the input reads as it did. -/
def henselDownUptoRow : OpenClaim := { program := "ytjnjfinbdfolkaagreat", sum := "59d55c7fcf10d11ef0807a7ffe427c4f46a664a6d9b81b5778493d2b3b88b904", func := "cleaver/cleaverlaw13.HenselDown", spec := "henselDown", inPlace := ["math/bits.Add64", "math/bits.Sub64"], unfollowed := true, recurses := true, named := ["math/bits.divideError", "math/bits.overflowError"], apart := false, narrowed := true }
def HenselDownUptoSaid : Prop := henselDownUptoRow.holds Tryz.pinned (OpenSpec.upto henselDownSpec)

/-- 'cleaverlaw15.ShortNeeds', WHERE WHAT IT READS IS OF BULK AT MOST 1048576: true; the input reads as it did. -/
def shortNeedsUptoRow : OpenClaim := { program := "ytjnjfinbdfolkaagreat", sum := "59d55c7fcf10d11ef0807a7ffe427c4f46a664a6d9b81b5778493d2b3b88b904", func := "cleaver/cleaverlaw15.ShortNeeds", spec := "shortNeeds", inPlace := ["math/bits.Add64", "math/bits.Sub64"], unfollowed := true, recurses := true, named := ["math/bits.divideError", "math/bits.overflowError"], apart := false, narrowed := true }
def ShortNeedsUptoSaid : Prop := shortNeedsUptoRow.holds Tryz.pinned (OpenSpec.upto shortNeedsSpec)

/-- 'cleaverlaw13.HenselProduct', WHERE WHAT IT READS IS OF BULK AT MOST 1048576: true; the input reads as it did. -/
def henselProductUptoRow : OpenClaim := { program := "ytjnjfinbdfolkaagreat", sum := "59d55c7fcf10d11ef0807a7ffe427c4f46a664a6d9b81b5778493d2b3b88b904", func := "cleaver/cleaverlaw13.HenselProduct", spec := "henselProduct", inPlace := ["math/bits.Add64", "math/bits.Sub64"], unfollowed := true, recurses := true, named := ["math/bits.divideError", "math/bits.overflowError"], apart := false, narrowed := true }
def HenselProductUptoSaid : Prop := henselProductUptoRow.holds Tryz.pinned (OpenSpec.upto henselProductSpec)

/-- 'cleaverlaw13.HenselDivides', WHERE WHAT IT READS IS OF BULK AT MOST 1048576: true; the input reads as it did. -/
def henselDividesUptoRow : OpenClaim := { program := "ytjnjfinbdfolkaagreat", sum := "59d55c7fcf10d11ef0807a7ffe427c4f46a664a6d9b81b5778493d2b3b88b904", func := "cleaver/cleaverlaw13.HenselDivides", spec := "henselDivides", inPlace := ["math/bits.Add64", "math/bits.Sub64"], unfollowed := true, recurses := true, named := ["math/bits.divideError", "math/bits.overflowError"], apart := false, narrowed := true }
def HenselDividesUptoSaid : Prop := henselDividesUptoRow.holds Tryz.pinned (OpenSpec.upto henselDividesSpec)

/-- 'cleaverlaw13.HenselRests', WHERE WHAT IT READS IS OF BULK AT MOST 1048576: true; the input reads as it did. -/
def henselRestsUptoRow : OpenClaim := { program := "ytjnjfinbdfolkaagreat", sum := "59d55c7fcf10d11ef0807a7ffe427c4f46a664a6d9b81b5778493d2b3b88b904", func := "cleaver/cleaverlaw13.HenselRests", spec := "henselRests", inPlace := ["math/bits.Add64", "math/bits.Sub64"], unfollowed := true, recurses := true, named := ["math/bits.divideError", "math/bits.overflowError"], apart := false, narrowed := true }
def HenselRestsUptoSaid : Prop := henselRestsUptoRow.holds Tryz.pinned (OpenSpec.upto henselRestsSpec)

/-- 'cleaverlaw15.ShortEisenstein', WHERE WHAT IT READS IS OF BULK AT MOST 1048576: true; the input reads as it did. -/
def shortEisensteinUptoRow : OpenClaim := { program := "ytjnjfinbdfolkaagreat", sum := "59d55c7fcf10d11ef0807a7ffe427c4f46a664a6d9b81b5778493d2b3b88b904", func := "cleaver/cleaverlaw15.ShortEisenstein", spec := "shortEisenstein", inPlace := ["math/bits.Add64", "math/bits.Sub64"], unfollowed := true, recurses := true, named := ["math/bits.divideError", "math/bits.overflowError"], apart := false, narrowed := true }
def ShortEisensteinUptoSaid : Prop := shortEisensteinUptoRow.holds Tryz.pinned (OpenSpec.upto shortEisensteinSpec)

/-- 'cleaverlaw15.ShortFinds', WHERE WHAT IT READS IS OF BULK AT MOST 1048576: true; the input reads as it did. -/
def shortFindsUptoRow : OpenClaim := { program := "ytjnjfinbdfolkaagreat", sum := "59d55c7fcf10d11ef0807a7ffe427c4f46a664a6d9b81b5778493d2b3b88b904", func := "cleaver/cleaverlaw15.ShortFinds", spec := "shortFinds", inPlace := ["math/bits.Add64", "math/bits.Sub64"], unfollowed := true, recurses := true, named := ["math/bits.divideError", "math/bits.overflowError"], apart := false, narrowed := true }
def ShortFindsUptoSaid : Prop := shortFindsUptoRow.holds Tryz.pinned (OpenSpec.upto shortFindsSpec)

end Rows
end Go.Proofs.YtjnjfinbdfolkaaGreat
