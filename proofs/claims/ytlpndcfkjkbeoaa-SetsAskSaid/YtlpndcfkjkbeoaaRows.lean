/-
  No cell of these rows narrows 'for every input' (looked for: loops, veiled, ifaces, maps, wideKeys, modest, calm, conditions, laid).
  DERIVED. THE GIVEN ROWS OF THIS SEAT. 7 by the template 'for every input the law returns true; each argument reads behind the call as it read before'; 0 by the template 'total and deterministic' (their statements: YtlpndcfkjkbeoaaTotals.lean).
  GIVEN WITH THE SEED: the statements are not yours to turn. If you find one false, say at which input.
  Laid BY PROGRAM, IN A SANDBOX (cutbox-rows.mjs): the forced cells as the released guide's own fill.sh prints them over the translation 732994946a42b1c8… (all of the seat's roots in one cut). By AI agents, Wed Nov 11 2026. No macro, syntax, notation, axiom, sorry.
-/
import Derived.Test.YtlpndcfkjkbeoaaChecked
import GoSem.Claim
import GoSem.ClaimJoined
import GoSem.ClaimMapViews
import Derived.JoinedTies
import Derived.KernelRfl
namespace Go.Proofs.Ytlpndcfkjkbeoaa
/- THE CELL 'sum', in the pinned program and in every row, IS THE sha256 OF THE DUMP (.gsa) THAT YtlpndcfkjkbeoaaProg.lean LOADS. Nothing in Lean hashes anything: it is a label: what it is worth is what the hold of that sum in a sandbox is worth. -/
noncomputable def Try.pinned : Pinned := { name := "ytlpndcfkjkbeoaa", sum := "732994946a42b1c85b21ca7ec74549d3e134eb13268ac7171858ea45bd982476", checked := Try.checked }
namespace Rows
def none {H : Type} : Left H := { results := [], args := [] }

/-- 'pantilelaw10.RankRows': WHATEVER THE INPUT: true; the input reads as it did. -/
def rankRowsSpec : ChangeSpec := { name := "rankRows", fn := fun _ => fun
  | [d1, d2, d3] => { results := [.lit (.bool true)], args := [d1, d2, d3] }
  | _ => none }
def rankRowsRow : OpenClaim := { program := "ytlpndcfkjkbeoaa", sum := "732994946a42b1c85b21ca7ec74549d3e134eb13268ac7171858ea45bd982476", func := "pantile/pantilelaw10.RankRows", spec := "rankRows", inPlace := ["slices.overlaps[pantile/slots.cell[*pantile/node.Node]]"], unfollowed := true, recurses := true, apart := false }
def RankRowsSaid : Prop := rankRowsRow.holds Try.pinned (OpenSpec.ofChange rankRowsSpec)

/-- ITS FALSE NEIGHBOUR: 'it returns false'. Refute it at one input. -/
def rankRowsWrong : ChangeSpec := { name := "rankRows", fn := fun _ => fun
  | [d1, d2, d3] => { results := [.lit (.bool false)], args := [d1, d2, d3] }
  | _ => none }
def RankRowsWrongFalsely : Prop := rankRowsRow.holds Try.pinned (OpenSpec.ofChange rankRowsWrong)

/-- 'pantilelaw15.SetsAsk': WHATEVER THE INPUT: true; the input reads as it did. -/
def setsAskSpec : ChangeSpec := { name := "setsAsk", fn := fun _ => fun
  | [d1, d2, d3, d4] => { results := [.lit (.bool true)], args := [d1, d2, d3, d4] }
  | _ => none }
def setsAskRow : OpenClaim := { program := "ytlpndcfkjkbeoaa", sum := "732994946a42b1c85b21ca7ec74549d3e134eb13268ac7171858ea45bd982476", func := "pantile/pantilelaw15.SetsAsk", spec := "setsAsk", inPlace := ["slices.overlaps[pantile/slots.cell[*pantile/node.Node]]"], unfollowed := true, recurses := true, apart := false }
def SetsAskSaid : Prop := setsAskRow.holds Try.pinned (OpenSpec.ofChange setsAskSpec)

/-- ITS FALSE NEIGHBOUR: 'it returns false'. Refute it at one input. -/
def setsAskWrong : ChangeSpec := { name := "setsAsk", fn := fun _ => fun
  | [d1, d2, d3, d4] => { results := [.lit (.bool false)], args := [d1, d2, d3, d4] }
  | _ => none }
def SetsAskWrongFalsely : Prop := setsAskRow.holds Try.pinned (OpenSpec.ofChange setsAskWrong)

/-- 'pantilelaw11.NearWithin': WHATEVER THE INPUT: true; the input reads as it did. -/
def nearWithinSpec : ChangeSpec := { name := "nearWithin", fn := fun _ => fun
  | [d1, d2, d3, d4] => { results := [.lit (.bool true)], args := [d1, d2, d3, d4] }
  | _ => none }
def nearWithinRow : OpenClaim := { program := "ytlpndcfkjkbeoaa", sum := "732994946a42b1c85b21ca7ec74549d3e134eb13268ac7171858ea45bd982476", func := "pantile/pantilelaw11.NearWithin", spec := "nearWithin", inPlace := ["slices.overlaps[pantile/slots.cell[*pantile/node.Node]]"], unfollowed := true, recurses := true, apart := false }
def NearWithinSaid : Prop := nearWithinRow.holds Try.pinned (OpenSpec.ofChange nearWithinSpec)

/-- ITS FALSE NEIGHBOUR: 'it returns false'. Refute it at one input. -/
def nearWithinWrong : ChangeSpec := { name := "nearWithin", fn := fun _ => fun
  | [d1, d2, d3, d4] => { results := [.lit (.bool false)], args := [d1, d2, d3, d4] }
  | _ => none }
def NearWithinWrongFalsely : Prop := nearWithinRow.holds Try.pinned (OpenSpec.ofChange nearWithinWrong)

/-- 'pantilelaw11.NearGrows': WHATEVER THE INPUT: true; the input reads as it did. -/
def nearGrowsSpec : ChangeSpec := { name := "nearGrows", fn := fun _ => fun
  | [d1, d2, d3, d4] => { results := [.lit (.bool true)], args := [d1, d2, d3, d4] }
  | _ => none }
def nearGrowsRow : OpenClaim := { program := "ytlpndcfkjkbeoaa", sum := "732994946a42b1c85b21ca7ec74549d3e134eb13268ac7171858ea45bd982476", func := "pantile/pantilelaw11.NearGrows", spec := "nearGrows", inPlace := ["slices.overlaps[pantile/slots.cell[*pantile/node.Node]]"], unfollowed := true, recurses := true, apart := false }
def NearGrowsSaid : Prop := nearGrowsRow.holds Try.pinned (OpenSpec.ofChange nearGrowsSpec)

/-- ITS FALSE NEIGHBOUR: 'it returns false'. Refute it at one input. -/
def nearGrowsWrong : ChangeSpec := { name := "nearGrows", fn := fun _ => fun
  | [d1, d2, d3, d4] => { results := [.lit (.bool false)], args := [d1, d2, d3, d4] }
  | _ => none }
def NearGrowsWrongFalsely : Prop := nearGrowsRow.holds Try.pinned (OpenSpec.ofChange nearGrowsWrong)

/-- 'pantilelaw10.RankOf': WHATEVER THE INPUT: true; the input reads as it did. -/
def rankOfSpec : ChangeSpec := { name := "rankOf", fn := fun _ => fun
  | [d1, d2, d3, d4, d5] => { results := [.lit (.bool true)], args := [d1, d2, d3, d4, d5] }
  | _ => none }
def rankOfRow : OpenClaim := { program := "ytlpndcfkjkbeoaa", sum := "732994946a42b1c85b21ca7ec74549d3e134eb13268ac7171858ea45bd982476", func := "pantile/pantilelaw10.RankOf", spec := "rankOf", inPlace := ["slices.overlaps[pantile/slots.cell[*pantile/node.Node]]"], unfollowed := true, recurses := true, apart := false }
def RankOfSaid : Prop := rankOfRow.holds Try.pinned (OpenSpec.ofChange rankOfSpec)

/-- ITS FALSE NEIGHBOUR: 'it returns false'. Refute it at one input. -/
def rankOfWrong : ChangeSpec := { name := "rankOf", fn := fun _ => fun
  | [d1, d2, d3, d4, d5] => { results := [.lit (.bool false)], args := [d1, d2, d3, d4, d5] }
  | _ => none }
def RankOfWrongFalsely : Prop := rankOfRow.holds Try.pinned (OpenSpec.ofChange rankOfWrong)

/-- 'pantilelaw09.WindowHalves': WHATEVER THE INPUT: true; the input reads as it did. -/
def windowHalvesSpec : ChangeSpec := { name := "windowHalves", fn := fun _ => fun
  | [d1, d2, d3, d4, d5] => { results := [.lit (.bool true)], args := [d1, d2, d3, d4, d5] }
  | _ => none }
def windowHalvesRow : OpenClaim := { program := "ytlpndcfkjkbeoaa", sum := "732994946a42b1c85b21ca7ec74549d3e134eb13268ac7171858ea45bd982476", func := "pantile/pantilelaw09.WindowHalves", spec := "windowHalves", inPlace := ["slices.overlaps[pantile/slots.cell[*pantile/node.Node]]"], unfollowed := true, recurses := true, apart := false }
def WindowHalvesSaid : Prop := windowHalvesRow.holds Try.pinned (OpenSpec.ofChange windowHalvesSpec)

/-- ITS FALSE NEIGHBOUR: 'it returns false'. Refute it at one input. -/
def windowHalvesWrong : ChangeSpec := { name := "windowHalves", fn := fun _ => fun
  | [d1, d2, d3, d4, d5] => { results := [.lit (.bool false)], args := [d1, d2, d3, d4, d5] }
  | _ => none }
def WindowHalvesWrongFalsely : Prop := windowHalvesRow.holds Try.pinned (OpenSpec.ofChange windowHalvesWrong)

/-- 'pantilelaw09.WindowNil': WHATEVER THE INPUT: true; the input reads as it did. -/
def windowNilSpec : ChangeSpec := { name := "windowNil", fn := fun _ => fun
  | [d1, d2] => { results := [.lit (.bool true)], args := [d1, d2] }
  | _ => none }
def windowNilRow : OpenClaim := { program := "ytlpndcfkjkbeoaa", sum := "732994946a42b1c85b21ca7ec74549d3e134eb13268ac7171858ea45bd982476", func := "pantile/pantilelaw09.WindowNil", spec := "windowNil", inPlace := ["slices.overlaps[pantile/slots.cell[*pantile/node.Node]]"], unfollowed := true, recurses := true, apart := false }
def WindowNilSaid : Prop := windowNilRow.holds Try.pinned (OpenSpec.ofChange windowNilSpec)

/-- ITS FALSE NEIGHBOUR: 'it returns false'. Refute it at one input. -/
def windowNilWrong : ChangeSpec := { name := "windowNil", fn := fun _ => fun
  | [d1, d2] => { results := [.lit (.bool false)], args := [d1, d2] }
  | _ => none }
def WindowNilWrongFalsely : Prop := windowNilRow.holds Try.pinned (OpenSpec.ofChange windowNilWrong)

/- THE SECOND FORM. 'bulk': how many values and letters a reading holds, each counted each time it is reached (what is shared counts as often as it is met; a slice's spare places count too). A statement '..UptoSaid' is the law's where the arguments, and the package variables that the reading takes, are together of bulk at most 1048576: NARROWER than '..Said'. Prove '..Said' where nothing that the law and all that it calls make is longer than what came in: it says more and counts as full. Else prove '..UptoSaid'. A law counts once. -/
mutual
def uptoBulk {H : Type} : DataW H → Nat
  | .lit (.string bytes) => bytes.length + 1
  | .lit _ => 1
  | .nil => 1
  | .ptr d => uptoBulk d + 1
  | .slice elems spare => uptoBulkAll elems + uptoBulkAll spare + 1
  | .agg parts => uptoBulkAll parts + 1
  | .iface _ d => uptoBulk d + 1
  | .map entries => uptoBulkEntries entries + 1
  | .held _ => 1
def uptoBulkAll {H : Type} : List (DataW H) → Nat
  | [] => 0
  | d :: r => uptoBulk d + uptoBulkAll r
def uptoBulkEntries {H : Type} : List (Lit × DataW H) → Nat
  | [] => 0
  | x :: r => uptoBulkEntry x + uptoBulkEntries r
def uptoBulkEntry {H : Type} : Lit × DataW H → Nat
  | (.string bytes, d) => bytes.length + uptoBulk d + 1
  | (_, d) => uptoBulk d + 1
 end
def uptoSmall : (H : Type) → List (DataW H) → Bool := fun _ ds => decide (uptoBulkAll ds ≤ 1048576)
def OpenSpec.upto (s : _root_.Go.ChangeSpec) : _root_.Go.OpenSpec := { _root_.Go.OpenSpec.ofChange s with cond := some uptoSmall }

/-- 'pantilelaw10.RankRows', WHERE WHAT IT READS IS OF BULK AT MOST 1048576: true; the input reads as it did. -/
def rankRowsUptoRow : OpenClaim := { program := "ytlpndcfkjkbeoaa", sum := "732994946a42b1c85b21ca7ec74549d3e134eb13268ac7171858ea45bd982476", func := "pantile/pantilelaw10.RankRows", spec := "rankRows", inPlace := ["slices.overlaps[pantile/slots.cell[*pantile/node.Node]]"], unfollowed := true, recurses := true, apart := false, narrowed := true }
def RankRowsUptoSaid : Prop := rankRowsUptoRow.holds Try.pinned (OpenSpec.upto rankRowsSpec)

/-- 'pantilelaw15.SetsAsk', WHERE WHAT IT READS IS OF BULK AT MOST 1048576: true; the input reads as it did. -/
def setsAskUptoRow : OpenClaim := { program := "ytlpndcfkjkbeoaa", sum := "732994946a42b1c85b21ca7ec74549d3e134eb13268ac7171858ea45bd982476", func := "pantile/pantilelaw15.SetsAsk", spec := "setsAsk", inPlace := ["slices.overlaps[pantile/slots.cell[*pantile/node.Node]]"], unfollowed := true, recurses := true, apart := false, narrowed := true }
def SetsAskUptoSaid : Prop := setsAskUptoRow.holds Try.pinned (OpenSpec.upto setsAskSpec)

/-- 'pantilelaw11.NearWithin', WHERE WHAT IT READS IS OF BULK AT MOST 1048576: true; the input reads as it did. -/
def nearWithinUptoRow : OpenClaim := { program := "ytlpndcfkjkbeoaa", sum := "732994946a42b1c85b21ca7ec74549d3e134eb13268ac7171858ea45bd982476", func := "pantile/pantilelaw11.NearWithin", spec := "nearWithin", inPlace := ["slices.overlaps[pantile/slots.cell[*pantile/node.Node]]"], unfollowed := true, recurses := true, apart := false, narrowed := true }
def NearWithinUptoSaid : Prop := nearWithinUptoRow.holds Try.pinned (OpenSpec.upto nearWithinSpec)

/-- 'pantilelaw11.NearGrows', WHERE WHAT IT READS IS OF BULK AT MOST 1048576: true; the input reads as it did. -/
def nearGrowsUptoRow : OpenClaim := { program := "ytlpndcfkjkbeoaa", sum := "732994946a42b1c85b21ca7ec74549d3e134eb13268ac7171858ea45bd982476", func := "pantile/pantilelaw11.NearGrows", spec := "nearGrows", inPlace := ["slices.overlaps[pantile/slots.cell[*pantile/node.Node]]"], unfollowed := true, recurses := true, apart := false, narrowed := true }
def NearGrowsUptoSaid : Prop := nearGrowsUptoRow.holds Try.pinned (OpenSpec.upto nearGrowsSpec)

/-- 'pantilelaw10.RankOf', WHERE WHAT IT READS IS OF BULK AT MOST 1048576: true; the input reads as it did. -/
def rankOfUptoRow : OpenClaim := { program := "ytlpndcfkjkbeoaa", sum := "732994946a42b1c85b21ca7ec74549d3e134eb13268ac7171858ea45bd982476", func := "pantile/pantilelaw10.RankOf", spec := "rankOf", inPlace := ["slices.overlaps[pantile/slots.cell[*pantile/node.Node]]"], unfollowed := true, recurses := true, apart := false, narrowed := true }
def RankOfUptoSaid : Prop := rankOfUptoRow.holds Try.pinned (OpenSpec.upto rankOfSpec)

/-- 'pantilelaw09.WindowHalves', WHERE WHAT IT READS IS OF BULK AT MOST 1048576: true; the input reads as it did. -/
def windowHalvesUptoRow : OpenClaim := { program := "ytlpndcfkjkbeoaa", sum := "732994946a42b1c85b21ca7ec74549d3e134eb13268ac7171858ea45bd982476", func := "pantile/pantilelaw09.WindowHalves", spec := "windowHalves", inPlace := ["slices.overlaps[pantile/slots.cell[*pantile/node.Node]]"], unfollowed := true, recurses := true, apart := false, narrowed := true }
def WindowHalvesUptoSaid : Prop := windowHalvesUptoRow.holds Try.pinned (OpenSpec.upto windowHalvesSpec)

/-- 'pantilelaw09.WindowNil', WHERE WHAT IT READS IS OF BULK AT MOST 1048576: true; the input reads as it did. -/
def windowNilUptoRow : OpenClaim := { program := "ytlpndcfkjkbeoaa", sum := "732994946a42b1c85b21ca7ec74549d3e134eb13268ac7171858ea45bd982476", func := "pantile/pantilelaw09.WindowNil", spec := "windowNil", inPlace := ["slices.overlaps[pantile/slots.cell[*pantile/node.Node]]"], unfollowed := true, recurses := true, apart := false, narrowed := true }
def WindowNilUptoSaid : Prop := windowNilUptoRow.holds Try.pinned (OpenSpec.upto windowNilSpec)

end Rows
end Go.Proofs.Ytlpndcfkjkbeoaa
