/-
  No cell of these rows narrows 'for every input' (looked for: loops, veiled, ifaces, maps, wideKeys, modest, calm, conditions, laid).
  DERIVED. THE GIVEN ROWS OF THIS SEAT. 9 by the template 'for every input the law returns true; each argument reads behind the call as it read before'; 0 by the template 'total and deterministic' (their statements: YtpeafegfjhljmaaTotals.lean).
  GIVEN WITH THE SEED: the statements are not yours to turn. If you find one false, say at which input.
  Laid BY PROGRAM, IN A SANDBOX (cutbox-rows.mjs): the forced cells as the released guide's own fill.sh prints them over the translation 52b1a16f9825d326… (all of the seat's roots in one cut). By AI agents, Wed Nov 11 2026. No macro, syntax, notation, axiom, sorry.
-/
import Derived.Test.YtpeafegfjhljmaaChecked
import GoSem.Claim
import GoSem.ClaimJoined
import GoSem.ClaimMapViews
import Derived.JoinedTies
import Derived.KernelRfl
namespace Go.Proofs.Ytpeafegfjhljmaa
/- THE CELL 'sum', in the pinned program and in every row, IS THE sha256 OF THE DUMP (.gsa) THAT YtpeafegfjhljmaaProg.lean LOADS. Nothing in Lean hashes anything: it is a label: what it is worth is what the hold of that sum in a sandbox is worth. -/
noncomputable def Try.pinned : Pinned := { name := "ytpeafegfjhljmaa", sum := "52b1a16f9825d3264a936402a179250e3c722a40a73f2f48f66863471ab9357a", checked := Try.checked }
namespace Rows
def none {H : Type} : Left H := { results := [], args := [] }

/-- 'escutcheonlaw09.CurveReads': WHATEVER THE INPUT: true; the input reads as it did. -/
def curveReadsSpec : ChangeSpec := { name := "curveReads", fn := fun _ => fun
  | [d] => { results := [.lit (.bool true)], args := [d] }
  | _ => none }
def curveReadsRow : OpenClaim := { program := "ytpeafegfjhljmaa", sum := "52b1a16f9825d3264a936402a179250e3c722a40a73f2f48f66863471ab9357a", func := "escutcheon/escutcheonlaw09.CurveReads", spec := "curveReads", inPlace := ["math/bits.Sub64", "math/bits.Add64"], apart := false }
def CurveReadsSaid : Prop := curveReadsRow.holds Try.pinned (OpenSpec.ofChange curveReadsSpec)

/-- ITS FALSE NEIGHBOUR: 'it returns false'. Refute it at one input. -/
def curveReadsWrong : ChangeSpec := { name := "curveReads", fn := fun _ => fun
  | [d] => { results := [.lit (.bool false)], args := [d] }
  | _ => none }
def CurveReadsWrongFalsely : Prop := curveReadsRow.holds Try.pinned (OpenSpec.ofChange curveReadsWrong)

/-- 'escutcheonlaw09.CurveTimes': WHATEVER THE INPUT: true; the input reads as it did. -/
def curveTimesSpec : ChangeSpec := { name := "curveTimes", fn := fun _ => fun
  | [d1, d2] => { results := [.lit (.bool true)], args := [d1, d2] }
  | _ => none }
def curveTimesRow : OpenClaim := { program := "ytpeafegfjhljmaa", sum := "52b1a16f9825d3264a936402a179250e3c722a40a73f2f48f66863471ab9357a", func := "escutcheon/escutcheonlaw09.CurveTimes", spec := "curveTimes", inPlace := ["math/bits.Sub64", "math/bits.Add64"], apart := false }
def CurveTimesSaid : Prop := curveTimesRow.holds Try.pinned (OpenSpec.ofChange curveTimesSpec)

/-- ITS FALSE NEIGHBOUR: 'it returns false'. Refute it at one input. -/
def curveTimesWrong : ChangeSpec := { name := "curveTimes", fn := fun _ => fun
  | [d1, d2] => { results := [.lit (.bool false)], args := [d1, d2] }
  | _ => none }
def CurveTimesWrongFalsely : Prop := curveTimesRow.holds Try.pinned (OpenSpec.ofChange curveTimesWrong)

/-- 'escutcheonlaw09.CurveTwice': WHATEVER THE INPUT: true; the input reads as it did. -/
def curveTwiceSpec : ChangeSpec := { name := "curveTwice", fn := fun _ => fun
  | [d1, d2, d3] => { results := [.lit (.bool true)], args := [d1, d2, d3] }
  | _ => none }
def curveTwiceRow : OpenClaim := { program := "ytpeafegfjhljmaa", sum := "52b1a16f9825d3264a936402a179250e3c722a40a73f2f48f66863471ab9357a", func := "escutcheon/escutcheonlaw09.CurveTwice", spec := "curveTwice", inPlace := ["math/bits.Sub64", "math/bits.Add64"], apart := false }
def CurveTwiceSaid : Prop := curveTwiceRow.holds Try.pinned (OpenSpec.ofChange curveTwiceSpec)

/-- ITS FALSE NEIGHBOUR: 'it returns false'. Refute it at one input. -/
def curveTwiceWrong : ChangeSpec := { name := "curveTwice", fn := fun _ => fun
  | [d1, d2, d3] => { results := [.lit (.bool false)], args := [d1, d2, d3] }
  | _ => none }
def CurveTwiceWrongFalsely : Prop := curveTwiceRow.holds Try.pinned (OpenSpec.ofChange curveTwiceWrong)

/-- 'escutcheonlaw09.CurveAdds': WHATEVER THE INPUT: true; the input reads as it did. -/
def curveAddsSpec : ChangeSpec := { name := "curveAdds", fn := fun _ => fun
  | [d1, d2] => { results := [.lit (.bool true)], args := [d1, d2] }
  | _ => none }
def curveAddsRow : OpenClaim := { program := "ytpeafegfjhljmaa", sum := "52b1a16f9825d3264a936402a179250e3c722a40a73f2f48f66863471ab9357a", func := "escutcheon/escutcheonlaw09.CurveAdds", spec := "curveAdds", inPlace := ["math/bits.Sub64", "math/bits.Add64"], apart := false }
def CurveAddsSaid : Prop := curveAddsRow.holds Try.pinned (OpenSpec.ofChange curveAddsSpec)

/-- ITS FALSE NEIGHBOUR: 'it returns false'. Refute it at one input. -/
def curveAddsWrong : ChangeSpec := { name := "curveAdds", fn := fun _ => fun
  | [d1, d2] => { results := [.lit (.bool false)], args := [d1, d2] }
  | _ => none }
def CurveAddsWrongFalsely : Prop := curveAddsRow.holds Try.pinned (OpenSpec.ofChange curveAddsWrong)

/-- 'escutcheonlaw09.CurveOrders': WHATEVER THE INPUT: true; the input reads as it did. -/
def curveOrdersSpec : ChangeSpec := { name := "curveOrders", fn := fun _ => fun
  | [d1, d2, d3] => { results := [.lit (.bool true)], args := [d1, d2, d3] }
  | _ => none }
def curveOrdersRow : OpenClaim := { program := "ytpeafegfjhljmaa", sum := "52b1a16f9825d3264a936402a179250e3c722a40a73f2f48f66863471ab9357a", func := "escutcheon/escutcheonlaw09.CurveOrders", spec := "curveOrders", inPlace := ["math/bits.Sub64", "math/bits.Add64"], apart := false }
def CurveOrdersSaid : Prop := curveOrdersRow.holds Try.pinned (OpenSpec.ofChange curveOrdersSpec)

/-- ITS FALSE NEIGHBOUR: 'it returns false'. Refute it at one input. -/
def curveOrdersWrong : ChangeSpec := { name := "curveOrders", fn := fun _ => fun
  | [d1, d2, d3] => { results := [.lit (.bool false)], args := [d1, d2, d3] }
  | _ => none }
def CurveOrdersWrongFalsely : Prop := curveOrdersRow.holds Try.pinned (OpenSpec.ofChange curveOrdersWrong)

/-- 'escutcheonlaw09.CurveMinus': WHATEVER THE INPUT: true; the input reads as it did. -/
def curveMinusSpec : ChangeSpec := { name := "curveMinus", fn := fun _ => fun
  | [d1, d2] => { results := [.lit (.bool true)], args := [d1, d2] }
  | _ => none }
def curveMinusRow : OpenClaim := { program := "ytpeafegfjhljmaa", sum := "52b1a16f9825d3264a936402a179250e3c722a40a73f2f48f66863471ab9357a", func := "escutcheon/escutcheonlaw09.CurveMinus", spec := "curveMinus", inPlace := ["math/bits.Sub64", "math/bits.Add64"], apart := false }
def CurveMinusSaid : Prop := curveMinusRow.holds Try.pinned (OpenSpec.ofChange curveMinusSpec)

/-- ITS FALSE NEIGHBOUR: 'it returns false'. Refute it at one input. -/
def curveMinusWrong : ChangeSpec := { name := "curveMinus", fn := fun _ => fun
  | [d1, d2] => { results := [.lit (.bool false)], args := [d1, d2] }
  | _ => none }
def CurveMinusWrongFalsely : Prop := curveMinusRow.holds Try.pinned (OpenSpec.ofChange curveMinusWrong)

/-- 'escutcheonlaw09.CurveBytes': WHATEVER THE INPUT: true; the input reads as it did. -/
def curveBytesSpec : ChangeSpec := { name := "curveBytes", fn := fun _ => fun
  | [d] => { results := [.lit (.bool true)], args := [d] }
  | _ => none }
def curveBytesRow : OpenClaim := { program := "ytpeafegfjhljmaa", sum := "52b1a16f9825d3264a936402a179250e3c722a40a73f2f48f66863471ab9357a", func := "escutcheon/escutcheonlaw09.CurveBytes", spec := "curveBytes", inPlace := ["math/bits.Sub64", "math/bits.Add64"], apart := false }
def CurveBytesSaid : Prop := curveBytesRow.holds Try.pinned (OpenSpec.ofChange curveBytesSpec)

/-- ITS FALSE NEIGHBOUR: 'it returns false'. Refute it at one input. -/
def curveBytesWrong : ChangeSpec := { name := "curveBytes", fn := fun _ => fun
  | [d] => { results := [.lit (.bool false)], args := [d] }
  | _ => none }
def CurveBytesWrongFalsely : Prop := curveBytesRow.holds Try.pinned (OpenSpec.ofChange curveBytesWrong)

/-- 'escutcheonlaw09.CurveBack': WHATEVER THE INPUT: true; the input reads as it did. -/
def curveBackSpec : ChangeSpec := { name := "curveBack", fn := fun _ => fun
  | [d] => { results := [.lit (.bool true)], args := [d] }
  | _ => none }
def curveBackRow : OpenClaim := { program := "ytpeafegfjhljmaa", sum := "52b1a16f9825d3264a936402a179250e3c722a40a73f2f48f66863471ab9357a", func := "escutcheon/escutcheonlaw09.CurveBack", spec := "curveBack", inPlace := ["math/bits.Sub64", "math/bits.Add64"], unfollowed := true, recurses := true, apart := false }
def CurveBackSaid : Prop := curveBackRow.holds Try.pinned (OpenSpec.ofChange curveBackSpec)

/-- ITS FALSE NEIGHBOUR: 'it returns false'. Refute it at one input. -/
def curveBackWrong : ChangeSpec := { name := "curveBack", fn := fun _ => fun
  | [d] => { results := [.lit (.bool false)], args := [d] }
  | _ => none }
def CurveBackWrongFalsely : Prop := curveBackRow.holds Try.pinned (OpenSpec.ofChange curveBackWrong)

/-- 'escutcheonlaw11.DialPublics': WHATEVER THE INPUT: true; the input reads as it did. -/
def dialPublicsSpec : ChangeSpec := { name := "dialPublics", fn := fun _ => fun
  | [d] => { results := [.lit (.bool true)], args := [d] }
  | _ => none }
def dialPublicsRow : OpenClaim := { program := "ytpeafegfjhljmaa", sum := "52b1a16f9825d3264a936402a179250e3c722a40a73f2f48f66863471ab9357a", func := "escutcheon/escutcheonlaw11.DialPublics", spec := "dialPublics", inPlace := ["math/bits.Sub64", "math/bits.Add64"], apart := false }
def DialPublicsSaid : Prop := dialPublicsRow.holds Try.pinned (OpenSpec.ofChange dialPublicsSpec)

/-- ITS FALSE NEIGHBOUR: 'it returns false'. Refute it at one input. -/
def dialPublicsWrong : ChangeSpec := { name := "dialPublics", fn := fun _ => fun
  | [d] => { results := [.lit (.bool false)], args := [d] }
  | _ => none }
def DialPublicsWrongFalsely : Prop := dialPublicsRow.holds Try.pinned (OpenSpec.ofChange dialPublicsWrong)

/- THE SECOND FORM. 'bulk': how many values and letters a reading holds, each counted each time it is reached (what is shared counts as often as it is met; a slice's spare places count too). A statement '..UptoSaid' is the law's where the arguments, and the package variables that the reading takes, are together of bulk at most 1048576: NARROWER than '..Said'. Prove '..Said' where nothing that the law and all that it calls make is longer than what came in: it says more and counts as full. Else prove '..UptoSaid'. A law counts once. -/
mutual
def uptoBulk {H : Type} : DataW H → Nat
  | .lit (.string bytes) => bytes.length + 1
  | .lit _ => 1
  | .nil => 1
  | .ptr d => uptoBulk d + 1
  | .slice elems spare => uptoBulkAll elems + uptoBulkAll spare + 1
  | .agg parts => uptoBulkAll parts + 1
  | .iface _ d => uptoBulk d + 1
  | .map entries => uptoBulkEntries entries + 1
  | .held _ => 1
def uptoBulkAll {H : Type} : List (DataW H) → Nat
  | [] => 0
  | d :: r => uptoBulk d + uptoBulkAll r
def uptoBulkEntries {H : Type} : List (Lit × DataW H) → Nat
  | [] => 0
  | x :: r => uptoBulkEntry x + uptoBulkEntries r
def uptoBulkEntry {H : Type} : Lit × DataW H → Nat
  | (.string bytes, d) => bytes.length + uptoBulk d + 1
  | (_, d) => uptoBulk d + 1
 end
def uptoSmall : (H : Type) → List (DataW H) → Bool := fun _ ds => decide (uptoBulkAll ds ≤ 1048576)
def OpenSpec.upto (s : _root_.Go.ChangeSpec) : _root_.Go.OpenSpec := { _root_.Go.OpenSpec.ofChange s with cond := some uptoSmall }

/-- 'escutcheonlaw09.CurveReads', WHERE WHAT IT READS IS OF BULK AT MOST 1048576: true; the input reads as it did. -/
def curveReadsUptoRow : OpenClaim := { program := "ytpeafegfjhljmaa", sum := "52b1a16f9825d3264a936402a179250e3c722a40a73f2f48f66863471ab9357a", func := "escutcheon/escutcheonlaw09.CurveReads", spec := "curveReads", inPlace := ["math/bits.Sub64", "math/bits.Add64"], apart := false, narrowed := true }
def CurveReadsUptoSaid : Prop := curveReadsUptoRow.holds Try.pinned (OpenSpec.upto curveReadsSpec)

/-- 'escutcheonlaw09.CurveTimes', WHERE WHAT IT READS IS OF BULK AT MOST 1048576: true; the input reads as it did. -/
def curveTimesUptoRow : OpenClaim := { program := "ytpeafegfjhljmaa", sum := "52b1a16f9825d3264a936402a179250e3c722a40a73f2f48f66863471ab9357a", func := "escutcheon/escutcheonlaw09.CurveTimes", spec := "curveTimes", inPlace := ["math/bits.Sub64", "math/bits.Add64"], apart := false, narrowed := true }
def CurveTimesUptoSaid : Prop := curveTimesUptoRow.holds Try.pinned (OpenSpec.upto curveTimesSpec)

/-- 'escutcheonlaw09.CurveTwice', WHERE WHAT IT READS IS OF BULK AT MOST 1048576: true; the input reads as it did. -/
def curveTwiceUptoRow : OpenClaim := { program := "ytpeafegfjhljmaa", sum := "52b1a16f9825d3264a936402a179250e3c722a40a73f2f48f66863471ab9357a", func := "escutcheon/escutcheonlaw09.CurveTwice", spec := "curveTwice", inPlace := ["math/bits.Sub64", "math/bits.Add64"], apart := false, narrowed := true }
def CurveTwiceUptoSaid : Prop := curveTwiceUptoRow.holds Try.pinned (OpenSpec.upto curveTwiceSpec)

/-- 'escutcheonlaw09.CurveAdds', WHERE WHAT IT READS IS OF BULK AT MOST 1048576: true; the input reads as it did. -/
def curveAddsUptoRow : OpenClaim := { program := "ytpeafegfjhljmaa", sum := "52b1a16f9825d3264a936402a179250e3c722a40a73f2f48f66863471ab9357a", func := "escutcheon/escutcheonlaw09.CurveAdds", spec := "curveAdds", inPlace := ["math/bits.Sub64", "math/bits.Add64"], apart := false, narrowed := true }
def CurveAddsUptoSaid : Prop := curveAddsUptoRow.holds Try.pinned (OpenSpec.upto curveAddsSpec)

/-- 'escutcheonlaw09.CurveOrders', WHERE WHAT IT READS IS OF BULK AT MOST 1048576: true; the input reads as it did. -/
def curveOrdersUptoRow : OpenClaim := { program := "ytpeafegfjhljmaa", sum := "52b1a16f9825d3264a936402a179250e3c722a40a73f2f48f66863471ab9357a", func := "escutcheon/escutcheonlaw09.CurveOrders", spec := "curveOrders", inPlace := ["math/bits.Sub64", "math/bits.Add64"], apart := false, narrowed := true }
def CurveOrdersUptoSaid : Prop := curveOrdersUptoRow.holds Try.pinned (OpenSpec.upto curveOrdersSpec)

/-- 'escutcheonlaw09.CurveMinus', WHERE WHAT IT READS IS OF BULK AT MOST 1048576: true; the input reads as it did. -/
def curveMinusUptoRow : OpenClaim := { program := "ytpeafegfjhljmaa", sum := "52b1a16f9825d3264a936402a179250e3c722a40a73f2f48f66863471ab9357a", func := "escutcheon/escutcheonlaw09.CurveMinus", spec := "curveMinus", inPlace := ["math/bits.Sub64", "math/bits.Add64"], apart := false, narrowed := true }
def CurveMinusUptoSaid : Prop := curveMinusUptoRow.holds Try.pinned (OpenSpec.upto curveMinusSpec)

/-- 'escutcheonlaw09.CurveBytes', WHERE WHAT IT READS IS OF BULK AT MOST 1048576: true; the input reads as it did. -/
def curveBytesUptoRow : OpenClaim := { program := "ytpeafegfjhljmaa", sum := "52b1a16f9825d3264a936402a179250e3c722a40a73f2f48f66863471ab9357a", func := "escutcheon/escutcheonlaw09.CurveBytes", spec := "curveBytes", inPlace := ["math/bits.Sub64", "math/bits.Add64"], apart := false, narrowed := true }
def CurveBytesUptoSaid : Prop := curveBytesUptoRow.holds Try.pinned (OpenSpec.upto curveBytesSpec)

/-- 'escutcheonlaw09.CurveBack', WHERE WHAT IT READS IS OF BULK AT MOST 1048576: true; the input reads as it did. -/
def curveBackUptoRow : OpenClaim := { program := "ytpeafegfjhljmaa", sum := "52b1a16f9825d3264a936402a179250e3c722a40a73f2f48f66863471ab9357a", func := "escutcheon/escutcheonlaw09.CurveBack", spec := "curveBack", inPlace := ["math/bits.Sub64", "math/bits.Add64"], unfollowed := true, recurses := true, apart := false, narrowed := true }
def CurveBackUptoSaid : Prop := curveBackUptoRow.holds Try.pinned (OpenSpec.upto curveBackSpec)

/-- 'escutcheonlaw11.DialPublics', WHERE WHAT IT READS IS OF BULK AT MOST 1048576: true; the input reads as it did. -/
def dialPublicsUptoRow : OpenClaim := { program := "ytpeafegfjhljmaa", sum := "52b1a16f9825d3264a936402a179250e3c722a40a73f2f48f66863471ab9357a", func := "escutcheon/escutcheonlaw11.DialPublics", spec := "dialPublics", inPlace := ["math/bits.Sub64", "math/bits.Add64"], apart := false, narrowed := true }
def DialPublicsUptoSaid : Prop := dialPublicsUptoRow.holds Try.pinned (OpenSpec.upto dialPublicsSpec)

end Rows
end Go.Proofs.Ytpeafegfjhljmaa
