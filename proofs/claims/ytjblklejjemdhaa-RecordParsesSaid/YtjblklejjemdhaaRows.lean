/-
  No cell of these rows narrows 'for every input' (looked for: loops, veiled, ifaces, maps, wideKeys, modest, calm, conditions, laid).
  DERIVED. THE GIVEN ROWS OF THIS SEAT. 7 by the template 'for every input the law returns true; each argument reads behind the call as it read before'; 0 by the template 'total and deterministic' (their statements: YtjblklejjemdhaaTotals.lean).
  GIVEN WITH THE SEED: the statements are not yours to turn. If you find one false, say at which input.
  Laid BY PROGRAM, IN A SANDBOX (cutbox-rows.mjs): the forced cells as the released guide's own fill.sh prints them over the translation 062ae0dab982bdab… (all of the seat's roots in one cut). By AI agents, Wed Nov 11 2026. No macro, syntax, notation, axiom, sorry.
-/
import Derived.Test.YtjblklejjemdhaaChecked
import GoSem.Claim
import GoSem.ClaimJoined
import GoSem.ClaimMapViews
import Derived.JoinedTies
import Derived.KernelRfl
namespace Go.Proofs.Ytjblklejjemdhaa
/- THE CELL 'sum', in the pinned program and in every row, IS THE sha256 OF THE DUMP (.gsa) THAT YtjblklejjemdhaaProg.lean LOADS. Nothing in Lean hashes anything: it is a label: what it is worth is what the hold of that sum in a sandbox is worth. -/
noncomputable def Try.pinned : Pinned := { name := "ytjblklejjemdhaa", sum := "062ae0dab982bdab0fe1cebce74fbbd4d0bcdb564b2115f38db4524522b83c0d", checked := Try.checked }
namespace Rows
def none {H : Type} : Left H := { results := [], args := [] }

/-- 'bosunlaw09.SlipFrames': WHATEVER THE INPUT: true; the input reads as it did. -/
def slipFramesSpec : ChangeSpec := { name := "slipFrames", fn := fun _ => fun
  | [d] => { results := [.lit (.bool true)], args := [d] }
  | _ => none }
def slipFramesRow : OpenClaim := { program := "ytjblklejjemdhaa", sum := "062ae0dab982bdab0fe1cebce74fbbd4d0bcdb564b2115f38db4524522b83c0d", func := "bosun/bosunlaw09.SlipFrames", spec := "slipFrames", apart := false }
def SlipFramesSaid : Prop := slipFramesRow.holds Try.pinned (OpenSpec.ofChange slipFramesSpec)

/-- ITS FALSE NEIGHBOUR: 'it returns false'. Refute it at one input. -/
def slipFramesWrong : ChangeSpec := { name := "slipFrames", fn := fun _ => fun
  | [d] => { results := [.lit (.bool false)], args := [d] }
  | _ => none }
def SlipFramesWrongFalsely : Prop := slipFramesRow.holds Try.pinned (OpenSpec.ofChange slipFramesWrong)

/-- 'bosunlaw09.SlipEnds': WHATEVER THE INPUT: true; the input reads as it did. -/
def slipEndsSpec : ChangeSpec := { name := "slipEnds", fn := fun _ => fun
  | [d1, d2] => { results := [.lit (.bool true)], args := [d1, d2] }
  | _ => none }
def slipEndsRow : OpenClaim := { program := "ytjblklejjemdhaa", sum := "062ae0dab982bdab0fe1cebce74fbbd4d0bcdb564b2115f38db4524522b83c0d", func := "bosun/bosunlaw09.SlipEnds", spec := "slipEnds", apart := false }
def SlipEndsSaid : Prop := slipEndsRow.holds Try.pinned (OpenSpec.ofChange slipEndsSpec)

/-- ITS FALSE NEIGHBOUR: 'it returns false'. Refute it at one input. -/
def slipEndsWrong : ChangeSpec := { name := "slipEnds", fn := fun _ => fun
  | [d1, d2] => { results := [.lit (.bool false)], args := [d1, d2] }
  | _ => none }
def SlipEndsWrongFalsely : Prop := slipEndsRow.holds Try.pinned (OpenSpec.ofChange slipEndsWrong)

/-- 'bosunlaw02.CrcSums': WHATEVER THE INPUT: true; the input reads as it did. -/
def crcSumsSpec : ChangeSpec := { name := "crcSums", fn := fun _ => fun
  | [d1, d2] => { results := [.lit (.bool true)], args := [d1, d2] }
  | _ => none }
def crcSumsRow : OpenClaim := { program := "ytjblklejjemdhaa", sum := "062ae0dab982bdab0fe1cebce74fbbd4d0bcdb564b2115f38db4524522b83c0d", func := "bosun/bosunlaw02.CrcSums", spec := "crcSums", apart := false }
def CrcSumsSaid : Prop := crcSumsRow.holds Try.pinned (OpenSpec.ofChange crcSumsSpec)

/-- ITS FALSE NEIGHBOUR: 'it returns false'. Refute it at one input. -/
def crcSumsWrong : ChangeSpec := { name := "crcSums", fn := fun _ => fun
  | [d1, d2] => { results := [.lit (.bool false)], args := [d1, d2] }
  | _ => none }
def CrcSumsWrongFalsely : Prop := crcSumsRow.holds Try.pinned (OpenSpec.ofChange crcSumsWrong)

/-- 'bosunlaw02.CrcParts': WHATEVER THE INPUT: true; the input reads as it did. -/
def crcPartsSpec : ChangeSpec := { name := "crcParts", fn := fun _ => fun
  | [d] => { results := [.lit (.bool true)], args := [d] }
  | _ => none }
def crcPartsRow : OpenClaim := { program := "ytjblklejjemdhaa", sum := "062ae0dab982bdab0fe1cebce74fbbd4d0bcdb564b2115f38db4524522b83c0d", func := "bosun/bosunlaw02.CrcParts", spec := "crcParts", apart := false }
def CrcPartsSaid : Prop := crcPartsRow.holds Try.pinned (OpenSpec.ofChange crcPartsSpec)

/-- ITS FALSE NEIGHBOUR: 'it returns false'. Refute it at one input. -/
def crcPartsWrong : ChangeSpec := { name := "crcParts", fn := fun _ => fun
  | [d] => { results := [.lit (.bool false)], args := [d] }
  | _ => none }
def CrcPartsWrongFalsely : Prop := crcPartsRow.holds Try.pinned (OpenSpec.ofChange crcPartsWrong)

/-- 'bosunlaw02.CrcFinds': WHATEVER THE INPUT: true; the input reads as it did. -/
def crcFindsSpec : ChangeSpec := { name := "crcFinds", fn := fun _ => fun
  | [d1, d2, d3] => { results := [.lit (.bool true)], args := [d1, d2, d3] }
  | _ => none }
def crcFindsRow : OpenClaim := { program := "ytjblklejjemdhaa", sum := "062ae0dab982bdab0fe1cebce74fbbd4d0bcdb564b2115f38db4524522b83c0d", func := "bosun/bosunlaw02.CrcFinds", spec := "crcFinds", apart := false }
def CrcFindsSaid : Prop := crcFindsRow.holds Try.pinned (OpenSpec.ofChange crcFindsSpec)

/-- ITS FALSE NEIGHBOUR: 'it returns false'. Refute it at one input. -/
def crcFindsWrong : ChangeSpec := { name := "crcFinds", fn := fun _ => fun
  | [d1, d2, d3] => { results := [.lit (.bool false)], args := [d1, d2, d3] }
  | _ => none }
def CrcFindsWrongFalsely : Prop := crcFindsRow.holds Try.pinned (OpenSpec.ofChange crcFindsWrong)

/-- 'bosunlaw13.RecordBytes': WHATEVER THE INPUT: true; the input reads as it did. -/
def recordBytesSpec : ChangeSpec := { name := "recordBytes", fn := fun _ => fun
  | [d1, d2] => { results := [.lit (.bool true)], args := [d1, d2] }
  | _ => none }
def recordBytesRow : OpenClaim := { program := "ytjblklejjemdhaa", sum := "062ae0dab982bdab0fe1cebce74fbbd4d0bcdb564b2115f38db4524522b83c0d", func := "bosun/bosunlaw13.RecordBytes", spec := "recordBytes", apart := false }
def RecordBytesSaid : Prop := recordBytesRow.holds Try.pinned (OpenSpec.ofChange recordBytesSpec)

/-- ITS FALSE NEIGHBOUR: 'it returns false'. Refute it at one input. -/
def recordBytesWrong : ChangeSpec := { name := "recordBytes", fn := fun _ => fun
  | [d1, d2] => { results := [.lit (.bool false)], args := [d1, d2] }
  | _ => none }
def RecordBytesWrongFalsely : Prop := recordBytesRow.holds Try.pinned (OpenSpec.ofChange recordBytesWrong)

/-- 'bosunlaw13.RecordParses': WHATEVER THE INPUT: true; the input reads as it did. -/
def recordParsesSpec : ChangeSpec := { name := "recordParses", fn := fun _ => fun
  | [d1, d2] => { results := [.lit (.bool true)], args := [d1, d2] }
  | _ => none }
def recordParsesRow : OpenClaim := { program := "ytjblklejjemdhaa", sum := "062ae0dab982bdab0fe1cebce74fbbd4d0bcdb564b2115f38db4524522b83c0d", func := "bosun/bosunlaw13.RecordParses", spec := "recordParses", apart := false }
def RecordParsesSaid : Prop := recordParsesRow.holds Try.pinned (OpenSpec.ofChange recordParsesSpec)

/-- ITS FALSE NEIGHBOUR: 'it returns false'. Refute it at one input. -/
def recordParsesWrong : ChangeSpec := { name := "recordParses", fn := fun _ => fun
  | [d1, d2] => { results := [.lit (.bool false)], args := [d1, d2] }
  | _ => none }
def RecordParsesWrongFalsely : Prop := recordParsesRow.holds Try.pinned (OpenSpec.ofChange recordParsesWrong)

/- THE SECOND FORM. 'bulk': how many values and letters a reading holds, each counted each time it is reached (what is shared counts as often as it is met; a slice's spare places count too). A statement '..UptoSaid' is the law's where the arguments, and the package variables that the reading takes, are together of bulk at most 1048576: NARROWER than '..Said'. Prove '..Said' where nothing that the law and all that it calls make is longer than what came in: it says more and counts as full. Else prove '..UptoSaid'. A law counts once. -/
mutual
def uptoBulk {H : Type} : DataW H → Nat
  | .lit (.string bytes) => bytes.length + 1
  | .lit _ => 1
  | .nil => 1
  | .ptr d => uptoBulk d + 1
  | .slice elems spare => uptoBulkAll elems + uptoBulkAll spare + 1
  | .agg parts => uptoBulkAll parts + 1
  | .iface _ d => uptoBulk d + 1
  | .map entries => uptoBulkEntries entries + 1
  | .held _ => 1
def uptoBulkAll {H : Type} : List (DataW H) → Nat
  | [] => 0
  | d :: r => uptoBulk d + uptoBulkAll r
def uptoBulkEntries {H : Type} : List (Lit × DataW H) → Nat
  | [] => 0
  | x :: r => uptoBulkEntry x + uptoBulkEntries r
def uptoBulkEntry {H : Type} : Lit × DataW H → Nat
  | (.string bytes, d) => bytes.length + uptoBulk d + 1
  | (_, d) => uptoBulk d + 1
 end
def uptoSmall : (H : Type) → List (DataW H) → Bool := fun _ ds => decide (uptoBulkAll ds ≤ 1048576)
def OpenSpec.upto (s : _root_.Go.ChangeSpec) : _root_.Go.OpenSpec := { _root_.Go.OpenSpec.ofChange s with cond := some uptoSmall }

/-- 'bosunlaw09.SlipFrames', WHERE WHAT IT READS IS OF BULK AT MOST 1048576: true; the input reads as it did. -/
def slipFramesUptoRow : OpenClaim := { program := "ytjblklejjemdhaa", sum := "062ae0dab982bdab0fe1cebce74fbbd4d0bcdb564b2115f38db4524522b83c0d", func := "bosun/bosunlaw09.SlipFrames", spec := "slipFrames", apart := false, narrowed := true }
def SlipFramesUptoSaid : Prop := slipFramesUptoRow.holds Try.pinned (OpenSpec.upto slipFramesSpec)

/-- 'bosunlaw09.SlipEnds', WHERE WHAT IT READS IS OF BULK AT MOST 1048576: true; the input reads as it did. -/
def slipEndsUptoRow : OpenClaim := { program := "ytjblklejjemdhaa", sum := "062ae0dab982bdab0fe1cebce74fbbd4d0bcdb564b2115f38db4524522b83c0d", func := "bosun/bosunlaw09.SlipEnds", spec := "slipEnds", apart := false, narrowed := true }
def SlipEndsUptoSaid : Prop := slipEndsUptoRow.holds Try.pinned (OpenSpec.upto slipEndsSpec)

/-- 'bosunlaw02.CrcSums', WHERE WHAT IT READS IS OF BULK AT MOST 1048576: true; the input reads as it did. -/
def crcSumsUptoRow : OpenClaim := { program := "ytjblklejjemdhaa", sum := "062ae0dab982bdab0fe1cebce74fbbd4d0bcdb564b2115f38db4524522b83c0d", func := "bosun/bosunlaw02.CrcSums", spec := "crcSums", apart := false, narrowed := true }
def CrcSumsUptoSaid : Prop := crcSumsUptoRow.holds Try.pinned (OpenSpec.upto crcSumsSpec)

/-- 'bosunlaw02.CrcParts', WHERE WHAT IT READS IS OF BULK AT MOST 1048576: true; the input reads as it did. -/
def crcPartsUptoRow : OpenClaim := { program := "ytjblklejjemdhaa", sum := "062ae0dab982bdab0fe1cebce74fbbd4d0bcdb564b2115f38db4524522b83c0d", func := "bosun/bosunlaw02.CrcParts", spec := "crcParts", apart := false, narrowed := true }
def CrcPartsUptoSaid : Prop := crcPartsUptoRow.holds Try.pinned (OpenSpec.upto crcPartsSpec)

/-- 'bosunlaw02.CrcFinds', WHERE WHAT IT READS IS OF BULK AT MOST 1048576: true; the input reads as it did. -/
def crcFindsUptoRow : OpenClaim := { program := "ytjblklejjemdhaa", sum := "062ae0dab982bdab0fe1cebce74fbbd4d0bcdb564b2115f38db4524522b83c0d", func := "bosun/bosunlaw02.CrcFinds", spec := "crcFinds", apart := false, narrowed := true }
def CrcFindsUptoSaid : Prop := crcFindsUptoRow.holds Try.pinned (OpenSpec.upto crcFindsSpec)

/-- 'bosunlaw13.RecordBytes', WHERE WHAT IT READS IS OF BULK AT MOST 1048576: true; the input reads as it did. -/
def recordBytesUptoRow : OpenClaim := { program := "ytjblklejjemdhaa", sum := "062ae0dab982bdab0fe1cebce74fbbd4d0bcdb564b2115f38db4524522b83c0d", func := "bosun/bosunlaw13.RecordBytes", spec := "recordBytes", apart := false, narrowed := true }
def RecordBytesUptoSaid : Prop := recordBytesUptoRow.holds Try.pinned (OpenSpec.upto recordBytesSpec)

/-- 'bosunlaw13.RecordParses', WHERE WHAT IT READS IS OF BULK AT MOST 1048576: true; the input reads as it did. -/
def recordParsesUptoRow : OpenClaim := { program := "ytjblklejjemdhaa", sum := "062ae0dab982bdab0fe1cebce74fbbd4d0bcdb564b2115f38db4524522b83c0d", func := "bosun/bosunlaw13.RecordParses", spec := "recordParses", apart := false, narrowed := true }
def RecordParsesUptoSaid : Prop := recordParsesUptoRow.holds Try.pinned (OpenSpec.upto recordParsesSpec)

end Rows
end Go.Proofs.Ytjblklejjemdhaa
