/-
  No cell of these rows narrows 'for every input' (looked for: loops, veiled, ifaces, maps, wideKeys, modest, calm, conditions, laid).
  DERIVED. THE GIVEN ROWS OF THIS SEAT. 11 by the template 'for every input the law returns true; each argument reads behind the call as it read before'; 0 by the template 'total and deterministic' (their statements: YtepgnhkgedihfaaTotals.lean).
  GIVEN WITH THE SEED: the statements are not yours to turn. If you find one false, say at which input.
  Laid BY PROGRAM, IN A SANDBOX (cutbox-rows.mjs): the forced cells as the released guide's own fill.sh prints them over the translation af35adbb99b6103e… (all of the seat's roots in one cut). By AI agents, Wed Nov 11 2026. No macro, syntax, notation, axiom, sorry.
-/
import Derived.Test.YtepgnhkgedihfaaChecked
import GoSem.Claim
import GoSem.ClaimJoined
import GoSem.ClaimMapViews
import Derived.JoinedTies
import Derived.KernelRfl
namespace Go.Proofs.Ytepgnhkgedihfaa
/- THE CELL 'sum', in the pinned program and in every row, IS THE sha256 OF THE DUMP (.gsa) THAT YtepgnhkgedihfaaProg.lean LOADS. Nothing in Lean hashes anything: it is a label: what it is worth is what the hold of that sum in a sandbox is worth. -/
noncomputable def Try.pinned : Pinned := { name := "ytepgnhkgedihfaa", sum := "af35adbb99b6103e6ce4439a1bda2e5b5e06ce17cb566e60e011fc65c1f565ba", checked := Try.checked }
namespace Rows
def none {H : Type} : Left H := { results := [], args := [] }

/-- 'catenarylaw03.OctetPanics': WHATEVER THE INPUT: true; the input reads as it did. -/
def octetPanicsSpec : ChangeSpec := { name := "octetPanics", fn := fun _ => fun
  | [d1, d2] => { results := [.lit (.bool true)], args := [d1, d2] }
  | _ => none }
def octetPanicsRow : OpenClaim := { program := "ytepgnhkgedihfaa", sum := "af35adbb99b6103e6ce4439a1bda2e5b5e06ce17cb566e60e011fc65c1f565ba", func := "catenary/catenarylaw03.OctetPanics", spec := "octetPanics", unfollowed := true, recurses := true, apart := false }
def OctetPanicsSaid : Prop := octetPanicsRow.holds Try.pinned (OpenSpec.ofChange octetPanicsSpec)

/-- ITS FALSE NEIGHBOUR: 'it returns false'. Refute it at one input. -/
def octetPanicsWrong : ChangeSpec := { name := "octetPanics", fn := fun _ => fun
  | [d1, d2] => { results := [.lit (.bool false)], args := [d1, d2] }
  | _ => none }
def OctetPanicsWrongFalsely : Prop := octetPanicsRow.holds Try.pinned (OpenSpec.ofChange octetPanicsWrong)

/-- 'catenarylaw02.AddrTexts': WHATEVER THE INPUT: true; the input reads as it did. -/
def addrTextsSpec : ChangeSpec := { name := "addrTexts", fn := fun _ => fun
  | [d] => { results := [.lit (.bool true)], args := [d] }
  | _ => none }
def addrTextsRow : OpenClaim := { program := "ytepgnhkgedihfaa", sum := "af35adbb99b6103e6ce4439a1bda2e5b5e06ce17cb566e60e011fc65c1f565ba", func := "catenary/catenarylaw02.AddrTexts", spec := "addrTexts", unfollowed := true, recurses := true, apart := false }
def AddrTextsSaid : Prop := addrTextsRow.holds Try.pinned (OpenSpec.ofChange addrTextsSpec)

/-- ITS FALSE NEIGHBOUR: 'it returns false'. Refute it at one input. -/
def addrTextsWrong : ChangeSpec := { name := "addrTexts", fn := fun _ => fun
  | [d] => { results := [.lit (.bool false)], args := [d] }
  | _ => none }
def AddrTextsWrongFalsely : Prop := addrTextsRow.holds Try.pinned (OpenSpec.ofChange addrTextsWrong)

/-- 'catenarylaw08.VectorBest': WHATEVER THE INPUT: true; the input reads as it did. -/
def vectorBestSpec : ChangeSpec := { name := "vectorBest", fn := fun _ => fun
  | [d1, d2] => { results := [.lit (.bool true)], args := [d1, d2] }
  | _ => none }
def vectorBestRow : OpenClaim := { program := "ytepgnhkgedihfaa", sum := "af35adbb99b6103e6ce4439a1bda2e5b5e06ce17cb566e60e011fc65c1f565ba", func := "catenary/catenarylaw08.VectorBest", spec := "vectorBest", apart := false }
def VectorBestSaid : Prop := vectorBestRow.holds Try.pinned (OpenSpec.ofChange vectorBestSpec)

/-- ITS FALSE NEIGHBOUR: 'it returns false'. Refute it at one input. -/
def vectorBestWrong : ChangeSpec := { name := "vectorBest", fn := fun _ => fun
  | [d1, d2] => { results := [.lit (.bool false)], args := [d1, d2] }
  | _ => none }
def VectorBestWrongFalsely : Prop := vectorBestRow.holds Try.pinned (OpenSpec.ofChange vectorBestWrong)

/-- 'catenarylaw08.VectorOrder': WHATEVER THE INPUT: true; the input reads as it did. -/
def vectorOrderSpec : ChangeSpec := { name := "vectorOrder", fn := fun _ => fun
  | [d1, d2, d3] => { results := [.lit (.bool true)], args := [d1, d2, d3] }
  | _ => none }
def vectorOrderRow : OpenClaim := { program := "ytepgnhkgedihfaa", sum := "af35adbb99b6103e6ce4439a1bda2e5b5e06ce17cb566e60e011fc65c1f565ba", func := "catenary/catenarylaw08.VectorOrder", spec := "vectorOrder", apart := false }
def VectorOrderSaid : Prop := vectorOrderRow.holds Try.pinned (OpenSpec.ofChange vectorOrderSpec)

/-- ITS FALSE NEIGHBOUR: 'it returns false'. Refute it at one input. -/
def vectorOrderWrong : ChangeSpec := { name := "vectorOrder", fn := fun _ => fun
  | [d1, d2, d3] => { results := [.lit (.bool false)], args := [d1, d2, d3] }
  | _ => none }
def VectorOrderWrongFalsely : Prop := vectorOrderRow.holds Try.pinned (OpenSpec.ofChange vectorOrderWrong)

/-- 'catenarylaw07.BpduRoles': WHATEVER THE INPUT: true; the input reads as it did. -/
def bpduRolesSpec : ChangeSpec := { name := "bpduRoles", fn := fun _ => fun
  | [d1, d2] => { results := [.lit (.bool true)], args := [d1, d2] }
  | _ => none }
def bpduRolesRow : OpenClaim := { program := "ytepgnhkgedihfaa", sum := "af35adbb99b6103e6ce4439a1bda2e5b5e06ce17cb566e60e011fc65c1f565ba", func := "catenary/catenarylaw07.BpduRoles", spec := "bpduRoles", apart := false }
def BpduRolesSaid : Prop := bpduRolesRow.holds Try.pinned (OpenSpec.ofChange bpduRolesSpec)

/-- ITS FALSE NEIGHBOUR: 'it returns false'. Refute it at one input. -/
def bpduRolesWrong : ChangeSpec := { name := "bpduRoles", fn := fun _ => fun
  | [d1, d2] => { results := [.lit (.bool false)], args := [d1, d2] }
  | _ => none }
def BpduRolesWrongFalsely : Prop := bpduRolesRow.holds Try.pinned (OpenSpec.ofChange bpduRolesWrong)

/-- 'catenarylaw04.EtherSpanning': WHATEVER THE INPUT: true; the input reads as it did. -/
def etherSpanningSpec : ChangeSpec := { name := "etherSpanning", fn := fun _ => fun
  | [d1, d2, d3] => { results := [.lit (.bool true)], args := [d1, d2, d3] }
  | _ => none }
def etherSpanningRow : OpenClaim := { program := "ytepgnhkgedihfaa", sum := "af35adbb99b6103e6ce4439a1bda2e5b5e06ce17cb566e60e011fc65c1f565ba", func := "catenary/catenarylaw04.EtherSpanning", spec := "etherSpanning", unfollowed := true, recurses := true, apart := false }
def EtherSpanningSaid : Prop := etherSpanningRow.holds Try.pinned (OpenSpec.ofChange etherSpanningSpec)

/-- ITS FALSE NEIGHBOUR: 'it returns false'. Refute it at one input. -/
def etherSpanningWrong : ChangeSpec := { name := "etherSpanning", fn := fun _ => fun
  | [d1, d2, d3] => { results := [.lit (.bool false)], args := [d1, d2, d3] }
  | _ => none }
def EtherSpanningWrongFalsely : Prop := etherSpanningRow.holds Try.pinned (OpenSpec.ofChange etherSpanningWrong)

/-- 'catenarylaw02.AddrNumbers': WHATEVER THE INPUT: true; the input reads as it did. -/
def addrNumbersSpec : ChangeSpec := { name := "addrNumbers", fn := fun _ => fun
  | [d1, d2, d3] => { results := [.lit (.bool true)], args := [d1, d2, d3] }
  | _ => none }
def addrNumbersRow : OpenClaim := { program := "ytepgnhkgedihfaa", sum := "af35adbb99b6103e6ce4439a1bda2e5b5e06ce17cb566e60e011fc65c1f565ba", func := "catenary/catenarylaw02.AddrNumbers", spec := "addrNumbers", unfollowed := true, recurses := true, apart := false }
def AddrNumbersSaid : Prop := addrNumbersRow.holds Try.pinned (OpenSpec.ofChange addrNumbersSpec)

/-- ITS FALSE NEIGHBOUR: 'it returns false'. Refute it at one input. -/
def addrNumbersWrong : ChangeSpec := { name := "addrNumbers", fn := fun _ => fun
  | [d1, d2, d3] => { results := [.lit (.bool false)], args := [d1, d2, d3] }
  | _ => none }
def AddrNumbersWrongFalsely : Prop := addrNumbersRow.holds Try.pinned (OpenSpec.ofChange addrNumbersWrong)

/-- 'catenarylaw04.EtherBytes': WHATEVER THE INPUT: true; the input reads as it did. -/
def etherBytesSpec : ChangeSpec := { name := "etherBytes", fn := fun _ => fun
  | [d] => { results := [.lit (.bool true)], args := [d] }
  | _ => none }
def etherBytesRow : OpenClaim := { program := "ytepgnhkgedihfaa", sum := "af35adbb99b6103e6ce4439a1bda2e5b5e06ce17cb566e60e011fc65c1f565ba", func := "catenary/catenarylaw04.EtherBytes", spec := "etherBytes", unfollowed := true, recurses := true, apart := false }
def EtherBytesSaid : Prop := etherBytesRow.holds Try.pinned (OpenSpec.ofChange etherBytesSpec)

/-- ITS FALSE NEIGHBOUR: 'it returns false'. Refute it at one input. -/
def etherBytesWrong : ChangeSpec := { name := "etherBytes", fn := fun _ => fun
  | [d] => { results := [.lit (.bool false)], args := [d] }
  | _ => none }
def EtherBytesWrongFalsely : Prop := etherBytesRow.holds Try.pinned (OpenSpec.ofChange etherBytesWrong)

/-- 'catenarylaw04.EtherReads': WHATEVER THE INPUT: true; the input reads as it did. -/
def etherReadsSpec : ChangeSpec := { name := "etherReads", fn := fun _ => fun
  | [d] => { results := [.lit (.bool true)], args := [d] }
  | _ => none }
def etherReadsRow : OpenClaim := { program := "ytepgnhkgedihfaa", sum := "af35adbb99b6103e6ce4439a1bda2e5b5e06ce17cb566e60e011fc65c1f565ba", func := "catenary/catenarylaw04.EtherReads", spec := "etherReads", unfollowed := true, recurses := true, apart := false }
def EtherReadsSaid : Prop := etherReadsRow.holds Try.pinned (OpenSpec.ofChange etherReadsSpec)

/-- ITS FALSE NEIGHBOUR: 'it returns false'. Refute it at one input. -/
def etherReadsWrong : ChangeSpec := { name := "etherReads", fn := fun _ => fun
  | [d] => { results := [.lit (.bool false)], args := [d] }
  | _ => none }
def EtherReadsWrongFalsely : Prop := etherReadsRow.holds Try.pinned (OpenSpec.ofChange etherReadsWrong)

/-- 'catenarylaw07.BpduBytes': WHATEVER THE INPUT: true; the input reads as it did. -/
def bpduBytesSpec : ChangeSpec := { name := "bpduBytes", fn := fun _ => fun
  | [d1, d2] => { results := [.lit (.bool true)], args := [d1, d2] }
  | _ => none }
def bpduBytesRow : OpenClaim := { program := "ytepgnhkgedihfaa", sum := "af35adbb99b6103e6ce4439a1bda2e5b5e06ce17cb566e60e011fc65c1f565ba", func := "catenary/catenarylaw07.BpduBytes", spec := "bpduBytes", unfollowed := true, recurses := true, apart := false }
def BpduBytesSaid : Prop := bpduBytesRow.holds Try.pinned (OpenSpec.ofChange bpduBytesSpec)

/-- ITS FALSE NEIGHBOUR: 'it returns false'. Refute it at one input. -/
def bpduBytesWrong : ChangeSpec := { name := "bpduBytes", fn := fun _ => fun
  | [d1, d2] => { results := [.lit (.bool false)], args := [d1, d2] }
  | _ => none }
def BpduBytesWrongFalsely : Prop := bpduBytesRow.holds Try.pinned (OpenSpec.ofChange bpduBytesWrong)

/-- 'catenarylaw07.BpduReads': WHATEVER THE INPUT: true; the input reads as it did. -/
def bpduReadsSpec : ChangeSpec := { name := "bpduReads", fn := fun _ => fun
  | [d] => { results := [.lit (.bool true)], args := [d] }
  | _ => none }
def bpduReadsRow : OpenClaim := { program := "ytepgnhkgedihfaa", sum := "af35adbb99b6103e6ce4439a1bda2e5b5e06ce17cb566e60e011fc65c1f565ba", func := "catenary/catenarylaw07.BpduReads", spec := "bpduReads", unfollowed := true, recurses := true, apart := false }
def BpduReadsSaid : Prop := bpduReadsRow.holds Try.pinned (OpenSpec.ofChange bpduReadsSpec)

/-- ITS FALSE NEIGHBOUR: 'it returns false'. Refute it at one input. -/
def bpduReadsWrong : ChangeSpec := { name := "bpduReads", fn := fun _ => fun
  | [d] => { results := [.lit (.bool false)], args := [d] }
  | _ => none }
def BpduReadsWrongFalsely : Prop := bpduReadsRow.holds Try.pinned (OpenSpec.ofChange bpduReadsWrong)

/- THE SECOND FORM. 'bulk': how many values and letters a reading holds, each counted each time it is reached (what is shared counts as often as it is met; a slice's spare places count too). A statement '..UptoSaid' is the law's where the arguments, and the package variables that the reading takes, are together of bulk at most 1048576: NARROWER than '..Said'. Prove '..Said' where nothing that the law and all that it calls make is longer than what came in: it says more and counts as full. Else prove '..UptoSaid'. A law counts once. -/
mutual
def uptoBulk {H : Type} : DataW H → Nat
  | .lit (.string bytes) => bytes.length + 1
  | .lit _ => 1
  | .nil => 1
  | .ptr d => uptoBulk d + 1
  | .slice elems spare => uptoBulkAll elems + uptoBulkAll spare + 1
  | .agg parts => uptoBulkAll parts + 1
  | .iface _ d => uptoBulk d + 1
  | .map entries => uptoBulkEntries entries + 1
  | .held _ => 1
def uptoBulkAll {H : Type} : List (DataW H) → Nat
  | [] => 0
  | d :: r => uptoBulk d + uptoBulkAll r
def uptoBulkEntries {H : Type} : List (Lit × DataW H) → Nat
  | [] => 0
  | x :: r => uptoBulkEntry x + uptoBulkEntries r
def uptoBulkEntry {H : Type} : Lit × DataW H → Nat
  | (.string bytes, d) => bytes.length + uptoBulk d + 1
  | (_, d) => uptoBulk d + 1
 end
def uptoSmall : (H : Type) → List (DataW H) → Bool := fun _ ds => decide (uptoBulkAll ds ≤ 1048576)
def OpenSpec.upto (s : _root_.Go.ChangeSpec) : _root_.Go.OpenSpec := { _root_.Go.OpenSpec.ofChange s with cond := some uptoSmall }

/-- 'catenarylaw03.OctetPanics', WHERE WHAT IT READS IS OF BULK AT MOST 1048576: true; the input reads as it did. -/
def octetPanicsUptoRow : OpenClaim := { program := "ytepgnhkgedihfaa", sum := "af35adbb99b6103e6ce4439a1bda2e5b5e06ce17cb566e60e011fc65c1f565ba", func := "catenary/catenarylaw03.OctetPanics", spec := "octetPanics", unfollowed := true, recurses := true, apart := false, narrowed := true }
def OctetPanicsUptoSaid : Prop := octetPanicsUptoRow.holds Try.pinned (OpenSpec.upto octetPanicsSpec)

/-- 'catenarylaw02.AddrTexts', WHERE WHAT IT READS IS OF BULK AT MOST 1048576: true; the input reads as it did. -/
def addrTextsUptoRow : OpenClaim := { program := "ytepgnhkgedihfaa", sum := "af35adbb99b6103e6ce4439a1bda2e5b5e06ce17cb566e60e011fc65c1f565ba", func := "catenary/catenarylaw02.AddrTexts", spec := "addrTexts", unfollowed := true, recurses := true, apart := false, narrowed := true }
def AddrTextsUptoSaid : Prop := addrTextsUptoRow.holds Try.pinned (OpenSpec.upto addrTextsSpec)

/-- 'catenarylaw08.VectorBest', WHERE WHAT IT READS IS OF BULK AT MOST 1048576: true; the input reads as it did. -/
def vectorBestUptoRow : OpenClaim := { program := "ytepgnhkgedihfaa", sum := "af35adbb99b6103e6ce4439a1bda2e5b5e06ce17cb566e60e011fc65c1f565ba", func := "catenary/catenarylaw08.VectorBest", spec := "vectorBest", apart := false, narrowed := true }
def VectorBestUptoSaid : Prop := vectorBestUptoRow.holds Try.pinned (OpenSpec.upto vectorBestSpec)

/-- 'catenarylaw08.VectorOrder', WHERE WHAT IT READS IS OF BULK AT MOST 1048576: true; the input reads as it did. -/
def vectorOrderUptoRow : OpenClaim := { program := "ytepgnhkgedihfaa", sum := "af35adbb99b6103e6ce4439a1bda2e5b5e06ce17cb566e60e011fc65c1f565ba", func := "catenary/catenarylaw08.VectorOrder", spec := "vectorOrder", apart := false, narrowed := true }
def VectorOrderUptoSaid : Prop := vectorOrderUptoRow.holds Try.pinned (OpenSpec.upto vectorOrderSpec)

/-- 'catenarylaw07.BpduRoles', WHERE WHAT IT READS IS OF BULK AT MOST 1048576: true; the input reads as it did. -/
def bpduRolesUptoRow : OpenClaim := { program := "ytepgnhkgedihfaa", sum := "af35adbb99b6103e6ce4439a1bda2e5b5e06ce17cb566e60e011fc65c1f565ba", func := "catenary/catenarylaw07.BpduRoles", spec := "bpduRoles", apart := false, narrowed := true }
def BpduRolesUptoSaid : Prop := bpduRolesUptoRow.holds Try.pinned (OpenSpec.upto bpduRolesSpec)

/-- 'catenarylaw04.EtherSpanning', WHERE WHAT IT READS IS OF BULK AT MOST 1048576: true; the input reads as it did. -/
def etherSpanningUptoRow : OpenClaim := { program := "ytepgnhkgedihfaa", sum := "af35adbb99b6103e6ce4439a1bda2e5b5e06ce17cb566e60e011fc65c1f565ba", func := "catenary/catenarylaw04.EtherSpanning", spec := "etherSpanning", unfollowed := true, recurses := true, apart := false, narrowed := true }
def EtherSpanningUptoSaid : Prop := etherSpanningUptoRow.holds Try.pinned (OpenSpec.upto etherSpanningSpec)

/-- 'catenarylaw02.AddrNumbers', WHERE WHAT IT READS IS OF BULK AT MOST 1048576: true; the input reads as it did. -/
def addrNumbersUptoRow : OpenClaim := { program := "ytepgnhkgedihfaa", sum := "af35adbb99b6103e6ce4439a1bda2e5b5e06ce17cb566e60e011fc65c1f565ba", func := "catenary/catenarylaw02.AddrNumbers", spec := "addrNumbers", unfollowed := true, recurses := true, apart := false, narrowed := true }
def AddrNumbersUptoSaid : Prop := addrNumbersUptoRow.holds Try.pinned (OpenSpec.upto addrNumbersSpec)

/-- 'catenarylaw04.EtherBytes', WHERE WHAT IT READS IS OF BULK AT MOST 1048576: true; the input reads as it did. -/
def etherBytesUptoRow : OpenClaim := { program := "ytepgnhkgedihfaa", sum := "af35adbb99b6103e6ce4439a1bda2e5b5e06ce17cb566e60e011fc65c1f565ba", func := "catenary/catenarylaw04.EtherBytes", spec := "etherBytes", unfollowed := true, recurses := true, apart := false, narrowed := true }
def EtherBytesUptoSaid : Prop := etherBytesUptoRow.holds Try.pinned (OpenSpec.upto etherBytesSpec)

/-- 'catenarylaw04.EtherReads', WHERE WHAT IT READS IS OF BULK AT MOST 1048576: true; the input reads as it did. -/
def etherReadsUptoRow : OpenClaim := { program := "ytepgnhkgedihfaa", sum := "af35adbb99b6103e6ce4439a1bda2e5b5e06ce17cb566e60e011fc65c1f565ba", func := "catenary/catenarylaw04.EtherReads", spec := "etherReads", unfollowed := true, recurses := true, apart := false, narrowed := true }
def EtherReadsUptoSaid : Prop := etherReadsUptoRow.holds Try.pinned (OpenSpec.upto etherReadsSpec)

/-- 'catenarylaw07.BpduBytes', WHERE WHAT IT READS IS OF BULK AT MOST 1048576: true; the input reads as it did. -/
def bpduBytesUptoRow : OpenClaim := { program := "ytepgnhkgedihfaa", sum := "af35adbb99b6103e6ce4439a1bda2e5b5e06ce17cb566e60e011fc65c1f565ba", func := "catenary/catenarylaw07.BpduBytes", spec := "bpduBytes", unfollowed := true, recurses := true, apart := false, narrowed := true }
def BpduBytesUptoSaid : Prop := bpduBytesUptoRow.holds Try.pinned (OpenSpec.upto bpduBytesSpec)

/-- 'catenarylaw07.BpduReads', WHERE WHAT IT READS IS OF BULK AT MOST 1048576: true; the input reads as it did. -/
def bpduReadsUptoRow : OpenClaim := { program := "ytepgnhkgedihfaa", sum := "af35adbb99b6103e6ce4439a1bda2e5b5e06ce17cb566e60e011fc65c1f565ba", func := "catenary/catenarylaw07.BpduReads", spec := "bpduReads", unfollowed := true, recurses := true, apart := false, narrowed := true }
def BpduReadsUptoSaid : Prop := bpduReadsUptoRow.holds Try.pinned (OpenSpec.upto bpduReadsSpec)

end Rows
end Go.Proofs.Ytepgnhkgedihfaa
