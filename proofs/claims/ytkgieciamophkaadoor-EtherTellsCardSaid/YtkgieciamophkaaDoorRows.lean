/-
  NARROWER THAN 'FOR EVERY INPUT', by the rows' own cells (each row's printed sentence says how): OctetsNumbers: laid · OctetsWrites: laid · OctetsApart: laid · OctetsParts: laid · OctetsReads: laid · OctetsBack: laid · EtherTells: laid · EtherBack: laid · EtherSizes: laid · EtherCuts: laid · EtherTags: laid · EtherGroups: laid.
  DERIVED. THE GIVEN ROWS OF THIS SEAT. 12 by the template 'for every input the law returns true; each argument reads behind the call as it read before'; 0 by the template 'total and deterministic' (their statements: YtkgieciamophkaaDoorTotals.lean).
  GIVEN WITH THE SEED: the statements are not yours to turn. If you find one false, say at which input.
  Laid BY PROGRAM, IN A SANDBOX (cutbox-rows.mjs): the forced cells as the released guide's own fill.sh prints them over the translation 8d36ca60b3ab8841… (all of the seat's roots in one cut). By AI agents, Wed Nov 11 2026. No macro, syntax, notation, axiom, sorry.
-/
import Derived.Test.YtkgieciamophkaaDoorChecked
import GoSem.Claim
import GoSem.ClaimJoined
import GoSem.ClaimMapViews
import Derived.JoinedTies
import Derived.KernelRfl
namespace Go.Proofs.YtkgieciamophkaaDoor
/- THE CELL 'sum', in the pinned program and in every row, IS THE sha256 OF THE DUMP (.gsa) THAT YtkgieciamophkaaDoorProg.lean LOADS. Nothing in Lean hashes anything: it is a label: what it is worth is what the hold of that sum in a sandbox is worth. -/
noncomputable def Tryd.pinned : Pinned := { name := "ytkgieciamophkaadoor", sum := "8d36ca60b3ab884176e1da2098e3f80e483b62f8c2180e1b9e14e2a9ee641713", checked := Tryd.checked }
namespace Rows
def none {H : Type} : Left H := { results := [], args := [] }

/- WHAT THE LISTED PACKAGE-LEVEL VARIABLES READ AS WHEN THE CALL BEGINS. Each datum BY PROGRAM (the guide's laid-datum.mjs) off the statement by which the dump's own 'gosem.cut.vars' lays the variable. In a bare row this is a premise. The card (YtkgieciamophkaaDoorCards.lean) ties it to the program's text. -/
def laid_errors_errorType {H : Type} : DataW H := .iface "internal/reflectlite.rtype" (.agg [.ptr (.lit (.string [101, 114, 114, 111, 114]))])
def laid_underpass_api_All {H : Type} : DataW H := .agg [.lit (.int .u8 255), .lit (.int .u8 255), .lit (.int .u8 255), .lit (.int .u8 255), .lit (.int .u8 255), .lit (.int .u8 255)]

/-- 'underpasslaw01.OctetsNumbers': WHATEVER THE INPUT: true; the input reads as it did. -/
def octetsNumbersSpec : ChangeSpec := { name := "octetsNumbers", fn := fun _ => fun
  | [d1, d2, d3, d4] => { results := [.lit (.bool true)], args := [d1, d2, d3, d4] }
  | _ => none }
def octetsNumbersRow : OpenClaim := { program := "ytkgieciamophkaadoor", sum := "8d36ca60b3ab884176e1da2098e3f80e483b62f8c2180e1b9e14e2a9ee641713", func := "underpass/underpasslaw01.OctetsNumbers", spec := "octetsNumbers", inPlace := ["internal/reflectlite.ValueOf", "(internal/reflectlite.Value).Type", "(internal/reflectlite.Value).IsNil", "internal/reflectlite.TypeOf", "(internal/reflectlite.Value).Elem", "(internal/reflectlite.Value).Set"], unfollowed := true, recurses := true, named := ["errors.errorType"], apart := false, laid := [("errors.errorType", laid_errors_errorType)] }
def OctetsNumbersSaid : Prop := octetsNumbersRow.holds Tryd.pinned (OpenSpec.ofChange octetsNumbersSpec)

/-- ITS FALSE NEIGHBOUR: 'it returns false'. Refute it at one input. -/
def octetsNumbersWrong : ChangeSpec := { name := "octetsNumbers", fn := fun _ => fun
  | [d1, d2, d3, d4] => { results := [.lit (.bool false)], args := [d1, d2, d3, d4] }
  | _ => none }
def OctetsNumbersWrongFalsely : Prop := octetsNumbersRow.holds Tryd.pinned (OpenSpec.ofChange octetsNumbersWrong)

/-- 'underpasslaw01.OctetsWrites': WHATEVER THE INPUT: true; the input reads as it did. -/
def octetsWritesSpec : ChangeSpec := { name := "octetsWrites", fn := fun _ => fun
  | [d] => { results := [.lit (.bool true)], args := [d] }
  | _ => none }
def octetsWritesRow : OpenClaim := { program := "ytkgieciamophkaadoor", sum := "8d36ca60b3ab884176e1da2098e3f80e483b62f8c2180e1b9e14e2a9ee641713", func := "underpass/underpasslaw01.OctetsWrites", spec := "octetsWrites", inPlace := ["internal/reflectlite.ValueOf", "(internal/reflectlite.Value).Type", "(internal/reflectlite.Value).IsNil", "internal/reflectlite.TypeOf", "(internal/reflectlite.Value).Elem", "(internal/reflectlite.Value).Set"], unfollowed := true, recurses := true, named := ["errors.errorType"], apart := false, laid := [("errors.errorType", laid_errors_errorType)] }
def OctetsWritesSaid : Prop := octetsWritesRow.holds Tryd.pinned (OpenSpec.ofChange octetsWritesSpec)

/-- ITS FALSE NEIGHBOUR: 'it returns false'. Refute it at one input. -/
def octetsWritesWrong : ChangeSpec := { name := "octetsWrites", fn := fun _ => fun
  | [d] => { results := [.lit (.bool false)], args := [d] }
  | _ => none }
def OctetsWritesWrongFalsely : Prop := octetsWritesRow.holds Tryd.pinned (OpenSpec.ofChange octetsWritesWrong)

/-- 'underpasslaw01.OctetsApart': WHATEVER THE INPUT: true; the input reads as it did. -/
def octetsApartSpec : ChangeSpec := { name := "octetsApart", fn := fun _ => fun
  | [d1, d2] => { results := [.lit (.bool true)], args := [d1, d2] }
  | _ => none }
def octetsApartRow : OpenClaim := { program := "ytkgieciamophkaadoor", sum := "8d36ca60b3ab884176e1da2098e3f80e483b62f8c2180e1b9e14e2a9ee641713", func := "underpass/underpasslaw01.OctetsApart", spec := "octetsApart", inPlace := ["internal/reflectlite.ValueOf", "(internal/reflectlite.Value).Type", "(internal/reflectlite.Value).IsNil", "internal/reflectlite.TypeOf", "(internal/reflectlite.Value).Elem", "(internal/reflectlite.Value).Set"], unfollowed := true, recurses := true, named := ["errors.errorType"], apart := false, laid := [("errors.errorType", laid_errors_errorType)] }
def OctetsApartSaid : Prop := octetsApartRow.holds Tryd.pinned (OpenSpec.ofChange octetsApartSpec)

/-- ITS FALSE NEIGHBOUR: 'it returns false'. Refute it at one input. -/
def octetsApartWrong : ChangeSpec := { name := "octetsApart", fn := fun _ => fun
  | [d1, d2] => { results := [.lit (.bool false)], args := [d1, d2] }
  | _ => none }
def OctetsApartWrongFalsely : Prop := octetsApartRow.holds Tryd.pinned (OpenSpec.ofChange octetsApartWrong)

/-- 'underpasslaw01.OctetsParts': WHATEVER THE INPUT: true; the input reads as it did. -/
def octetsPartsSpec : ChangeSpec := { name := "octetsParts", fn := fun _ => fun
  | [d1, d2] => { results := [.lit (.bool true)], args := [d1, d2] }
  | _ => none }
def octetsPartsRow : OpenClaim := { program := "ytkgieciamophkaadoor", sum := "8d36ca60b3ab884176e1da2098e3f80e483b62f8c2180e1b9e14e2a9ee641713", func := "underpass/underpasslaw01.OctetsParts", spec := "octetsParts", inPlace := ["internal/reflectlite.ValueOf", "(internal/reflectlite.Value).Type", "(internal/reflectlite.Value).IsNil", "internal/reflectlite.TypeOf", "(internal/reflectlite.Value).Elem", "(internal/reflectlite.Value).Set"], unfollowed := true, recurses := true, named := ["errors.errorType"], apart := false, laid := [("errors.errorType", laid_errors_errorType)] }
def OctetsPartsSaid : Prop := octetsPartsRow.holds Tryd.pinned (OpenSpec.ofChange octetsPartsSpec)

/-- ITS FALSE NEIGHBOUR: 'it returns false'. Refute it at one input. -/
def octetsPartsWrong : ChangeSpec := { name := "octetsParts", fn := fun _ => fun
  | [d1, d2] => { results := [.lit (.bool false)], args := [d1, d2] }
  | _ => none }
def OctetsPartsWrongFalsely : Prop := octetsPartsRow.holds Tryd.pinned (OpenSpec.ofChange octetsPartsWrong)

/-- 'underpasslaw01.OctetsReads': WHATEVER THE INPUT: true; the input reads as it did. -/
def octetsReadsSpec : ChangeSpec := { name := "octetsReads", fn := fun _ => fun
  | [d1, d2] => { results := [.lit (.bool true)], args := [d1, d2] }
  | _ => none }
def octetsReadsRow : OpenClaim := { program := "ytkgieciamophkaadoor", sum := "8d36ca60b3ab884176e1da2098e3f80e483b62f8c2180e1b9e14e2a9ee641713", func := "underpass/underpasslaw01.OctetsReads", spec := "octetsReads", inPlace := ["internal/reflectlite.ValueOf", "(internal/reflectlite.Value).Type", "(internal/reflectlite.Value).IsNil", "internal/reflectlite.TypeOf", "(internal/reflectlite.Value).Elem", "(internal/reflectlite.Value).Set"], unfollowed := true, recurses := true, named := ["errors.errorType"], apart := false, laid := [("errors.errorType", laid_errors_errorType)] }
def OctetsReadsSaid : Prop := octetsReadsRow.holds Tryd.pinned (OpenSpec.ofChange octetsReadsSpec)

/-- ITS FALSE NEIGHBOUR: 'it returns false'. Refute it at one input. -/
def octetsReadsWrong : ChangeSpec := { name := "octetsReads", fn := fun _ => fun
  | [d1, d2] => { results := [.lit (.bool false)], args := [d1, d2] }
  | _ => none }
def OctetsReadsWrongFalsely : Prop := octetsReadsRow.holds Tryd.pinned (OpenSpec.ofChange octetsReadsWrong)

/-- 'underpasslaw01.OctetsBack': WHATEVER THE INPUT: true; the input reads as it did. -/
def octetsBackSpec : ChangeSpec := { name := "octetsBack", fn := fun _ => fun
  | [d1, d2] => { results := [.lit (.bool true)], args := [d1, d2] }
  | _ => none }
def octetsBackRow : OpenClaim := { program := "ytkgieciamophkaadoor", sum := "8d36ca60b3ab884176e1da2098e3f80e483b62f8c2180e1b9e14e2a9ee641713", func := "underpass/underpasslaw01.OctetsBack", spec := "octetsBack", inPlace := ["internal/reflectlite.ValueOf", "(internal/reflectlite.Value).Type", "(internal/reflectlite.Value).IsNil", "internal/reflectlite.TypeOf", "(internal/reflectlite.Value).Elem", "(internal/reflectlite.Value).Set"], unfollowed := true, recurses := true, named := ["errors.errorType"], apart := false, laid := [("errors.errorType", laid_errors_errorType)] }
def OctetsBackSaid : Prop := octetsBackRow.holds Tryd.pinned (OpenSpec.ofChange octetsBackSpec)

/-- ITS FALSE NEIGHBOUR: 'it returns false'. Refute it at one input. -/
def octetsBackWrong : ChangeSpec := { name := "octetsBack", fn := fun _ => fun
  | [d1, d2] => { results := [.lit (.bool false)], args := [d1, d2] }
  | _ => none }
def OctetsBackWrongFalsely : Prop := octetsBackRow.holds Tryd.pinned (OpenSpec.ofChange octetsBackWrong)

/-- 'underpasslaw03.EtherTells': WHATEVER THE INPUT: true; the input reads as it did. -/
def etherTellsSpec : ChangeSpec := { name := "etherTells", fn := fun _ => fun
  | [d1, d2] => { results := [.lit (.bool true)], args := [d1, d2] }
  | _ => none }
def etherTellsRow : OpenClaim := { program := "ytkgieciamophkaadoor", sum := "8d36ca60b3ab884176e1da2098e3f80e483b62f8c2180e1b9e14e2a9ee641713", func := "underpass/underpasslaw03.EtherTells", spec := "etherTells", inPlace := ["internal/reflectlite.ValueOf", "(internal/reflectlite.Value).Type", "(internal/reflectlite.Value).IsNil", "internal/reflectlite.TypeOf", "(internal/reflectlite.Value).Elem", "(internal/reflectlite.Value).Set"], unfollowed := true, recurses := true, named := ["underpass/api.All", "errors.errorType"], apart := false, laid := [("errors.errorType", laid_errors_errorType), ("underpass/api.All", laid_underpass_api_All)] }
def EtherTellsSaid : Prop := etherTellsRow.holds Tryd.pinned (OpenSpec.ofChange etherTellsSpec)

/-- ITS FALSE NEIGHBOUR: 'it returns false'. Refute it at one input. -/
def etherTellsWrong : ChangeSpec := { name := "etherTells", fn := fun _ => fun
  | [d1, d2] => { results := [.lit (.bool false)], args := [d1, d2] }
  | _ => none }
def EtherTellsWrongFalsely : Prop := etherTellsRow.holds Tryd.pinned (OpenSpec.ofChange etherTellsWrong)

/-- 'underpasslaw03.EtherBack': WHATEVER THE INPUT: true; the input reads as it did. -/
def etherBackSpec : ChangeSpec := { name := "etherBack", fn := fun _ => fun
  | [d1, d2] => { results := [.lit (.bool true)], args := [d1, d2] }
  | _ => none }
def etherBackRow : OpenClaim := { program := "ytkgieciamophkaadoor", sum := "8d36ca60b3ab884176e1da2098e3f80e483b62f8c2180e1b9e14e2a9ee641713", func := "underpass/underpasslaw03.EtherBack", spec := "etherBack", inPlace := ["internal/reflectlite.ValueOf", "(internal/reflectlite.Value).Type", "(internal/reflectlite.Value).IsNil", "internal/reflectlite.TypeOf", "(internal/reflectlite.Value).Elem", "(internal/reflectlite.Value).Set"], unfollowed := true, recurses := true, named := ["underpass/api.All", "errors.errorType"], apart := false, laid := [("errors.errorType", laid_errors_errorType), ("underpass/api.All", laid_underpass_api_All)] }
def EtherBackSaid : Prop := etherBackRow.holds Tryd.pinned (OpenSpec.ofChange etherBackSpec)

/-- ITS FALSE NEIGHBOUR: 'it returns false'. Refute it at one input. -/
def etherBackWrong : ChangeSpec := { name := "etherBack", fn := fun _ => fun
  | [d1, d2] => { results := [.lit (.bool false)], args := [d1, d2] }
  | _ => none }
def EtherBackWrongFalsely : Prop := etherBackRow.holds Tryd.pinned (OpenSpec.ofChange etherBackWrong)

/-- 'underpasslaw03.EtherSizes': WHATEVER THE INPUT: true; the input reads as it did. -/
def etherSizesSpec : ChangeSpec := { name := "etherSizes", fn := fun _ => fun
  | [d1, d2] => { results := [.lit (.bool true)], args := [d1, d2] }
  | _ => none }
def etherSizesRow : OpenClaim := { program := "ytkgieciamophkaadoor", sum := "8d36ca60b3ab884176e1da2098e3f80e483b62f8c2180e1b9e14e2a9ee641713", func := "underpass/underpasslaw03.EtherSizes", spec := "etherSizes", inPlace := ["internal/reflectlite.ValueOf", "(internal/reflectlite.Value).Type", "(internal/reflectlite.Value).IsNil", "internal/reflectlite.TypeOf", "(internal/reflectlite.Value).Elem", "(internal/reflectlite.Value).Set"], unfollowed := true, recurses := true, named := ["underpass/api.All", "errors.errorType"], apart := false, laid := [("errors.errorType", laid_errors_errorType), ("underpass/api.All", laid_underpass_api_All)] }
def EtherSizesSaid : Prop := etherSizesRow.holds Tryd.pinned (OpenSpec.ofChange etherSizesSpec)

/-- ITS FALSE NEIGHBOUR: 'it returns false'. Refute it at one input. -/
def etherSizesWrong : ChangeSpec := { name := "etherSizes", fn := fun _ => fun
  | [d1, d2] => { results := [.lit (.bool false)], args := [d1, d2] }
  | _ => none }
def EtherSizesWrongFalsely : Prop := etherSizesRow.holds Tryd.pinned (OpenSpec.ofChange etherSizesWrong)

/-- 'underpasslaw03.EtherCuts': WHATEVER THE INPUT: true; the input reads as it did. -/
def etherCutsSpec : ChangeSpec := { name := "etherCuts", fn := fun _ => fun
  | [d1, d2] => { results := [.lit (.bool true)], args := [d1, d2] }
  | _ => none }
def etherCutsRow : OpenClaim := { program := "ytkgieciamophkaadoor", sum := "8d36ca60b3ab884176e1da2098e3f80e483b62f8c2180e1b9e14e2a9ee641713", func := "underpass/underpasslaw03.EtherCuts", spec := "etherCuts", inPlace := ["internal/reflectlite.ValueOf", "(internal/reflectlite.Value).Type", "(internal/reflectlite.Value).IsNil", "internal/reflectlite.TypeOf", "(internal/reflectlite.Value).Elem", "(internal/reflectlite.Value).Set"], unfollowed := true, recurses := true, named := ["underpass/api.All", "errors.errorType"], apart := false, laid := [("errors.errorType", laid_errors_errorType), ("underpass/api.All", laid_underpass_api_All)] }
def EtherCutsSaid : Prop := etherCutsRow.holds Tryd.pinned (OpenSpec.ofChange etherCutsSpec)

/-- ITS FALSE NEIGHBOUR: 'it returns false'. Refute it at one input. -/
def etherCutsWrong : ChangeSpec := { name := "etherCuts", fn := fun _ => fun
  | [d1, d2] => { results := [.lit (.bool false)], args := [d1, d2] }
  | _ => none }
def EtherCutsWrongFalsely : Prop := etherCutsRow.holds Tryd.pinned (OpenSpec.ofChange etherCutsWrong)

/-- 'underpasslaw03.EtherTags': WHATEVER THE INPUT: true; the input reads as it did. -/
def etherTagsSpec : ChangeSpec := { name := "etherTags", fn := fun _ => fun
  | [d1, d2] => { results := [.lit (.bool true)], args := [d1, d2] }
  | _ => none }
def etherTagsRow : OpenClaim := { program := "ytkgieciamophkaadoor", sum := "8d36ca60b3ab884176e1da2098e3f80e483b62f8c2180e1b9e14e2a9ee641713", func := "underpass/underpasslaw03.EtherTags", spec := "etherTags", inPlace := ["internal/reflectlite.ValueOf", "(internal/reflectlite.Value).Type", "(internal/reflectlite.Value).IsNil", "internal/reflectlite.TypeOf", "(internal/reflectlite.Value).Elem", "(internal/reflectlite.Value).Set"], unfollowed := true, recurses := true, named := ["underpass/api.All", "errors.errorType"], apart := false, laid := [("errors.errorType", laid_errors_errorType), ("underpass/api.All", laid_underpass_api_All)] }
def EtherTagsSaid : Prop := etherTagsRow.holds Tryd.pinned (OpenSpec.ofChange etherTagsSpec)

/-- ITS FALSE NEIGHBOUR: 'it returns false'. Refute it at one input. -/
def etherTagsWrong : ChangeSpec := { name := "etherTags", fn := fun _ => fun
  | [d1, d2] => { results := [.lit (.bool false)], args := [d1, d2] }
  | _ => none }
def EtherTagsWrongFalsely : Prop := etherTagsRow.holds Tryd.pinned (OpenSpec.ofChange etherTagsWrong)

/-- 'underpasslaw03.EtherGroups': WHATEVER THE INPUT: true; the input reads as it did. -/
def etherGroupsSpec : ChangeSpec := { name := "etherGroups", fn := fun _ => fun
  | [d1, d2] => { results := [.lit (.bool true)], args := [d1, d2] }
  | _ => none }
def etherGroupsRow : OpenClaim := { program := "ytkgieciamophkaadoor", sum := "8d36ca60b3ab884176e1da2098e3f80e483b62f8c2180e1b9e14e2a9ee641713", func := "underpass/underpasslaw03.EtherGroups", spec := "etherGroups", inPlace := ["internal/reflectlite.ValueOf", "(internal/reflectlite.Value).Type", "(internal/reflectlite.Value).IsNil", "internal/reflectlite.TypeOf", "(internal/reflectlite.Value).Elem", "(internal/reflectlite.Value).Set"], unfollowed := true, recurses := true, named := ["underpass/api.All", "errors.errorType"], apart := false, laid := [("errors.errorType", laid_errors_errorType), ("underpass/api.All", laid_underpass_api_All)] }
def EtherGroupsSaid : Prop := etherGroupsRow.holds Tryd.pinned (OpenSpec.ofChange etherGroupsSpec)

/-- ITS FALSE NEIGHBOUR: 'it returns false'. Refute it at one input. -/
def etherGroupsWrong : ChangeSpec := { name := "etherGroups", fn := fun _ => fun
  | [d1, d2] => { results := [.lit (.bool false)], args := [d1, d2] }
  | _ => none }
def EtherGroupsWrongFalsely : Prop := etherGroupsRow.holds Tryd.pinned (OpenSpec.ofChange etherGroupsWrong)

/- THE SECOND FORM. 'bulk': how many values and letters a reading holds, each counted each time it is reached (what is shared counts as often as it is met; a slice's spare places count too). A statement '..UptoSaid' is the law's where the arguments, and the package variables that the reading takes, are together of bulk at most 1048576: NARROWER than '..Said'. Prove '..Said' where nothing that the law and all that it calls make is longer than what came in: it says more and counts as full. Else prove '..UptoSaid'. A law counts once. -/
mutual
def uptoBulk {H : Type} : DataW H → Nat
  | .lit (.string bytes) => bytes.length + 1
  | .lit _ => 1
  | .nil => 1
  | .ptr d => uptoBulk d + 1
  | .slice elems spare => uptoBulkAll elems + uptoBulkAll spare + 1
  | .agg parts => uptoBulkAll parts + 1
  | .iface _ d => uptoBulk d + 1
  | .map entries => uptoBulkEntries entries + 1
  | .held _ => 1
def uptoBulkAll {H : Type} : List (DataW H) → Nat
  | [] => 0
  | d :: r => uptoBulk d + uptoBulkAll r
def uptoBulkEntries {H : Type} : List (Lit × DataW H) → Nat
  | [] => 0
  | x :: r => uptoBulkEntry x + uptoBulkEntries r
def uptoBulkEntry {H : Type} : Lit × DataW H → Nat
  | (.string bytes, d) => bytes.length + uptoBulk d + 1
  | (_, d) => uptoBulk d + 1
 end
def uptoSmall : (H : Type) → List (DataW H) → Bool := fun _ ds => decide (uptoBulkAll ds ≤ 1048576)
def OpenSpec.upto (s : _root_.Go.ChangeSpec) : _root_.Go.OpenSpec := { _root_.Go.OpenSpec.ofChange s with cond := some uptoSmall }

/-- 'underpasslaw01.OctetsNumbers', WHERE WHAT IT READS IS OF BULK AT MOST 1048576: true; the input reads as it did. -/
def octetsNumbersUptoRow : OpenClaim := { program := "ytkgieciamophkaadoor", sum := "8d36ca60b3ab884176e1da2098e3f80e483b62f8c2180e1b9e14e2a9ee641713", func := "underpass/underpasslaw01.OctetsNumbers", spec := "octetsNumbers", inPlace := ["internal/reflectlite.ValueOf", "(internal/reflectlite.Value).Type", "(internal/reflectlite.Value).IsNil", "internal/reflectlite.TypeOf", "(internal/reflectlite.Value).Elem", "(internal/reflectlite.Value).Set"], unfollowed := true, recurses := true, named := ["errors.errorType"], apart := false, laid := [("errors.errorType", laid_errors_errorType)], narrowed := true }
def OctetsNumbersUptoSaid : Prop := octetsNumbersUptoRow.holds Tryd.pinned (OpenSpec.upto octetsNumbersSpec)

/-- 'underpasslaw01.OctetsWrites', WHERE WHAT IT READS IS OF BULK AT MOST 1048576: true; the input reads as it did. -/
def octetsWritesUptoRow : OpenClaim := { program := "ytkgieciamophkaadoor", sum := "8d36ca60b3ab884176e1da2098e3f80e483b62f8c2180e1b9e14e2a9ee641713", func := "underpass/underpasslaw01.OctetsWrites", spec := "octetsWrites", inPlace := ["internal/reflectlite.ValueOf", "(internal/reflectlite.Value).Type", "(internal/reflectlite.Value).IsNil", "internal/reflectlite.TypeOf", "(internal/reflectlite.Value).Elem", "(internal/reflectlite.Value).Set"], unfollowed := true, recurses := true, named := ["errors.errorType"], apart := false, laid := [("errors.errorType", laid_errors_errorType)], narrowed := true }
def OctetsWritesUptoSaid : Prop := octetsWritesUptoRow.holds Tryd.pinned (OpenSpec.upto octetsWritesSpec)

/-- 'underpasslaw01.OctetsApart', WHERE WHAT IT READS IS OF BULK AT MOST 1048576: true; the input reads as it did. -/
def octetsApartUptoRow : OpenClaim := { program := "ytkgieciamophkaadoor", sum := "8d36ca60b3ab884176e1da2098e3f80e483b62f8c2180e1b9e14e2a9ee641713", func := "underpass/underpasslaw01.OctetsApart", spec := "octetsApart", inPlace := ["internal/reflectlite.ValueOf", "(internal/reflectlite.Value).Type", "(internal/reflectlite.Value).IsNil", "internal/reflectlite.TypeOf", "(internal/reflectlite.Value).Elem", "(internal/reflectlite.Value).Set"], unfollowed := true, recurses := true, named := ["errors.errorType"], apart := false, laid := [("errors.errorType", laid_errors_errorType)], narrowed := true }
def OctetsApartUptoSaid : Prop := octetsApartUptoRow.holds Tryd.pinned (OpenSpec.upto octetsApartSpec)

/-- 'underpasslaw01.OctetsParts', WHERE WHAT IT READS IS OF BULK AT MOST 1048576: true; the input reads as it did. -/
def octetsPartsUptoRow : OpenClaim := { program := "ytkgieciamophkaadoor", sum := "8d36ca60b3ab884176e1da2098e3f80e483b62f8c2180e1b9e14e2a9ee641713", func := "underpass/underpasslaw01.OctetsParts", spec := "octetsParts", inPlace := ["internal/reflectlite.ValueOf", "(internal/reflectlite.Value).Type", "(internal/reflectlite.Value).IsNil", "internal/reflectlite.TypeOf", "(internal/reflectlite.Value).Elem", "(internal/reflectlite.Value).Set"], unfollowed := true, recurses := true, named := ["errors.errorType"], apart := false, laid := [("errors.errorType", laid_errors_errorType)], narrowed := true }
def OctetsPartsUptoSaid : Prop := octetsPartsUptoRow.holds Tryd.pinned (OpenSpec.upto octetsPartsSpec)

/-- 'underpasslaw01.OctetsReads', WHERE WHAT IT READS IS OF BULK AT MOST 1048576: true; the input reads as it did. -/
def octetsReadsUptoRow : OpenClaim := { program := "ytkgieciamophkaadoor", sum := "8d36ca60b3ab884176e1da2098e3f80e483b62f8c2180e1b9e14e2a9ee641713", func := "underpass/underpasslaw01.OctetsReads", spec := "octetsReads", inPlace := ["internal/reflectlite.ValueOf", "(internal/reflectlite.Value).Type", "(internal/reflectlite.Value).IsNil", "internal/reflectlite.TypeOf", "(internal/reflectlite.Value).Elem", "(internal/reflectlite.Value).Set"], unfollowed := true, recurses := true, named := ["errors.errorType"], apart := false, laid := [("errors.errorType", laid_errors_errorType)], narrowed := true }
def OctetsReadsUptoSaid : Prop := octetsReadsUptoRow.holds Tryd.pinned (OpenSpec.upto octetsReadsSpec)

/-- 'underpasslaw01.OctetsBack', WHERE WHAT IT READS IS OF BULK AT MOST 1048576: true; the input reads as it did. -/
def octetsBackUptoRow : OpenClaim := { program := "ytkgieciamophkaadoor", sum := "8d36ca60b3ab884176e1da2098e3f80e483b62f8c2180e1b9e14e2a9ee641713", func := "underpass/underpasslaw01.OctetsBack", spec := "octetsBack", inPlace := ["internal/reflectlite.ValueOf", "(internal/reflectlite.Value).Type", "(internal/reflectlite.Value).IsNil", "internal/reflectlite.TypeOf", "(internal/reflectlite.Value).Elem", "(internal/reflectlite.Value).Set"], unfollowed := true, recurses := true, named := ["errors.errorType"], apart := false, laid := [("errors.errorType", laid_errors_errorType)], narrowed := true }
def OctetsBackUptoSaid : Prop := octetsBackUptoRow.holds Tryd.pinned (OpenSpec.upto octetsBackSpec)

/-- 'underpasslaw03.EtherTells', WHERE WHAT IT READS IS OF BULK AT MOST 1048576: true; the input reads as it did. -/
def etherTellsUptoRow : OpenClaim := { program := "ytkgieciamophkaadoor", sum := "8d36ca60b3ab884176e1da2098e3f80e483b62f8c2180e1b9e14e2a9ee641713", func := "underpass/underpasslaw03.EtherTells", spec := "etherTells", inPlace := ["internal/reflectlite.ValueOf", "(internal/reflectlite.Value).Type", "(internal/reflectlite.Value).IsNil", "internal/reflectlite.TypeOf", "(internal/reflectlite.Value).Elem", "(internal/reflectlite.Value).Set"], unfollowed := true, recurses := true, named := ["underpass/api.All", "errors.errorType"], apart := false, laid := [("errors.errorType", laid_errors_errorType), ("underpass/api.All", laid_underpass_api_All)], narrowed := true }
def EtherTellsUptoSaid : Prop := etherTellsUptoRow.holds Tryd.pinned (OpenSpec.upto etherTellsSpec)

/-- 'underpasslaw03.EtherBack', WHERE WHAT IT READS IS OF BULK AT MOST 1048576: true; the input reads as it did. -/
def etherBackUptoRow : OpenClaim := { program := "ytkgieciamophkaadoor", sum := "8d36ca60b3ab884176e1da2098e3f80e483b62f8c2180e1b9e14e2a9ee641713", func := "underpass/underpasslaw03.EtherBack", spec := "etherBack", inPlace := ["internal/reflectlite.ValueOf", "(internal/reflectlite.Value).Type", "(internal/reflectlite.Value).IsNil", "internal/reflectlite.TypeOf", "(internal/reflectlite.Value).Elem", "(internal/reflectlite.Value).Set"], unfollowed := true, recurses := true, named := ["underpass/api.All", "errors.errorType"], apart := false, laid := [("errors.errorType", laid_errors_errorType), ("underpass/api.All", laid_underpass_api_All)], narrowed := true }
def EtherBackUptoSaid : Prop := etherBackUptoRow.holds Tryd.pinned (OpenSpec.upto etherBackSpec)

/-- 'underpasslaw03.EtherSizes', WHERE WHAT IT READS IS OF BULK AT MOST 1048576: true; the input reads as it did. -/
def etherSizesUptoRow : OpenClaim := { program := "ytkgieciamophkaadoor", sum := "8d36ca60b3ab884176e1da2098e3f80e483b62f8c2180e1b9e14e2a9ee641713", func := "underpass/underpasslaw03.EtherSizes", spec := "etherSizes", inPlace := ["internal/reflectlite.ValueOf", "(internal/reflectlite.Value).Type", "(internal/reflectlite.Value).IsNil", "internal/reflectlite.TypeOf", "(internal/reflectlite.Value).Elem", "(internal/reflectlite.Value).Set"], unfollowed := true, recurses := true, named := ["underpass/api.All", "errors.errorType"], apart := false, laid := [("errors.errorType", laid_errors_errorType), ("underpass/api.All", laid_underpass_api_All)], narrowed := true }
def EtherSizesUptoSaid : Prop := etherSizesUptoRow.holds Tryd.pinned (OpenSpec.upto etherSizesSpec)

/-- 'underpasslaw03.EtherCuts', WHERE WHAT IT READS IS OF BULK AT MOST 1048576: true; the input reads as it did. -/
def etherCutsUptoRow : OpenClaim := { program := "ytkgieciamophkaadoor", sum := "8d36ca60b3ab884176e1da2098e3f80e483b62f8c2180e1b9e14e2a9ee641713", func := "underpass/underpasslaw03.EtherCuts", spec := "etherCuts", inPlace := ["internal/reflectlite.ValueOf", "(internal/reflectlite.Value).Type", "(internal/reflectlite.Value).IsNil", "internal/reflectlite.TypeOf", "(internal/reflectlite.Value).Elem", "(internal/reflectlite.Value).Set"], unfollowed := true, recurses := true, named := ["underpass/api.All", "errors.errorType"], apart := false, laid := [("errors.errorType", laid_errors_errorType), ("underpass/api.All", laid_underpass_api_All)], narrowed := true }
def EtherCutsUptoSaid : Prop := etherCutsUptoRow.holds Tryd.pinned (OpenSpec.upto etherCutsSpec)

/-- 'underpasslaw03.EtherTags', WHERE WHAT IT READS IS OF BULK AT MOST 1048576: true; the input reads as it did. -/
def etherTagsUptoRow : OpenClaim := { program := "ytkgieciamophkaadoor", sum := "8d36ca60b3ab884176e1da2098e3f80e483b62f8c2180e1b9e14e2a9ee641713", func := "underpass/underpasslaw03.EtherTags", spec := "etherTags", inPlace := ["internal/reflectlite.ValueOf", "(internal/reflectlite.Value).Type", "(internal/reflectlite.Value).IsNil", "internal/reflectlite.TypeOf", "(internal/reflectlite.Value).Elem", "(internal/reflectlite.Value).Set"], unfollowed := true, recurses := true, named := ["underpass/api.All", "errors.errorType"], apart := false, laid := [("errors.errorType", laid_errors_errorType), ("underpass/api.All", laid_underpass_api_All)], narrowed := true }
def EtherTagsUptoSaid : Prop := etherTagsUptoRow.holds Tryd.pinned (OpenSpec.upto etherTagsSpec)

/-- 'underpasslaw03.EtherGroups', WHERE WHAT IT READS IS OF BULK AT MOST 1048576: true; the input reads as it did. -/
def etherGroupsUptoRow : OpenClaim := { program := "ytkgieciamophkaadoor", sum := "8d36ca60b3ab884176e1da2098e3f80e483b62f8c2180e1b9e14e2a9ee641713", func := "underpass/underpasslaw03.EtherGroups", spec := "etherGroups", inPlace := ["internal/reflectlite.ValueOf", "(internal/reflectlite.Value).Type", "(internal/reflectlite.Value).IsNil", "internal/reflectlite.TypeOf", "(internal/reflectlite.Value).Elem", "(internal/reflectlite.Value).Set"], unfollowed := true, recurses := true, named := ["underpass/api.All", "errors.errorType"], apart := false, laid := [("errors.errorType", laid_errors_errorType), ("underpass/api.All", laid_underpass_api_All)], narrowed := true }
def EtherGroupsUptoSaid : Prop := etherGroupsUptoRow.holds Tryd.pinned (OpenSpec.upto etherGroupsSpec)

end Rows
end Go.Proofs.YtkgieciamophkaaDoor
