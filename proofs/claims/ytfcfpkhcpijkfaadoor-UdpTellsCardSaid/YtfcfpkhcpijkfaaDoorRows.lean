/-
  NARROWER THAN 'FOR EVERY INPUT', by the rows' own cells (each row's printed sentence says how): UdpTells: laid · UdpBack: laid · UdpUnlike: laid · UdpStrange: laid · UdpSizes: laid · Ipv4Tells: laid · Ipv4Back: laid · Ipv4Spoilt: laid · Ipv4Unlike: laid · Ipv4Fields: laid · Ipv4Row: laid · Ipv4Limits: laid.
  DERIVED. THE GIVEN ROWS OF THIS SEAT. 12 by the template 'for every input the law returns true; each argument reads behind the call as it read before'; 0 by the template 'total and deterministic' (their statements: YtfcfpkhcpijkfaaDoorTotals.lean).
  GIVEN WITH THE SEED: the statements are not yours to turn. If you find one false, say at which input.
  Laid BY PROGRAM, IN A SANDBOX (cutbox-rows.mjs): the forced cells as the released guide's own fill.sh prints them over the translation ae88d72cf944eadf… (all of the seat's roots in one cut). By AI agents, Wed Nov 11 2026. No macro, syntax, notation, axiom, sorry.
-/
import Derived.Test.YtfcfpkhcpijkfaaDoorChecked
import GoSem.Claim
import GoSem.ClaimJoined
import GoSem.ClaimMapViews
import Derived.JoinedTies
import Derived.KernelRfl
namespace Go.Proofs.YtfcfpkhcpijkfaaDoor
/- THE CELL 'sum', in the pinned program and in every row, IS THE sha256 OF THE DUMP (.gsa) THAT YtfcfpkhcpijkfaaDoorProg.lean LOADS. Nothing in Lean hashes anything: it is a label: what it is worth is what the hold of that sum in a sandbox is worth. -/
noncomputable def Tryd.pinned : Pinned := { name := "ytfcfpkhcpijkfaadoor", sum := "ae88d72cf944eadf3c9ace0a2d9bda35b238163eb737b6bf132e4c7e5b50dcc3", checked := Tryd.checked }
namespace Rows
def none {H : Type} : Left H := { results := [], args := [] }

/- WHAT THE LISTED PACKAGE-LEVEL VARIABLES READ AS WHEN THE CALL BEGINS. Each datum BY PROGRAM (the guide's laid-datum.mjs) off the statement by which the dump's own 'gosem.cut.vars' lays the variable. In a bare row this is a premise. The card (YtfcfpkhcpijkfaaDoorCards.lean) ties it to the program's text. -/
def laid_errors_errorType {H : Type} : DataW H := .iface "internal/reflectlite.rtype" (.agg [.ptr (.lit (.string [101, 114, 114, 111, 114]))])

/-- 'underpasslaw06.UdpTells': WHATEVER THE INPUT: true; the input reads as it did. -/
def udpTellsSpec : ChangeSpec := { name := "udpTells", fn := fun _ => fun
  | [d1, d2, d3, d4] => { results := [.lit (.bool true)], args := [d1, d2, d3, d4] }
  | _ => none }
def udpTellsRow : OpenClaim := { program := "ytfcfpkhcpijkfaadoor", sum := "ae88d72cf944eadf3c9ace0a2d9bda35b238163eb737b6bf132e4c7e5b50dcc3", func := "underpass/underpasslaw06.UdpTells", spec := "udpTells", inPlace := ["internal/reflectlite.ValueOf", "(internal/reflectlite.Value).Type", "(internal/reflectlite.Value).IsNil", "internal/reflectlite.TypeOf", "(internal/reflectlite.Value).Elem", "(internal/reflectlite.Value).Set"], unfollowed := true, recurses := true, named := ["errors.errorType"], apart := false, laid := [("errors.errorType", laid_errors_errorType)] }
def UdpTellsSaid : Prop := udpTellsRow.holds Tryd.pinned (OpenSpec.ofChange udpTellsSpec)

/-- ITS FALSE NEIGHBOUR: 'it returns false'. Refute it at one input. -/
def udpTellsWrong : ChangeSpec := { name := "udpTells", fn := fun _ => fun
  | [d1, d2, d3, d4] => { results := [.lit (.bool false)], args := [d1, d2, d3, d4] }
  | _ => none }
def UdpTellsWrongFalsely : Prop := udpTellsRow.holds Tryd.pinned (OpenSpec.ofChange udpTellsWrong)

/-- 'underpasslaw06.UdpBack': WHATEVER THE INPUT: true; the input reads as it did. -/
def udpBackSpec : ChangeSpec := { name := "udpBack", fn := fun _ => fun
  | [d1, d2, d3, d4, d5] => { results := [.lit (.bool true)], args := [d1, d2, d3, d4, d5] }
  | _ => none }
def udpBackRow : OpenClaim := { program := "ytfcfpkhcpijkfaadoor", sum := "ae88d72cf944eadf3c9ace0a2d9bda35b238163eb737b6bf132e4c7e5b50dcc3", func := "underpass/underpasslaw06.UdpBack", spec := "udpBack", inPlace := ["internal/reflectlite.ValueOf", "(internal/reflectlite.Value).Type", "(internal/reflectlite.Value).IsNil", "internal/reflectlite.TypeOf", "(internal/reflectlite.Value).Elem", "(internal/reflectlite.Value).Set"], unfollowed := true, recurses := true, named := ["errors.errorType"], apart := false, laid := [("errors.errorType", laid_errors_errorType)] }
def UdpBackSaid : Prop := udpBackRow.holds Tryd.pinned (OpenSpec.ofChange udpBackSpec)

/-- ITS FALSE NEIGHBOUR: 'it returns false'. Refute it at one input. -/
def udpBackWrong : ChangeSpec := { name := "udpBack", fn := fun _ => fun
  | [d1, d2, d3, d4, d5] => { results := [.lit (.bool false)], args := [d1, d2, d3, d4, d5] }
  | _ => none }
def UdpBackWrongFalsely : Prop := udpBackRow.holds Tryd.pinned (OpenSpec.ofChange udpBackWrong)

/-- 'underpasslaw06.UdpUnlike': WHATEVER THE INPUT: true; the input reads as it did. -/
def udpUnlikeSpec : ChangeSpec := { name := "udpUnlike", fn := fun _ => fun
  | [d1, d2, d3, d4] => { results := [.lit (.bool true)], args := [d1, d2, d3, d4] }
  | _ => none }
def udpUnlikeRow : OpenClaim := { program := "ytfcfpkhcpijkfaadoor", sum := "ae88d72cf944eadf3c9ace0a2d9bda35b238163eb737b6bf132e4c7e5b50dcc3", func := "underpass/underpasslaw06.UdpUnlike", spec := "udpUnlike", inPlace := ["internal/reflectlite.ValueOf", "(internal/reflectlite.Value).Type", "(internal/reflectlite.Value).IsNil", "internal/reflectlite.TypeOf", "(internal/reflectlite.Value).Elem", "(internal/reflectlite.Value).Set"], unfollowed := true, recurses := true, named := ["errors.errorType"], apart := false, laid := [("errors.errorType", laid_errors_errorType)] }
def UdpUnlikeSaid : Prop := udpUnlikeRow.holds Tryd.pinned (OpenSpec.ofChange udpUnlikeSpec)

/-- ITS FALSE NEIGHBOUR: 'it returns false'. Refute it at one input. -/
def udpUnlikeWrong : ChangeSpec := { name := "udpUnlike", fn := fun _ => fun
  | [d1, d2, d3, d4] => { results := [.lit (.bool false)], args := [d1, d2, d3, d4] }
  | _ => none }
def UdpUnlikeWrongFalsely : Prop := udpUnlikeRow.holds Tryd.pinned (OpenSpec.ofChange udpUnlikeWrong)

/-- 'underpasslaw06.UdpStrange': WHATEVER THE INPUT: true; the input reads as it did. -/
def udpStrangeSpec : ChangeSpec := { name := "udpStrange", fn := fun _ => fun
  | [d1, d2, d3, d4] => { results := [.lit (.bool true)], args := [d1, d2, d3, d4] }
  | _ => none }
def udpStrangeRow : OpenClaim := { program := "ytfcfpkhcpijkfaadoor", sum := "ae88d72cf944eadf3c9ace0a2d9bda35b238163eb737b6bf132e4c7e5b50dcc3", func := "underpass/underpasslaw06.UdpStrange", spec := "udpStrange", inPlace := ["internal/reflectlite.ValueOf", "(internal/reflectlite.Value).Type", "(internal/reflectlite.Value).IsNil", "internal/reflectlite.TypeOf", "(internal/reflectlite.Value).Elem", "(internal/reflectlite.Value).Set"], unfollowed := true, recurses := true, named := ["errors.errorType"], apart := false, laid := [("errors.errorType", laid_errors_errorType)] }
def UdpStrangeSaid : Prop := udpStrangeRow.holds Tryd.pinned (OpenSpec.ofChange udpStrangeSpec)

/-- ITS FALSE NEIGHBOUR: 'it returns false'. Refute it at one input. -/
def udpStrangeWrong : ChangeSpec := { name := "udpStrange", fn := fun _ => fun
  | [d1, d2, d3, d4] => { results := [.lit (.bool false)], args := [d1, d2, d3, d4] }
  | _ => none }
def UdpStrangeWrongFalsely : Prop := udpStrangeRow.holds Tryd.pinned (OpenSpec.ofChange udpStrangeWrong)

/-- 'underpasslaw06.UdpSizes': WHATEVER THE INPUT: true; the input reads as it did. -/
def udpSizesSpec : ChangeSpec := { name := "udpSizes", fn := fun _ => fun
  | [d1, d2, d3, d4] => { results := [.lit (.bool true)], args := [d1, d2, d3, d4] }
  | _ => none }
def udpSizesRow : OpenClaim := { program := "ytfcfpkhcpijkfaadoor", sum := "ae88d72cf944eadf3c9ace0a2d9bda35b238163eb737b6bf132e4c7e5b50dcc3", func := "underpass/underpasslaw06.UdpSizes", spec := "udpSizes", inPlace := ["internal/reflectlite.ValueOf", "(internal/reflectlite.Value).Type", "(internal/reflectlite.Value).IsNil", "internal/reflectlite.TypeOf", "(internal/reflectlite.Value).Elem", "(internal/reflectlite.Value).Set"], unfollowed := true, recurses := true, named := ["errors.errorType"], apart := false, laid := [("errors.errorType", laid_errors_errorType)] }
def UdpSizesSaid : Prop := udpSizesRow.holds Tryd.pinned (OpenSpec.ofChange udpSizesSpec)

/-- ITS FALSE NEIGHBOUR: 'it returns false'. Refute it at one input. -/
def udpSizesWrong : ChangeSpec := { name := "udpSizes", fn := fun _ => fun
  | [d1, d2, d3, d4] => { results := [.lit (.bool false)], args := [d1, d2, d3, d4] }
  | _ => none }
def UdpSizesWrongFalsely : Prop := udpSizesRow.holds Tryd.pinned (OpenSpec.ofChange udpSizesWrong)

/-- 'underpasslaw05.Ipv4Tells': WHATEVER THE INPUT: true; the input reads as it did. -/
def ipv4TellsSpec : ChangeSpec := { name := "ipv4Tells", fn := fun _ => fun
  | [d1, d2] => { results := [.lit (.bool true)], args := [d1, d2] }
  | _ => none }
def ipv4TellsRow : OpenClaim := { program := "ytfcfpkhcpijkfaadoor", sum := "ae88d72cf944eadf3c9ace0a2d9bda35b238163eb737b6bf132e4c7e5b50dcc3", func := "underpass/underpasslaw05.Ipv4Tells", spec := "ipv4Tells", inPlace := ["internal/reflectlite.ValueOf", "(internal/reflectlite.Value).Type", "(internal/reflectlite.Value).IsNil", "internal/reflectlite.TypeOf", "(internal/reflectlite.Value).Elem", "(internal/reflectlite.Value).Set"], unfollowed := true, recurses := true, named := ["errors.errorType"], apart := false, laid := [("errors.errorType", laid_errors_errorType)] }
def Ipv4TellsSaid : Prop := ipv4TellsRow.holds Tryd.pinned (OpenSpec.ofChange ipv4TellsSpec)

/-- ITS FALSE NEIGHBOUR: 'it returns false'. Refute it at one input. -/
def ipv4TellsWrong : ChangeSpec := { name := "ipv4Tells", fn := fun _ => fun
  | [d1, d2] => { results := [.lit (.bool false)], args := [d1, d2] }
  | _ => none }
def Ipv4TellsWrongFalsely : Prop := ipv4TellsRow.holds Tryd.pinned (OpenSpec.ofChange ipv4TellsWrong)

/-- 'underpasslaw05.Ipv4Back': WHATEVER THE INPUT: true; the input reads as it did. -/
def ipv4BackSpec : ChangeSpec := { name := "ipv4Back", fn := fun _ => fun
  | [d1, d2, d3] => { results := [.lit (.bool true)], args := [d1, d2, d3] }
  | _ => none }
def ipv4BackRow : OpenClaim := { program := "ytfcfpkhcpijkfaadoor", sum := "ae88d72cf944eadf3c9ace0a2d9bda35b238163eb737b6bf132e4c7e5b50dcc3", func := "underpass/underpasslaw05.Ipv4Back", spec := "ipv4Back", inPlace := ["internal/reflectlite.ValueOf", "(internal/reflectlite.Value).Type", "(internal/reflectlite.Value).IsNil", "internal/reflectlite.TypeOf", "(internal/reflectlite.Value).Elem", "(internal/reflectlite.Value).Set"], unfollowed := true, recurses := true, named := ["errors.errorType"], apart := false, laid := [("errors.errorType", laid_errors_errorType)] }
def Ipv4BackSaid : Prop := ipv4BackRow.holds Tryd.pinned (OpenSpec.ofChange ipv4BackSpec)

/-- ITS FALSE NEIGHBOUR: 'it returns false'. Refute it at one input. -/
def ipv4BackWrong : ChangeSpec := { name := "ipv4Back", fn := fun _ => fun
  | [d1, d2, d3] => { results := [.lit (.bool false)], args := [d1, d2, d3] }
  | _ => none }
def Ipv4BackWrongFalsely : Prop := ipv4BackRow.holds Tryd.pinned (OpenSpec.ofChange ipv4BackWrong)

/-- 'underpasslaw05.Ipv4Spoilt': WHATEVER THE INPUT: true; the input reads as it did. -/
def ipv4SpoiltSpec : ChangeSpec := { name := "ipv4Spoilt", fn := fun _ => fun
  | [d1, d2, d3, d4] => { results := [.lit (.bool true)], args := [d1, d2, d3, d4] }
  | _ => none }
def ipv4SpoiltRow : OpenClaim := { program := "ytfcfpkhcpijkfaadoor", sum := "ae88d72cf944eadf3c9ace0a2d9bda35b238163eb737b6bf132e4c7e5b50dcc3", func := "underpass/underpasslaw05.Ipv4Spoilt", spec := "ipv4Spoilt", inPlace := ["internal/reflectlite.ValueOf", "(internal/reflectlite.Value).Type", "(internal/reflectlite.Value).IsNil", "internal/reflectlite.TypeOf", "(internal/reflectlite.Value).Elem", "(internal/reflectlite.Value).Set"], unfollowed := true, recurses := true, named := ["errors.errorType"], apart := false, laid := [("errors.errorType", laid_errors_errorType)] }
def Ipv4SpoiltSaid : Prop := ipv4SpoiltRow.holds Tryd.pinned (OpenSpec.ofChange ipv4SpoiltSpec)

/-- ITS FALSE NEIGHBOUR: 'it returns false'. Refute it at one input. -/
def ipv4SpoiltWrong : ChangeSpec := { name := "ipv4Spoilt", fn := fun _ => fun
  | [d1, d2, d3, d4] => { results := [.lit (.bool false)], args := [d1, d2, d3, d4] }
  | _ => none }
def Ipv4SpoiltWrongFalsely : Prop := ipv4SpoiltRow.holds Tryd.pinned (OpenSpec.ofChange ipv4SpoiltWrong)

/-- 'underpasslaw05.Ipv4Unlike': WHATEVER THE INPUT: true; the input reads as it did. -/
def ipv4UnlikeSpec : ChangeSpec := { name := "ipv4Unlike", fn := fun _ => fun
  | [d1, d2] => { results := [.lit (.bool true)], args := [d1, d2] }
  | _ => none }
def ipv4UnlikeRow : OpenClaim := { program := "ytfcfpkhcpijkfaadoor", sum := "ae88d72cf944eadf3c9ace0a2d9bda35b238163eb737b6bf132e4c7e5b50dcc3", func := "underpass/underpasslaw05.Ipv4Unlike", spec := "ipv4Unlike", inPlace := ["internal/reflectlite.ValueOf", "(internal/reflectlite.Value).Type", "(internal/reflectlite.Value).IsNil", "internal/reflectlite.TypeOf", "(internal/reflectlite.Value).Elem", "(internal/reflectlite.Value).Set"], unfollowed := true, recurses := true, named := ["errors.errorType"], apart := false, laid := [("errors.errorType", laid_errors_errorType)] }
def Ipv4UnlikeSaid : Prop := ipv4UnlikeRow.holds Tryd.pinned (OpenSpec.ofChange ipv4UnlikeSpec)

/-- ITS FALSE NEIGHBOUR: 'it returns false'. Refute it at one input. -/
def ipv4UnlikeWrong : ChangeSpec := { name := "ipv4Unlike", fn := fun _ => fun
  | [d1, d2] => { results := [.lit (.bool false)], args := [d1, d2] }
  | _ => none }
def Ipv4UnlikeWrongFalsely : Prop := ipv4UnlikeRow.holds Tryd.pinned (OpenSpec.ofChange ipv4UnlikeWrong)

/-- 'underpasslaw05.Ipv4Fields': WHATEVER THE INPUT: true; the input reads as it did. -/
def ipv4FieldsSpec : ChangeSpec := { name := "ipv4Fields", fn := fun _ => fun
  | [d] => { results := [.lit (.bool true)], args := [d] }
  | _ => none }
def ipv4FieldsRow : OpenClaim := { program := "ytfcfpkhcpijkfaadoor", sum := "ae88d72cf944eadf3c9ace0a2d9bda35b238163eb737b6bf132e4c7e5b50dcc3", func := "underpass/underpasslaw05.Ipv4Fields", spec := "ipv4Fields", inPlace := ["internal/reflectlite.ValueOf", "(internal/reflectlite.Value).Type", "(internal/reflectlite.Value).IsNil", "internal/reflectlite.TypeOf", "(internal/reflectlite.Value).Elem", "(internal/reflectlite.Value).Set"], unfollowed := true, recurses := true, named := ["errors.errorType"], apart := false, laid := [("errors.errorType", laid_errors_errorType)] }
def Ipv4FieldsSaid : Prop := ipv4FieldsRow.holds Tryd.pinned (OpenSpec.ofChange ipv4FieldsSpec)

/-- ITS FALSE NEIGHBOUR: 'it returns false'. Refute it at one input. -/
def ipv4FieldsWrong : ChangeSpec := { name := "ipv4Fields", fn := fun _ => fun
  | [d] => { results := [.lit (.bool false)], args := [d] }
  | _ => none }
def Ipv4FieldsWrongFalsely : Prop := ipv4FieldsRow.holds Tryd.pinned (OpenSpec.ofChange ipv4FieldsWrong)

/-- 'underpasslaw05.Ipv4Row': WHATEVER THE INPUT: true; the input reads as it did. -/
def ipv4RowSpec : ChangeSpec := { name := "ipv4Row", fn := fun _ => fun
  | [d] => { results := [.lit (.bool true)], args := [d] }
  | _ => none }
def ipv4RowRow : OpenClaim := { program := "ytfcfpkhcpijkfaadoor", sum := "ae88d72cf944eadf3c9ace0a2d9bda35b238163eb737b6bf132e4c7e5b50dcc3", func := "underpass/underpasslaw05.Ipv4Row", spec := "ipv4Row", inPlace := ["internal/reflectlite.ValueOf", "(internal/reflectlite.Value).Type", "(internal/reflectlite.Value).IsNil", "internal/reflectlite.TypeOf", "(internal/reflectlite.Value).Elem", "(internal/reflectlite.Value).Set"], unfollowed := true, recurses := true, named := ["errors.errorType"], apart := false, laid := [("errors.errorType", laid_errors_errorType)] }
def Ipv4RowSaid : Prop := ipv4RowRow.holds Tryd.pinned (OpenSpec.ofChange ipv4RowSpec)

/-- ITS FALSE NEIGHBOUR: 'it returns false'. Refute it at one input. -/
def ipv4RowWrong : ChangeSpec := { name := "ipv4Row", fn := fun _ => fun
  | [d] => { results := [.lit (.bool false)], args := [d] }
  | _ => none }
def Ipv4RowWrongFalsely : Prop := ipv4RowRow.holds Tryd.pinned (OpenSpec.ofChange ipv4RowWrong)

/-- 'underpasslaw05.Ipv4Limits': WHATEVER THE INPUT: true; the input reads as it did. -/
def ipv4LimitsSpec : ChangeSpec := { name := "ipv4Limits", fn := fun _ => fun
  | [d1, d2] => { results := [.lit (.bool true)], args := [d1, d2] }
  | _ => none }
def ipv4LimitsRow : OpenClaim := { program := "ytfcfpkhcpijkfaadoor", sum := "ae88d72cf944eadf3c9ace0a2d9bda35b238163eb737b6bf132e4c7e5b50dcc3", func := "underpass/underpasslaw05.Ipv4Limits", spec := "ipv4Limits", inPlace := ["internal/reflectlite.ValueOf", "(internal/reflectlite.Value).Type", "(internal/reflectlite.Value).IsNil", "internal/reflectlite.TypeOf", "(internal/reflectlite.Value).Elem", "(internal/reflectlite.Value).Set"], unfollowed := true, recurses := true, named := ["errors.errorType"], apart := false, laid := [("errors.errorType", laid_errors_errorType)] }
def Ipv4LimitsSaid : Prop := ipv4LimitsRow.holds Tryd.pinned (OpenSpec.ofChange ipv4LimitsSpec)

/-- ITS FALSE NEIGHBOUR: 'it returns false'. Refute it at one input. -/
def ipv4LimitsWrong : ChangeSpec := { name := "ipv4Limits", fn := fun _ => fun
  | [d1, d2] => { results := [.lit (.bool false)], args := [d1, d2] }
  | _ => none }
def Ipv4LimitsWrongFalsely : Prop := ipv4LimitsRow.holds Tryd.pinned (OpenSpec.ofChange ipv4LimitsWrong)

/- THE SECOND FORM. 'bulk': how many values and letters a reading holds, each counted each time it is reached (what is shared counts as often as it is met; a slice's spare places count too). A statement '..UptoSaid' is the law's where the arguments, and the package variables that the reading takes, are together of bulk at most 1048576: NARROWER than '..Said'. Prove '..Said' where nothing that the law and all that it calls make is longer than what came in: it says more and counts as full. Else prove '..UptoSaid'. A law counts once. -/
mutual
def uptoBulk {H : Type} : DataW H → Nat
  | .lit (.string bytes) => bytes.length + 1
  | .lit _ => 1
  | .nil => 1
  | .ptr d => uptoBulk d + 1
  | .slice elems spare => uptoBulkAll elems + uptoBulkAll spare + 1
  | .agg parts => uptoBulkAll parts + 1
  | .iface _ d => uptoBulk d + 1
  | .map entries => uptoBulkEntries entries + 1
  | .held _ => 1
def uptoBulkAll {H : Type} : List (DataW H) → Nat
  | [] => 0
  | d :: r => uptoBulk d + uptoBulkAll r
def uptoBulkEntries {H : Type} : List (Lit × DataW H) → Nat
  | [] => 0
  | x :: r => uptoBulkEntry x + uptoBulkEntries r
def uptoBulkEntry {H : Type} : Lit × DataW H → Nat
  | (.string bytes, d) => bytes.length + uptoBulk d + 1
  | (_, d) => uptoBulk d + 1
 end
def uptoSmall : (H : Type) → List (DataW H) → Bool := fun _ ds => decide (uptoBulkAll ds ≤ 1048576)
def OpenSpec.upto (s : _root_.Go.ChangeSpec) : _root_.Go.OpenSpec := { _root_.Go.OpenSpec.ofChange s with cond := some uptoSmall }

/-- 'underpasslaw06.UdpTells', WHERE WHAT IT READS IS OF BULK AT MOST 1048576: true; the input reads as it did. -/
def udpTellsUptoRow : OpenClaim := { program := "ytfcfpkhcpijkfaadoor", sum := "ae88d72cf944eadf3c9ace0a2d9bda35b238163eb737b6bf132e4c7e5b50dcc3", func := "underpass/underpasslaw06.UdpTells", spec := "udpTells", inPlace := ["internal/reflectlite.ValueOf", "(internal/reflectlite.Value).Type", "(internal/reflectlite.Value).IsNil", "internal/reflectlite.TypeOf", "(internal/reflectlite.Value).Elem", "(internal/reflectlite.Value).Set"], unfollowed := true, recurses := true, named := ["errors.errorType"], apart := false, laid := [("errors.errorType", laid_errors_errorType)], narrowed := true }
def UdpTellsUptoSaid : Prop := udpTellsUptoRow.holds Tryd.pinned (OpenSpec.upto udpTellsSpec)

/-- 'underpasslaw06.UdpBack', WHERE WHAT IT READS IS OF BULK AT MOST 1048576: true; the input reads as it did. -/
def udpBackUptoRow : OpenClaim := { program := "ytfcfpkhcpijkfaadoor", sum := "ae88d72cf944eadf3c9ace0a2d9bda35b238163eb737b6bf132e4c7e5b50dcc3", func := "underpass/underpasslaw06.UdpBack", spec := "udpBack", inPlace := ["internal/reflectlite.ValueOf", "(internal/reflectlite.Value).Type", "(internal/reflectlite.Value).IsNil", "internal/reflectlite.TypeOf", "(internal/reflectlite.Value).Elem", "(internal/reflectlite.Value).Set"], unfollowed := true, recurses := true, named := ["errors.errorType"], apart := false, laid := [("errors.errorType", laid_errors_errorType)], narrowed := true }
def UdpBackUptoSaid : Prop := udpBackUptoRow.holds Tryd.pinned (OpenSpec.upto udpBackSpec)

/-- 'underpasslaw06.UdpUnlike', WHERE WHAT IT READS IS OF BULK AT MOST 1048576: true; the input reads as it did. -/
def udpUnlikeUptoRow : OpenClaim := { program := "ytfcfpkhcpijkfaadoor", sum := "ae88d72cf944eadf3c9ace0a2d9bda35b238163eb737b6bf132e4c7e5b50dcc3", func := "underpass/underpasslaw06.UdpUnlike", spec := "udpUnlike", inPlace := ["internal/reflectlite.ValueOf", "(internal/reflectlite.Value).Type", "(internal/reflectlite.Value).IsNil", "internal/reflectlite.TypeOf", "(internal/reflectlite.Value).Elem", "(internal/reflectlite.Value).Set"], unfollowed := true, recurses := true, named := ["errors.errorType"], apart := false, laid := [("errors.errorType", laid_errors_errorType)], narrowed := true }
def UdpUnlikeUptoSaid : Prop := udpUnlikeUptoRow.holds Tryd.pinned (OpenSpec.upto udpUnlikeSpec)

/-- 'underpasslaw06.UdpStrange', WHERE WHAT IT READS IS OF BULK AT MOST 1048576: true; the input reads as it did. -/
def udpStrangeUptoRow : OpenClaim := { program := "ytfcfpkhcpijkfaadoor", sum := "ae88d72cf944eadf3c9ace0a2d9bda35b238163eb737b6bf132e4c7e5b50dcc3", func := "underpass/underpasslaw06.UdpStrange", spec := "udpStrange", inPlace := ["internal/reflectlite.ValueOf", "(internal/reflectlite.Value).Type", "(internal/reflectlite.Value).IsNil", "internal/reflectlite.TypeOf", "(internal/reflectlite.Value).Elem", "(internal/reflectlite.Value).Set"], unfollowed := true, recurses := true, named := ["errors.errorType"], apart := false, laid := [("errors.errorType", laid_errors_errorType)], narrowed := true }
def UdpStrangeUptoSaid : Prop := udpStrangeUptoRow.holds Tryd.pinned (OpenSpec.upto udpStrangeSpec)

/-- 'underpasslaw06.UdpSizes', WHERE WHAT IT READS IS OF BULK AT MOST 1048576: true; the input reads as it did. -/
def udpSizesUptoRow : OpenClaim := { program := "ytfcfpkhcpijkfaadoor", sum := "ae88d72cf944eadf3c9ace0a2d9bda35b238163eb737b6bf132e4c7e5b50dcc3", func := "underpass/underpasslaw06.UdpSizes", spec := "udpSizes", inPlace := ["internal/reflectlite.ValueOf", "(internal/reflectlite.Value).Type", "(internal/reflectlite.Value).IsNil", "internal/reflectlite.TypeOf", "(internal/reflectlite.Value).Elem", "(internal/reflectlite.Value).Set"], unfollowed := true, recurses := true, named := ["errors.errorType"], apart := false, laid := [("errors.errorType", laid_errors_errorType)], narrowed := true }
def UdpSizesUptoSaid : Prop := udpSizesUptoRow.holds Tryd.pinned (OpenSpec.upto udpSizesSpec)

/-- 'underpasslaw05.Ipv4Tells', WHERE WHAT IT READS IS OF BULK AT MOST 1048576: true; the input reads as it did. -/
def ipv4TellsUptoRow : OpenClaim := { program := "ytfcfpkhcpijkfaadoor", sum := "ae88d72cf944eadf3c9ace0a2d9bda35b238163eb737b6bf132e4c7e5b50dcc3", func := "underpass/underpasslaw05.Ipv4Tells", spec := "ipv4Tells", inPlace := ["internal/reflectlite.ValueOf", "(internal/reflectlite.Value).Type", "(internal/reflectlite.Value).IsNil", "internal/reflectlite.TypeOf", "(internal/reflectlite.Value).Elem", "(internal/reflectlite.Value).Set"], unfollowed := true, recurses := true, named := ["errors.errorType"], apart := false, laid := [("errors.errorType", laid_errors_errorType)], narrowed := true }
def Ipv4TellsUptoSaid : Prop := ipv4TellsUptoRow.holds Tryd.pinned (OpenSpec.upto ipv4TellsSpec)

/-- 'underpasslaw05.Ipv4Back', WHERE WHAT IT READS IS OF BULK AT MOST 1048576: true; the input reads as it did. -/
def ipv4BackUptoRow : OpenClaim := { program := "ytfcfpkhcpijkfaadoor", sum := "ae88d72cf944eadf3c9ace0a2d9bda35b238163eb737b6bf132e4c7e5b50dcc3", func := "underpass/underpasslaw05.Ipv4Back", spec := "ipv4Back", inPlace := ["internal/reflectlite.ValueOf", "(internal/reflectlite.Value).Type", "(internal/reflectlite.Value).IsNil", "internal/reflectlite.TypeOf", "(internal/reflectlite.Value).Elem", "(internal/reflectlite.Value).Set"], unfollowed := true, recurses := true, named := ["errors.errorType"], apart := false, laid := [("errors.errorType", laid_errors_errorType)], narrowed := true }
def Ipv4BackUptoSaid : Prop := ipv4BackUptoRow.holds Tryd.pinned (OpenSpec.upto ipv4BackSpec)

/-- 'underpasslaw05.Ipv4Spoilt', WHERE WHAT IT READS IS OF BULK AT MOST 1048576: true; the input reads as it did. -/
def ipv4SpoiltUptoRow : OpenClaim := { program := "ytfcfpkhcpijkfaadoor", sum := "ae88d72cf944eadf3c9ace0a2d9bda35b238163eb737b6bf132e4c7e5b50dcc3", func := "underpass/underpasslaw05.Ipv4Spoilt", spec := "ipv4Spoilt", inPlace := ["internal/reflectlite.ValueOf", "(internal/reflectlite.Value).Type", "(internal/reflectlite.Value).IsNil", "internal/reflectlite.TypeOf", "(internal/reflectlite.Value).Elem", "(internal/reflectlite.Value).Set"], unfollowed := true, recurses := true, named := ["errors.errorType"], apart := false, laid := [("errors.errorType", laid_errors_errorType)], narrowed := true }
def Ipv4SpoiltUptoSaid : Prop := ipv4SpoiltUptoRow.holds Tryd.pinned (OpenSpec.upto ipv4SpoiltSpec)

/-- 'underpasslaw05.Ipv4Unlike', WHERE WHAT IT READS IS OF BULK AT MOST 1048576: true; the input reads as it did. -/
def ipv4UnlikeUptoRow : OpenClaim := { program := "ytfcfpkhcpijkfaadoor", sum := "ae88d72cf944eadf3c9ace0a2d9bda35b238163eb737b6bf132e4c7e5b50dcc3", func := "underpass/underpasslaw05.Ipv4Unlike", spec := "ipv4Unlike", inPlace := ["internal/reflectlite.ValueOf", "(internal/reflectlite.Value).Type", "(internal/reflectlite.Value).IsNil", "internal/reflectlite.TypeOf", "(internal/reflectlite.Value).Elem", "(internal/reflectlite.Value).Set"], unfollowed := true, recurses := true, named := ["errors.errorType"], apart := false, laid := [("errors.errorType", laid_errors_errorType)], narrowed := true }
def Ipv4UnlikeUptoSaid : Prop := ipv4UnlikeUptoRow.holds Tryd.pinned (OpenSpec.upto ipv4UnlikeSpec)

/-- 'underpasslaw05.Ipv4Fields', WHERE WHAT IT READS IS OF BULK AT MOST 1048576: true; the input reads as it did. -/
def ipv4FieldsUptoRow : OpenClaim := { program := "ytfcfpkhcpijkfaadoor", sum := "ae88d72cf944eadf3c9ace0a2d9bda35b238163eb737b6bf132e4c7e5b50dcc3", func := "underpass/underpasslaw05.Ipv4Fields", spec := "ipv4Fields", inPlace := ["internal/reflectlite.ValueOf", "(internal/reflectlite.Value).Type", "(internal/reflectlite.Value).IsNil", "internal/reflectlite.TypeOf", "(internal/reflectlite.Value).Elem", "(internal/reflectlite.Value).Set"], unfollowed := true, recurses := true, named := ["errors.errorType"], apart := false, laid := [("errors.errorType", laid_errors_errorType)], narrowed := true }
def Ipv4FieldsUptoSaid : Prop := ipv4FieldsUptoRow.holds Tryd.pinned (OpenSpec.upto ipv4FieldsSpec)

/-- 'underpasslaw05.Ipv4Row', WHERE WHAT IT READS IS OF BULK AT MOST 1048576: true; the input reads as it did. -/
def ipv4RowUptoRow : OpenClaim := { program := "ytfcfpkhcpijkfaadoor", sum := "ae88d72cf944eadf3c9ace0a2d9bda35b238163eb737b6bf132e4c7e5b50dcc3", func := "underpass/underpasslaw05.Ipv4Row", spec := "ipv4Row", inPlace := ["internal/reflectlite.ValueOf", "(internal/reflectlite.Value).Type", "(internal/reflectlite.Value).IsNil", "internal/reflectlite.TypeOf", "(internal/reflectlite.Value).Elem", "(internal/reflectlite.Value).Set"], unfollowed := true, recurses := true, named := ["errors.errorType"], apart := false, laid := [("errors.errorType", laid_errors_errorType)], narrowed := true }
def Ipv4RowUptoSaid : Prop := ipv4RowUptoRow.holds Tryd.pinned (OpenSpec.upto ipv4RowSpec)

/-- 'underpasslaw05.Ipv4Limits', WHERE WHAT IT READS IS OF BULK AT MOST 1048576: true; the input reads as it did. -/
def ipv4LimitsUptoRow : OpenClaim := { program := "ytfcfpkhcpijkfaadoor", sum := "ae88d72cf944eadf3c9ace0a2d9bda35b238163eb737b6bf132e4c7e5b50dcc3", func := "underpass/underpasslaw05.Ipv4Limits", spec := "ipv4Limits", inPlace := ["internal/reflectlite.ValueOf", "(internal/reflectlite.Value).Type", "(internal/reflectlite.Value).IsNil", "internal/reflectlite.TypeOf", "(internal/reflectlite.Value).Elem", "(internal/reflectlite.Value).Set"], unfollowed := true, recurses := true, named := ["errors.errorType"], apart := false, laid := [("errors.errorType", laid_errors_errorType)], narrowed := true }
def Ipv4LimitsUptoSaid : Prop := ipv4LimitsUptoRow.holds Tryd.pinned (OpenSpec.upto ipv4LimitsSpec)

end Rows
end Go.Proofs.YtfcfpkhcpijkfaaDoor
