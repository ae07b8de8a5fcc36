/-
  NARROWER THAN 'FOR EVERY INPUT', by the rows' own cells (each row's printed sentence says how): ClassOf: laid · ClassNames: laid · ClassPartners: laid · ClassPairs: laid.
  DERIVED. THE GIVEN ROWS OF THIS SEAT. 4 by the template 'for every input the law returns true; each argument reads behind the call as it read before'; 0 by the template 'total and deterministic' (their statements: YtejjdokicecojaaDoorTotals.lean).
  GIVEN WITH THE SEED: the statements are not yours to turn. If you find one false, say at which input.
  Laid BY PROGRAM, IN A SANDBOX (cutbox-rows.mjs): the forced cells as the released guide's own fill.sh prints them over the translation d6106d4ceef86fc9… (all of the seat's roots in one cut). By AI agents, Wed Nov 11 2026. No macro, syntax, notation, axiom, sorry.
-/
import Derived.Test.YtejjdokicecojaaDoorChecked
import GoSem.Claim
import GoSem.ClaimJoined
import GoSem.ClaimMapViews
import Derived.JoinedTies
import Derived.KernelRfl
namespace Go.Proofs.YtejjdokicecojaaDoor
/- THE CELL 'sum', in the pinned program and in every row, IS THE sha256 OF THE DUMP (.gsa) THAT YtejjdokicecojaaDoorProg.lean LOADS. Nothing in Lean hashes anything: it is a label: what it is worth is what the hold of that sum in a sandbox is worth. -/
noncomputable def Tryd.pinned : Pinned := { name := "ytejjdokicecojaadoor", sum := "d6106d4ceef86fc94e0dd0c816cd0eef78f66de21ae28ae799d378c3dc9af9a3", checked := Tryd.checked }
namespace Rows
def none {H : Type} : Left H := { results := [], args := [] }

/- WHAT THE LISTED PACKAGE-LEVEL VARIABLES READ AS WHEN THE CALL BEGINS. Each datum BY PROGRAM (the guide's laid-datum.mjs) off the statement by which the dump's own 'gosem.cut.vars' lays the variable. In a bare row this is a premise. The card (YtejjdokicecojaaDoorCards.lean) ties it to the program's text. -/
def laid_respell_class_names {H : Type} : DataW H := .agg [.lit (.string [97, 108, 110, 117, 109]), .lit (.string [97, 108, 112, 104, 97]), .lit (.string [97, 110, 121]), .lit (.string [97, 115, 99, 105, 105]), .lit (.string [98, 108, 97, 110, 107]), .lit (.string [99, 110, 116, 114, 108]), .lit (.string [99, 121, 114, 105, 108, 108, 105, 99]), .lit (.string [100, 105, 103, 105, 116]), .lit (.string [103, 114, 97, 112, 104]), .lit (.string [103, 114, 101, 101, 107]), .lit (.string [104, 97, 110, 103, 117, 108]), .lit (.string [107, 97, 110, 97]), .lit (.string [108, 97, 116, 105, 110]), .lit (.string [108, 111, 119, 101, 114]), .lit (.string [109, 97, 114, 107]), .lit (.string [111, 116, 104, 101, 114]), .lit (.string [112, 114, 105, 110, 116]), .lit (.string [112, 117, 110, 99, 116]), .lit (.string [114, 117, 110, 101]), .lit (.string [115, 112, 97, 99, 101]), .lit (.string [115, 116, 114, 97, 121]), .lit (.string [117, 112, 112, 101, 114]), .lit (.string [118, 111, 119, 101, 108]), .lit (.string [120, 100, 105, 103, 105, 116])]
def laid_respell_class_counts {H : Type} : DataW H := .agg [.lit (.int .i8 3), .lit (.int .i8 2), .lit (.int .i8 3), .lit (.int .i8 1), .lit (.int .i8 2), .lit (.int .i8 2), .lit (.int .i8 1), .lit (.int .i8 1), .lit (.int .i8 1), .lit (.int .i8 3), .lit (.int .i8 1), .lit (.int .i8 2), .lit (.int .i8 5), .lit (.int .i8 5), .lit (.int .i8 1), .lit (.int .i8 3), .lit (.int .i8 1), .lit (.int .i8 4), .lit (.int .i8 2), .lit (.int .i8 4), .lit (.int .i8 1), .lit (.int .i8 6), .lit (.int .i8 10), .lit (.int .i8 3)]
def laid_respell_class_ranges {H : Type} : DataW H := .agg [.agg [.lit (.int .i32 48), .lit (.int .i32 57)], .agg [.lit (.int .i32 65), .lit (.int .i32 90)], .agg [.lit (.int .i32 97), .lit (.int .i32 122)], .agg [.lit (.int .i32 65), .lit (.int .i32 90)], .agg [.lit (.int .i32 97), .lit (.int .i32 122)], .agg [.lit (.int .i32 0), .lit (.int .i32 55295)], .agg [.lit (.int .i32 57344), .lit (.int .i32 1114111)], .agg [.lit (.int .i32 1114240), .lit (.int .i32 1114367)], .agg [.lit (.int .i32 0), .lit (.int .i32 127)], .agg [.lit (.int .i32 9), .lit (.int .i32 9)], .agg [.lit (.int .i32 32), .lit (.int .i32 32)], .agg [.lit (.int .i32 0), .lit (.int .i32 31)], .agg [.lit (.int .i32 127), .lit (.int .i32 127)], .agg [.lit (.int .i32 1024), .lit (.int .i32 1119)], .agg [.lit (.int .i32 48), .lit (.int .i32 57)], .agg [.lit (.int .i32 33), .lit (.int .i32 126)], .agg [.lit (.int .i32 913), .lit (.int .i32 929)], .agg [.lit (.int .i32 931), .lit (.int .i32 937)], .agg [.lit (.int .i32 945), .lit (.int .i32 969)], .agg [.lit (.int .i32 44032), .lit (.int .i32 55203)], .agg [.lit (.int .i32 12353), .lit (.int .i32 12438)], .agg [.lit (.int .i32 12449), .lit (.int .i32 12538)], .agg [.lit (.int .i32 65), .lit (.int .i32 90)], .agg [.lit (.int .i32 97), .lit (.int .i32 122)], .agg [.lit (.int .i32 192), .lit (.int .i32 214)], .agg [.lit (.int .i32 216), .lit (.int .i32 246)], .agg [.lit (.int .i32 248), .lit (.int .i32 255)], .agg [.lit (.int .i32 97), .lit (.int .i32 122)], .agg [.lit (.int .i32 223), .lit (.int .i32 246)], .agg [.lit (.int .i32 248), .lit (.int .i32 255)], .agg [.lit (.int .i32 945), .lit (.int .i32 969)], .agg [.lit (.int .i32 1072), .lit (.int .i32 1119)], .agg [.lit (.int .i32 768), .lit (.int .i32 879)], .agg [.lit (.int .i32 128), .lit (.int .i32 55295)], .agg [.lit (.int .i32 57344), .lit (.int .i32 1114111)], .agg [.lit (.int .i32 1114240), .lit (.int .i32 1114367)], .agg [.lit (.int .i32 32), .lit (.int .i32 126)], .agg [.lit (.int .i32 33), .lit (.int .i32 47)], .agg [.lit (.int .i32 58), .lit (.int .i32 64)], .agg [.lit (.int .i32 91), .lit (.int .i32 96)], .agg [.lit (.int .i32 123), .lit (.int .i32 126)], .agg [.lit (.int .i32 0), .lit (.int .i32 55295)], .agg [.lit (.int .i32 57344), .lit (.int .i32 1114111)], .agg [.lit (.int .i32 9), .lit (.int .i32 13)], .agg [.lit (.int .i32 32), .lit (.int .i32 32)], .agg [.lit (.int .i32 133), .lit (.int .i32 133)], .agg [.lit (.int .i32 160), .lit (.int .i32 160)], .agg [.lit (.int .i32 1114240), .lit (.int .i32 1114367)], .agg [.lit (.int .i32 65), .lit (.int .i32 90)], .agg [.lit (.int .i32 192), .lit (.int .i32 214)], .agg [.lit (.int .i32 216), .lit (.int .i32 222)], .agg [.lit (.int .i32 913), .lit (.int .i32 929)], .agg [.lit (.int .i32 931), .lit (.int .i32 937)], .agg [.lit (.int .i32 1024), .lit (.int .i32 1071)], .agg [.lit (.int .i32 65), .lit (.int .i32 65)], .agg [.lit (.int .i32 69), .lit (.int .i32 69)], .agg [.lit (.int .i32 73), .lit (.int .i32 73)], .agg [.lit (.int .i32 79), .lit (.int .i32 79)], .agg [.lit (.int .i32 85), .lit (.int .i32 85)], .agg [.lit (.int .i32 97), .lit (.int .i32 97)], .agg [.lit (.int .i32 101), .lit (.int .i32 101)], .agg [.lit (.int .i32 105), .lit (.int .i32 105)], .agg [.lit (.int .i32 111), .lit (.int .i32 111)], .agg [.lit (.int .i32 117), .lit (.int .i32 117)], .agg [.lit (.int .i32 48), .lit (.int .i32 57)], .agg [.lit (.int .i32 65), .lit (.int .i32 70)], .agg [.lit (.int .i32 97), .lit (.int .i32 102)]]
def laid_respell_class_partners {H : Type} : DataW H := .agg [.agg [.lit (.int .i32 65), .lit (.int .i32 90), .lit (.int .i32 32)], .agg [.lit (.int .i32 192), .lit (.int .i32 214), .lit (.int .i32 32)], .agg [.lit (.int .i32 216), .lit (.int .i32 222), .lit (.int .i32 32)], .agg [.lit (.int .i32 913), .lit (.int .i32 929), .lit (.int .i32 32)], .agg [.lit (.int .i32 931), .lit (.int .i32 937), .lit (.int .i32 32)], .agg [.lit (.int .i32 1024), .lit (.int .i32 1039), .lit (.int .i32 80)], .agg [.lit (.int .i32 1040), .lit (.int .i32 1071), .lit (.int .i32 32)]]

/-- 'respelllaw03.ClassOf': WHATEVER THE INPUT: true; the input reads as it did. -/
def classOfSpec : ChangeSpec := { name := "classOf", fn := fun _ => fun
  | [d1, d2] => { results := [.lit (.bool true)], args := [d1, d2] }
  | _ => none }
def classOfRow : OpenClaim := { program := "ytejjdokicecojaadoor", sum := "d6106d4ceef86fc94e0dd0c816cd0eef78f66de21ae28ae799d378c3dc9af9a3", func := "respell/respelllaw03.ClassOf", spec := "classOf", named := ["respell/class.names", "respell/class.counts", "respell/class.ranges", "respell/class.partners"], apart := false, laid := [("respell/class.names", laid_respell_class_names), ("respell/class.counts", laid_respell_class_counts), ("respell/class.ranges", laid_respell_class_ranges), ("respell/class.partners", laid_respell_class_partners)] }
def ClassOfSaid : Prop := classOfRow.holds Tryd.pinned (OpenSpec.ofChange classOfSpec)

/-- ITS FALSE NEIGHBOUR: 'it returns false'. Refute it at one input. -/
def classOfWrong : ChangeSpec := { name := "classOf", fn := fun _ => fun
  | [d1, d2] => { results := [.lit (.bool false)], args := [d1, d2] }
  | _ => none }
def ClassOfWrongFalsely : Prop := classOfRow.holds Tryd.pinned (OpenSpec.ofChange classOfWrong)

/-- 'respelllaw03.ClassNames': WHATEVER THE INPUT: true; the input reads as it did. -/
def classNamesSpec : ChangeSpec := { name := "classNames", fn := fun _ => fun
  | [] => { results := [.lit (.bool true)], args := [] }
  | _ => none }
def classNamesRow : OpenClaim := { program := "ytejjdokicecojaadoor", sum := "d6106d4ceef86fc94e0dd0c816cd0eef78f66de21ae28ae799d378c3dc9af9a3", func := "respell/respelllaw03.ClassNames", spec := "classNames", named := ["respell/class.names", "respell/class.counts", "respell/class.ranges", "respell/class.partners"], apart := false, laid := [("respell/class.names", laid_respell_class_names), ("respell/class.counts", laid_respell_class_counts), ("respell/class.ranges", laid_respell_class_ranges), ("respell/class.partners", laid_respell_class_partners)] }
def ClassNamesSaid : Prop := classNamesRow.holds Tryd.pinned (OpenSpec.ofChange classNamesSpec)

/-- ITS FALSE NEIGHBOUR: 'it returns false'. Refute it at one input. -/
def classNamesWrong : ChangeSpec := { name := "classNames", fn := fun _ => fun
  | [] => { results := [.lit (.bool false)], args := [] }
  | _ => none }
def ClassNamesWrongFalsely : Prop := classNamesRow.holds Tryd.pinned (OpenSpec.ofChange classNamesWrong)

/-- 'respelllaw03.ClassPartners': WHATEVER THE INPUT: true; the input reads as it did. -/
def classPartnersSpec : ChangeSpec := { name := "classPartners", fn := fun _ => fun
  | [d] => { results := [.lit (.bool true)], args := [d] }
  | _ => none }
def classPartnersRow : OpenClaim := { program := "ytejjdokicecojaadoor", sum := "d6106d4ceef86fc94e0dd0c816cd0eef78f66de21ae28ae799d378c3dc9af9a3", func := "respell/respelllaw03.ClassPartners", spec := "classPartners", named := ["respell/class.names", "respell/class.counts", "respell/class.ranges", "respell/class.partners"], apart := false, laid := [("respell/class.names", laid_respell_class_names), ("respell/class.counts", laid_respell_class_counts), ("respell/class.ranges", laid_respell_class_ranges), ("respell/class.partners", laid_respell_class_partners)] }
def ClassPartnersSaid : Prop := classPartnersRow.holds Tryd.pinned (OpenSpec.ofChange classPartnersSpec)

/-- ITS FALSE NEIGHBOUR: 'it returns false'. Refute it at one input. -/
def classPartnersWrong : ChangeSpec := { name := "classPartners", fn := fun _ => fun
  | [d] => { results := [.lit (.bool false)], args := [d] }
  | _ => none }
def ClassPartnersWrongFalsely : Prop := classPartnersRow.holds Tryd.pinned (OpenSpec.ofChange classPartnersWrong)

/-- 'respelllaw03.ClassPairs': WHATEVER THE INPUT: true; the input reads as it did. -/
def classPairsSpec : ChangeSpec := { name := "classPairs", fn := fun _ => fun
  | [d] => { results := [.lit (.bool true)], args := [d] }
  | _ => none }
def classPairsRow : OpenClaim := { program := "ytejjdokicecojaadoor", sum := "d6106d4ceef86fc94e0dd0c816cd0eef78f66de21ae28ae799d378c3dc9af9a3", func := "respell/respelllaw03.ClassPairs", spec := "classPairs", named := ["respell/class.names", "respell/class.counts", "respell/class.ranges", "respell/class.partners"], apart := false, laid := [("respell/class.names", laid_respell_class_names), ("respell/class.counts", laid_respell_class_counts), ("respell/class.ranges", laid_respell_class_ranges), ("respell/class.partners", laid_respell_class_partners)] }
def ClassPairsSaid : Prop := classPairsRow.holds Tryd.pinned (OpenSpec.ofChange classPairsSpec)

/-- ITS FALSE NEIGHBOUR: 'it returns false'. Refute it at one input. -/
def classPairsWrong : ChangeSpec := { name := "classPairs", fn := fun _ => fun
  | [d] => { results := [.lit (.bool false)], args := [d] }
  | _ => none }
def ClassPairsWrongFalsely : Prop := classPairsRow.holds Tryd.pinned (OpenSpec.ofChange classPairsWrong)

/- THE SECOND FORM. 'bulk': how many values and letters a reading holds, each counted each time it is reached (what is shared counts as often as it is met; a slice's spare places count too). A statement '..UptoSaid' is the law's where the arguments, and the package variables that the reading takes, are together of bulk at most 1048576: NARROWER than '..Said'. Prove '..Said' where nothing that the law and all that it calls make is longer than what came in: it says more and counts as full. Else prove '..UptoSaid'. A law counts once. -/
mutual
def uptoBulk {H : Type} : DataW H → Nat
  | .lit (.string bytes) => bytes.length + 1
  | .lit _ => 1
  | .nil => 1
  | .ptr d => uptoBulk d + 1
  | .slice elems spare => uptoBulkAll elems + uptoBulkAll spare + 1
  | .agg parts => uptoBulkAll parts + 1
  | .iface _ d => uptoBulk d + 1
  | .map entries => uptoBulkEntries entries + 1
  | .held _ => 1
def uptoBulkAll {H : Type} : List (DataW H) → Nat
  | [] => 0
  | d :: r => uptoBulk d + uptoBulkAll r
def uptoBulkEntries {H : Type} : List (Lit × DataW H) → Nat
  | [] => 0
  | x :: r => uptoBulkEntry x + uptoBulkEntries r
def uptoBulkEntry {H : Type} : Lit × DataW H → Nat
  | (.string bytes, d) => bytes.length + uptoBulk d + 1
  | (_, d) => uptoBulk d + 1
 end
def uptoSmall : (H : Type) → List (DataW H) → Bool := fun _ ds => decide (uptoBulkAll ds ≤ 1048576)
def OpenSpec.upto (s : _root_.Go.ChangeSpec) : _root_.Go.OpenSpec := { _root_.Go.OpenSpec.ofChange s with cond := some uptoSmall }

/-- 'respelllaw03.ClassOf', WHERE WHAT IT READS IS OF BULK AT MOST 1048576: true; the input reads as it did. -/
def classOfUptoRow : OpenClaim := { program := "ytejjdokicecojaadoor", sum := "d6106d4ceef86fc94e0dd0c816cd0eef78f66de21ae28ae799d378c3dc9af9a3", func := "respell/respelllaw03.ClassOf", spec := "classOf", named := ["respell/class.names", "respell/class.counts", "respell/class.ranges", "respell/class.partners"], apart := false, laid := [("respell/class.names", laid_respell_class_names), ("respell/class.counts", laid_respell_class_counts), ("respell/class.ranges", laid_respell_class_ranges), ("respell/class.partners", laid_respell_class_partners)], narrowed := true }
def ClassOfUptoSaid : Prop := classOfUptoRow.holds Tryd.pinned (OpenSpec.upto classOfSpec)

/-- 'respelllaw03.ClassNames', WHERE WHAT IT READS IS OF BULK AT MOST 1048576: true; the input reads as it did. -/
def classNamesUptoRow : OpenClaim := { program := "ytejjdokicecojaadoor", sum := "d6106d4ceef86fc94e0dd0c816cd0eef78f66de21ae28ae799d378c3dc9af9a3", func := "respell/respelllaw03.ClassNames", spec := "classNames", named := ["respell/class.names", "respell/class.counts", "respell/class.ranges", "respell/class.partners"], apart := false, laid := [("respell/class.names", laid_respell_class_names), ("respell/class.counts", laid_respell_class_counts), ("respell/class.ranges", laid_respell_class_ranges), ("respell/class.partners", laid_respell_class_partners)], narrowed := true }
def ClassNamesUptoSaid : Prop := classNamesUptoRow.holds Tryd.pinned (OpenSpec.upto classNamesSpec)

/-- 'respelllaw03.ClassPartners', WHERE WHAT IT READS IS OF BULK AT MOST 1048576: true; the input reads as it did. -/
def classPartnersUptoRow : OpenClaim := { program := "ytejjdokicecojaadoor", sum := "d6106d4ceef86fc94e0dd0c816cd0eef78f66de21ae28ae799d378c3dc9af9a3", func := "respell/respelllaw03.ClassPartners", spec := "classPartners", named := ["respell/class.names", "respell/class.counts", "respell/class.ranges", "respell/class.partners"], apart := false, laid := [("respell/class.names", laid_respell_class_names), ("respell/class.counts", laid_respell_class_counts), ("respell/class.ranges", laid_respell_class_ranges), ("respell/class.partners", laid_respell_class_partners)], narrowed := true }
def ClassPartnersUptoSaid : Prop := classPartnersUptoRow.holds Tryd.pinned (OpenSpec.upto classPartnersSpec)

/-- 'respelllaw03.ClassPairs', WHERE WHAT IT READS IS OF BULK AT MOST 1048576: true; the input reads as it did. -/
def classPairsUptoRow : OpenClaim := { program := "ytejjdokicecojaadoor", sum := "d6106d4ceef86fc94e0dd0c816cd0eef78f66de21ae28ae799d378c3dc9af9a3", func := "respell/respelllaw03.ClassPairs", spec := "classPairs", named := ["respell/class.names", "respell/class.counts", "respell/class.ranges", "respell/class.partners"], apart := false, laid := [("respell/class.names", laid_respell_class_names), ("respell/class.counts", laid_respell_class_counts), ("respell/class.ranges", laid_respell_class_ranges), ("respell/class.partners", laid_respell_class_partners)], narrowed := true }
def ClassPairsUptoSaid : Prop := classPairsUptoRow.holds Tryd.pinned (OpenSpec.upto classPairsSpec)

end Rows
end Go.Proofs.YtejjdokicecojaaDoor
