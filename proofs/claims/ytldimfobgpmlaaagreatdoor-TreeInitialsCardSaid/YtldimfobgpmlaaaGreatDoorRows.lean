/-
  NARROWER THAN 'FOR EVERY INPUT', by the rows' own cells (each row's printed sentence says how): TreeInitials: laid · TreeBads: laid · TreeInitialMeans: laid · TreeForwards: laid · TreeForwardCloses: laid · TreeProves: laid.
  DERIVED. THE GIVEN ROWS OF THIS SEAT. 6 by the template 'for every input the law returns true; each argument reads behind the call as it read before'; 0 by the template 'total and deterministic' (their statements: YtldimfobgpmlaaaGreatDoorTotals.lean).
  GIVEN WITH THE SEED: the statements are not yours to turn. If you find one false, say at which input.
  Laid BY PROGRAM, IN A SANDBOX (cutbox-rows.mjs): the forced cells as the released guide's own fill.sh prints them over the translation 23b6e9b9a90f8653… (all of the seat's roots in one cut). By AI agents, Wed Nov 11 2026. No macro, syntax, notation, axiom, sorry.
-/
import Derived.Test.YtldimfobgpmlaaaGreatDoorChecked
import GoSem.Claim
import GoSem.ClaimJoined
import GoSem.ClaimMapViews
import Derived.JoinedTies
import Derived.KernelRfl
namespace Go.Proofs.YtldimfobgpmlaaaGreatDoor
/- THE CELL 'sum', in the pinned program and in every row, IS THE sha256 OF THE DUMP (.gsa) THAT YtldimfobgpmlaaaGreatDoorProg.lean LOADS. Nothing in Lean hashes anything: it is a label: what it is worth is what the hold of that sum in a sandbox is worth. -/
noncomputable def Tryz.pinned : Pinned := { name := "ytldimfobgpmlaaagreatdoor", sum := "23b6e9b9a90f86536587d3d73d722005d848d99389a164e16054bb32f6c7dd81", checked := Tryz.checked }
namespace Rows
def none {H : Type} : Left H := { results := [], args := [] }

/- WHAT THE LISTED PACKAGE-LEVEL VARIABLES READ AS WHEN THE CALL BEGINS. Each datum BY PROGRAM (the guide's laid-datum.mjs) off the statement by which the dump's own 'gosem.cut.vars' lays the variable. In a bare row this is a premise. The card (YtldimfobgpmlaaaGreatDoorCards.lean) ties it to the program's text. -/
def laid_unicode_White_Space {H : Type} : DataW H := .ptr (.agg [.slice [.agg [.lit (.int .u16 9), .lit (.int .u16 13), .lit (.int .u16 1)], .agg [.lit (.int .u16 32), .lit (.int .u16 133), .lit (.int .u16 101)], .agg [.lit (.int .u16 160), .lit (.int .u16 5760), .lit (.int .u16 5600)], .agg [.lit (.int .u16 8192), .lit (.int .u16 8202), .lit (.int .u16 1)], .agg [.lit (.int .u16 8232), .lit (.int .u16 8233), .lit (.int .u16 1)], .agg [.lit (.int .u16 8239), .lit (.int .u16 8287), .lit (.int .u16 48)], .agg [.lit (.int .u16 12288), .lit (.int .u16 12288), .lit (.int .u16 1)]] [], .nil, .lit (.int .i64 2)])
def laid_strings_asciiSpace {H : Type} : DataW H := .agg [.lit (.int .u8 0), .lit (.int .u8 0), .lit (.int .u8 0), .lit (.int .u8 0), .lit (.int .u8 0), .lit (.int .u8 0), .lit (.int .u8 0), .lit (.int .u8 0), .lit (.int .u8 0), .lit (.int .u8 1), .lit (.int .u8 1), .lit (.int .u8 1), .lit (.int .u8 1), .lit (.int .u8 1), .lit (.int .u8 0), .lit (.int .u8 0), .lit (.int .u8 0), .lit (.int .u8 0), .lit (.int .u8 0), .lit (.int .u8 0), .lit (.int .u8 0), .lit (.int .u8 0), .lit (.int .u8 0), .lit (.int .u8 0), .lit (.int .u8 0), .lit (.int .u8 0), .lit (.int .u8 0), .lit (.int .u8 0), .lit (.int .u8 0), .lit (.int .u8 0), .lit (.int .u8 0), .lit (.int .u8 0), .lit (.int .u8 1), .lit (.int .u8 0), .lit (.int .u8 0), .lit (.int .u8 0), .lit (.int .u8 0), .lit (.int .u8 0), .lit (.int .u8 0), .lit (.int .u8 0), .lit (.int .u8 0), .lit (.int .u8 0), .lit (.int .u8 0), .lit (.int .u8 0), .lit (.int .u8 0), .lit (.int .u8 0), .lit (.int .u8 0), .lit (.int .u8 0), .lit (.int .u8 0), .lit (.int .u8 0), .lit (.int .u8 0), .lit (.int .u8 0), .lit (.int .u8 0), .lit (.int .u8 0), .lit (.int .u8 0), .lit (.int .u8 0), .lit (.int .u8 0), .lit (.int .u8 0), .lit (.int .u8 0), .lit (.int .u8 0), .lit (.int .u8 0), .lit (.int .u8 0), .lit (.int .u8 0), .lit (.int .u8 0), .lit (.int .u8 0), .lit (.int .u8 0), .lit (.int .u8 0), .lit (.int .u8 0), .lit (.int .u8 0), .lit (.int .u8 0), .lit (.int .u8 0), .lit (.int .u8 0), .lit (.int .u8 0), .lit (.int .u8 0), .lit (.int .u8 0), .lit (.int .u8 0), .lit (.int .u8 0), .lit (.int .u8 0), .lit (.int .u8 0), .lit (.int .u8 0), .lit (.int .u8 0), .lit (.int .u8 0), .lit (.int .u8 0), .lit (.int .u8 0), .lit (.int .u8 0), .lit (.int .u8 0), .lit (.int .u8 0), .lit (.int .u8 0), .lit (.int .u8 0), .lit (.int .u8 0), .lit (.int .u8 0), .lit (.int .u8 0), .lit (.int .u8 0), .lit (.int .u8 0), .lit (.int .u8 0), .lit (.int .u8 0), .lit (.int .u8 0), .lit (.int .u8 0), .lit (.int .u8 0), .lit (.int .u8 0), .lit (.int .u8 0), .lit (.int .u8 0), .lit (.int .u8 0), .lit (.int .u8 0), .lit (.int .u8 0), .lit (.int .u8 0), .lit (.int .u8 0), .lit (.int .u8 0), .lit (.int .u8 0), .lit (.int .u8 0), .lit (.int .u8 0), .lit (.int .u8 0), .lit (.int .u8 0), .lit (.int .u8 0), .lit (.int .u8 0), .lit (.int .u8 0), .lit (.int .u8 0), .lit (.int .u8 0), .lit (.int .u8 0), .lit (.int .u8 0), .lit (.int .u8 0), .lit (.int .u8 0), .lit (.int .u8 0), .lit (.int .u8 0), .lit (.int .u8 0), .lit (.int .u8 0), .lit (.int .u8 0), .lit (.int .u8 0), .lit (.int .u8 0), .lit (.int .u8 0), .lit (.int .u8 0), .lit (.int .u8 0), .lit (.int .u8 0), .lit (.int .u8 0), .lit (.int .u8 0), .lit (.int .u8 0), .lit (.int .u8 0), .lit (.int .u8 0), .lit (.int .u8 0), .lit (.int .u8 0), .lit (.int .u8 0), .lit (.int .u8 0), .lit (.int .u8 0), .lit (.int .u8 0), .lit (.int .u8 0), .lit (.int .u8 0), .lit (.int .u8 0), .lit (.int .u8 0), .lit (.int .u8 0), .lit (.int .u8 0), .lit (.int .u8 0), .lit (.int .u8 0), .lit (.int .u8 0), .lit (.int .u8 0), .lit (.int .u8 0), .lit (.int .u8 0), .lit (.int .u8 0), .lit (.int .u8 0), .lit (.int .u8 0), .lit (.int .u8 0), .lit (.int .u8 0), .lit (.int .u8 0), .lit (.int .u8 0), .lit (.int .u8 0), .lit (.int .u8 0), .lit (.int .u8 0), .lit (.int .u8 0), .lit (.int .u8 0), .lit (.int .u8 0), .lit (.int .u8 0), .lit (.int .u8 0), .lit (.int .u8 0), .lit (.int .u8 0), .lit (.int .u8 0), .lit (.int .u8 0), .lit (.int .u8 0), .lit (.int .u8 0), .lit (.int .u8 0), .lit (.int .u8 0), .lit (.int .u8 0), .lit (.int .u8 0), .lit (.int .u8 0), .lit (.int .u8 0), .lit (.int .u8 0), .lit (.int .u8 0), .lit (.int .u8 0), .lit (.int .u8 0), .lit (.int .u8 0), .lit (.int .u8 0), .lit (.int .u8 0), .lit (.int .u8 0), .lit (.int .u8 0), .lit (.int .u8 0), .lit (.int .u8 0), .lit (.int .u8 0), .lit (.int .u8 0), .lit (.int .u8 0), .lit (.int .u8 0), .lit (.int .u8 0), .lit (.int .u8 0), .lit (.int .u8 0), .lit (.int .u8 0), .lit (.int .u8 0), .lit (.int .u8 0), .lit (.int .u8 0), .lit (.int .u8 0), .lit (.int .u8 0), .lit (.int .u8 0), .lit (.int .u8 0), .lit (.int .u8 0), .lit (.int .u8 0), .lit (.int .u8 0), .lit (.int .u8 0), .lit (.int .u8 0), .lit (.int .u8 0), .lit (.int .u8 0), .lit (.int .u8 0), .lit (.int .u8 0), .lit (.int .u8 0), .lit (.int .u8 0), .lit (.int .u8 0), .lit (.int .u8 0), .lit (.int .u8 0), .lit (.int .u8 0), .lit (.int .u8 0), .lit (.int .u8 0), .lit (.int .u8 0), .lit (.int .u8 0), .lit (.int .u8 0), .lit (.int .u8 0), .lit (.int .u8 0), .lit (.int .u8 0), .lit (.int .u8 0), .lit (.int .u8 0), .lit (.int .u8 0), .lit (.int .u8 0), .lit (.int .u8 0), .lit (.int .u8 0), .lit (.int .u8 0), .lit (.int .u8 0), .lit (.int .u8 0), .lit (.int .u8 0), .lit (.int .u8 0), .lit (.int .u8 0), .lit (.int .u8 0), .lit (.int .u8 0), .lit (.int .u8 0), .lit (.int .u8 0), .lit (.int .u8 0), .lit (.int .u8 0), .lit (.int .u8 0), .lit (.int .u8 0), .lit (.int .u8 0), .lit (.int .u8 0), .lit (.int .u8 0), .lit (.int .u8 0)]

/-- 'familychecklaw07.TreeInitials': WHATEVER THE INPUT: true; the input reads as it did. -/
def treeInitialsSpec : ChangeSpec := { name := "treeInitials", fn := fun _ => fun
  | [d1, d2] => { results := [.lit (.bool true)], args := [d1, d2] }
  | _ => none }
def treeInitialsRow : OpenClaim := { program := "ytldimfobgpmlaaagreatdoor", sum := "23b6e9b9a90f86536587d3d73d722005d848d99389a164e16054bb32f6c7dd81", func := "familycheck/familychecklaw07.TreeInitials", spec := "treeInitials", unfollowed := true, recurses := true, named := ["strings.asciiSpace", "unicode.White_Space"], plainKeys := false, apart := false, laid := [("unicode.White_Space", laid_unicode_White_Space), ("strings.asciiSpace", laid_strings_asciiSpace)] }
def TreeInitialsSaid : Prop := treeInitialsRow.holds Tryz.pinned (OpenSpec.ofChange treeInitialsSpec)

/-- ITS FALSE NEIGHBOUR: 'it returns false'. Refute it at one input. -/
def treeInitialsWrong : ChangeSpec := { name := "treeInitials", fn := fun _ => fun
  | [d1, d2] => { results := [.lit (.bool false)], args := [d1, d2] }
  | _ => none }
def TreeInitialsWrongFalsely : Prop := treeInitialsRow.holds Tryz.pinned (OpenSpec.ofChange treeInitialsWrong)

/-- 'familychecklaw07.TreeBads': WHATEVER THE INPUT: true; the input reads as it did. -/
def treeBadsSpec : ChangeSpec := { name := "treeBads", fn := fun _ => fun
  | [d1, d2] => { results := [.lit (.bool true)], args := [d1, d2] }
  | _ => none }
def treeBadsRow : OpenClaim := { program := "ytldimfobgpmlaaagreatdoor", sum := "23b6e9b9a90f86536587d3d73d722005d848d99389a164e16054bb32f6c7dd81", func := "familycheck/familychecklaw07.TreeBads", spec := "treeBads", unfollowed := true, recurses := true, named := ["strings.asciiSpace", "unicode.White_Space"], plainKeys := false, apart := false, laid := [("unicode.White_Space", laid_unicode_White_Space), ("strings.asciiSpace", laid_strings_asciiSpace)] }
def TreeBadsSaid : Prop := treeBadsRow.holds Tryz.pinned (OpenSpec.ofChange treeBadsSpec)

/-- ITS FALSE NEIGHBOUR: 'it returns false'. Refute it at one input. -/
def treeBadsWrong : ChangeSpec := { name := "treeBads", fn := fun _ => fun
  | [d1, d2] => { results := [.lit (.bool false)], args := [d1, d2] }
  | _ => none }
def TreeBadsWrongFalsely : Prop := treeBadsRow.holds Tryz.pinned (OpenSpec.ofChange treeBadsWrong)

/-- 'familychecklaw07.TreeInitialMeans': WHATEVER THE INPUT: true; the input reads as it did. -/
def treeInitialMeansSpec : ChangeSpec := { name := "treeInitialMeans", fn := fun _ => fun
  | [d1, d2, d3] => { results := [.lit (.bool true)], args := [d1, d2, d3] }
  | _ => none }
def treeInitialMeansRow : OpenClaim := { program := "ytldimfobgpmlaaagreatdoor", sum := "23b6e9b9a90f86536587d3d73d722005d848d99389a164e16054bb32f6c7dd81", func := "familycheck/familychecklaw07.TreeInitialMeans", spec := "treeInitialMeans", unfollowed := true, recurses := true, named := ["strings.asciiSpace", "unicode.White_Space"], plainKeys := false, apart := false, laid := [("unicode.White_Space", laid_unicode_White_Space), ("strings.asciiSpace", laid_strings_asciiSpace)] }
def TreeInitialMeansSaid : Prop := treeInitialMeansRow.holds Tryz.pinned (OpenSpec.ofChange treeInitialMeansSpec)

/-- ITS FALSE NEIGHBOUR: 'it returns false'. Refute it at one input. -/
def treeInitialMeansWrong : ChangeSpec := { name := "treeInitialMeans", fn := fun _ => fun
  | [d1, d2, d3] => { results := [.lit (.bool false)], args := [d1, d2, d3] }
  | _ => none }
def TreeInitialMeansWrongFalsely : Prop := treeInitialMeansRow.holds Tryz.pinned (OpenSpec.ofChange treeInitialMeansWrong)

/-- 'familychecklaw07.TreeForwards': WHATEVER THE INPUT: true; the input reads as it did. -/
def treeForwardsSpec : ChangeSpec := { name := "treeForwards", fn := fun _ => fun
  | [d1, d2, d3] => { results := [.lit (.bool true)], args := [d1, d2, d3] }
  | _ => none }
def treeForwardsRow : OpenClaim := { program := "ytldimfobgpmlaaagreatdoor", sum := "23b6e9b9a90f86536587d3d73d722005d848d99389a164e16054bb32f6c7dd81", func := "familycheck/familychecklaw07.TreeForwards", spec := "treeForwards", unfollowed := true, recurses := true, named := ["strings.asciiSpace", "unicode.White_Space"], plainKeys := false, apart := false, laid := [("unicode.White_Space", laid_unicode_White_Space), ("strings.asciiSpace", laid_strings_asciiSpace)] }
def TreeForwardsSaid : Prop := treeForwardsRow.holds Tryz.pinned (OpenSpec.ofChange treeForwardsSpec)

/-- ITS FALSE NEIGHBOUR: 'it returns false'. Refute it at one input. -/
def treeForwardsWrong : ChangeSpec := { name := "treeForwards", fn := fun _ => fun
  | [d1, d2, d3] => { results := [.lit (.bool false)], args := [d1, d2, d3] }
  | _ => none }
def TreeForwardsWrongFalsely : Prop := treeForwardsRow.holds Tryz.pinned (OpenSpec.ofChange treeForwardsWrong)

/-- 'familychecklaw07.TreeForwardCloses': WHATEVER THE INPUT: true; the input reads as it did. -/
def treeForwardClosesSpec : ChangeSpec := { name := "treeForwardCloses", fn := fun _ => fun
  | [d1, d2, d3] => { results := [.lit (.bool true)], args := [d1, d2, d3] }
  | _ => none }
def treeForwardClosesRow : OpenClaim := { program := "ytldimfobgpmlaaagreatdoor", sum := "23b6e9b9a90f86536587d3d73d722005d848d99389a164e16054bb32f6c7dd81", func := "familycheck/familychecklaw07.TreeForwardCloses", spec := "treeForwardCloses", unfollowed := true, recurses := true, named := ["strings.asciiSpace", "unicode.White_Space"], plainKeys := false, apart := false, laid := [("unicode.White_Space", laid_unicode_White_Space), ("strings.asciiSpace", laid_strings_asciiSpace)] }
def TreeForwardClosesSaid : Prop := treeForwardClosesRow.holds Tryz.pinned (OpenSpec.ofChange treeForwardClosesSpec)

/-- ITS FALSE NEIGHBOUR: 'it returns false'. Refute it at one input. -/
def treeForwardClosesWrong : ChangeSpec := { name := "treeForwardCloses", fn := fun _ => fun
  | [d1, d2, d3] => { results := [.lit (.bool false)], args := [d1, d2, d3] }
  | _ => none }
def TreeForwardClosesWrongFalsely : Prop := treeForwardClosesRow.holds Tryz.pinned (OpenSpec.ofChange treeForwardClosesWrong)

/-- 'familychecklaw07.TreeProves': WHATEVER THE INPUT: true; the input reads as it did. -/
def treeProvesSpec : ChangeSpec := { name := "treeProves", fn := fun _ => fun
  | [d1, d2, d3] => { results := [.lit (.bool true)], args := [d1, d2, d3] }
  | _ => none }
def treeProvesRow : OpenClaim := { program := "ytldimfobgpmlaaagreatdoor", sum := "23b6e9b9a90f86536587d3d73d722005d848d99389a164e16054bb32f6c7dd81", func := "familycheck/familychecklaw07.TreeProves", spec := "treeProves", unfollowed := true, recurses := true, named := ["strings.asciiSpace", "unicode.White_Space"], plainKeys := false, apart := false, laid := [("unicode.White_Space", laid_unicode_White_Space), ("strings.asciiSpace", laid_strings_asciiSpace)] }
def TreeProvesSaid : Prop := treeProvesRow.holds Tryz.pinned (OpenSpec.ofChange treeProvesSpec)

/-- ITS FALSE NEIGHBOUR: 'it returns false'. Refute it at one input. -/
def treeProvesWrong : ChangeSpec := { name := "treeProves", fn := fun _ => fun
  | [d1, d2, d3] => { results := [.lit (.bool false)], args := [d1, d2, d3] }
  | _ => none }
def TreeProvesWrongFalsely : Prop := treeProvesRow.holds Tryz.pinned (OpenSpec.ofChange treeProvesWrong)

/- THE SECOND FORM. 'bulk': how many values and letters a reading holds, each counted each time it is reached (what is shared counts as often as it is met; a slice's spare places count too). A statement '..UptoSaid' is the law's where the arguments, and the package variables that the reading takes, are together of bulk at most 1048576: NARROWER than '..Said'. Prove '..Said' where nothing that the law and all that it calls make is longer than what came in: it says more and counts as full. Else prove '..UptoSaid'. A law counts once. -/
mutual
def uptoBulk {H : Type} : DataW H → Nat
  | .lit (.string bytes) => bytes.length + 1
  | .lit _ => 1
  | .nil => 1
  | .ptr d => uptoBulk d + 1
  | .slice elems spare => uptoBulkAll elems + uptoBulkAll spare + 1
  | .agg parts => uptoBulkAll parts + 1
  | .iface _ d => uptoBulk d + 1
  | .map entries => uptoBulkEntries entries + 1
  | .held _ => 1
def uptoBulkAll {H : Type} : List (DataW H) → Nat
  | [] => 0
  | d :: r => uptoBulk d + uptoBulkAll r
def uptoBulkEntries {H : Type} : List (Lit × DataW H) → Nat
  | [] => 0
  | x :: r => uptoBulkEntry x + uptoBulkEntries r
def uptoBulkEntry {H : Type} : Lit × DataW H → Nat
  | (.string bytes, d) => bytes.length + uptoBulk d + 1
  | (_, d) => uptoBulk d + 1
 end
def uptoSmall : (H : Type) → List (DataW H) → Bool := fun _ ds => decide (uptoBulkAll ds ≤ 1048576)
def OpenSpec.upto (s : _root_.Go.ChangeSpec) : _root_.Go.OpenSpec := { _root_.Go.OpenSpec.ofChange s with cond := some uptoSmall }

/-- 'familychecklaw07.TreeInitials', WHERE WHAT IT READS IS OF BULK AT MOST 1048576: true; the input reads as it did. -/
def treeInitialsUptoRow : OpenClaim := { program := "ytldimfobgpmlaaagreatdoor", sum := "23b6e9b9a90f86536587d3d73d722005d848d99389a164e16054bb32f6c7dd81", func := "familycheck/familychecklaw07.TreeInitials", spec := "treeInitials", unfollowed := true, recurses := true, named := ["strings.asciiSpace", "unicode.White_Space"], plainKeys := false, apart := false, laid := [("unicode.White_Space", laid_unicode_White_Space), ("strings.asciiSpace", laid_strings_asciiSpace)], narrowed := true }
def TreeInitialsUptoSaid : Prop := treeInitialsUptoRow.holds Tryz.pinned (OpenSpec.upto treeInitialsSpec)

/-- 'familychecklaw07.TreeBads', WHERE WHAT IT READS IS OF BULK AT MOST 1048576: true; the input reads as it did. -/
def treeBadsUptoRow : OpenClaim := { program := "ytldimfobgpmlaaagreatdoor", sum := "23b6e9b9a90f86536587d3d73d722005d848d99389a164e16054bb32f6c7dd81", func := "familycheck/familychecklaw07.TreeBads", spec := "treeBads", unfollowed := true, recurses := true, named := ["strings.asciiSpace", "unicode.White_Space"], plainKeys := false, apart := false, laid := [("unicode.White_Space", laid_unicode_White_Space), ("strings.asciiSpace", laid_strings_asciiSpace)], narrowed := true }
def TreeBadsUptoSaid : Prop := treeBadsUptoRow.holds Tryz.pinned (OpenSpec.upto treeBadsSpec)

/-- 'familychecklaw07.TreeInitialMeans', WHERE WHAT IT READS IS OF BULK AT MOST 1048576: true; the input reads as it did. -/
def treeInitialMeansUptoRow : OpenClaim := { program := "ytldimfobgpmlaaagreatdoor", sum := "23b6e9b9a90f86536587d3d73d722005d848d99389a164e16054bb32f6c7dd81", func := "familycheck/familychecklaw07.TreeInitialMeans", spec := "treeInitialMeans", unfollowed := true, recurses := true, named := ["strings.asciiSpace", "unicode.White_Space"], plainKeys := false, apart := false, laid := [("unicode.White_Space", laid_unicode_White_Space), ("strings.asciiSpace", laid_strings_asciiSpace)], narrowed := true }
def TreeInitialMeansUptoSaid : Prop := treeInitialMeansUptoRow.holds Tryz.pinned (OpenSpec.upto treeInitialMeansSpec)

/-- 'familychecklaw07.TreeForwards', WHERE WHAT IT READS IS OF BULK AT MOST 1048576: true; the input reads as it did. -/
def treeForwardsUptoRow : OpenClaim := { program := "ytldimfobgpmlaaagreatdoor", sum := "23b6e9b9a90f86536587d3d73d722005d848d99389a164e16054bb32f6c7dd81", func := "familycheck/familychecklaw07.TreeForwards", spec := "treeForwards", unfollowed := true, recurses := true, named := ["strings.asciiSpace", "unicode.White_Space"], plainKeys := false, apart := false, laid := [("unicode.White_Space", laid_unicode_White_Space), ("strings.asciiSpace", laid_strings_asciiSpace)], narrowed := true }
def TreeForwardsUptoSaid : Prop := treeForwardsUptoRow.holds Tryz.pinned (OpenSpec.upto treeForwardsSpec)

/-- 'familychecklaw07.TreeForwardCloses', WHERE WHAT IT READS IS OF BULK AT MOST 1048576: true; the input reads as it did. -/
def treeForwardClosesUptoRow : OpenClaim := { program := "ytldimfobgpmlaaagreatdoor", sum := "23b6e9b9a90f86536587d3d73d722005d848d99389a164e16054bb32f6c7dd81", func := "familycheck/familychecklaw07.TreeForwardCloses", spec := "treeForwardCloses", unfollowed := true, recurses := true, named := ["strings.asciiSpace", "unicode.White_Space"], plainKeys := false, apart := false, laid := [("unicode.White_Space", laid_unicode_White_Space), ("strings.asciiSpace", laid_strings_asciiSpace)], narrowed := true }
def TreeForwardClosesUptoSaid : Prop := treeForwardClosesUptoRow.holds Tryz.pinned (OpenSpec.upto treeForwardClosesSpec)

/-- 'familychecklaw07.TreeProves', WHERE WHAT IT READS IS OF BULK AT MOST 1048576: true; the input reads as it did. -/
def treeProvesUptoRow : OpenClaim := { program := "ytldimfobgpmlaaagreatdoor", sum := "23b6e9b9a90f86536587d3d73d722005d848d99389a164e16054bb32f6c7dd81", func := "familycheck/familychecklaw07.TreeProves", spec := "treeProves", unfollowed := true, recurses := true, named := ["strings.asciiSpace", "unicode.White_Space"], plainKeys := false, apart := false, laid := [("unicode.White_Space", laid_unicode_White_Space), ("strings.asciiSpace", laid_strings_asciiSpace)], narrowed := true }
def TreeProvesUptoSaid : Prop := treeProvesUptoRow.holds Tryz.pinned (OpenSpec.upto treeProvesSpec)

end Rows
end Go.Proofs.YtldimfobgpmlaaaGreatDoor
