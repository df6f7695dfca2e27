/-
  NARROWER THAN 'FOR EVERY INPUT', by the rows' own cells (each row's printed sentence says how): AdvisoryFinds: loops, laid · AdvisoryFixes: loops, laid · AdvisoryAvoids: loops, laid · AdvisoryUses: loops, laid · AdvisoryChains: loops, laid.
  DERIVED. THE GIVEN ROWS OF THIS SEAT. 5 by the template 'for every input the law returns true; each argument reads behind the call as it read before'; 0 by the template 'total and deterministic' (their statements: YtefbaladomfccaaGreatDoorTotals.lean).
  GIVEN WITH THE SEED: the statements are not yours to turn. If you find one false, say at which input.
  Laid BY PROGRAM, IN A SANDBOX (cutbox-rows.mjs): the forced cells as the released guide's own fill.sh prints them over the translation c28005b63daf6e12… (all of the seat's roots in one cut). By AI agents, Wed Nov 11 2026. No macro, syntax, notation, axiom, sorry.
-/
import Derived.Test.YtefbaladomfccaaGreatDoorChecked
import GoSem.PinnedTables
import GoSem.Claim
import GoSem.ClaimJoined
import GoSem.ClaimMapViews
import Derived.JoinedTies
import Derived.KernelRfl
namespace Go.Proofs.YtefbaladomfccaaGreatDoor
/- THE CELL 'sum', in the pinned program and in every row, IS THE sha256 OF THE DUMP (.gsa) THAT YtefbaladomfccaaGreatDoorProg.lean LOADS. Nothing in Lean hashes anything: it is a label: what it is worth is what the hold of that sum in a sandbox is worth. -/
noncomputable def Tryz.pinned : Pinned := { name := "ytefbaladomfccaagreatdoor", sum := "c28005b63daf6e12a86ba50fe255e23d18238d9cc8b7fc14ef43a687e90b155e", checked := Tryz.checked }
namespace Rows
def none {H : Type} : Left H := { results := [], args := [] }

/- WHAT THE LISTED PACKAGE-LEVEL VARIABLES READ AS WHEN THE CALL BEGINS. Each datum BY PROGRAM (the guide's laid-datum.mjs) off the statement by which the dump's own 'gosem.cut.vars' lays the variable. In a bare row this is a premise. The card (YtefbaladomfccaaGreatDoorCards.lean) ties it to the program's text. -/
def laid_unicode_utf8_acceptRanges {H : Type} : DataW H := .agg [.agg [.lit (.int .u8 128), .lit (.int .u8 191)], .agg [.lit (.int .u8 160), .lit (.int .u8 191)], .agg [.lit (.int .u8 128), .lit (.int .u8 159)], .agg [.lit (.int .u8 144), .lit (.int .u8 191)], .agg [.lit (.int .u8 128), .lit (.int .u8 143)], .agg [.lit (.int .u8 0), .lit (.int .u8 0)], .agg [.lit (.int .u8 0), .lit (.int .u8 0)], .agg [.lit (.int .u8 0), .lit (.int .u8 0)], .agg [.lit (.int .u8 0), .lit (.int .u8 0)], .agg [.lit (.int .u8 0), .lit (.int .u8 0)], .agg [.lit (.int .u8 0), .lit (.int .u8 0)], .agg [.lit (.int .u8 0), .lit (.int .u8 0)], .agg [.lit (.int .u8 0), .lit (.int .u8 0)], .agg [.lit (.int .u8 0), .lit (.int .u8 0)], .agg [.lit (.int .u8 0), .lit (.int .u8 0)], .agg [.lit (.int .u8 0), .lit (.int .u8 0)]]
/-- One of Go's own tables, pinned by name: the form's constant. -/
def laid_unicode_utf8_first : DataW Unit := Go.Pinned.utf8First

/-- 'modcertlaw42.AdvisoryFinds': WHATEVER THE INPUT: true; the input reads as it did. -/
def advisoryFindsSpec : ChangeSpec := { name := "advisoryFinds", fn := fun _ => fun
  | [d1, d2, d3, d4, d5] => { results := [.lit (.bool true)], args := [d1, d2, d3, d4, d5] }
  | _ => none }
def advisoryFindsRow : OpenClaim := { program := "ytefbaladomfccaagreatdoor", sum := "c28005b63daf6e12a86ba50fe255e23d18238d9cc8b7fc14ef43a687e90b155e", func := "modcert/modcertlaw42.AdvisoryFinds", spec := "advisoryFinds", inPlace := ["internal/bytealg.CountString", "internal/bytealg.IndexByteString", "internal/bytealg.IndexString", "internal/bytealg.abigen_runtime_cmpstring"], unfollowed := true, recurses := true, named := ["unicode/utf8.first", "unicode/utf8.acceptRanges", "internal/bytealg.MaxLen"], loops := true, plainKeys := false, apart := false, laid := [("unicode/utf8.acceptRanges", laid_unicode_utf8_acceptRanges), ("unicode/utf8.first", laid_unicode_utf8_first)] }
def AdvisoryFindsSaid : Prop := advisoryFindsRow.holds Tryz.pinned (OpenSpec.ofChange advisoryFindsSpec)

/-- ITS FALSE NEIGHBOUR: 'it returns false'. Refute it at one input. -/
def advisoryFindsWrong : ChangeSpec := { name := "advisoryFinds", fn := fun _ => fun
  | [d1, d2, d3, d4, d5] => { results := [.lit (.bool false)], args := [d1, d2, d3, d4, d5] }
  | _ => none }
def AdvisoryFindsWrongFalsely : Prop := advisoryFindsRow.holds Tryz.pinned (OpenSpec.ofChange advisoryFindsWrong)

/-- 'modcertlaw42.AdvisoryFixes': WHATEVER THE INPUT: true; the input reads as it did. -/
def advisoryFixesSpec : ChangeSpec := { name := "advisoryFixes", fn := fun _ => fun
  | [d1, d2, d3] => { results := [.lit (.bool true)], args := [d1, d2, d3] }
  | _ => none }
def advisoryFixesRow : OpenClaim := { program := "ytefbaladomfccaagreatdoor", sum := "c28005b63daf6e12a86ba50fe255e23d18238d9cc8b7fc14ef43a687e90b155e", func := "modcert/modcertlaw42.AdvisoryFixes", spec := "advisoryFixes", inPlace := ["internal/bytealg.CountString", "internal/bytealg.IndexByteString", "internal/bytealg.IndexString", "internal/bytealg.abigen_runtime_cmpstring"], unfollowed := true, recurses := true, named := ["unicode/utf8.first", "unicode/utf8.acceptRanges", "internal/bytealg.MaxLen"], loops := true, plainKeys := false, apart := false, laid := [("unicode/utf8.acceptRanges", laid_unicode_utf8_acceptRanges), ("unicode/utf8.first", laid_unicode_utf8_first)] }
def AdvisoryFixesSaid : Prop := advisoryFixesRow.holds Tryz.pinned (OpenSpec.ofChange advisoryFixesSpec)

/-- ITS FALSE NEIGHBOUR: 'it returns false'. Refute it at one input. -/
def advisoryFixesWrong : ChangeSpec := { name := "advisoryFixes", fn := fun _ => fun
  | [d1, d2, d3] => { results := [.lit (.bool false)], args := [d1, d2, d3] }
  | _ => none }
def AdvisoryFixesWrongFalsely : Prop := advisoryFixesRow.holds Tryz.pinned (OpenSpec.ofChange advisoryFixesWrong)

/-- 'modcertlaw42.AdvisoryAvoids': WHATEVER THE INPUT: true; the input reads as it did. -/
def advisoryAvoidsSpec : ChangeSpec := { name := "advisoryAvoids", fn := fun _ => fun
  | [d1, d2, d3] => { results := [.lit (.bool true)], args := [d1, d2, d3] }
  | _ => none }
def advisoryAvoidsRow : OpenClaim := { program := "ytefbaladomfccaagreatdoor", sum := "c28005b63daf6e12a86ba50fe255e23d18238d9cc8b7fc14ef43a687e90b155e", func := "modcert/modcertlaw42.AdvisoryAvoids", spec := "advisoryAvoids", inPlace := ["internal/bytealg.CountString", "internal/bytealg.IndexByteString", "internal/bytealg.IndexString", "internal/bytealg.abigen_runtime_cmpstring"], unfollowed := true, recurses := true, named := ["unicode/utf8.first", "unicode/utf8.acceptRanges", "internal/bytealg.MaxLen"], loops := true, plainKeys := false, apart := false, laid := [("unicode/utf8.acceptRanges", laid_unicode_utf8_acceptRanges), ("unicode/utf8.first", laid_unicode_utf8_first)] }
def AdvisoryAvoidsSaid : Prop := advisoryAvoidsRow.holds Tryz.pinned (OpenSpec.ofChange advisoryAvoidsSpec)

/-- ITS FALSE NEIGHBOUR: 'it returns false'. Refute it at one input. -/
def advisoryAvoidsWrong : ChangeSpec := { name := "advisoryAvoids", fn := fun _ => fun
  | [d1, d2, d3] => { results := [.lit (.bool false)], args := [d1, d2, d3] }
  | _ => none }
def AdvisoryAvoidsWrongFalsely : Prop := advisoryAvoidsRow.holds Tryz.pinned (OpenSpec.ofChange advisoryAvoidsWrong)

/-- 'modcertlaw42.AdvisoryUses': WHATEVER THE INPUT: true; the input reads as it did. -/
def advisoryUsesSpec : ChangeSpec := { name := "advisoryUses", fn := fun _ => fun
  | [d1, d2, d3] => { results := [.lit (.bool true)], args := [d1, d2, d3] }
  | _ => none }
def advisoryUsesRow : OpenClaim := { program := "ytefbaladomfccaagreatdoor", sum := "c28005b63daf6e12a86ba50fe255e23d18238d9cc8b7fc14ef43a687e90b155e", func := "modcert/modcertlaw42.AdvisoryUses", spec := "advisoryUses", inPlace := ["internal/bytealg.CountString", "internal/bytealg.IndexByteString", "internal/bytealg.IndexString", "internal/bytealg.abigen_runtime_cmpstring"], unfollowed := true, recurses := true, named := ["unicode/utf8.first", "unicode/utf8.acceptRanges", "internal/bytealg.MaxLen"], loops := true, plainKeys := false, apart := false, laid := [("unicode/utf8.acceptRanges", laid_unicode_utf8_acceptRanges), ("unicode/utf8.first", laid_unicode_utf8_first)] }
def AdvisoryUsesSaid : Prop := advisoryUsesRow.holds Tryz.pinned (OpenSpec.ofChange advisoryUsesSpec)

/-- ITS FALSE NEIGHBOUR: 'it returns false'. Refute it at one input. -/
def advisoryUsesWrong : ChangeSpec := { name := "advisoryUses", fn := fun _ => fun
  | [d1, d2, d3] => { results := [.lit (.bool false)], args := [d1, d2, d3] }
  | _ => none }
def AdvisoryUsesWrongFalsely : Prop := advisoryUsesRow.holds Tryz.pinned (OpenSpec.ofChange advisoryUsesWrong)

/-- 'modcertlaw42.AdvisoryChains': WHATEVER THE INPUT: true; the input reads as it did. -/
def advisoryChainsSpec : ChangeSpec := { name := "advisoryChains", fn := fun _ => fun
  | [d1, d2, d3, d4, d5] => { results := [.lit (.bool true)], args := [d1, d2, d3, d4, d5] }
  | _ => none }
def advisoryChainsRow : OpenClaim := { program := "ytefbaladomfccaagreatdoor", sum := "c28005b63daf6e12a86ba50fe255e23d18238d9cc8b7fc14ef43a687e90b155e", func := "modcert/modcertlaw42.AdvisoryChains", spec := "advisoryChains", inPlace := ["internal/bytealg.CountString", "internal/bytealg.IndexByteString", "internal/bytealg.IndexString", "internal/bytealg.abigen_runtime_cmpstring"], unfollowed := true, recurses := true, named := ["unicode/utf8.first", "unicode/utf8.acceptRanges", "internal/bytealg.MaxLen"], loops := true, plainKeys := false, apart := false, laid := [("unicode/utf8.acceptRanges", laid_unicode_utf8_acceptRanges), ("unicode/utf8.first", laid_unicode_utf8_first)] }
def AdvisoryChainsSaid : Prop := advisoryChainsRow.holds Tryz.pinned (OpenSpec.ofChange advisoryChainsSpec)

/-- ITS FALSE NEIGHBOUR: 'it returns false'. Refute it at one input. -/
def advisoryChainsWrong : ChangeSpec := { name := "advisoryChains", fn := fun _ => fun
  | [d1, d2, d3, d4, d5] => { results := [.lit (.bool false)], args := [d1, d2, d3, d4, d5] }
  | _ => none }
def AdvisoryChainsWrongFalsely : Prop := advisoryChainsRow.holds Tryz.pinned (OpenSpec.ofChange advisoryChainsWrong)

/- THE SECOND FORM. 'bulk': how many values and letters a reading holds, each counted each time it is reached (what is shared counts as often as it is met; a slice's spare places count too). A statement '..UptoSaid' is the law's where the arguments, and the package variables that the reading takes, are together of bulk at most 1048576: NARROWER than '..Said'. Prove '..Said' where nothing that the law and all that it calls make is longer than what came in: it says more and counts as full. Else prove '..UptoSaid'. A law counts once. -/
mutual
def uptoBulk {H : Type} : DataW H → Nat
  | .lit (.string bytes) => bytes.length + 1
  | .lit _ => 1
  | .nil => 1
  | .ptr d => uptoBulk d + 1
  | .slice elems spare => uptoBulkAll elems + uptoBulkAll spare + 1
  | .agg parts => uptoBulkAll parts + 1
  | .iface _ d => uptoBulk d + 1
  | .map entries => uptoBulkEntries entries + 1
  | .held _ => 1
def uptoBulkAll {H : Type} : List (DataW H) → Nat
  | [] => 0
  | d :: r => uptoBulk d + uptoBulkAll r
def uptoBulkEntries {H : Type} : List (Lit × DataW H) → Nat
  | [] => 0
  | x :: r => uptoBulkEntry x + uptoBulkEntries r
def uptoBulkEntry {H : Type} : Lit × DataW H → Nat
  | (.string bytes, d) => bytes.length + uptoBulk d + 1
  | (_, d) => uptoBulk d + 1
 end
def uptoSmall : (H : Type) → List (DataW H) → Bool := fun _ ds => decide (uptoBulkAll ds ≤ 1048576)
def OpenSpec.upto (s : _root_.Go.ChangeSpec) : _root_.Go.OpenSpec := { _root_.Go.OpenSpec.ofChange s with cond := some uptoSmall }

/-- 'modcertlaw42.AdvisoryFinds', WHERE WHAT IT READS IS OF BULK AT MOST 1048576: true; the input reads as it did. -/
def advisoryFindsUptoRow : OpenClaim := { program := "ytefbaladomfccaagreatdoor", sum := "c28005b63daf6e12a86ba50fe255e23d18238d9cc8b7fc14ef43a687e90b155e", func := "modcert/modcertlaw42.AdvisoryFinds", spec := "advisoryFinds", inPlace := ["internal/bytealg.CountString", "internal/bytealg.IndexByteString", "internal/bytealg.IndexString", "internal/bytealg.abigen_runtime_cmpstring"], unfollowed := true, recurses := true, named := ["unicode/utf8.first", "unicode/utf8.acceptRanges", "internal/bytealg.MaxLen"], loops := true, plainKeys := false, apart := false, laid := [("unicode/utf8.acceptRanges", laid_unicode_utf8_acceptRanges), ("unicode/utf8.first", laid_unicode_utf8_first)], narrowed := true }
def AdvisoryFindsUptoSaid : Prop := advisoryFindsUptoRow.holds Tryz.pinned (OpenSpec.upto advisoryFindsSpec)

/-- 'modcertlaw42.AdvisoryFixes', WHERE WHAT IT READS IS OF BULK AT MOST 1048576: true; the input reads as it did. -/
def advisoryFixesUptoRow : OpenClaim := { program := "ytefbaladomfccaagreatdoor", sum := "c28005b63daf6e12a86ba50fe255e23d18238d9cc8b7fc14ef43a687e90b155e", func := "modcert/modcertlaw42.AdvisoryFixes", spec := "advisoryFixes", inPlace := ["internal/bytealg.CountString", "internal/bytealg.IndexByteString", "internal/bytealg.IndexString", "internal/bytealg.abigen_runtime_cmpstring"], unfollowed := true, recurses := true, named := ["unicode/utf8.first", "unicode/utf8.acceptRanges", "internal/bytealg.MaxLen"], loops := true, plainKeys := false, apart := false, laid := [("unicode/utf8.acceptRanges", laid_unicode_utf8_acceptRanges), ("unicode/utf8.first", laid_unicode_utf8_first)], narrowed := true }
def AdvisoryFixesUptoSaid : Prop := advisoryFixesUptoRow.holds Tryz.pinned (OpenSpec.upto advisoryFixesSpec)

/-- 'modcertlaw42.AdvisoryAvoids', WHERE WHAT IT READS IS OF BULK AT MOST 1048576: true; the input reads as it did. -/
def advisoryAvoidsUptoRow : OpenClaim := { program := "ytefbaladomfccaagreatdoor", sum := "c28005b63daf6e12a86ba50fe255e23d18238d9cc8b7fc14ef43a687e90b155e", func := "modcert/modcertlaw42.AdvisoryAvoids", spec := "advisoryAvoids", inPlace := ["internal/bytealg.CountString", "internal/bytealg.IndexByteString", "internal/bytealg.IndexString", "internal/bytealg.abigen_runtime_cmpstring"], unfollowed := true, recurses := true, named := ["unicode/utf8.first", "unicode/utf8.acceptRanges", "internal/bytealg.MaxLen"], loops := true, plainKeys := false, apart := false, laid := [("unicode/utf8.acceptRanges", laid_unicode_utf8_acceptRanges), ("unicode/utf8.first", laid_unicode_utf8_first)], narrowed := true }
def AdvisoryAvoidsUptoSaid : Prop := advisoryAvoidsUptoRow.holds Tryz.pinned (OpenSpec.upto advisoryAvoidsSpec)

/-- 'modcertlaw42.AdvisoryUses', WHERE WHAT IT READS IS OF BULK AT MOST 1048576: true; the input reads as it did. -/
def advisoryUsesUptoRow : OpenClaim := { program := "ytefbaladomfccaagreatdoor", sum := "c28005b63daf6e12a86ba50fe255e23d18238d9cc8b7fc14ef43a687e90b155e", func := "modcert/modcertlaw42.AdvisoryUses", spec := "advisoryUses", inPlace := ["internal/bytealg.CountString", "internal/bytealg.IndexByteString", "internal/bytealg.IndexString", "internal/bytealg.abigen_runtime_cmpstring"], unfollowed := true, recurses := true, named := ["unicode/utf8.first", "unicode/utf8.acceptRanges", "internal/bytealg.MaxLen"], loops := true, plainKeys := false, apart := false, laid := [("unicode/utf8.acceptRanges", laid_unicode_utf8_acceptRanges), ("unicode/utf8.first", laid_unicode_utf8_first)], narrowed := true }
def AdvisoryUsesUptoSaid : Prop := advisoryUsesUptoRow.holds Tryz.pinned (OpenSpec.upto advisoryUsesSpec)

/-- 'modcertlaw42.AdvisoryChains', WHERE WHAT IT READS IS OF BULK AT MOST 1048576: true; the input reads as it did. -/
def advisoryChainsUptoRow : OpenClaim := { program := "ytefbaladomfccaagreatdoor", sum := "c28005b63daf6e12a86ba50fe255e23d18238d9cc8b7fc14ef43a687e90b155e", func := "modcert/modcertlaw42.AdvisoryChains", spec := "advisoryChains", inPlace := ["internal/bytealg.CountString", "internal/bytealg.IndexByteString", "internal/bytealg.IndexString", "internal/bytealg.abigen_runtime_cmpstring"], unfollowed := true, recurses := true, named := ["unicode/utf8.first", "unicode/utf8.acceptRanges", "internal/bytealg.MaxLen"], loops := true, plainKeys := false, apart := false, laid := [("unicode/utf8.acceptRanges", laid_unicode_utf8_acceptRanges), ("unicode/utf8.first", laid_unicode_utf8_first)], narrowed := true }
def AdvisoryChainsUptoSaid : Prop := advisoryChainsUptoRow.holds Tryz.pinned (OpenSpec.upto advisoryChainsSpec)

end Rows
end Go.Proofs.YtefbaladomfccaaGreatDoor
