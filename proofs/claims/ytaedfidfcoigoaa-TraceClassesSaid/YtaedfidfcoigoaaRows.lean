/-
  No cell of these rows narrows 'for every input' (looked for: loops, veiled, ifaces, maps, wideKeys, modest, calm, conditions, laid).
  DERIVED. THE GIVEN ROWS OF THIS SEAT. 6 by the template 'for every input the law returns true; each argument reads behind the call as it read before'; 0 by the template 'total and deterministic' (their statements: YtaedfidfcoigoaaTotals.lean).
  GIVEN WITH THE SEED: the statements are not yours to turn. If you find one false, say at which input.
  Laid BY PROGRAM, IN A SANDBOX (cutbox-rows.mjs): the forced cells as the released guide's own fill.sh prints them over the translation 48e2d514029a7ae5… (all of the seat's roots in one cut). By AI agents, Wed Nov 11 2026. No macro, syntax, notation, axiom, sorry.
-/
import Derived.Test.YtaedfidfcoigoaaChecked
import GoSem.Claim
import GoSem.ClaimJoined
import GoSem.ClaimMapViews
import Derived.JoinedTies
import Derived.KernelRfl
namespace Go.Proofs.Ytaedfidfcoigoaa
/- THE CELL 'sum', in the pinned program and in every row, IS THE sha256 OF THE DUMP (.gsa) THAT YtaedfidfcoigoaaProg.lean LOADS. Nothing in Lean hashes anything: it is a label: what it is worth is what the hold of that sum in a sandbox is worth. -/
noncomputable def Try.pinned : Pinned := { name := "ytaedfidfcoigoaa", sum := "48e2d514029a7ae585ee40b1b6567179cf76158b93fbc00661c6fbba7bdca541", checked := Try.checked }
namespace Rows
def none {H : Type} : Left H := { results := [], args := [] }

/-- 'simprooflaw17.TraceAppends': WHATEVER THE INPUT: true; the input reads as it did. -/
def traceAppendsSpec : ChangeSpec := { name := "traceAppends", fn := fun _ => fun
  | [d1, d2, d3] => { results := [.lit (.bool true)], args := [d1, d2, d3] }
  | _ => none }
def traceAppendsRow : OpenClaim := { program := "ytaedfidfcoigoaa", sum := "48e2d514029a7ae585ee40b1b6567179cf76158b93fbc00661c6fbba7bdca541", func := "simproof/simprooflaw17.TraceAppends", spec := "traceAppends", unfollowed := true, recurses := true, apart := false }
def TraceAppendsSaid : Prop := traceAppendsRow.holds Try.pinned (OpenSpec.ofChange traceAppendsSpec)

/-- ITS FALSE NEIGHBOUR: 'it returns false'. Refute it at one input. -/
def traceAppendsWrong : ChangeSpec := { name := "traceAppends", fn := fun _ => fun
  | [d1, d2, d3] => { results := [.lit (.bool false)], args := [d1, d2, d3] }
  | _ => none }
def TraceAppendsWrongFalsely : Prop := traceAppendsRow.holds Try.pinned (OpenSpec.ofChange traceAppendsWrong)

/-- 'simprooflaw17.TraceProjects': WHATEVER THE INPUT: true; the input reads as it did. -/
def traceProjectsSpec : ChangeSpec := { name := "traceProjects", fn := fun _ => fun
  | [d1, d2] => { results := [.lit (.bool true)], args := [d1, d2] }
  | _ => none }
def traceProjectsRow : OpenClaim := { program := "ytaedfidfcoigoaa", sum := "48e2d514029a7ae585ee40b1b6567179cf76158b93fbc00661c6fbba7bdca541", func := "simproof/simprooflaw17.TraceProjects", spec := "traceProjects", unfollowed := true, recurses := true, apart := false }
def TraceProjectsSaid : Prop := traceProjectsRow.holds Try.pinned (OpenSpec.ofChange traceProjectsSpec)

/-- ITS FALSE NEIGHBOUR: 'it returns false'. Refute it at one input. -/
def traceProjectsWrong : ChangeSpec := { name := "traceProjects", fn := fun _ => fun
  | [d1, d2] => { results := [.lit (.bool false)], args := [d1, d2] }
  | _ => none }
def TraceProjectsWrongFalsely : Prop := traceProjectsRow.holds Try.pinned (OpenSpec.ofChange traceProjectsWrong)

/-- 'simprooflaw17.TraceClasses': WHATEVER THE INPUT: true; the input reads as it did. -/
def traceClassesSpec : ChangeSpec := { name := "traceClasses", fn := fun _ => fun
  | [d1, d2, d3, d4] => { results := [.lit (.bool true)], args := [d1, d2, d3, d4] }
  | _ => none }
def traceClassesRow : OpenClaim := { program := "ytaedfidfcoigoaa", sum := "48e2d514029a7ae585ee40b1b6567179cf76158b93fbc00661c6fbba7bdca541", func := "simproof/simprooflaw17.TraceClasses", spec := "traceClasses", unfollowed := true, recurses := true, apart := false }
def TraceClassesSaid : Prop := traceClassesRow.holds Try.pinned (OpenSpec.ofChange traceClassesSpec)

/-- ITS FALSE NEIGHBOUR: 'it returns false'. Refute it at one input. -/
def traceClassesWrong : ChangeSpec := { name := "traceClasses", fn := fun _ => fun
  | [d1, d2, d3, d4] => { results := [.lit (.bool false)], args := [d1, d2, d3, d4] }
  | _ => none }
def TraceClassesWrongFalsely : Prop := traceClassesRow.holds Try.pinned (OpenSpec.ofChange traceClassesWrong)

/-- 'simprooflaw17.TraceCanonical': WHATEVER THE INPUT: true; the input reads as it did. -/
def traceCanonicalSpec : ChangeSpec := { name := "traceCanonical", fn := fun _ => fun
  | [d1, d2] => { results := [.lit (.bool true)], args := [d1, d2] }
  | _ => none }
def traceCanonicalRow : OpenClaim := { program := "ytaedfidfcoigoaa", sum := "48e2d514029a7ae585ee40b1b6567179cf76158b93fbc00661c6fbba7bdca541", func := "simproof/simprooflaw17.TraceCanonical", spec := "traceCanonical", unfollowed := true, recurses := true, apart := false }
def TraceCanonicalSaid : Prop := traceCanonicalRow.holds Try.pinned (OpenSpec.ofChange traceCanonicalSpec)

/-- ITS FALSE NEIGHBOUR: 'it returns false'. Refute it at one input. -/
def traceCanonicalWrong : ChangeSpec := { name := "traceCanonical", fn := fun _ => fun
  | [d1, d2] => { results := [.lit (.bool false)], args := [d1, d2] }
  | _ => none }
def TraceCanonicalWrongFalsely : Prop := traceCanonicalRow.holds Try.pinned (OpenSpec.ofChange traceCanonicalWrong)

/-- 'simprooflaw17.TraceNormal': WHATEVER THE INPUT: true; the input reads as it did. -/
def traceNormalSpec : ChangeSpec := { name := "traceNormal", fn := fun _ => fun
  | [d] => { results := [.lit (.bool true)], args := [d] }
  | _ => none }
def traceNormalRow : OpenClaim := { program := "ytaedfidfcoigoaa", sum := "48e2d514029a7ae585ee40b1b6567179cf76158b93fbc00661c6fbba7bdca541", func := "simproof/simprooflaw17.TraceNormal", spec := "traceNormal", unfollowed := true, recurses := true, apart := false }
def TraceNormalSaid : Prop := traceNormalRow.holds Try.pinned (OpenSpec.ofChange traceNormalSpec)

/-- ITS FALSE NEIGHBOUR: 'it returns false'. Refute it at one input. -/
def traceNormalWrong : ChangeSpec := { name := "traceNormal", fn := fun _ => fun
  | [d] => { results := [.lit (.bool false)], args := [d] }
  | _ => none }
def TraceNormalWrongFalsely : Prop := traceNormalRow.holds Try.pinned (OpenSpec.ofChange traceNormalWrong)

/-- 'simprooflaw17.TraceEquivalent': WHATEVER THE INPUT: true; the input reads as it did. -/
def traceEquivalentSpec : ChangeSpec := { name := "traceEquivalent", fn := fun _ => fun
  | [d1, d2, d3, d4] => { results := [.lit (.bool true)], args := [d1, d2, d3, d4] }
  | _ => none }
def traceEquivalentRow : OpenClaim := { program := "ytaedfidfcoigoaa", sum := "48e2d514029a7ae585ee40b1b6567179cf76158b93fbc00661c6fbba7bdca541", func := "simproof/simprooflaw17.TraceEquivalent", spec := "traceEquivalent", unfollowed := true, recurses := true, apart := false }
def TraceEquivalentSaid : Prop := traceEquivalentRow.holds Try.pinned (OpenSpec.ofChange traceEquivalentSpec)

/-- ITS FALSE NEIGHBOUR: 'it returns false'. Refute it at one input. -/
def traceEquivalentWrong : ChangeSpec := { name := "traceEquivalent", fn := fun _ => fun
  | [d1, d2, d3, d4] => { results := [.lit (.bool false)], args := [d1, d2, d3, d4] }
  | _ => none }
def TraceEquivalentWrongFalsely : Prop := traceEquivalentRow.holds Try.pinned (OpenSpec.ofChange traceEquivalentWrong)

/- THE SECOND FORM. 'bulk': how many values and letters a reading holds, each counted each time it is reached (what is shared counts as often as it is met; a slice's spare places count too). A statement '..UptoSaid' is the law's where the arguments, and the package variables that the reading takes, are together of bulk at most 1048576: NARROWER than '..Said'. Prove '..Said' where nothing that the law and all that it calls make is longer than what came in: it says more and counts as full. Else prove '..UptoSaid'. A law counts once. -/
mutual
def uptoBulk {H : Type} : DataW H → Nat
  | .lit (.string bytes) => bytes.length + 1
  | .lit _ => 1
  | .nil => 1
  | .ptr d => uptoBulk d + 1
  | .slice elems spare => uptoBulkAll elems + uptoBulkAll spare + 1
  | .agg parts => uptoBulkAll parts + 1
  | .iface _ d => uptoBulk d + 1
  | .map entries => uptoBulkEntries entries + 1
  | .held _ => 1
def uptoBulkAll {H : Type} : List (DataW H) → Nat
  | [] => 0
  | d :: r => uptoBulk d + uptoBulkAll r
def uptoBulkEntries {H : Type} : List (Lit × DataW H) → Nat
  | [] => 0
  | x :: r => uptoBulkEntry x + uptoBulkEntries r
def uptoBulkEntry {H : Type} : Lit × DataW H → Nat
  | (.string bytes, d) => bytes.length + uptoBulk d + 1
  | (_, d) => uptoBulk d + 1
 end
def uptoSmall : (H : Type) → List (DataW H) → Bool := fun _ ds => decide (uptoBulkAll ds ≤ 1048576)
def OpenSpec.upto (s : _root_.Go.ChangeSpec) : _root_.Go.OpenSpec := { _root_.Go.OpenSpec.ofChange s with cond := some uptoSmall }

/-- 'simprooflaw17.TraceAppends', WHERE WHAT IT READS IS OF BULK AT MOST 1048576: true; the input reads as it did. -/
def traceAppendsUptoRow : OpenClaim := { program := "ytaedfidfcoigoaa", sum := "48e2d514029a7ae585ee40b1b6567179cf76158b93fbc00661c6fbba7bdca541", func := "simproof/simprooflaw17.TraceAppends", spec := "traceAppends", unfollowed := true, recurses := true, apart := false, narrowed := true }
def TraceAppendsUptoSaid : Prop := traceAppendsUptoRow.holds Try.pinned (OpenSpec.upto traceAppendsSpec)

/-- 'simprooflaw17.TraceProjects', WHERE WHAT IT READS IS OF BULK AT MOST 1048576: true; the input reads as it did. -/
def traceProjectsUptoRow : OpenClaim := { program := "ytaedfidfcoigoaa", sum := "48e2d514029a7ae585ee40b1b6567179cf76158b93fbc00661c6fbba7bdca541", func := "simproof/simprooflaw17.TraceProjects", spec := "traceProjects", unfollowed := true, recurses := true, apart := false, narrowed := true }
def TraceProjectsUptoSaid : Prop := traceProjectsUptoRow.holds Try.pinned (OpenSpec.upto traceProjectsSpec)

/-- 'simprooflaw17.TraceClasses', WHERE WHAT IT READS IS OF BULK AT MOST 1048576: true; the input reads as it did. -/
def traceClassesUptoRow : OpenClaim := { program := "ytaedfidfcoigoaa", sum := "48e2d514029a7ae585ee40b1b6567179cf76158b93fbc00661c6fbba7bdca541", func := "simproof/simprooflaw17.TraceClasses", spec := "traceClasses", unfollowed := true, recurses := true, apart := false, narrowed := true }
def TraceClassesUptoSaid : Prop := traceClassesUptoRow.holds Try.pinned (OpenSpec.upto traceClassesSpec)

/-- 'simprooflaw17.TraceCanonical', WHERE WHAT IT READS IS OF BULK AT MOST 1048576: true; the input reads as it did. -/
def traceCanonicalUptoRow : OpenClaim := { program := "ytaedfidfcoigoaa", sum := "48e2d514029a7ae585ee40b1b6567179cf76158b93fbc00661c6fbba7bdca541", func := "simproof/simprooflaw17.TraceCanonical", spec := "traceCanonical", unfollowed := true, recurses := true, apart := false, narrowed := true }
def TraceCanonicalUptoSaid : Prop := traceCanonicalUptoRow.holds Try.pinned (OpenSpec.upto traceCanonicalSpec)

/-- 'simprooflaw17.TraceNormal', WHERE WHAT IT READS IS OF BULK AT MOST 1048576: true; the input reads as it did. -/
def traceNormalUptoRow : OpenClaim := { program := "ytaedfidfcoigoaa", sum := "48e2d514029a7ae585ee40b1b6567179cf76158b93fbc00661c6fbba7bdca541", func := "simproof/simprooflaw17.TraceNormal", spec := "traceNormal", unfollowed := true, recurses := true, apart := false, narrowed := true }
def TraceNormalUptoSaid : Prop := traceNormalUptoRow.holds Try.pinned (OpenSpec.upto traceNormalSpec)

/-- 'simprooflaw17.TraceEquivalent', WHERE WHAT IT READS IS OF BULK AT MOST 1048576: true; the input reads as it did. -/
def traceEquivalentUptoRow : OpenClaim := { program := "ytaedfidfcoigoaa", sum := "48e2d514029a7ae585ee40b1b6567179cf76158b93fbc00661c6fbba7bdca541", func := "simproof/simprooflaw17.TraceEquivalent", spec := "traceEquivalent", unfollowed := true, recurses := true, apart := false, narrowed := true }
def TraceEquivalentUptoSaid : Prop := traceEquivalentUptoRow.holds Try.pinned (OpenSpec.upto traceEquivalentSpec)

end Rows
end Go.Proofs.Ytaedfidfcoigoaa
