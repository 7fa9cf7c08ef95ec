/-
  No cell of these rows narrows 'for every input' (looked for: loops, veiled, ifaces, maps, wideKeys, modest, calm, conditions, laid).
  DERIVED. THE GIVEN ROWS OF THIS SEAT. 3 by the template 'for every input the law returns true; each argument reads behind the call as it read before'; 0 by the template 'total and deterministic' (their statements: YtdfpoofbgjilgaaGreatTotals.lean).
  GIVEN WITH THE SEED: the statements are not yours to turn. If you find one false, say at which input.
  Laid BY PROGRAM, IN A SANDBOX (cutbox-rows.mjs): the forced cells as the released guide's own fill.sh prints them over the translation 93d23bf0849f719b… (all of the seat's roots in one cut). By AI agents, Wed Nov 11 2026. No macro, syntax, notation, axiom, sorry.
-/
import Derived.Test.YtdfpoofbgjilgaaGreatChecked
import GoSem.Claim
import GoSem.ClaimJoined
import GoSem.ClaimMapViews
import Derived.JoinedTies
import Derived.KernelRfl
namespace Go.Proofs.YtdfpoofbgjilgaaGreat
/- THE CELL 'sum', in the pinned program and in every row, IS THE sha256 OF THE DUMP (.gsa) THAT YtdfpoofbgjilgaaGreatProg.lean LOADS. Nothing in Lean hashes anything: it is a label: what it is worth is what the hold of that sum in a sandbox is worth. -/
noncomputable def Tryz.pinned : Pinned := { name := "ytdfpoofbgjilgaagreat", sum := "93d23bf0849f719b272b8460645ce2efce4238b55ebbd92b12432daa36453c2d", checked := Tryz.checked }
namespace Rows
def none {H : Type} : Left H := { results := [], args := [] }

/-- 'witanlaw23.ClientForks': WHATEVER THE INPUT: true; the input reads as it did. -/
def clientForksSpec : ChangeSpec := { name := "clientForks", fn := fun _ => fun
  | [d1, d2, d3] => { results := [.lit (.bool true)], args := [d1, d2, d3] }
  | _ => none }
def clientForksRow : OpenClaim := { program := "ytdfpoofbgjilgaagreat", sum := "93d23bf0849f719b272b8460645ce2efce4238b55ebbd92b12432daa36453c2d", func := "witan/witanlaw23.ClientForks", spec := "clientForks", inPlace := ["math/bits.Add64", "math/bits.Sub64", "maps.clone"], unfollowed := true, recurses := true, plainKeys := false, apart := false }
def ClientForksSaid : Prop := clientForksRow.holds Tryz.pinned (OpenSpec.ofChange clientForksSpec)

/-- ITS FALSE NEIGHBOUR: 'it returns false'. Refute it at one input. -/
def clientForksWrong : ChangeSpec := { name := "clientForks", fn := fun _ => fun
  | [d1, d2, d3] => { results := [.lit (.bool false)], args := [d1, d2, d3] }
  | _ => none }
def ClientForksWrongFalsely : Prop := clientForksRow.holds Tryz.pinned (OpenSpec.ofChange clientForksWrong)

/-- 'witanlaw13.AuditBatch': WHATEVER THE INPUT: true; the input reads as it did. -/
def auditBatchSpec : ChangeSpec := { name := "auditBatch", fn := fun _ => fun
  | [d] => { results := [.lit (.bool true)], args := [d] }
  | _ => none }
def auditBatchRow : OpenClaim := { program := "ytdfpoofbgjilgaagreat", sum := "93d23bf0849f719b272b8460645ce2efce4238b55ebbd92b12432daa36453c2d", func := "witan/witanlaw13.AuditBatch", spec := "auditBatch", inPlace := ["math/bits.Add64", "math/bits.Sub64", "maps.clone", "internal/bytealg.Compare"], unfollowed := true, recurses := true, plainKeys := false, apart := false }
def AuditBatchSaid : Prop := auditBatchRow.holds Tryz.pinned (OpenSpec.ofChange auditBatchSpec)

/-- ITS FALSE NEIGHBOUR: 'it returns false'. Refute it at one input. -/
def auditBatchWrong : ChangeSpec := { name := "auditBatch", fn := fun _ => fun
  | [d] => { results := [.lit (.bool false)], args := [d] }
  | _ => none }
def AuditBatchWrongFalsely : Prop := auditBatchRow.holds Tryz.pinned (OpenSpec.ofChange auditBatchWrong)

/-- 'witanlaw13.AuditSteps': WHATEVER THE INPUT: true; the input reads as it did. -/
def auditStepsSpec : ChangeSpec := { name := "auditSteps", fn := fun _ => fun
  | [d] => { results := [.lit (.bool true)], args := [d] }
  | _ => none }
def auditStepsRow : OpenClaim := { program := "ytdfpoofbgjilgaagreat", sum := "93d23bf0849f719b272b8460645ce2efce4238b55ebbd92b12432daa36453c2d", func := "witan/witanlaw13.AuditSteps", spec := "auditSteps", inPlace := ["math/bits.Add64", "math/bits.Sub64", "maps.clone", "internal/bytealg.Compare"], unfollowed := true, recurses := true, plainKeys := false, apart := false }
def AuditStepsSaid : Prop := auditStepsRow.holds Tryz.pinned (OpenSpec.ofChange auditStepsSpec)

/-- ITS FALSE NEIGHBOUR: 'it returns false'. Refute it at one input. -/
def auditStepsWrong : ChangeSpec := { name := "auditSteps", fn := fun _ => fun
  | [d] => { results := [.lit (.bool false)], args := [d] }
  | _ => none }
def AuditStepsWrongFalsely : Prop := auditStepsRow.holds Tryz.pinned (OpenSpec.ofChange auditStepsWrong)

/- THE SECOND FORM. 'bulk': how many values and letters a reading holds, each counted each time it is reached (what is shared counts as often as it is met; a slice's spare places count too). A statement '..UptoSaid' is the law's where the arguments, and the package variables that the reading takes, are together of bulk at most 1048576: NARROWER than '..Said'. Prove '..Said' where nothing that the law and all that it calls make is longer than what came in: it says more and counts as full. Else prove '..UptoSaid'. A law counts once. -/
mutual
def uptoBulk {H : Type} : DataW H → Nat
  | .lit (.string bytes) => bytes.length + 1
  | .lit _ => 1
  | .nil => 1
  | .ptr d => uptoBulk d + 1
  | .slice elems spare => uptoBulkAll elems + uptoBulkAll spare + 1
  | .agg parts => uptoBulkAll parts + 1
  | .iface _ d => uptoBulk d + 1
  | .map entries => uptoBulkEntries entries + 1
  | .held _ => 1
def uptoBulkAll {H : Type} : List (DataW H) → Nat
  | [] => 0
  | d :: r => uptoBulk d + uptoBulkAll r
def uptoBulkEntries {H : Type} : List (Lit × DataW H) → Nat
  | [] => 0
  | x :: r => uptoBulkEntry x + uptoBulkEntries r
def uptoBulkEntry {H : Type} : Lit × DataW H → Nat
  | (.string bytes, d) => bytes.length + uptoBulk d + 1
  | (_, d) => uptoBulk d + 1
 end
def uptoSmall : (H : Type) → List (DataW H) → Bool := fun _ ds => decide (uptoBulkAll ds ≤ 1048576)
def OpenSpec.upto (s : _root_.Go.ChangeSpec) : _root_.Go.OpenSpec := { _root_.Go.OpenSpec.ofChange s with cond := some uptoSmall }

/-- 'witanlaw23.ClientForks', WHERE WHAT IT READS IS OF BULK AT MOST 1048576: true; the input reads as it did. -/
def clientForksUptoRow : OpenClaim := { program := "ytdfpoofbgjilgaagreat", sum := "93d23bf0849f719b272b8460645ce2efce4238b55ebbd92b12432daa36453c2d", func := "witan/witanlaw23.ClientForks", spec := "clientForks", inPlace := ["math/bits.Add64", "math/bits.Sub64", "maps.clone"], unfollowed := true, recurses := true, plainKeys := false, apart := false, narrowed := true }
def ClientForksUptoSaid : Prop := clientForksUptoRow.holds Tryz.pinned (OpenSpec.upto clientForksSpec)

/-- 'witanlaw13.AuditBatch', WHERE WHAT IT READS IS OF BULK AT MOST 1048576: true; the input reads as it did. -/
def auditBatchUptoRow : OpenClaim := { program := "ytdfpoofbgjilgaagreat", sum := "93d23bf0849f719b272b8460645ce2efce4238b55ebbd92b12432daa36453c2d", func := "witan/witanlaw13.AuditBatch", spec := "auditBatch", inPlace := ["math/bits.Add64", "math/bits.Sub64", "maps.clone", "internal/bytealg.Compare"], unfollowed := true, recurses := true, plainKeys := false, apart := false, narrowed := true }
def AuditBatchUptoSaid : Prop := auditBatchUptoRow.holds Tryz.pinned (OpenSpec.upto auditBatchSpec)

/-- 'witanlaw13.AuditSteps', WHERE WHAT IT READS IS OF BULK AT MOST 1048576: true; the input reads as it did. -/
def auditStepsUptoRow : OpenClaim := { program := "ytdfpoofbgjilgaagreat", sum := "93d23bf0849f719b272b8460645ce2efce4238b55ebbd92b12432daa36453c2d", func := "witan/witanlaw13.AuditSteps", spec := "auditSteps", inPlace := ["math/bits.Add64", "math/bits.Sub64", "maps.clone", "internal/bytealg.Compare"], unfollowed := true, recurses := true, plainKeys := false, apart := false, narrowed := true }
def AuditStepsUptoSaid : Prop := auditStepsUptoRow.holds Tryz.pinned (OpenSpec.upto auditStepsSpec)

end Rows
end Go.Proofs.YtdfpoofbgjilgaaGreat
