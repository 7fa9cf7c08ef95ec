/-
  No cell of these rows narrows 'for every input' (looked for: loops, veiled, ifaces, maps, wideKeys, modest, calm, conditions, laid).
  DERIVED. THE GIVEN ROWS OF THIS SEAT. 4 by the template 'for every input the law returns true; each argument reads behind the call as it read before'; 0 by the template 'total and deterministic' (their statements: YtlegpkdighoflaaGreatTotals.lean).
  GIVEN WITH THE SEED: the statements are not yours to turn. If you find one false, say at which input.
  Laid BY PROGRAM, IN A SANDBOX (cutbox-rows.mjs): the forced cells as the released guide's own fill.sh prints them over the translation 9abec30feb100df1… (all of the seat's roots in one cut). By AI agents, Wed Nov 11 2026. No macro, syntax, notation, axiom, sorry.
-/
import Derived.Test.YtlegpkdighoflaaGreatChecked
import GoSem.Claim
import GoSem.ClaimJoined
import GoSem.ClaimMapViews
import Derived.JoinedTies
import Derived.KernelRfl
namespace Go.Proofs.YtlegpkdighoflaaGreat
/- THE CELL 'sum', in the pinned program and in every row, IS THE sha256 OF THE DUMP (.gsa) THAT YtlegpkdighoflaaGreatProg.lean LOADS. Nothing in Lean hashes anything: it is a label: what it is worth is what the hold of that sum in a sandbox is worth. -/
noncomputable def Tryz.pinned : Pinned := { name := "ytlegpkdighoflaagreat", sum := "9abec30feb100df11b8ef8d94c81ae9ac2dc19749669a4176801432fad92b035", checked := Tryz.checked }
namespace Rows
def none {H : Type} : Left H := { results := [], args := [] }

/-- 'witanlaw12.DirAnswers': WHATEVER THE INPUT: true; the input reads as it did. -/
def dirAnswersSpec : ChangeSpec := { name := "dirAnswers", fn := fun _ => fun
  | [d1, d2] => { results := [.lit (.bool true)], args := [d1, d2] }
  | _ => none }
def dirAnswersRow : OpenClaim := { program := "ytlegpkdighoflaagreat", sum := "9abec30feb100df11b8ef8d94c81ae9ac2dc19749669a4176801432fad92b035", func := "witan/witanlaw12.DirAnswers", spec := "dirAnswers", inPlace := ["math/bits.Add64", "math/bits.Sub64", "maps.clone"], unfollowed := true, recurses := true, plainKeys := false, apart := false }
def DirAnswersSaid : Prop := dirAnswersRow.holds Tryz.pinned (OpenSpec.ofChange dirAnswersSpec)

/-- ITS FALSE NEIGHBOUR: 'it returns false'. Refute it at one input. -/
def dirAnswersWrong : ChangeSpec := { name := "dirAnswers", fn := fun _ => fun
  | [d1, d2] => { results := [.lit (.bool false)], args := [d1, d2] }
  | _ => none }
def DirAnswersWrongFalsely : Prop := dirAnswersRow.holds Tryz.pinned (OpenSpec.ofChange dirAnswersWrong)

/-- 'witanlaw12.DirOrder': WHATEVER THE INPUT: true; the input reads as it did. -/
def dirOrderSpec : ChangeSpec := { name := "dirOrder", fn := fun _ => fun
  | [d1, d2] => { results := [.lit (.bool true)], args := [d1, d2] }
  | _ => none }
def dirOrderRow : OpenClaim := { program := "ytlegpkdighoflaagreat", sum := "9abec30feb100df11b8ef8d94c81ae9ac2dc19749669a4176801432fad92b035", func := "witan/witanlaw12.DirOrder", spec := "dirOrder", inPlace := ["math/bits.Add64", "math/bits.Sub64", "maps.clone"], unfollowed := true, recurses := true, plainKeys := false, apart := false }
def DirOrderSaid : Prop := dirOrderRow.holds Tryz.pinned (OpenSpec.ofChange dirOrderSpec)

/-- ITS FALSE NEIGHBOUR: 'it returns false'. Refute it at one input. -/
def dirOrderWrong : ChangeSpec := { name := "dirOrder", fn := fun _ => fun
  | [d1, d2] => { results := [.lit (.bool false)], args := [d1, d2] }
  | _ => none }
def DirOrderWrongFalsely : Prop := dirOrderRow.holds Tryz.pinned (OpenSpec.ofChange dirOrderWrong)

/-- 'witanlaw12.DirPlays': WHATEVER THE INPUT: true; the input reads as it did. -/
def dirPlaysSpec : ChangeSpec := { name := "dirPlays", fn := fun _ => fun
  | [d] => { results := [.lit (.bool true)], args := [d] }
  | _ => none }
def dirPlaysRow : OpenClaim := { program := "ytlegpkdighoflaagreat", sum := "9abec30feb100df11b8ef8d94c81ae9ac2dc19749669a4176801432fad92b035", func := "witan/witanlaw12.DirPlays", spec := "dirPlays", inPlace := ["math/bits.Add64", "math/bits.Sub64", "maps.clone"], unfollowed := true, recurses := true, plainKeys := false, apart := false }
def DirPlaysSaid : Prop := dirPlaysRow.holds Tryz.pinned (OpenSpec.ofChange dirPlaysSpec)

/-- ITS FALSE NEIGHBOUR: 'it returns false'. Refute it at one input. -/
def dirPlaysWrong : ChangeSpec := { name := "dirPlays", fn := fun _ => fun
  | [d] => { results := [.lit (.bool false)], args := [d] }
  | _ => none }
def DirPlaysWrongFalsely : Prop := dirPlaysRow.holds Tryz.pinned (OpenSpec.ofChange dirPlaysWrong)

/-- 'witanlaw12.DirBuilds': WHATEVER THE INPUT: true; the input reads as it did. -/
def dirBuildsSpec : ChangeSpec := { name := "dirBuilds", fn := fun _ => fun
  | [d1, d2, d3] => { results := [.lit (.bool true)], args := [d1, d2, d3] }
  | _ => none }
def dirBuildsRow : OpenClaim := { program := "ytlegpkdighoflaagreat", sum := "9abec30feb100df11b8ef8d94c81ae9ac2dc19749669a4176801432fad92b035", func := "witan/witanlaw12.DirBuilds", spec := "dirBuilds", inPlace := ["math/bits.Add64", "math/bits.Sub64", "maps.clone"], unfollowed := true, recurses := true, plainKeys := false, apart := false }
def DirBuildsSaid : Prop := dirBuildsRow.holds Tryz.pinned (OpenSpec.ofChange dirBuildsSpec)

/-- ITS FALSE NEIGHBOUR: 'it returns false'. Refute it at one input. -/
def dirBuildsWrong : ChangeSpec := { name := "dirBuilds", fn := fun _ => fun
  | [d1, d2, d3] => { results := [.lit (.bool false)], args := [d1, d2, d3] }
  | _ => none }
def DirBuildsWrongFalsely : Prop := dirBuildsRow.holds Tryz.pinned (OpenSpec.ofChange dirBuildsWrong)

/- THE SECOND FORM. 'bulk': how many values and letters a reading holds, each counted each time it is reached (what is shared counts as often as it is met; a slice's spare places count too). A statement '..UptoSaid' is the law's where the arguments, and the package variables that the reading takes, are together of bulk at most 1048576: NARROWER than '..Said'. Prove '..Said' where nothing that the law and all that it calls make is longer than what came in: it says more and counts as full. Else prove '..UptoSaid'. A law counts once. -/
mutual
def uptoBulk {H : Type} : DataW H → Nat
  | .lit (.string bytes) => bytes.length + 1
  | .lit _ => 1
  | .nil => 1
  | .ptr d => uptoBulk d + 1
  | .slice elems spare => uptoBulkAll elems + uptoBulkAll spare + 1
  | .agg parts => uptoBulkAll parts + 1
  | .iface _ d => uptoBulk d + 1
  | .map entries => uptoBulkEntries entries + 1
  | .held _ => 1
def uptoBulkAll {H : Type} : List (DataW H) → Nat
  | [] => 0
  | d :: r => uptoBulk d + uptoBulkAll r
def uptoBulkEntries {H : Type} : List (Lit × DataW H) → Nat
  | [] => 0
  | x :: r => uptoBulkEntry x + uptoBulkEntries r
def uptoBulkEntry {H : Type} : Lit × DataW H → Nat
  | (.string bytes, d) => bytes.length + uptoBulk d + 1
  | (_, d) => uptoBulk d + 1
 end
def uptoSmall : (H : Type) → List (DataW H) → Bool := fun _ ds => decide (uptoBulkAll ds ≤ 1048576)
def OpenSpec.upto (s : _root_.Go.ChangeSpec) : _root_.Go.OpenSpec := { _root_.Go.OpenSpec.ofChange s with cond := some uptoSmall }

/-- 'witanlaw12.DirAnswers', WHERE WHAT IT READS IS OF BULK AT MOST 1048576: true; the input reads as it did. -/
def dirAnswersUptoRow : OpenClaim := { program := "ytlegpkdighoflaagreat", sum := "9abec30feb100df11b8ef8d94c81ae9ac2dc19749669a4176801432fad92b035", func := "witan/witanlaw12.DirAnswers", spec := "dirAnswers", inPlace := ["math/bits.Add64", "math/bits.Sub64", "maps.clone"], unfollowed := true, recurses := true, plainKeys := false, apart := false, narrowed := true }
def DirAnswersUptoSaid : Prop := dirAnswersUptoRow.holds Tryz.pinned (OpenSpec.upto dirAnswersSpec)

/-- 'witanlaw12.DirOrder', WHERE WHAT IT READS IS OF BULK AT MOST 1048576: true; the input reads as it did. -/
def dirOrderUptoRow : OpenClaim := { program := "ytlegpkdighoflaagreat", sum := "9abec30feb100df11b8ef8d94c81ae9ac2dc19749669a4176801432fad92b035", func := "witan/witanlaw12.DirOrder", spec := "dirOrder", inPlace := ["math/bits.Add64", "math/bits.Sub64", "maps.clone"], unfollowed := true, recurses := true, plainKeys := false, apart := false, narrowed := true }
def DirOrderUptoSaid : Prop := dirOrderUptoRow.holds Tryz.pinned (OpenSpec.upto dirOrderSpec)

/-- 'witanlaw12.DirPlays', WHERE WHAT IT READS IS OF BULK AT MOST 1048576: true; the input reads as it did. -/
def dirPlaysUptoRow : OpenClaim := { program := "ytlegpkdighoflaagreat", sum := "9abec30feb100df11b8ef8d94c81ae9ac2dc19749669a4176801432fad92b035", func := "witan/witanlaw12.DirPlays", spec := "dirPlays", inPlace := ["math/bits.Add64", "math/bits.Sub64", "maps.clone"], unfollowed := true, recurses := true, plainKeys := false, apart := false, narrowed := true }
def DirPlaysUptoSaid : Prop := dirPlaysUptoRow.holds Tryz.pinned (OpenSpec.upto dirPlaysSpec)

/-- 'witanlaw12.DirBuilds', WHERE WHAT IT READS IS OF BULK AT MOST 1048576: true; the input reads as it did. -/
def dirBuildsUptoRow : OpenClaim := { program := "ytlegpkdighoflaagreat", sum := "9abec30feb100df11b8ef8d94c81ae9ac2dc19749669a4176801432fad92b035", func := "witan/witanlaw12.DirBuilds", spec := "dirBuilds", inPlace := ["math/bits.Add64", "math/bits.Sub64", "maps.clone"], unfollowed := true, recurses := true, plainKeys := false, apart := false, narrowed := true }
def DirBuildsUptoSaid : Prop := dirBuildsUptoRow.holds Tryz.pinned (OpenSpec.upto dirBuildsSpec)

end Rows
end Go.Proofs.YtlegpkdighoflaaGreat
