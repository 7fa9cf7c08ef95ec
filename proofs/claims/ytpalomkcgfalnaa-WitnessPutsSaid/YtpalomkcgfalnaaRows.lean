/-
  No cell of these rows narrows 'for every input' (looked for: loops, veiled, ifaces, maps, wideKeys, modest, calm, conditions, laid).
  DERIVED. THE GIVEN ROWS OF THIS SEAT. 13 by the template 'for every input the law returns true; each argument reads behind the call as it read before'; 0 by the template 'total and deterministic' (their statements: YtpalomkcgfalnaaTotals.lean).
  GIVEN WITH THE SEED: the statements are not yours to turn. If you find one false, say at which input.
  Laid BY PROGRAM, IN A SANDBOX (cutbox-rows.mjs): the forced cells as the released guide's own fill.sh prints them over the translation 45ef2c23fbf879fc… (all of the seat's roots in one cut). By AI agents, Wed Nov 11 2026. No macro, syntax, notation, axiom, sorry.
-/
import Derived.Test.YtpalomkcgfalnaaChecked
import GoSem.Claim
import GoSem.ClaimJoined
import GoSem.ClaimMapViews
import Derived.JoinedTies
import Derived.KernelRfl
namespace Go.Proofs.Ytpalomkcgfalnaa
/- THE CELL 'sum', in the pinned program and in every row, IS THE sha256 OF THE DUMP (.gsa) THAT YtpalomkcgfalnaaProg.lean LOADS. Nothing in Lean hashes anything: it is a label: what it is worth is what the hold of that sum in a sandbox is worth. -/
noncomputable def Try.pinned : Pinned := { name := "ytpalomkcgfalnaa", sum := "45ef2c23fbf879fc2ac9a82095cbb29353a51deded18a7e0cecbd0bfacb49768", checked := Try.checked }
namespace Rows
def none {H : Type} : Left H := { results := [], args := [] }

/-- 'witanlaw02.ShaSums': WHATEVER THE INPUT: true; the input reads as it did. -/
def shaSumsSpec : ChangeSpec := { name := "shaSums", fn := fun _ => fun
  | [d1, d2] => { results := [.lit (.bool true)], args := [d1, d2] }
  | _ => none }
def shaSumsRow : OpenClaim := { program := "ytpalomkcgfalnaa", sum := "45ef2c23fbf879fc2ac9a82095cbb29353a51deded18a7e0cecbd0bfacb49768", func := "witan/witanlaw02.ShaSums", spec := "shaSums", plainKeys := false, apart := false }
def ShaSumsSaid : Prop := shaSumsRow.holds Try.pinned (OpenSpec.ofChange shaSumsSpec)

/-- ITS FALSE NEIGHBOUR: 'it returns false'. Refute it at one input. -/
def shaSumsWrong : ChangeSpec := { name := "shaSums", fn := fun _ => fun
  | [d1, d2] => { results := [.lit (.bool false)], args := [d1, d2] }
  | _ => none }
def ShaSumsWrongFalsely : Prop := shaSumsRow.holds Try.pinned (OpenSpec.ofChange shaSumsWrong)

/-- 'witanlaw02.ShaParts': WHATEVER THE INPUT: true; the input reads as it did. -/
def shaPartsSpec : ChangeSpec := { name := "shaParts", fn := fun _ => fun
  | [d] => { results := [.lit (.bool true)], args := [d] }
  | _ => none }
def shaPartsRow : OpenClaim := { program := "ytpalomkcgfalnaa", sum := "45ef2c23fbf879fc2ac9a82095cbb29353a51deded18a7e0cecbd0bfacb49768", func := "witan/witanlaw02.ShaParts", spec := "shaParts", plainKeys := false, apart := false }
def ShaPartsSaid : Prop := shaPartsRow.holds Try.pinned (OpenSpec.ofChange shaPartsSpec)

/-- ITS FALSE NEIGHBOUR: 'it returns false'. Refute it at one input. -/
def shaPartsWrong : ChangeSpec := { name := "shaParts", fn := fun _ => fun
  | [d] => { results := [.lit (.bool false)], args := [d] }
  | _ => none }
def ShaPartsWrongFalsely : Prop := shaPartsRow.holds Try.pinned (OpenSpec.ofChange shaPartsWrong)

/-- 'witanlaw02.ShaLengths': WHATEVER THE INPUT: true; the input reads as it did. -/
def shaLengthsSpec : ChangeSpec := { name := "shaLengths", fn := fun _ => fun
  | [d] => { results := [.lit (.bool true)], args := [d] }
  | _ => none }
def shaLengthsRow : OpenClaim := { program := "ytpalomkcgfalnaa", sum := "45ef2c23fbf879fc2ac9a82095cbb29353a51deded18a7e0cecbd0bfacb49768", func := "witan/witanlaw02.ShaLengths", spec := "shaLengths", plainKeys := false, apart := false }
def ShaLengthsSaid : Prop := shaLengthsRow.holds Try.pinned (OpenSpec.ofChange shaLengthsSpec)

/-- ITS FALSE NEIGHBOUR: 'it returns false'. Refute it at one input. -/
def shaLengthsWrong : ChangeSpec := { name := "shaLengths", fn := fun _ => fun
  | [d] => { results := [.lit (.bool false)], args := [d] }
  | _ => none }
def ShaLengthsWrongFalsely : Prop := shaLengthsRow.holds Try.pinned (OpenSpec.ofChange shaLengthsWrong)

/-- 'witanlaw09.TreeOrder': WHATEVER THE INPUT: true; the input reads as it did. -/
def treeOrderSpec : ChangeSpec := { name := "treeOrder", fn := fun _ => fun
  | [d1, d2, d3] => { results := [.lit (.bool true)], args := [d1, d2, d3] }
  | _ => none }
def treeOrderRow : OpenClaim := { program := "ytpalomkcgfalnaa", sum := "45ef2c23fbf879fc2ac9a82095cbb29353a51deded18a7e0cecbd0bfacb49768", func := "witan/witanlaw09.TreeOrder", spec := "treeOrder", recurses := true, plainKeys := false, apart := false }
def TreeOrderSaid : Prop := treeOrderRow.holds Try.pinned (OpenSpec.ofChange treeOrderSpec)

/-- ITS FALSE NEIGHBOUR: 'it returns false'. Refute it at one input. -/
def treeOrderWrong : ChangeSpec := { name := "treeOrder", fn := fun _ => fun
  | [d1, d2, d3] => { results := [.lit (.bool false)], args := [d1, d2, d3] }
  | _ => none }
def TreeOrderWrongFalsely : Prop := treeOrderRow.holds Try.pinned (OpenSpec.ofChange treeOrderWrong)

/-- 'witanlaw09.TreeDeep': WHATEVER THE INPUT: true; the input reads as it did. -/
def treeDeepSpec : ChangeSpec := { name := "treeDeep", fn := fun _ => fun
  | [d1, d2] => { results := [.lit (.bool true)], args := [d1, d2] }
  | _ => none }
def treeDeepRow : OpenClaim := { program := "ytpalomkcgfalnaa", sum := "45ef2c23fbf879fc2ac9a82095cbb29353a51deded18a7e0cecbd0bfacb49768", func := "witan/witanlaw09.TreeDeep", spec := "treeDeep", recurses := true, plainKeys := false, apart := false }
def TreeDeepSaid : Prop := treeDeepRow.holds Try.pinned (OpenSpec.ofChange treeDeepSpec)

/-- ITS FALSE NEIGHBOUR: 'it returns false'. Refute it at one input. -/
def treeDeepWrong : ChangeSpec := { name := "treeDeep", fn := fun _ => fun
  | [d1, d2] => { results := [.lit (.bool false)], args := [d1, d2] }
  | _ => none }
def TreeDeepWrongFalsely : Prop := treeDeepRow.holds Try.pinned (OpenSpec.ofChange treeDeepWrong)

/-- 'witanlaw09.TreePlays': WHATEVER THE INPUT: true; the input reads as it did. -/
def treePlaysSpec : ChangeSpec := { name := "treePlays", fn := fun _ => fun
  | [d1, d2] => { results := [.lit (.bool true)], args := [d1, d2] }
  | _ => none }
def treePlaysRow : OpenClaim := { program := "ytpalomkcgfalnaa", sum := "45ef2c23fbf879fc2ac9a82095cbb29353a51deded18a7e0cecbd0bfacb49768", func := "witan/witanlaw09.TreePlays", spec := "treePlays", unfollowed := true, recurses := true, plainKeys := false, apart := false }
def TreePlaysSaid : Prop := treePlaysRow.holds Try.pinned (OpenSpec.ofChange treePlaysSpec)

/-- ITS FALSE NEIGHBOUR: 'it returns false'. Refute it at one input. -/
def treePlaysWrong : ChangeSpec := { name := "treePlays", fn := fun _ => fun
  | [d1, d2] => { results := [.lit (.bool false)], args := [d1, d2] }
  | _ => none }
def TreePlaysWrongFalsely : Prop := treePlaysRow.holds Try.pinned (OpenSpec.ofChange treePlaysWrong)

/-- 'witanlaw09.TreeAll': WHATEVER THE INPUT: true; the input reads as it did. -/
def treeAllSpec : ChangeSpec := { name := "treeAll", fn := fun _ => fun
  | [d1, d2] => { results := [.lit (.bool true)], args := [d1, d2] }
  | _ => none }
def treeAllRow : OpenClaim := { program := "ytpalomkcgfalnaa", sum := "45ef2c23fbf879fc2ac9a82095cbb29353a51deded18a7e0cecbd0bfacb49768", func := "witan/witanlaw09.TreeAll", spec := "treeAll", unfollowed := true, recurses := true, plainKeys := false, apart := false }
def TreeAllSaid : Prop := treeAllRow.holds Try.pinned (OpenSpec.ofChange treeAllSpec)

/-- ITS FALSE NEIGHBOUR: 'it returns false'. Refute it at one input. -/
def treeAllWrong : ChangeSpec := { name := "treeAll", fn := fun _ => fun
  | [d1, d2] => { results := [.lit (.bool false)], args := [d1, d2] }
  | _ => none }
def TreeAllWrongFalsely : Prop := treeAllRow.holds Try.pinned (OpenSpec.ofChange treeAllWrong)

/-- 'witanlaw09.TreeNodes': WHATEVER THE INPUT: true; the input reads as it did. -/
def treeNodesSpec : ChangeSpec := { name := "treeNodes", fn := fun _ => fun
  | [d1, d2] => { results := [.lit (.bool true)], args := [d1, d2] }
  | _ => none }
def treeNodesRow : OpenClaim := { program := "ytpalomkcgfalnaa", sum := "45ef2c23fbf879fc2ac9a82095cbb29353a51deded18a7e0cecbd0bfacb49768", func := "witan/witanlaw09.TreeNodes", spec := "treeNodes", unfollowed := true, recurses := true, plainKeys := false, apart := false }
def TreeNodesSaid : Prop := treeNodesRow.holds Try.pinned (OpenSpec.ofChange treeNodesSpec)

/-- ITS FALSE NEIGHBOUR: 'it returns false'. Refute it at one input. -/
def treeNodesWrong : ChangeSpec := { name := "treeNodes", fn := fun _ => fun
  | [d1, d2] => { results := [.lit (.bool false)], args := [d1, d2] }
  | _ => none }
def TreeNodesWrongFalsely : Prop := treeNodesRow.holds Try.pinned (OpenSpec.ofChange treeNodesWrong)

/-- 'witanlaw10.WitnessCuts': WHATEVER THE INPUT: true; the input reads as it did. -/
def witnessCutsSpec : ChangeSpec := { name := "witnessCuts", fn := fun _ => fun
  | [d1, d2] => { results := [.lit (.bool true)], args := [d1, d2] }
  | _ => none }
def witnessCutsRow : OpenClaim := { program := "ytpalomkcgfalnaa", sum := "45ef2c23fbf879fc2ac9a82095cbb29353a51deded18a7e0cecbd0bfacb49768", func := "witan/witanlaw10.WitnessCuts", spec := "witnessCuts", unfollowed := true, recurses := true, plainKeys := false, apart := false }
def WitnessCutsSaid : Prop := witnessCutsRow.holds Try.pinned (OpenSpec.ofChange witnessCutsSpec)

/-- ITS FALSE NEIGHBOUR: 'it returns false'. Refute it at one input. -/
def witnessCutsWrong : ChangeSpec := { name := "witnessCuts", fn := fun _ => fun
  | [d1, d2] => { results := [.lit (.bool false)], args := [d1, d2] }
  | _ => none }
def WitnessCutsWrongFalsely : Prop := witnessCutsRow.holds Try.pinned (OpenSpec.ofChange witnessCutsWrong)

/-- 'witanlaw10.WitnessReads': WHATEVER THE INPUT: true; the input reads as it did. -/
def witnessReadsSpec : ChangeSpec := { name := "witnessReads", fn := fun _ => fun
  | [d1, d2, d3] => { results := [.lit (.bool true)], args := [d1, d2, d3] }
  | _ => none }
def witnessReadsRow : OpenClaim := { program := "ytpalomkcgfalnaa", sum := "45ef2c23fbf879fc2ac9a82095cbb29353a51deded18a7e0cecbd0bfacb49768", func := "witan/witanlaw10.WitnessReads", spec := "witnessReads", unfollowed := true, recurses := true, plainKeys := false, apart := false }
def WitnessReadsSaid : Prop := witnessReadsRow.holds Try.pinned (OpenSpec.ofChange witnessReadsSpec)

/-- ITS FALSE NEIGHBOUR: 'it returns false'. Refute it at one input. -/
def witnessReadsWrong : ChangeSpec := { name := "witnessReads", fn := fun _ => fun
  | [d1, d2, d3] => { results := [.lit (.bool false)], args := [d1, d2, d3] }
  | _ => none }
def WitnessReadsWrongFalsely : Prop := witnessReadsRow.holds Try.pinned (OpenSpec.ofChange witnessReadsWrong)

/-- 'witanlaw10.WitnessEmpty': WHATEVER THE INPUT: true; the input reads as it did. -/
def witnessEmptySpec : ChangeSpec := { name := "witnessEmpty", fn := fun _ => fun
  | [d1, d2] => { results := [.lit (.bool true)], args := [d1, d2] }
  | _ => none }
def witnessEmptyRow : OpenClaim := { program := "ytpalomkcgfalnaa", sum := "45ef2c23fbf879fc2ac9a82095cbb29353a51deded18a7e0cecbd0bfacb49768", func := "witan/witanlaw10.WitnessEmpty", spec := "witnessEmpty", unfollowed := true, recurses := true, plainKeys := false, apart := false }
def WitnessEmptySaid : Prop := witnessEmptyRow.holds Try.pinned (OpenSpec.ofChange witnessEmptySpec)

/-- ITS FALSE NEIGHBOUR: 'it returns false'. Refute it at one input. -/
def witnessEmptyWrong : ChangeSpec := { name := "witnessEmpty", fn := fun _ => fun
  | [d1, d2] => { results := [.lit (.bool false)], args := [d1, d2] }
  | _ => none }
def WitnessEmptyWrongFalsely : Prop := witnessEmptyRow.holds Try.pinned (OpenSpec.ofChange witnessEmptyWrong)

/-- 'witanlaw10.WitnessLeaf': WHATEVER THE INPUT: true; the input reads as it did. -/
def witnessLeafSpec : ChangeSpec := { name := "witnessLeaf", fn := fun _ => fun
  | [d1, d2, d3] => { results := [.lit (.bool true)], args := [d1, d2, d3] }
  | _ => none }
def witnessLeafRow : OpenClaim := { program := "ytpalomkcgfalnaa", sum := "45ef2c23fbf879fc2ac9a82095cbb29353a51deded18a7e0cecbd0bfacb49768", func := "witan/witanlaw10.WitnessLeaf", spec := "witnessLeaf", unfollowed := true, recurses := true, plainKeys := false, apart := false }
def WitnessLeafSaid : Prop := witnessLeafRow.holds Try.pinned (OpenSpec.ofChange witnessLeafSpec)

/-- ITS FALSE NEIGHBOUR: 'it returns false'. Refute it at one input. -/
def witnessLeafWrong : ChangeSpec := { name := "witnessLeaf", fn := fun _ => fun
  | [d1, d2, d3] => { results := [.lit (.bool false)], args := [d1, d2, d3] }
  | _ => none }
def WitnessLeafWrongFalsely : Prop := witnessLeafRow.holds Try.pinned (OpenSpec.ofChange witnessLeafWrong)

/-- 'witanlaw10.WitnessPuts': WHATEVER THE INPUT: true; the input reads as it did. -/
def witnessPutsSpec : ChangeSpec := { name := "witnessPuts", fn := fun _ => fun
  | [d1, d2, d3] => { results := [.lit (.bool true)], args := [d1, d2, d3] }
  | _ => none }
def witnessPutsRow : OpenClaim := { program := "ytpalomkcgfalnaa", sum := "45ef2c23fbf879fc2ac9a82095cbb29353a51deded18a7e0cecbd0bfacb49768", func := "witan/witanlaw10.WitnessPuts", spec := "witnessPuts", unfollowed := true, recurses := true, plainKeys := false, apart := false }
def WitnessPutsSaid : Prop := witnessPutsRow.holds Try.pinned (OpenSpec.ofChange witnessPutsSpec)

/-- ITS FALSE NEIGHBOUR: 'it returns false'. Refute it at one input. -/
def witnessPutsWrong : ChangeSpec := { name := "witnessPuts", fn := fun _ => fun
  | [d1, d2, d3] => { results := [.lit (.bool false)], args := [d1, d2, d3] }
  | _ => none }
def WitnessPutsWrongFalsely : Prop := witnessPutsRow.holds Try.pinned (OpenSpec.ofChange witnessPutsWrong)

/- THE SECOND FORM. 'bulk': how many values and letters a reading holds, each counted each time it is reached (what is shared counts as often as it is met; a slice's spare places count too). A statement '..UptoSaid' is the law's where the arguments, and the package variables that the reading takes, are together of bulk at most 1048576: NARROWER than '..Said'. Prove '..Said' where nothing that the law and all that it calls make is longer than what came in: it says more and counts as full. Else prove '..UptoSaid'. A law counts once. -/
mutual
def uptoBulk {H : Type} : DataW H → Nat
  | .lit (.string bytes) => bytes.length + 1
  | .lit _ => 1
  | .nil => 1
  | .ptr d => uptoBulk d + 1
  | .slice elems spare => uptoBulkAll elems + uptoBulkAll spare + 1
  | .agg parts => uptoBulkAll parts + 1
  | .iface _ d => uptoBulk d + 1
  | .map entries => uptoBulkEntries entries + 1
  | .held _ => 1
def uptoBulkAll {H : Type} : List (DataW H) → Nat
  | [] => 0
  | d :: r => uptoBulk d + uptoBulkAll r
def uptoBulkEntries {H : Type} : List (Lit × DataW H) → Nat
  | [] => 0
  | x :: r => uptoBulkEntry x + uptoBulkEntries r
def uptoBulkEntry {H : Type} : Lit × DataW H → Nat
  | (.string bytes, d) => bytes.length + uptoBulk d + 1
  | (_, d) => uptoBulk d + 1
 end
def uptoSmall : (H : Type) → List (DataW H) → Bool := fun _ ds => decide (uptoBulkAll ds ≤ 1048576)
def OpenSpec.upto (s : _root_.Go.ChangeSpec) : _root_.Go.OpenSpec := { _root_.Go.OpenSpec.ofChange s with cond := some uptoSmall }

/-- 'witanlaw02.ShaSums', WHERE WHAT IT READS IS OF BULK AT MOST 1048576: true; the input reads as it did. -/
def shaSumsUptoRow : OpenClaim := { program := "ytpalomkcgfalnaa", sum := "45ef2c23fbf879fc2ac9a82095cbb29353a51deded18a7e0cecbd0bfacb49768", func := "witan/witanlaw02.ShaSums", spec := "shaSums", plainKeys := false, apart := false, narrowed := true }
def ShaSumsUptoSaid : Prop := shaSumsUptoRow.holds Try.pinned (OpenSpec.upto shaSumsSpec)

/-- 'witanlaw02.ShaParts', WHERE WHAT IT READS IS OF BULK AT MOST 1048576: true; the input reads as it did. -/
def shaPartsUptoRow : OpenClaim := { program := "ytpalomkcgfalnaa", sum := "45ef2c23fbf879fc2ac9a82095cbb29353a51deded18a7e0cecbd0bfacb49768", func := "witan/witanlaw02.ShaParts", spec := "shaParts", plainKeys := false, apart := false, narrowed := true }
def ShaPartsUptoSaid : Prop := shaPartsUptoRow.holds Try.pinned (OpenSpec.upto shaPartsSpec)

/-- 'witanlaw02.ShaLengths', WHERE WHAT IT READS IS OF BULK AT MOST 1048576: true; the input reads as it did. -/
def shaLengthsUptoRow : OpenClaim := { program := "ytpalomkcgfalnaa", sum := "45ef2c23fbf879fc2ac9a82095cbb29353a51deded18a7e0cecbd0bfacb49768", func := "witan/witanlaw02.ShaLengths", spec := "shaLengths", plainKeys := false, apart := false, narrowed := true }
def ShaLengthsUptoSaid : Prop := shaLengthsUptoRow.holds Try.pinned (OpenSpec.upto shaLengthsSpec)

/-- 'witanlaw09.TreeOrder', WHERE WHAT IT READS IS OF BULK AT MOST 1048576: true; the input reads as it did. -/
def treeOrderUptoRow : OpenClaim := { program := "ytpalomkcgfalnaa", sum := "45ef2c23fbf879fc2ac9a82095cbb29353a51deded18a7e0cecbd0bfacb49768", func := "witan/witanlaw09.TreeOrder", spec := "treeOrder", recurses := true, plainKeys := false, apart := false, narrowed := true }
def TreeOrderUptoSaid : Prop := treeOrderUptoRow.holds Try.pinned (OpenSpec.upto treeOrderSpec)

/-- 'witanlaw09.TreeDeep', WHERE WHAT IT READS IS OF BULK AT MOST 1048576: true; the input reads as it did. -/
def treeDeepUptoRow : OpenClaim := { program := "ytpalomkcgfalnaa", sum := "45ef2c23fbf879fc2ac9a82095cbb29353a51deded18a7e0cecbd0bfacb49768", func := "witan/witanlaw09.TreeDeep", spec := "treeDeep", recurses := true, plainKeys := false, apart := false, narrowed := true }
def TreeDeepUptoSaid : Prop := treeDeepUptoRow.holds Try.pinned (OpenSpec.upto treeDeepSpec)

/-- 'witanlaw09.TreePlays', WHERE WHAT IT READS IS OF BULK AT MOST 1048576: true; the input reads as it did. -/
def treePlaysUptoRow : OpenClaim := { program := "ytpalomkcgfalnaa", sum := "45ef2c23fbf879fc2ac9a82095cbb29353a51deded18a7e0cecbd0bfacb49768", func := "witan/witanlaw09.TreePlays", spec := "treePlays", unfollowed := true, recurses := true, plainKeys := false, apart := false, narrowed := true }
def TreePlaysUptoSaid : Prop := treePlaysUptoRow.holds Try.pinned (OpenSpec.upto treePlaysSpec)

/-- 'witanlaw09.TreeAll', WHERE WHAT IT READS IS OF BULK AT MOST 1048576: true; the input reads as it did. -/
def treeAllUptoRow : OpenClaim := { program := "ytpalomkcgfalnaa", sum := "45ef2c23fbf879fc2ac9a82095cbb29353a51deded18a7e0cecbd0bfacb49768", func := "witan/witanlaw09.TreeAll", spec := "treeAll", unfollowed := true, recurses := true, plainKeys := false, apart := false, narrowed := true }
def TreeAllUptoSaid : Prop := treeAllUptoRow.holds Try.pinned (OpenSpec.upto treeAllSpec)

/-- 'witanlaw09.TreeNodes', WHERE WHAT IT READS IS OF BULK AT MOST 1048576: true; the input reads as it did. -/
def treeNodesUptoRow : OpenClaim := { program := "ytpalomkcgfalnaa", sum := "45ef2c23fbf879fc2ac9a82095cbb29353a51deded18a7e0cecbd0bfacb49768", func := "witan/witanlaw09.TreeNodes", spec := "treeNodes", unfollowed := true, recurses := true, plainKeys := false, apart := false, narrowed := true }
def TreeNodesUptoSaid : Prop := treeNodesUptoRow.holds Try.pinned (OpenSpec.upto treeNodesSpec)

/-- 'witanlaw10.WitnessCuts', WHERE WHAT IT READS IS OF BULK AT MOST 1048576: true; the input reads as it did. -/
def witnessCutsUptoRow : OpenClaim := { program := "ytpalomkcgfalnaa", sum := "45ef2c23fbf879fc2ac9a82095cbb29353a51deded18a7e0cecbd0bfacb49768", func := "witan/witanlaw10.WitnessCuts", spec := "witnessCuts", unfollowed := true, recurses := true, plainKeys := false, apart := false, narrowed := true }
def WitnessCutsUptoSaid : Prop := witnessCutsUptoRow.holds Try.pinned (OpenSpec.upto witnessCutsSpec)

/-- 'witanlaw10.WitnessReads', WHERE WHAT IT READS IS OF BULK AT MOST 1048576: true; the input reads as it did. -/
def witnessReadsUptoRow : OpenClaim := { program := "ytpalomkcgfalnaa", sum := "45ef2c23fbf879fc2ac9a82095cbb29353a51deded18a7e0cecbd0bfacb49768", func := "witan/witanlaw10.WitnessReads", spec := "witnessReads", unfollowed := true, recurses := true, plainKeys := false, apart := false, narrowed := true }
def WitnessReadsUptoSaid : Prop := witnessReadsUptoRow.holds Try.pinned (OpenSpec.upto witnessReadsSpec)

/-- 'witanlaw10.WitnessEmpty', WHERE WHAT IT READS IS OF BULK AT MOST 1048576: true; the input reads as it did. -/
def witnessEmptyUptoRow : OpenClaim := { program := "ytpalomkcgfalnaa", sum := "45ef2c23fbf879fc2ac9a82095cbb29353a51deded18a7e0cecbd0bfacb49768", func := "witan/witanlaw10.WitnessEmpty", spec := "witnessEmpty", unfollowed := true, recurses := true, plainKeys := false, apart := false, narrowed := true }
def WitnessEmptyUptoSaid : Prop := witnessEmptyUptoRow.holds Try.pinned (OpenSpec.upto witnessEmptySpec)

/-- 'witanlaw10.WitnessLeaf', WHERE WHAT IT READS IS OF BULK AT MOST 1048576: true; the input reads as it did. -/
def witnessLeafUptoRow : OpenClaim := { program := "ytpalomkcgfalnaa", sum := "45ef2c23fbf879fc2ac9a82095cbb29353a51deded18a7e0cecbd0bfacb49768", func := "witan/witanlaw10.WitnessLeaf", spec := "witnessLeaf", unfollowed := true, recurses := true, plainKeys := false, apart := false, narrowed := true }
def WitnessLeafUptoSaid : Prop := witnessLeafUptoRow.holds Try.pinned (OpenSpec.upto witnessLeafSpec)

/-- 'witanlaw10.WitnessPuts', WHERE WHAT IT READS IS OF BULK AT MOST 1048576: true; the input reads as it did. -/
def witnessPutsUptoRow : OpenClaim := { program := "ytpalomkcgfalnaa", sum := "45ef2c23fbf879fc2ac9a82095cbb29353a51deded18a7e0cecbd0bfacb49768", func := "witan/witanlaw10.WitnessPuts", spec := "witnessPuts", unfollowed := true, recurses := true, plainKeys := false, apart := false, narrowed := true }
def WitnessPutsUptoSaid : Prop := witnessPutsUptoRow.holds Try.pinned (OpenSpec.upto witnessPutsSpec)

end Rows
end Go.Proofs.Ytpalomkcgfalnaa
