/-
  No cell of these rows narrows 'for every input' (looked for: loops, veiled, ifaces, maps, wideKeys, modest, calm, conditions, laid).
  DERIVED. THE GIVEN ROWS OF THIS SEAT. 8 by the template 'for every input the law returns true; each argument reads behind the call as it read before'; 0 by the template 'total and deterministic' (their statements: YtinmdoemkejanaaTotals.lean).
  GIVEN WITH THE SEED: the statements are not yours to turn. If you find one false, say at which input.
  Laid BY PROGRAM, IN A SANDBOX (cutbox-rows.mjs): the forced cells as the released guide's own fill.sh prints them over the translation 10b143e8f6d38ee5… (all of the seat's roots in one cut). By AI agents, Wed Nov 11 2026. No macro, syntax, notation, axiom, sorry.
-/
import Derived.Test.YtinmdoemkejanaaChecked
import GoSem.Claim
import GoSem.ClaimJoined
import GoSem.ClaimMapViews
import Derived.JoinedTies
import Derived.KernelRfl
namespace Go.Proofs.Ytinmdoemkejanaa
/- THE CELL 'sum', in the pinned program and in every row, IS THE sha256 OF THE DUMP (.gsa) THAT YtinmdoemkejanaaProg.lean LOADS. Nothing in Lean hashes anything: it is a label: what it is worth is what the hold of that sum in a sandbox is worth. -/
noncomputable def Try.pinned : Pinned := { name := "ytinmdoemkejanaa", sum := "10b143e8f6d38ee57dfefaa9a097a8a0f63c732b913239619007345342f0e523", checked := Try.checked }
namespace Rows
def none {H : Type} : Left H := { results := [], args := [] }

/-- 'awardingbodylaw06.ItemParts': WHATEVER THE INPUT: true; the input reads as it did. -/
def itemPartsSpec : ChangeSpec := { name := "itemParts", fn := fun _ => fun
  | [d1, d2, d3, d4, d5, d6] => { results := [.lit (.bool true)], args := [d1, d2, d3, d4, d5, d6] }
  | _ => none }
def itemPartsRow : OpenClaim := { program := "ytinmdoemkejanaa", sum := "10b143e8f6d38ee57dfefaa9a097a8a0f63c732b913239619007345342f0e523", func := "awardingbody/awardingbodylaw06.ItemParts", spec := "itemParts", unfollowed := true, recurses := true, apart := false }
def ItemPartsSaid : Prop := itemPartsRow.holds Try.pinned (OpenSpec.ofChange itemPartsSpec)

/-- ITS FALSE NEIGHBOUR: 'it returns false'. Refute it at one input. -/
def itemPartsWrong : ChangeSpec := { name := "itemParts", fn := fun _ => fun
  | [d1, d2, d3, d4, d5, d6] => { results := [.lit (.bool false)], args := [d1, d2, d3, d4, d5, d6] }
  | _ => none }
def ItemPartsWrongFalsely : Prop := itemPartsRow.holds Try.pinned (OpenSpec.ofChange itemPartsWrong)

/-- 'awardingbodylaw06.ItemChecks': WHATEVER THE INPUT: true; the input reads as it did. -/
def itemChecksSpec : ChangeSpec := { name := "itemChecks", fn := fun _ => fun
  | [d] => { results := [.lit (.bool true)], args := [d] }
  | _ => none }
def itemChecksRow : OpenClaim := { program := "ytinmdoemkejanaa", sum := "10b143e8f6d38ee57dfefaa9a097a8a0f63c732b913239619007345342f0e523", func := "awardingbody/awardingbodylaw06.ItemChecks", spec := "itemChecks", unfollowed := true, recurses := true, apart := false }
def ItemChecksSaid : Prop := itemChecksRow.holds Try.pinned (OpenSpec.ofChange itemChecksSpec)

/-- ITS FALSE NEIGHBOUR: 'it returns false'. Refute it at one input. -/
def itemChecksWrong : ChangeSpec := { name := "itemChecks", fn := fun _ => fun
  | [d] => { results := [.lit (.bool false)], args := [d] }
  | _ => none }
def ItemChecksWrongFalsely : Prop := itemChecksRow.holds Try.pinned (OpenSpec.ofChange itemChecksWrong)

/-- 'awardingbodylaw06.ItemLoose': WHATEVER THE INPUT: true; the input reads as it did. -/
def itemLooseSpec : ChangeSpec := { name := "itemLoose", fn := fun _ => fun
  | [d1, d2, d3, d4, d5] => { results := [.lit (.bool true)], args := [d1, d2, d3, d4, d5] }
  | _ => none }
def itemLooseRow : OpenClaim := { program := "ytinmdoemkejanaa", sum := "10b143e8f6d38ee57dfefaa9a097a8a0f63c732b913239619007345342f0e523", func := "awardingbody/awardingbodylaw06.ItemLoose", spec := "itemLoose", unfollowed := true, recurses := true, apart := false }
def ItemLooseSaid : Prop := itemLooseRow.holds Try.pinned (OpenSpec.ofChange itemLooseSpec)

/-- ITS FALSE NEIGHBOUR: 'it returns false'. Refute it at one input. -/
def itemLooseWrong : ChangeSpec := { name := "itemLoose", fn := fun _ => fun
  | [d1, d2, d3, d4, d5] => { results := [.lit (.bool false)], args := [d1, d2, d3, d4, d5] }
  | _ => none }
def ItemLooseWrongFalsely : Prop := itemLooseRow.holds Try.pinned (OpenSpec.ofChange itemLooseWrong)

/-- 'awardingbodylaw06.ItemMaterial': WHATEVER THE INPUT: true; the input reads as it did. -/
def itemMaterialSpec : ChangeSpec := { name := "itemMaterial", fn := fun _ => fun
  | [d] => { results := [.lit (.bool true)], args := [d] }
  | _ => none }
def itemMaterialRow : OpenClaim := { program := "ytinmdoemkejanaa", sum := "10b143e8f6d38ee57dfefaa9a097a8a0f63c732b913239619007345342f0e523", func := "awardingbody/awardingbodylaw06.ItemMaterial", spec := "itemMaterial", unfollowed := true, recurses := true, apart := false }
def ItemMaterialSaid : Prop := itemMaterialRow.holds Try.pinned (OpenSpec.ofChange itemMaterialSpec)

/-- ITS FALSE NEIGHBOUR: 'it returns false'. Refute it at one input. -/
def itemMaterialWrong : ChangeSpec := { name := "itemMaterial", fn := fun _ => fun
  | [d] => { results := [.lit (.bool false)], args := [d] }
  | _ => none }
def ItemMaterialWrongFalsely : Prop := itemMaterialRow.holds Try.pinned (OpenSpec.ofChange itemMaterialWrong)

/-- 'awardingbodylaw06.ItemPapersLong': WHATEVER THE INPUT: true; the input reads as it did. -/
def itemPapersLongSpec : ChangeSpec := { name := "itemPapersLong", fn := fun _ => fun
  | [d1, d2, d3, d4] => { results := [.lit (.bool true)], args := [d1, d2, d3, d4] }
  | _ => none }
def itemPapersLongRow : OpenClaim := { program := "ytinmdoemkejanaa", sum := "10b143e8f6d38ee57dfefaa9a097a8a0f63c732b913239619007345342f0e523", func := "awardingbody/awardingbodylaw06.ItemPapersLong", spec := "itemPapersLong", unfollowed := true, recurses := true, apart := false }
def ItemPapersLongSaid : Prop := itemPapersLongRow.holds Try.pinned (OpenSpec.ofChange itemPapersLongSpec)

/-- ITS FALSE NEIGHBOUR: 'it returns false'. Refute it at one input. -/
def itemPapersLongWrong : ChangeSpec := { name := "itemPapersLong", fn := fun _ => fun
  | [d1, d2, d3, d4] => { results := [.lit (.bool false)], args := [d1, d2, d3, d4] }
  | _ => none }
def ItemPapersLongWrongFalsely : Prop := itemPapersLongRow.holds Try.pinned (OpenSpec.ofChange itemPapersLongWrong)

/-- 'awardingbodylaw06.ItemEnemies': WHATEVER THE INPUT: true; the input reads as it did. -/
def itemEnemiesSpec : ChangeSpec := { name := "itemEnemies", fn := fun _ => fun
  | [d] => { results := [.lit (.bool true)], args := [d] }
  | _ => none }
def itemEnemiesRow : OpenClaim := { program := "ytinmdoemkejanaa", sum := "10b143e8f6d38ee57dfefaa9a097a8a0f63c732b913239619007345342f0e523", func := "awardingbody/awardingbodylaw06.ItemEnemies", spec := "itemEnemies", unfollowed := true, recurses := true, apart := false }
def ItemEnemiesSaid : Prop := itemEnemiesRow.holds Try.pinned (OpenSpec.ofChange itemEnemiesSpec)

/-- ITS FALSE NEIGHBOUR: 'it returns false'. Refute it at one input. -/
def itemEnemiesWrong : ChangeSpec := { name := "itemEnemies", fn := fun _ => fun
  | [d] => { results := [.lit (.bool false)], args := [d] }
  | _ => none }
def ItemEnemiesWrongFalsely : Prop := itemEnemiesRow.holds Try.pinned (OpenSpec.ofChange itemEnemiesWrong)

/-- 'awardingbodylaw06.ItemPapers': WHATEVER THE INPUT: true; the input reads as it did. -/
def itemPapersSpec : ChangeSpec := { name := "itemPapers", fn := fun _ => fun
  | [d] => { results := [.lit (.bool true)], args := [d] }
  | _ => none }
def itemPapersRow : OpenClaim := { program := "ytinmdoemkejanaa", sum := "10b143e8f6d38ee57dfefaa9a097a8a0f63c732b913239619007345342f0e523", func := "awardingbody/awardingbodylaw06.ItemPapers", spec := "itemPapers", unfollowed := true, recurses := true, apart := false }
def ItemPapersSaid : Prop := itemPapersRow.holds Try.pinned (OpenSpec.ofChange itemPapersSpec)

/-- ITS FALSE NEIGHBOUR: 'it returns false'. Refute it at one input. -/
def itemPapersWrong : ChangeSpec := { name := "itemPapers", fn := fun _ => fun
  | [d] => { results := [.lit (.bool false)], args := [d] }
  | _ => none }
def ItemPapersWrongFalsely : Prop := itemPapersRow.holds Try.pinned (OpenSpec.ofChange itemPapersWrong)

/-- 'awardingbodylaw06.ItemSums': WHATEVER THE INPUT: true; the input reads as it did. -/
def itemSumsSpec : ChangeSpec := { name := "itemSums", fn := fun _ => fun
  | [d] => { results := [.lit (.bool true)], args := [d] }
  | _ => none }
def itemSumsRow : OpenClaim := { program := "ytinmdoemkejanaa", sum := "10b143e8f6d38ee57dfefaa9a097a8a0f63c732b913239619007345342f0e523", func := "awardingbody/awardingbodylaw06.ItemSums", spec := "itemSums", unfollowed := true, recurses := true, apart := false }
def ItemSumsSaid : Prop := itemSumsRow.holds Try.pinned (OpenSpec.ofChange itemSumsSpec)

/-- ITS FALSE NEIGHBOUR: 'it returns false'. Refute it at one input. -/
def itemSumsWrong : ChangeSpec := { name := "itemSums", fn := fun _ => fun
  | [d] => { results := [.lit (.bool false)], args := [d] }
  | _ => none }
def ItemSumsWrongFalsely : Prop := itemSumsRow.holds Try.pinned (OpenSpec.ofChange itemSumsWrong)

/- THE SECOND FORM. 'bulk': how many values and letters a reading holds, each counted each time it is reached (what is shared counts as often as it is met; a slice's spare places count too). A statement '..UptoSaid' is the law's where the arguments, and the package variables that the reading takes, are together of bulk at most 1048576: NARROWER than '..Said'. Prove '..Said' where nothing that the law and all that it calls make is longer than what came in: it says more and counts as full. Else prove '..UptoSaid'. A law counts once. -/
mutual
def uptoBulk {H : Type} : DataW H → Nat
  | .lit (.string bytes) => bytes.length + 1
  | .lit _ => 1
  | .nil => 1
  | .ptr d => uptoBulk d + 1
  | .slice elems spare => uptoBulkAll elems + uptoBulkAll spare + 1
  | .agg parts => uptoBulkAll parts + 1
  | .iface _ d => uptoBulk d + 1
  | .map entries => uptoBulkEntries entries + 1
  | .held _ => 1
def uptoBulkAll {H : Type} : List (DataW H) → Nat
  | [] => 0
  | d :: r => uptoBulk d + uptoBulkAll r
def uptoBulkEntries {H : Type} : List (Lit × DataW H) → Nat
  | [] => 0
  | x :: r => uptoBulkEntry x + uptoBulkEntries r
def uptoBulkEntry {H : Type} : Lit × DataW H → Nat
  | (.string bytes, d) => bytes.length + uptoBulk d + 1
  | (_, d) => uptoBulk d + 1
 end
def uptoSmall : (H : Type) → List (DataW H) → Bool := fun _ ds => decide (uptoBulkAll ds ≤ 1048576)
def OpenSpec.upto (s : _root_.Go.ChangeSpec) : _root_.Go.OpenSpec := { _root_.Go.OpenSpec.ofChange s with cond := some uptoSmall }

/-- 'awardingbodylaw06.ItemParts', WHERE WHAT IT READS IS OF BULK AT MOST 1048576: true; the input reads as it did. -/
def itemPartsUptoRow : OpenClaim := { program := "ytinmdoemkejanaa", sum := "10b143e8f6d38ee57dfefaa9a097a8a0f63c732b913239619007345342f0e523", func := "awardingbody/awardingbodylaw06.ItemParts", spec := "itemParts", unfollowed := true, recurses := true, apart := false, narrowed := true }
def ItemPartsUptoSaid : Prop := itemPartsUptoRow.holds Try.pinned (OpenSpec.upto itemPartsSpec)

/-- 'awardingbodylaw06.ItemChecks', WHERE WHAT IT READS IS OF BULK AT MOST 1048576: true; the input reads as it did. -/
def itemChecksUptoRow : OpenClaim := { program := "ytinmdoemkejanaa", sum := "10b143e8f6d38ee57dfefaa9a097a8a0f63c732b913239619007345342f0e523", func := "awardingbody/awardingbodylaw06.ItemChecks", spec := "itemChecks", unfollowed := true, recurses := true, apart := false, narrowed := true }
def ItemChecksUptoSaid : Prop := itemChecksUptoRow.holds Try.pinned (OpenSpec.upto itemChecksSpec)

/-- 'awardingbodylaw06.ItemLoose', WHERE WHAT IT READS IS OF BULK AT MOST 1048576: true; the input reads as it did. -/
def itemLooseUptoRow : OpenClaim := { program := "ytinmdoemkejanaa", sum := "10b143e8f6d38ee57dfefaa9a097a8a0f63c732b913239619007345342f0e523", func := "awardingbody/awardingbodylaw06.ItemLoose", spec := "itemLoose", unfollowed := true, recurses := true, apart := false, narrowed := true }
def ItemLooseUptoSaid : Prop := itemLooseUptoRow.holds Try.pinned (OpenSpec.upto itemLooseSpec)

/-- 'awardingbodylaw06.ItemMaterial', WHERE WHAT IT READS IS OF BULK AT MOST 1048576: true; the input reads as it did. -/
def itemMaterialUptoRow : OpenClaim := { program := "ytinmdoemkejanaa", sum := "10b143e8f6d38ee57dfefaa9a097a8a0f63c732b913239619007345342f0e523", func := "awardingbody/awardingbodylaw06.ItemMaterial", spec := "itemMaterial", unfollowed := true, recurses := true, apart := false, narrowed := true }
def ItemMaterialUptoSaid : Prop := itemMaterialUptoRow.holds Try.pinned (OpenSpec.upto itemMaterialSpec)

/-- 'awardingbodylaw06.ItemPapersLong', WHERE WHAT IT READS IS OF BULK AT MOST 1048576: true; the input reads as it did. -/
def itemPapersLongUptoRow : OpenClaim := { program := "ytinmdoemkejanaa", sum := "10b143e8f6d38ee57dfefaa9a097a8a0f63c732b913239619007345342f0e523", func := "awardingbody/awardingbodylaw06.ItemPapersLong", spec := "itemPapersLong", unfollowed := true, recurses := true, apart := false, narrowed := true }
def ItemPapersLongUptoSaid : Prop := itemPapersLongUptoRow.holds Try.pinned (OpenSpec.upto itemPapersLongSpec)

/-- 'awardingbodylaw06.ItemEnemies', WHERE WHAT IT READS IS OF BULK AT MOST 1048576: true; the input reads as it did. -/
def itemEnemiesUptoRow : OpenClaim := { program := "ytinmdoemkejanaa", sum := "10b143e8f6d38ee57dfefaa9a097a8a0f63c732b913239619007345342f0e523", func := "awardingbody/awardingbodylaw06.ItemEnemies", spec := "itemEnemies", unfollowed := true, recurses := true, apart := false, narrowed := true }
def ItemEnemiesUptoSaid : Prop := itemEnemiesUptoRow.holds Try.pinned (OpenSpec.upto itemEnemiesSpec)

/-- 'awardingbodylaw06.ItemPapers', WHERE WHAT IT READS IS OF BULK AT MOST 1048576: true; the input reads as it did. -/
def itemPapersUptoRow : OpenClaim := { program := "ytinmdoemkejanaa", sum := "10b143e8f6d38ee57dfefaa9a097a8a0f63c732b913239619007345342f0e523", func := "awardingbody/awardingbodylaw06.ItemPapers", spec := "itemPapers", unfollowed := true, recurses := true, apart := false, narrowed := true }
def ItemPapersUptoSaid : Prop := itemPapersUptoRow.holds Try.pinned (OpenSpec.upto itemPapersSpec)

/-- 'awardingbodylaw06.ItemSums', WHERE WHAT IT READS IS OF BULK AT MOST 1048576: true; the input reads as it did. -/
def itemSumsUptoRow : OpenClaim := { program := "ytinmdoemkejanaa", sum := "10b143e8f6d38ee57dfefaa9a097a8a0f63c732b913239619007345342f0e523", func := "awardingbody/awardingbodylaw06.ItemSums", spec := "itemSums", unfollowed := true, recurses := true, apart := false, narrowed := true }
def ItemSumsUptoSaid : Prop := itemSumsUptoRow.holds Try.pinned (OpenSpec.upto itemSumsSpec)

end Rows
end Go.Proofs.Ytinmdoemkejanaa
