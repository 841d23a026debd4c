/-
  No cell of these rows narrows 'for every input' (looked for: loops, veiled, ifaces, maps, wideKeys, modest, calm, conditions, laid).
  DERIVED. THE GIVEN ROWS OF THIS SEAT. 10 by the template 'for every input the law returns true; each argument reads behind the call as it read before'; 0 by the template 'total and deterministic' (their statements: YtmehkikkjebnnaaTotals.lean).
  GIVEN WITH THE SEED: the statements are not yours to turn. If you find one false, say at which input.
  Laid BY PROGRAM, IN A SANDBOX (cutbox-rows.mjs): the forced cells as the released guide's own fill.sh prints them over the translation c9a03812cba11afe… (all of the seat's roots in one cut). By AI agents, Wed Nov 11 2026. No macro, syntax, notation, axiom, sorry.
-/
import Derived.Test.YtmehkikkjebnnaaChecked
import GoSem.Claim
import GoSem.ClaimJoined
import GoSem.ClaimMapViews
import Derived.JoinedTies
import Derived.KernelRfl
namespace Go.Proofs.Ytmehkikkjebnnaa
/- THE CELL 'sum', in the pinned program and in every row, IS THE sha256 OF THE DUMP (.gsa) THAT YtmehkikkjebnnaaProg.lean LOADS. Nothing in Lean hashes anything: it is a label: what it is worth is what the hold of that sum in a sandbox is worth. -/
noncomputable def Try.pinned : Pinned := { name := "ytmehkikkjebnnaa", sum := "c9a03812cba11afed2d33ac9a61c1985b9b4e473c2a9413cdf263d1ccfc591a3", checked := Try.checked }
namespace Rows
def none {H : Type} : Left H := { results := [], args := [] }

/-- 'polyptychlaw6.ActsForms': WHATEVER THE INPUT: true; the input reads as it did. -/
def actsFormsSpec : ChangeSpec := { name := "actsForms", fn := fun _ => fun
  | [d] => { results := [.lit (.bool true)], args := [d] }
  | _ => none }
def actsFormsRow : OpenClaim := { program := "ytmehkikkjebnnaa", sum := "c9a03812cba11afed2d33ac9a61c1985b9b4e473c2a9413cdf263d1ccfc591a3", func := "polyptych/polyptychlaw6.ActsForms", spec := "actsForms", unfollowed := true, recurses := true, apart := false }
def ActsFormsSaid : Prop := actsFormsRow.holds Try.pinned (OpenSpec.ofChange actsFormsSpec)

/-- ITS FALSE NEIGHBOUR: 'it returns false'. Refute it at one input. -/
def actsFormsWrong : ChangeSpec := { name := "actsForms", fn := fun _ => fun
  | [d] => { results := [.lit (.bool false)], args := [d] }
  | _ => none }
def ActsFormsWrongFalsely : Prop := actsFormsRow.holds Try.pinned (OpenSpec.ofChange actsFormsWrong)

/-- 'polyptychlaw6.ActsMoves': WHATEVER THE INPUT: true; the input reads as it did. -/
def actsMovesSpec : ChangeSpec := { name := "actsMoves", fn := fun _ => fun
  | [d1, d2, d3] => { results := [.lit (.bool true)], args := [d1, d2, d3] }
  | _ => none }
def actsMovesRow : OpenClaim := { program := "ytmehkikkjebnnaa", sum := "c9a03812cba11afed2d33ac9a61c1985b9b4e473c2a9413cdf263d1ccfc591a3", func := "polyptych/polyptychlaw6.ActsMoves", spec := "actsMoves", unfollowed := true, recurses := true, apart := false }
def ActsMovesSaid : Prop := actsMovesRow.holds Try.pinned (OpenSpec.ofChange actsMovesSpec)

/-- ITS FALSE NEIGHBOUR: 'it returns false'. Refute it at one input. -/
def actsMovesWrong : ChangeSpec := { name := "actsMoves", fn := fun _ => fun
  | [d1, d2, d3] => { results := [.lit (.bool false)], args := [d1, d2, d3] }
  | _ => none }
def ActsMovesWrongFalsely : Prop := actsMovesRow.holds Try.pinned (OpenSpec.ofChange actsMovesWrong)

/-- 'polyptychlaw6.ActsOwn': WHATEVER THE INPUT: true; the input reads as it did. -/
def actsOwnSpec : ChangeSpec := { name := "actsOwn", fn := fun _ => fun
  | [d1, d2] => { results := [.lit (.bool true)], args := [d1, d2] }
  | _ => none }
def actsOwnRow : OpenClaim := { program := "ytmehkikkjebnnaa", sum := "c9a03812cba11afed2d33ac9a61c1985b9b4e473c2a9413cdf263d1ccfc591a3", func := "polyptych/polyptychlaw6.ActsOwn", spec := "actsOwn", unfollowed := true, recurses := true, apart := false }
def ActsOwnSaid : Prop := actsOwnRow.holds Try.pinned (OpenSpec.ofChange actsOwnSpec)

/-- ITS FALSE NEIGHBOUR: 'it returns false'. Refute it at one input. -/
def actsOwnWrong : ChangeSpec := { name := "actsOwn", fn := fun _ => fun
  | [d1, d2] => { results := [.lit (.bool false)], args := [d1, d2] }
  | _ => none }
def ActsOwnWrongFalsely : Prop := actsOwnRow.holds Try.pinned (OpenSpec.ofChange actsOwnWrong)

/-- 'polyptychlaw6.ActsRegions': WHATEVER THE INPUT: true; the input reads as it did. -/
def actsRegionsSpec : ChangeSpec := { name := "actsRegions", fn := fun _ => fun
  | [d1, d2, d3, d4] => { results := [.lit (.bool true)], args := [d1, d2, d3, d4] }
  | _ => none }
def actsRegionsRow : OpenClaim := { program := "ytmehkikkjebnnaa", sum := "c9a03812cba11afed2d33ac9a61c1985b9b4e473c2a9413cdf263d1ccfc591a3", func := "polyptych/polyptychlaw6.ActsRegions", spec := "actsRegions", unfollowed := true, recurses := true, apart := false }
def ActsRegionsSaid : Prop := actsRegionsRow.holds Try.pinned (OpenSpec.ofChange actsRegionsSpec)

/-- ITS FALSE NEIGHBOUR: 'it returns false'. Refute it at one input. -/
def actsRegionsWrong : ChangeSpec := { name := "actsRegions", fn := fun _ => fun
  | [d1, d2, d3, d4] => { results := [.lit (.bool false)], args := [d1, d2, d3, d4] }
  | _ => none }
def ActsRegionsWrongFalsely : Prop := actsRegionsRow.holds Try.pinned (OpenSpec.ofChange actsRegionsWrong)

/-- 'polyptychlaw6.ActsWrap': WHATEVER THE INPUT: true; the input reads as it did. -/
def actsWrapSpec : ChangeSpec := { name := "actsWrap", fn := fun _ => fun
  | [d1, d2, d3, d4] => { results := [.lit (.bool true)], args := [d1, d2, d3, d4] }
  | _ => none }
def actsWrapRow : OpenClaim := { program := "ytmehkikkjebnnaa", sum := "c9a03812cba11afed2d33ac9a61c1985b9b4e473c2a9413cdf263d1ccfc591a3", func := "polyptych/polyptychlaw6.ActsWrap", spec := "actsWrap", unfollowed := true, recurses := true, apart := false }
def ActsWrapSaid : Prop := actsWrapRow.holds Try.pinned (OpenSpec.ofChange actsWrapSpec)

/-- ITS FALSE NEIGHBOUR: 'it returns false'. Refute it at one input. -/
def actsWrapWrong : ChangeSpec := { name := "actsWrap", fn := fun _ => fun
  | [d1, d2, d3, d4] => { results := [.lit (.bool false)], args := [d1, d2, d3, d4] }
  | _ => none }
def ActsWrapWrongFalsely : Prop := actsWrapRow.holds Try.pinned (OpenSpec.ofChange actsWrapWrong)

/-- 'polyptychlaw6.ActsErase': WHATEVER THE INPUT: true; the input reads as it did. -/
def actsEraseSpec : ChangeSpec := { name := "actsErase", fn := fun _ => fun
  | [d1, d2] => { results := [.lit (.bool true)], args := [d1, d2] }
  | _ => none }
def actsEraseRow : OpenClaim := { program := "ytmehkikkjebnnaa", sum := "c9a03812cba11afed2d33ac9a61c1985b9b4e473c2a9413cdf263d1ccfc591a3", func := "polyptych/polyptychlaw6.ActsErase", spec := "actsErase", unfollowed := true, recurses := true, apart := false }
def ActsEraseSaid : Prop := actsEraseRow.holds Try.pinned (OpenSpec.ofChange actsEraseSpec)

/-- ITS FALSE NEIGHBOUR: 'it returns false'. Refute it at one input. -/
def actsEraseWrong : ChangeSpec := { name := "actsErase", fn := fun _ => fun
  | [d1, d2] => { results := [.lit (.bool false)], args := [d1, d2] }
  | _ => none }
def ActsEraseWrongFalsely : Prop := actsEraseRow.holds Try.pinned (OpenSpec.ofChange actsEraseWrong)

/-- 'polyptychlaw6.ActsTexts': WHATEVER THE INPUT: true; the input reads as it did. -/
def actsTextsSpec : ChangeSpec := { name := "actsTexts", fn := fun _ => fun
  | [d1, d2, d3] => { results := [.lit (.bool true)], args := [d1, d2, d3] }
  | _ => none }
def actsTextsRow : OpenClaim := { program := "ytmehkikkjebnnaa", sum := "c9a03812cba11afed2d33ac9a61c1985b9b4e473c2a9413cdf263d1ccfc591a3", func := "polyptych/polyptychlaw6.ActsTexts", spec := "actsTexts", unfollowed := true, recurses := true, apart := false }
def ActsTextsSaid : Prop := actsTextsRow.holds Try.pinned (OpenSpec.ofChange actsTextsSpec)

/-- ITS FALSE NEIGHBOUR: 'it returns false'. Refute it at one input. -/
def actsTextsWrong : ChangeSpec := { name := "actsTexts", fn := fun _ => fun
  | [d1, d2, d3] => { results := [.lit (.bool false)], args := [d1, d2, d3] }
  | _ => none }
def ActsTextsWrongFalsely : Prop := actsTextsRow.holds Try.pinned (OpenSpec.ofChange actsTextsWrong)

/-- 'polyptychlaw6.ActsWhole': WHATEVER THE INPUT: true; the input reads as it did. -/
def actsWholeSpec : ChangeSpec := { name := "actsWhole", fn := fun _ => fun
  | [d1, d2] => { results := [.lit (.bool true)], args := [d1, d2] }
  | _ => none }
def actsWholeRow : OpenClaim := { program := "ytmehkikkjebnnaa", sum := "c9a03812cba11afed2d33ac9a61c1985b9b4e473c2a9413cdf263d1ccfc591a3", func := "polyptych/polyptychlaw6.ActsWhole", spec := "actsWhole", unfollowed := true, recurses := true, apart := false }
def ActsWholeSaid : Prop := actsWholeRow.holds Try.pinned (OpenSpec.ofChange actsWholeSpec)

/-- ITS FALSE NEIGHBOUR: 'it returns false'. Refute it at one input. -/
def actsWholeWrong : ChangeSpec := { name := "actsWhole", fn := fun _ => fun
  | [d1, d2] => { results := [.lit (.bool false)], args := [d1, d2] }
  | _ => none }
def ActsWholeWrongFalsely : Prop := actsWholeRow.holds Try.pinned (OpenSpec.ofChange actsWholeWrong)

/-- 'polyptychlaw7.PaneSizes': WHATEVER THE INPUT: true; the input reads as it did. -/
def paneSizesSpec : ChangeSpec := { name := "paneSizes", fn := fun _ => fun
  | [d1, d2, d3] => { results := [.lit (.bool true)], args := [d1, d2, d3] }
  | _ => none }
def paneSizesRow : OpenClaim := { program := "ytmehkikkjebnnaa", sum := "c9a03812cba11afed2d33ac9a61c1985b9b4e473c2a9413cdf263d1ccfc591a3", func := "polyptych/polyptychlaw7.PaneSizes", spec := "paneSizes", unfollowed := true, recurses := true, apart := false }
def PaneSizesSaid : Prop := paneSizesRow.holds Try.pinned (OpenSpec.ofChange paneSizesSpec)

/-- ITS FALSE NEIGHBOUR: 'it returns false'. Refute it at one input. -/
def paneSizesWrong : ChangeSpec := { name := "paneSizes", fn := fun _ => fun
  | [d1, d2, d3] => { results := [.lit (.bool false)], args := [d1, d2, d3] }
  | _ => none }
def PaneSizesWrongFalsely : Prop := paneSizesRow.holds Try.pinned (OpenSpec.ofChange paneSizesWrong)

/-- 'polyptychlaw7.PaneLines': WHATEVER THE INPUT: true; the input reads as it did. -/
def paneLinesSpec : ChangeSpec := { name := "paneLines", fn := fun _ => fun
  | [d1, d2] => { results := [.lit (.bool true)], args := [d1, d2] }
  | _ => none }
def paneLinesRow : OpenClaim := { program := "ytmehkikkjebnnaa", sum := "c9a03812cba11afed2d33ac9a61c1985b9b4e473c2a9413cdf263d1ccfc591a3", func := "polyptych/polyptychlaw7.PaneLines", spec := "paneLines", unfollowed := true, recurses := true, apart := false }
def PaneLinesSaid : Prop := paneLinesRow.holds Try.pinned (OpenSpec.ofChange paneLinesSpec)

/-- ITS FALSE NEIGHBOUR: 'it returns false'. Refute it at one input. -/
def paneLinesWrong : ChangeSpec := { name := "paneLines", fn := fun _ => fun
  | [d1, d2] => { results := [.lit (.bool false)], args := [d1, d2] }
  | _ => none }
def PaneLinesWrongFalsely : Prop := paneLinesRow.holds Try.pinned (OpenSpec.ofChange paneLinesWrong)

/- THE SECOND FORM. 'bulk': how many values and letters a reading holds, each counted each time it is reached (what is shared counts as often as it is met; a slice's spare places count too). A statement '..UptoSaid' is the law's where the arguments, and the package variables that the reading takes, are together of bulk at most 1048576: NARROWER than '..Said'. Prove '..Said' where nothing that the law and all that it calls make is longer than what came in: it says more and counts as full. Else prove '..UptoSaid'. A law counts once. -/
mutual
def uptoBulk {H : Type} : DataW H → Nat
  | .lit (.string bytes) => bytes.length + 1
  | .lit _ => 1
  | .nil => 1
  | .ptr d => uptoBulk d + 1
  | .slice elems spare => uptoBulkAll elems + uptoBulkAll spare + 1
  | .agg parts => uptoBulkAll parts + 1
  | .iface _ d => uptoBulk d + 1
  | .map entries => uptoBulkEntries entries + 1
  | .held _ => 1
def uptoBulkAll {H : Type} : List (DataW H) → Nat
  | [] => 0
  | d :: r => uptoBulk d + uptoBulkAll r
def uptoBulkEntries {H : Type} : List (Lit × DataW H) → Nat
  | [] => 0
  | x :: r => uptoBulkEntry x + uptoBulkEntries r
def uptoBulkEntry {H : Type} : Lit × DataW H → Nat
  | (.string bytes, d) => bytes.length + uptoBulk d + 1
  | (_, d) => uptoBulk d + 1
 end
def uptoSmall : (H : Type) → List (DataW H) → Bool := fun _ ds => decide (uptoBulkAll ds ≤ 1048576)
def OpenSpec.upto (s : _root_.Go.ChangeSpec) : _root_.Go.OpenSpec := { _root_.Go.OpenSpec.ofChange s with cond := some uptoSmall }

/-- 'polyptychlaw6.ActsForms', WHERE WHAT IT READS IS OF BULK AT MOST 1048576: true; the input reads as it did. -/
def actsFormsUptoRow : OpenClaim := { program := "ytmehkikkjebnnaa", sum := "c9a03812cba11afed2d33ac9a61c1985b9b4e473c2a9413cdf263d1ccfc591a3", func := "polyptych/polyptychlaw6.ActsForms", spec := "actsForms", unfollowed := true, recurses := true, apart := false, narrowed := true }
def ActsFormsUptoSaid : Prop := actsFormsUptoRow.holds Try.pinned (OpenSpec.upto actsFormsSpec)

/-- 'polyptychlaw6.ActsMoves', WHERE WHAT IT READS IS OF BULK AT MOST 1048576: true; the input reads as it did. -/
def actsMovesUptoRow : OpenClaim := { program := "ytmehkikkjebnnaa", sum := "c9a03812cba11afed2d33ac9a61c1985b9b4e473c2a9413cdf263d1ccfc591a3", func := "polyptych/polyptychlaw6.ActsMoves", spec := "actsMoves", unfollowed := true, recurses := true, apart := false, narrowed := true }
def ActsMovesUptoSaid : Prop := actsMovesUptoRow.holds Try.pinned (OpenSpec.upto actsMovesSpec)

/-- 'polyptychlaw6.ActsOwn', WHERE WHAT IT READS IS OF BULK AT MOST 1048576: true; the input reads as it did. -/
def actsOwnUptoRow : OpenClaim := { program := "ytmehkikkjebnnaa", sum := "c9a03812cba11afed2d33ac9a61c1985b9b4e473c2a9413cdf263d1ccfc591a3", func := "polyptych/polyptychlaw6.ActsOwn", spec := "actsOwn", unfollowed := true, recurses := true, apart := false, narrowed := true }
def ActsOwnUptoSaid : Prop := actsOwnUptoRow.holds Try.pinned (OpenSpec.upto actsOwnSpec)

/-- 'polyptychlaw6.ActsRegions', WHERE WHAT IT READS IS OF BULK AT MOST 1048576: true; the input reads as it did. -/
def actsRegionsUptoRow : OpenClaim := { program := "ytmehkikkjebnnaa", sum := "c9a03812cba11afed2d33ac9a61c1985b9b4e473c2a9413cdf263d1ccfc591a3", func := "polyptych/polyptychlaw6.ActsRegions", spec := "actsRegions", unfollowed := true, recurses := true, apart := false, narrowed := true }
def ActsRegionsUptoSaid : Prop := actsRegionsUptoRow.holds Try.pinned (OpenSpec.upto actsRegionsSpec)

/-- 'polyptychlaw6.ActsWrap', WHERE WHAT IT READS IS OF BULK AT MOST 1048576: true; the input reads as it did. -/
def actsWrapUptoRow : OpenClaim := { program := "ytmehkikkjebnnaa", sum := "c9a03812cba11afed2d33ac9a61c1985b9b4e473c2a9413cdf263d1ccfc591a3", func := "polyptych/polyptychlaw6.ActsWrap", spec := "actsWrap", unfollowed := true, recurses := true, apart := false, narrowed := true }
def ActsWrapUptoSaid : Prop := actsWrapUptoRow.holds Try.pinned (OpenSpec.upto actsWrapSpec)

/-- 'polyptychlaw6.ActsErase', WHERE WHAT IT READS IS OF BULK AT MOST 1048576: true; the input reads as it did. -/
def actsEraseUptoRow : OpenClaim := { program := "ytmehkikkjebnnaa", sum := "c9a03812cba11afed2d33ac9a61c1985b9b4e473c2a9413cdf263d1ccfc591a3", func := "polyptych/polyptychlaw6.ActsErase", spec := "actsErase", unfollowed := true, recurses := true, apart := false, narrowed := true }
def ActsEraseUptoSaid : Prop := actsEraseUptoRow.holds Try.pinned (OpenSpec.upto actsEraseSpec)

/-- 'polyptychlaw6.ActsTexts', WHERE WHAT IT READS IS OF BULK AT MOST 1048576: true; the input reads as it did. -/
def actsTextsUptoRow : OpenClaim := { program := "ytmehkikkjebnnaa", sum := "c9a03812cba11afed2d33ac9a61c1985b9b4e473c2a9413cdf263d1ccfc591a3", func := "polyptych/polyptychlaw6.ActsTexts", spec := "actsTexts", unfollowed := true, recurses := true, apart := false, narrowed := true }
def ActsTextsUptoSaid : Prop := actsTextsUptoRow.holds Try.pinned (OpenSpec.upto actsTextsSpec)

/-- 'polyptychlaw6.ActsWhole', WHERE WHAT IT READS IS OF BULK AT MOST 1048576: true; the input reads as it did. -/
def actsWholeUptoRow : OpenClaim := { program := "ytmehkikkjebnnaa", sum := "c9a03812cba11afed2d33ac9a61c1985b9b4e473c2a9413cdf263d1ccfc591a3", func := "polyptych/polyptychlaw6.ActsWhole", spec := "actsWhole", unfollowed := true, recurses := true, apart := false, narrowed := true }
def ActsWholeUptoSaid : Prop := actsWholeUptoRow.holds Try.pinned (OpenSpec.upto actsWholeSpec)

/-- 'polyptychlaw7.PaneSizes', WHERE WHAT IT READS IS OF BULK AT MOST 1048576: true; the input reads as it did. -/
def paneSizesUptoRow : OpenClaim := { program := "ytmehkikkjebnnaa", sum := "c9a03812cba11afed2d33ac9a61c1985b9b4e473c2a9413cdf263d1ccfc591a3", func := "polyptych/polyptychlaw7.PaneSizes", spec := "paneSizes", unfollowed := true, recurses := true, apart := false, narrowed := true }
def PaneSizesUptoSaid : Prop := paneSizesUptoRow.holds Try.pinned (OpenSpec.upto paneSizesSpec)

/-- 'polyptychlaw7.PaneLines', WHERE WHAT IT READS IS OF BULK AT MOST 1048576: true; the input reads as it did. -/
def paneLinesUptoRow : OpenClaim := { program := "ytmehkikkjebnnaa", sum := "c9a03812cba11afed2d33ac9a61c1985b9b4e473c2a9413cdf263d1ccfc591a3", func := "polyptych/polyptychlaw7.PaneLines", spec := "paneLines", unfollowed := true, recurses := true, apart := false, narrowed := true }
def PaneLinesUptoSaid : Prop := paneLinesUptoRow.holds Try.pinned (OpenSpec.upto paneLinesSpec)

end Rows
end Go.Proofs.Ytmehkikkjebnnaa
