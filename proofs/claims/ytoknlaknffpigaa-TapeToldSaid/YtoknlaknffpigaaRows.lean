/-
  No cell of these rows narrows 'for every input' (looked for: loops, veiled, ifaces, maps, wideKeys, modest, calm, conditions, laid).
  DERIVED. THE GIVEN ROWS OF THIS SEAT. 12 by the template 'for every input the law returns true; each argument reads behind the call as it read before'; 0 by the template 'total and deterministic' (their statements: YtoknlaknffpigaaTotals.lean).
  GIVEN WITH THE SEED: the statements are not yours to turn. If you find one false, say at which input.
  Laid BY PROGRAM, IN A SANDBOX (cutbox-rows.mjs): the forced cells as the released guide's own fill.sh prints them over the translation c1b2b6aee433463e… (all of the seat's roots in one cut). By AI agents, Wed Nov 11 2026. No macro, syntax, notation, axiom, sorry.
-/
import Derived.Test.YtoknlaknffpigaaChecked
import GoSem.Claim
import GoSem.ClaimJoined
import GoSem.ClaimMapViews
import Derived.JoinedTies
import Derived.KernelRfl
namespace Go.Proofs.Ytoknlaknffpigaa
/- THE CELL 'sum', in the pinned program and in every row, IS THE sha256 OF THE DUMP (.gsa) THAT YtoknlaknffpigaaProg.lean LOADS. Nothing in Lean hashes anything: it is a label: what it is worth is what the hold of that sum in a sandbox is worth. -/
noncomputable def Try.pinned : Pinned := { name := "ytoknlaknffpigaa", sum := "c1b2b6aee433463e68f6c358eb6e19340b453d2dd57b9ed591a0386ddcdabd10", checked := Try.checked }
namespace Rows
def none {H : Type} : Left H := { results := [], args := [] }

/-- 'aneroidlaw17.MeanOf': WHATEVER THE INPUT: true; the input reads as it did. -/
def meanOfSpec : ChangeSpec := { name := "meanOf", fn := fun _ => fun
  | [d] => { results := [.lit (.bool true)], args := [d] }
  | _ => none }
def meanOfRow : OpenClaim := { program := "ytoknlaknffpigaa", sum := "c1b2b6aee433463e68f6c358eb6e19340b453d2dd57b9ed591a0386ddcdabd10", func := "aneroid/aneroidlaw17.MeanOf", spec := "meanOf", apart := false }
def MeanOfSaid : Prop := meanOfRow.holds Try.pinned (OpenSpec.ofChange meanOfSpec)

/-- ITS FALSE NEIGHBOUR: 'it returns false'. Refute it at one input. -/
def meanOfWrong : ChangeSpec := { name := "meanOf", fn := fun _ => fun
  | [d] => { results := [.lit (.bool false)], args := [d] }
  | _ => none }
def MeanOfWrongFalsely : Prop := meanOfRow.holds Try.pinned (OpenSpec.ofChange meanOfWrong)

/-- 'aneroidlaw17.MeanBetween': WHATEVER THE INPUT: true; the input reads as it did. -/
def meanBetweenSpec : ChangeSpec := { name := "meanBetween", fn := fun _ => fun
  | [d1, d2] => { results := [.lit (.bool true)], args := [d1, d2] }
  | _ => none }
def meanBetweenRow : OpenClaim := { program := "ytoknlaknffpigaa", sum := "c1b2b6aee433463e68f6c358eb6e19340b453d2dd57b9ed591a0386ddcdabd10", func := "aneroid/aneroidlaw17.MeanBetween", spec := "meanBetween", apart := false }
def MeanBetweenSaid : Prop := meanBetweenRow.holds Try.pinned (OpenSpec.ofChange meanBetweenSpec)

/-- ITS FALSE NEIGHBOUR: 'it returns false'. Refute it at one input. -/
def meanBetweenWrong : ChangeSpec := { name := "meanBetween", fn := fun _ => fun
  | [d1, d2] => { results := [.lit (.bool false)], args := [d1, d2] }
  | _ => none }
def MeanBetweenWrongFalsely : Prop := meanBetweenRow.holds Try.pinned (OpenSpec.ofChange meanBetweenWrong)

/-- 'aneroidlaw16.BaroNone': WHATEVER THE INPUT: true; the input reads as it did. -/
def baroNoneSpec : ChangeSpec := { name := "baroNone", fn := fun _ => fun
  | [d1, d2, d3] => { results := [.lit (.bool true)], args := [d1, d2, d3] }
  | _ => none }
def baroNoneRow : OpenClaim := { program := "ytoknlaknffpigaa", sum := "c1b2b6aee433463e68f6c358eb6e19340b453d2dd57b9ed591a0386ddcdabd10", func := "aneroid/aneroidlaw16.BaroNone", spec := "baroNone", apart := false }
def BaroNoneSaid : Prop := baroNoneRow.holds Try.pinned (OpenSpec.ofChange baroNoneSpec)

/-- ITS FALSE NEIGHBOUR: 'it returns false'. Refute it at one input. -/
def baroNoneWrong : ChangeSpec := { name := "baroNone", fn := fun _ => fun
  | [d1, d2, d3] => { results := [.lit (.bool false)], args := [d1, d2, d3] }
  | _ => none }
def BaroNoneWrongFalsely : Prop := baroNoneRow.holds Try.pinned (OpenSpec.ofChange baroNoneWrong)

/-- 'aneroidlaw16.BaroPlays': WHATEVER THE INPUT: true; the input reads as it did. -/
def baroPlaysSpec : ChangeSpec := { name := "baroPlays", fn := fun _ => fun
  | [d] => { results := [.lit (.bool true)], args := [d] }
  | _ => none }
def baroPlaysRow : OpenClaim := { program := "ytoknlaknffpigaa", sum := "c1b2b6aee433463e68f6c358eb6e19340b453d2dd57b9ed591a0386ddcdabd10", func := "aneroid/aneroidlaw16.BaroPlays", spec := "baroPlays", apart := false }
def BaroPlaysSaid : Prop := baroPlaysRow.holds Try.pinned (OpenSpec.ofChange baroPlaysSpec)

/-- ITS FALSE NEIGHBOUR: 'it returns false'. Refute it at one input. -/
def baroPlaysWrong : ChangeSpec := { name := "baroPlays", fn := fun _ => fun
  | [d] => { results := [.lit (.bool false)], args := [d] }
  | _ => none }
def BaroPlaysWrongFalsely : Prop := baroPlaysRow.holds Try.pinned (OpenSpec.ofChange baroPlaysWrong)

/-- 'aneroidlaw17.MeanPlays': WHATEVER THE INPUT: true; the input reads as it did. -/
def meanPlaysSpec : ChangeSpec := { name := "meanPlays", fn := fun _ => fun
  | [d] => { results := [.lit (.bool true)], args := [d] }
  | _ => none }
def meanPlaysRow : OpenClaim := { program := "ytoknlaknffpigaa", sum := "c1b2b6aee433463e68f6c358eb6e19340b453d2dd57b9ed591a0386ddcdabd10", func := "aneroid/aneroidlaw17.MeanPlays", spec := "meanPlays", apart := false }
def MeanPlaysSaid : Prop := meanPlaysRow.holds Try.pinned (OpenSpec.ofChange meanPlaysSpec)

/-- ITS FALSE NEIGHBOUR: 'it returns false'. Refute it at one input. -/
def meanPlaysWrong : ChangeSpec := { name := "meanPlays", fn := fun _ => fun
  | [d] => { results := [.lit (.bool false)], args := [d] }
  | _ => none }
def MeanPlaysWrongFalsely : Prop := meanPlaysRow.holds Try.pinned (OpenSpec.ofChange meanPlaysWrong)

/-- 'aneroidlaw19.ModeOn': WHATEVER THE INPUT: true; the input reads as it did. -/
def modeOnSpec : ChangeSpec := { name := "modeOn", fn := fun _ => fun
  | [d1, d2, d3] => { results := [.lit (.bool true)], args := [d1, d2, d3] }
  | _ => none }
def modeOnRow : OpenClaim := { program := "ytoknlaknffpigaa", sum := "c1b2b6aee433463e68f6c358eb6e19340b453d2dd57b9ed591a0386ddcdabd10", func := "aneroid/aneroidlaw19.ModeOn", spec := "modeOn", unfollowed := true, recurses := true, apart := false }
def ModeOnSaid : Prop := modeOnRow.holds Try.pinned (OpenSpec.ofChange modeOnSpec)

/-- ITS FALSE NEIGHBOUR: 'it returns false'. Refute it at one input. -/
def modeOnWrong : ChangeSpec := { name := "modeOn", fn := fun _ => fun
  | [d1, d2, d3] => { results := [.lit (.bool false)], args := [d1, d2, d3] }
  | _ => none }
def ModeOnWrongFalsely : Prop := modeOnRow.holds Try.pinned (OpenSpec.ofChange modeOnWrong)

/-- 'aneroidlaw19.ModeRuns': WHATEVER THE INPUT: true; the input reads as it did. -/
def modeRunsSpec : ChangeSpec := { name := "modeRuns", fn := fun _ => fun
  | [d1, d2, d3] => { results := [.lit (.bool true)], args := [d1, d2, d3] }
  | _ => none }
def modeRunsRow : OpenClaim := { program := "ytoknlaknffpigaa", sum := "c1b2b6aee433463e68f6c358eb6e19340b453d2dd57b9ed591a0386ddcdabd10", func := "aneroid/aneroidlaw19.ModeRuns", spec := "modeRuns", unfollowed := true, recurses := true, apart := false }
def ModeRunsSaid : Prop := modeRunsRow.holds Try.pinned (OpenSpec.ofChange modeRunsSpec)

/-- ITS FALSE NEIGHBOUR: 'it returns false'. Refute it at one input. -/
def modeRunsWrong : ChangeSpec := { name := "modeRuns", fn := fun _ => fun
  | [d1, d2, d3] => { results := [.lit (.bool false)], args := [d1, d2, d3] }
  | _ => none }
def ModeRunsWrongFalsely : Prop := modeRunsRow.holds Try.pinned (OpenSpec.ofChange modeRunsWrong)

/-- 'aneroidlaw19.ModeAgo': WHATEVER THE INPUT: true; the input reads as it did. -/
def modeAgoSpec : ChangeSpec := { name := "modeAgo", fn := fun _ => fun
  | [d1, d2, d3] => { results := [.lit (.bool true)], args := [d1, d2, d3] }
  | _ => none }
def modeAgoRow : OpenClaim := { program := "ytoknlaknffpigaa", sum := "c1b2b6aee433463e68f6c358eb6e19340b453d2dd57b9ed591a0386ddcdabd10", func := "aneroid/aneroidlaw19.ModeAgo", spec := "modeAgo", unfollowed := true, recurses := true, apart := false }
def ModeAgoSaid : Prop := modeAgoRow.holds Try.pinned (OpenSpec.ofChange modeAgoSpec)

/-- ITS FALSE NEIGHBOUR: 'it returns false'. Refute it at one input. -/
def modeAgoWrong : ChangeSpec := { name := "modeAgo", fn := fun _ => fun
  | [d1, d2, d3] => { results := [.lit (.bool false)], args := [d1, d2, d3] }
  | _ => none }
def ModeAgoWrongFalsely : Prop := modeAgoRow.holds Try.pinned (OpenSpec.ofChange modeAgoWrong)

/-- 'aneroidlaw21.TapeTold': WHATEVER THE INPUT: true; the input reads as it did. -/
def tapeToldSpec : ChangeSpec := { name := "tapeTold", fn := fun _ => fun
  | [d1, d2] => { results := [.lit (.bool true)], args := [d1, d2] }
  | _ => none }
def tapeToldRow : OpenClaim := { program := "ytoknlaknffpigaa", sum := "c1b2b6aee433463e68f6c358eb6e19340b453d2dd57b9ed591a0386ddcdabd10", func := "aneroid/aneroidlaw21.TapeTold", spec := "tapeTold", apart := false }
def TapeToldSaid : Prop := tapeToldRow.holds Try.pinned (OpenSpec.ofChange tapeToldSpec)

/-- ITS FALSE NEIGHBOUR: 'it returns false'. Refute it at one input. -/
def tapeToldWrong : ChangeSpec := { name := "tapeTold", fn := fun _ => fun
  | [d1, d2] => { results := [.lit (.bool false)], args := [d1, d2] }
  | _ => none }
def TapeToldWrongFalsely : Prop := tapeToldRow.holds Try.pinned (OpenSpec.ofChange tapeToldWrong)

/-- 'aneroidlaw21.TapePuts': WHATEVER THE INPUT: true; the input reads as it did. -/
def tapePutsSpec : ChangeSpec := { name := "tapePuts", fn := fun _ => fun
  | [d] => { results := [.lit (.bool true)], args := [d] }
  | _ => none }
def tapePutsRow : OpenClaim := { program := "ytoknlaknffpigaa", sum := "c1b2b6aee433463e68f6c358eb6e19340b453d2dd57b9ed591a0386ddcdabd10", func := "aneroid/aneroidlaw21.TapePuts", spec := "tapePuts", apart := false }
def TapePutsSaid : Prop := tapePutsRow.holds Try.pinned (OpenSpec.ofChange tapePutsSpec)

/-- ITS FALSE NEIGHBOUR: 'it returns false'. Refute it at one input. -/
def tapePutsWrong : ChangeSpec := { name := "tapePuts", fn := fun _ => fun
  | [d] => { results := [.lit (.bool false)], args := [d] }
  | _ => none }
def TapePutsWrongFalsely : Prop := tapePutsRow.holds Try.pinned (OpenSpec.ofChange tapePutsWrong)

/-- 'aneroidlaw21.TapeGets': WHATEVER THE INPUT: true; the input reads as it did. -/
def tapeGetsSpec : ChangeSpec := { name := "tapeGets", fn := fun _ => fun
  | [d] => { results := [.lit (.bool true)], args := [d] }
  | _ => none }
def tapeGetsRow : OpenClaim := { program := "ytoknlaknffpigaa", sum := "c1b2b6aee433463e68f6c358eb6e19340b453d2dd57b9ed591a0386ddcdabd10", func := "aneroid/aneroidlaw21.TapeGets", spec := "tapeGets", apart := false }
def TapeGetsSaid : Prop := tapeGetsRow.holds Try.pinned (OpenSpec.ofChange tapeGetsSpec)

/-- ITS FALSE NEIGHBOUR: 'it returns false'. Refute it at one input. -/
def tapeGetsWrong : ChangeSpec := { name := "tapeGets", fn := fun _ => fun
  | [d] => { results := [.lit (.bool false)], args := [d] }
  | _ => none }
def TapeGetsWrongFalsely : Prop := tapeGetsRow.holds Try.pinned (OpenSpec.ofChange tapeGetsWrong)

/-- 'aneroidlaw21.TapeParts': WHATEVER THE INPUT: true; the input reads as it did. -/
def tapePartsSpec : ChangeSpec := { name := "tapeParts", fn := fun _ => fun
  | [d1, d2, d3] => { results := [.lit (.bool true)], args := [d1, d2, d3] }
  | _ => none }
def tapePartsRow : OpenClaim := { program := "ytoknlaknffpigaa", sum := "c1b2b6aee433463e68f6c358eb6e19340b453d2dd57b9ed591a0386ddcdabd10", func := "aneroid/aneroidlaw21.TapeParts", spec := "tapeParts", apart := false }
def TapePartsSaid : Prop := tapePartsRow.holds Try.pinned (OpenSpec.ofChange tapePartsSpec)

/-- ITS FALSE NEIGHBOUR: 'it returns false'. Refute it at one input. -/
def tapePartsWrong : ChangeSpec := { name := "tapeParts", fn := fun _ => fun
  | [d1, d2, d3] => { results := [.lit (.bool false)], args := [d1, d2, d3] }
  | _ => none }
def TapePartsWrongFalsely : Prop := tapePartsRow.holds Try.pinned (OpenSpec.ofChange tapePartsWrong)

/- THE SECOND FORM. 'bulk': how many values and letters a reading holds, each counted each time it is reached (what is shared counts as often as it is met; a slice's spare places count too). A statement '..UptoSaid' is the law's where the arguments, and the package variables that the reading takes, are together of bulk at most 1048576: NARROWER than '..Said'. Prove '..Said' where nothing that the law and all that it calls make is longer than what came in: it says more and counts as full. Else prove '..UptoSaid'. A law counts once. -/
mutual
def uptoBulk {H : Type} : DataW H → Nat
  | .lit (.string bytes) => bytes.length + 1
  | .lit _ => 1
  | .nil => 1
  | .ptr d => uptoBulk d + 1
  | .slice elems spare => uptoBulkAll elems + uptoBulkAll spare + 1
  | .agg parts => uptoBulkAll parts + 1
  | .iface _ d => uptoBulk d + 1
  | .map entries => uptoBulkEntries entries + 1
  | .held _ => 1
def uptoBulkAll {H : Type} : List (DataW H) → Nat
  | [] => 0
  | d :: r => uptoBulk d + uptoBulkAll r
def uptoBulkEntries {H : Type} : List (Lit × DataW H) → Nat
  | [] => 0
  | x :: r => uptoBulkEntry x + uptoBulkEntries r
def uptoBulkEntry {H : Type} : Lit × DataW H → Nat
  | (.string bytes, d) => bytes.length + uptoBulk d + 1
  | (_, d) => uptoBulk d + 1
 end
def uptoSmall : (H : Type) → List (DataW H) → Bool := fun _ ds => decide (uptoBulkAll ds ≤ 1048576)
def OpenSpec.upto (s : _root_.Go.ChangeSpec) : _root_.Go.OpenSpec := { _root_.Go.OpenSpec.ofChange s with cond := some uptoSmall }

/-- 'aneroidlaw17.MeanOf', WHERE WHAT IT READS IS OF BULK AT MOST 1048576: true; the input reads as it did. -/
def meanOfUptoRow : OpenClaim := { program := "ytoknlaknffpigaa", sum := "c1b2b6aee433463e68f6c358eb6e19340b453d2dd57b9ed591a0386ddcdabd10", func := "aneroid/aneroidlaw17.MeanOf", spec := "meanOf", apart := false, narrowed := true }
def MeanOfUptoSaid : Prop := meanOfUptoRow.holds Try.pinned (OpenSpec.upto meanOfSpec)

/-- 'aneroidlaw17.MeanBetween', WHERE WHAT IT READS IS OF BULK AT MOST 1048576: true; the input reads as it did. -/
def meanBetweenUptoRow : OpenClaim := { program := "ytoknlaknffpigaa", sum := "c1b2b6aee433463e68f6c358eb6e19340b453d2dd57b9ed591a0386ddcdabd10", func := "aneroid/aneroidlaw17.MeanBetween", spec := "meanBetween", apart := false, narrowed := true }
def MeanBetweenUptoSaid : Prop := meanBetweenUptoRow.holds Try.pinned (OpenSpec.upto meanBetweenSpec)

/-- 'aneroidlaw16.BaroNone', WHERE WHAT IT READS IS OF BULK AT MOST 1048576: true; the input reads as it did. -/
def baroNoneUptoRow : OpenClaim := { program := "ytoknlaknffpigaa", sum := "c1b2b6aee433463e68f6c358eb6e19340b453d2dd57b9ed591a0386ddcdabd10", func := "aneroid/aneroidlaw16.BaroNone", spec := "baroNone", apart := false, narrowed := true }
def BaroNoneUptoSaid : Prop := baroNoneUptoRow.holds Try.pinned (OpenSpec.upto baroNoneSpec)

/-- 'aneroidlaw16.BaroPlays', WHERE WHAT IT READS IS OF BULK AT MOST 1048576: true; the input reads as it did. -/
def baroPlaysUptoRow : OpenClaim := { program := "ytoknlaknffpigaa", sum := "c1b2b6aee433463e68f6c358eb6e19340b453d2dd57b9ed591a0386ddcdabd10", func := "aneroid/aneroidlaw16.BaroPlays", spec := "baroPlays", apart := false, narrowed := true }
def BaroPlaysUptoSaid : Prop := baroPlaysUptoRow.holds Try.pinned (OpenSpec.upto baroPlaysSpec)

/-- 'aneroidlaw17.MeanPlays', WHERE WHAT IT READS IS OF BULK AT MOST 1048576: true; the input reads as it did. -/
def meanPlaysUptoRow : OpenClaim := { program := "ytoknlaknffpigaa", sum := "c1b2b6aee433463e68f6c358eb6e19340b453d2dd57b9ed591a0386ddcdabd10", func := "aneroid/aneroidlaw17.MeanPlays", spec := "meanPlays", apart := false, narrowed := true }
def MeanPlaysUptoSaid : Prop := meanPlaysUptoRow.holds Try.pinned (OpenSpec.upto meanPlaysSpec)

/-- 'aneroidlaw19.ModeOn', WHERE WHAT IT READS IS OF BULK AT MOST 1048576: true; the input reads as it did. -/
def modeOnUptoRow : OpenClaim := { program := "ytoknlaknffpigaa", sum := "c1b2b6aee433463e68f6c358eb6e19340b453d2dd57b9ed591a0386ddcdabd10", func := "aneroid/aneroidlaw19.ModeOn", spec := "modeOn", unfollowed := true, recurses := true, apart := false, narrowed := true }
def ModeOnUptoSaid : Prop := modeOnUptoRow.holds Try.pinned (OpenSpec.upto modeOnSpec)

/-- 'aneroidlaw19.ModeRuns', WHERE WHAT IT READS IS OF BULK AT MOST 1048576: true; the input reads as it did. -/
def modeRunsUptoRow : OpenClaim := { program := "ytoknlaknffpigaa", sum := "c1b2b6aee433463e68f6c358eb6e19340b453d2dd57b9ed591a0386ddcdabd10", func := "aneroid/aneroidlaw19.ModeRuns", spec := "modeRuns", unfollowed := true, recurses := true, apart := false, narrowed := true }
def ModeRunsUptoSaid : Prop := modeRunsUptoRow.holds Try.pinned (OpenSpec.upto modeRunsSpec)

/-- 'aneroidlaw19.ModeAgo', WHERE WHAT IT READS IS OF BULK AT MOST 1048576: true; the input reads as it did. -/
def modeAgoUptoRow : OpenClaim := { program := "ytoknlaknffpigaa", sum := "c1b2b6aee433463e68f6c358eb6e19340b453d2dd57b9ed591a0386ddcdabd10", func := "aneroid/aneroidlaw19.ModeAgo", spec := "modeAgo", unfollowed := true, recurses := true, apart := false, narrowed := true }
def ModeAgoUptoSaid : Prop := modeAgoUptoRow.holds Try.pinned (OpenSpec.upto modeAgoSpec)

/-- 'aneroidlaw21.TapeTold', WHERE WHAT IT READS IS OF BULK AT MOST 1048576: true; the input reads as it did. -/
def tapeToldUptoRow : OpenClaim := { program := "ytoknlaknffpigaa", sum := "c1b2b6aee433463e68f6c358eb6e19340b453d2dd57b9ed591a0386ddcdabd10", func := "aneroid/aneroidlaw21.TapeTold", spec := "tapeTold", apart := false, narrowed := true }
def TapeToldUptoSaid : Prop := tapeToldUptoRow.holds Try.pinned (OpenSpec.upto tapeToldSpec)

/-- 'aneroidlaw21.TapePuts', WHERE WHAT IT READS IS OF BULK AT MOST 1048576: true; the input reads as it did. -/
def tapePutsUptoRow : OpenClaim := { program := "ytoknlaknffpigaa", sum := "c1b2b6aee433463e68f6c358eb6e19340b453d2dd57b9ed591a0386ddcdabd10", func := "aneroid/aneroidlaw21.TapePuts", spec := "tapePuts", apart := false, narrowed := true }
def TapePutsUptoSaid : Prop := tapePutsUptoRow.holds Try.pinned (OpenSpec.upto tapePutsSpec)

/-- 'aneroidlaw21.TapeGets', WHERE WHAT IT READS IS OF BULK AT MOST 1048576: true; the input reads as it did. -/
def tapeGetsUptoRow : OpenClaim := { program := "ytoknlaknffpigaa", sum := "c1b2b6aee433463e68f6c358eb6e19340b453d2dd57b9ed591a0386ddcdabd10", func := "aneroid/aneroidlaw21.TapeGets", spec := "tapeGets", apart := false, narrowed := true }
def TapeGetsUptoSaid : Prop := tapeGetsUptoRow.holds Try.pinned (OpenSpec.upto tapeGetsSpec)

/-- 'aneroidlaw21.TapeParts', WHERE WHAT IT READS IS OF BULK AT MOST 1048576: true; the input reads as it did. -/
def tapePartsUptoRow : OpenClaim := { program := "ytoknlaknffpigaa", sum := "c1b2b6aee433463e68f6c358eb6e19340b453d2dd57b9ed591a0386ddcdabd10", func := "aneroid/aneroidlaw21.TapeParts", spec := "tapeParts", apart := false, narrowed := true }
def TapePartsUptoSaid : Prop := tapePartsUptoRow.holds Try.pinned (OpenSpec.upto tapePartsSpec)

end Rows
end Go.Proofs.Ytoknlaknffpigaa
