/-
  No cell of these rows narrows 'for every input' (looked for: loops, veiled, ifaces, maps, wideKeys, modest, calm, conditions, laid).
  DERIVED. THE GIVEN ROWS OF THIS SEAT. 28 by the template 'for every input the law returns true; each argument reads behind the call as it read before'; 0 by the template 'total and deterministic' (their statements: YtchaegfdcdlfaaaTotals.lean).
  GIVEN WITH THE SEED: the statements are not yours to turn. If you find one false, say at which input.
  Laid BY PROGRAM, IN A SANDBOX (cutbox-rows.mjs): the forced cells as the released guide's own fill.sh prints them over the translation 76890eea1667ecd2… (all of the seat's roots in one cut). By AI agents, Wed Nov 11 2026. No macro, syntax, notation, axiom, sorry.
-/
import Derived.Test.YtchaegfdcdlfaaaChecked
import GoSem.Claim
import GoSem.ClaimJoined
import GoSem.ClaimMapViews
import Derived.JoinedTies
import Derived.KernelRfl
namespace Go.Proofs.Ytchaegfdcdlfaaa
/- THE CELL 'sum', in the pinned program and in every row, IS THE sha256 OF THE DUMP (.gsa) THAT YtchaegfdcdlfaaaProg.lean LOADS. Nothing in Lean hashes anything: it is a label: what it is worth is what the hold of that sum in a sandbox is worth. -/
noncomputable def Try.pinned : Pinned := { name := "ytchaegfdcdlfaaa", sum := "76890eea1667ecd270be75e55babdbaa1c2425a3a633abfcaabfe9c7e6b272f9", checked := Try.checked }
namespace Rows
def none {H : Type} : Left H := { results := [], args := [] }

/-- 'rolodexlaw10.SignTells': WHATEVER THE INPUT: true; the input reads as it did. -/
def signTellsSpec : ChangeSpec := { name := "signTells", fn := fun _ => fun
  | [d1, d2, d3] => { results := [.lit (.bool true)], args := [d1, d2, d3] }
  | _ => none }
def signTellsRow : OpenClaim := { program := "ytchaegfdcdlfaaa", sum := "76890eea1667ecd270be75e55babdbaa1c2425a3a633abfcaabfe9c7e6b272f9", func := "rolodex/rolodexlaw10.SignTells", spec := "signTells", plainKeys := false, apart := false }
def SignTellsSaid : Prop := signTellsRow.holds Try.pinned (OpenSpec.ofChange signTellsSpec)

/-- ITS FALSE NEIGHBOUR: 'it returns false'. Refute it at one input. -/
def signTellsWrong : ChangeSpec := { name := "signTells", fn := fun _ => fun
  | [d1, d2, d3] => { results := [.lit (.bool false)], args := [d1, d2, d3] }
  | _ => none }
def SignTellsWrongFalsely : Prop := signTellsRow.holds Try.pinned (OpenSpec.ofChange signTellsWrong)

/-- 'rolodexlaw10.SignFinds': WHATEVER THE INPUT: true; the input reads as it did. -/
def signFindsSpec : ChangeSpec := { name := "signFinds", fn := fun _ => fun
  | [d1, d2] => { results := [.lit (.bool true)], args := [d1, d2] }
  | _ => none }
def signFindsRow : OpenClaim := { program := "ytchaegfdcdlfaaa", sum := "76890eea1667ecd270be75e55babdbaa1c2425a3a633abfcaabfe9c7e6b272f9", func := "rolodex/rolodexlaw10.SignFinds", spec := "signFinds", plainKeys := false, apart := false }
def SignFindsSaid : Prop := signFindsRow.holds Try.pinned (OpenSpec.ofChange signFindsSpec)

/-- ITS FALSE NEIGHBOUR: 'it returns false'. Refute it at one input. -/
def signFindsWrong : ChangeSpec := { name := "signFinds", fn := fun _ => fun
  | [d1, d2] => { results := [.lit (.bool false)], args := [d1, d2] }
  | _ => none }
def SignFindsWrongFalsely : Prop := signFindsRow.holds Try.pinned (OpenSpec.ofChange signFindsWrong)

/-- 'rolodexlaw10.SignMany': WHATEVER THE INPUT: true; the input reads as it did. -/
def signManySpec : ChangeSpec := { name := "signMany", fn := fun _ => fun
  | [d] => { results := [.lit (.bool true)], args := [d] }
  | _ => none }
def signManyRow : OpenClaim := { program := "ytchaegfdcdlfaaa", sum := "76890eea1667ecd270be75e55babdbaa1c2425a3a633abfcaabfe9c7e6b272f9", func := "rolodex/rolodexlaw10.SignMany", spec := "signMany", plainKeys := false, apart := false }
def SignManySaid : Prop := signManyRow.holds Try.pinned (OpenSpec.ofChange signManySpec)

/-- ITS FALSE NEIGHBOUR: 'it returns false'. Refute it at one input. -/
def signManyWrong : ChangeSpec := { name := "signMany", fn := fun _ => fun
  | [d] => { results := [.lit (.bool false)], args := [d] }
  | _ => none }
def SignManyWrongFalsely : Prop := signManyRow.holds Try.pinned (OpenSpec.ofChange signManyWrong)

/-- 'rolodexlaw10.SignNone': WHATEVER THE INPUT: true; the input reads as it did. -/
def signNoneSpec : ChangeSpec := { name := "signNone", fn := fun _ => fun
  | [d1, d2] => { results := [.lit (.bool true)], args := [d1, d2] }
  | _ => none }
def signNoneRow : OpenClaim := { program := "ytchaegfdcdlfaaa", sum := "76890eea1667ecd270be75e55babdbaa1c2425a3a633abfcaabfe9c7e6b272f9", func := "rolodex/rolodexlaw10.SignNone", spec := "signNone", plainKeys := false, apart := false }
def SignNoneSaid : Prop := signNoneRow.holds Try.pinned (OpenSpec.ofChange signNoneSpec)

/-- ITS FALSE NEIGHBOUR: 'it returns false'. Refute it at one input. -/
def signNoneWrong : ChangeSpec := { name := "signNone", fn := fun _ => fun
  | [d1, d2] => { results := [.lit (.bool false)], args := [d1, d2] }
  | _ => none }
def SignNoneWrongFalsely : Prop := signNoneRow.holds Try.pinned (OpenSpec.ofChange signNoneWrong)

/-- 'rolodexlaw10.SignJoin': WHATEVER THE INPUT: true; the input reads as it did. -/
def signJoinSpec : ChangeSpec := { name := "signJoin", fn := fun _ => fun
  | [d1, d2] => { results := [.lit (.bool true)], args := [d1, d2] }
  | _ => none }
def signJoinRow : OpenClaim := { program := "ytchaegfdcdlfaaa", sum := "76890eea1667ecd270be75e55babdbaa1c2425a3a633abfcaabfe9c7e6b272f9", func := "rolodex/rolodexlaw10.SignJoin", spec := "signJoin", plainKeys := false, apart := false }
def SignJoinSaid : Prop := signJoinRow.holds Try.pinned (OpenSpec.ofChange signJoinSpec)

/-- ITS FALSE NEIGHBOUR: 'it returns false'. Refute it at one input. -/
def signJoinWrong : ChangeSpec := { name := "signJoin", fn := fun _ => fun
  | [d1, d2] => { results := [.lit (.bool false)], args := [d1, d2] }
  | _ => none }
def SignJoinWrongFalsely : Prop := signJoinRow.holds Try.pinned (OpenSpec.ofChange signJoinWrong)

/-- 'rolodexlaw02.SectionTells': WHATEVER THE INPUT: true; the input reads as it did. -/
def sectionTellsSpec : ChangeSpec := { name := "sectionTells", fn := fun _ => fun
  | [d1, d2] => { results := [.lit (.bool true)], args := [d1, d2] }
  | _ => none }
def sectionTellsRow : OpenClaim := { program := "ytchaegfdcdlfaaa", sum := "76890eea1667ecd270be75e55babdbaa1c2425a3a633abfcaabfe9c7e6b272f9", func := "rolodex/rolodexlaw02.SectionTells", spec := "sectionTells", unfollowed := true, recurses := true, plainKeys := false, apart := false }
def SectionTellsSaid : Prop := sectionTellsRow.holds Try.pinned (OpenSpec.ofChange sectionTellsSpec)

/-- ITS FALSE NEIGHBOUR: 'it returns false'. Refute it at one input. -/
def sectionTellsWrong : ChangeSpec := { name := "sectionTells", fn := fun _ => fun
  | [d1, d2] => { results := [.lit (.bool false)], args := [d1, d2] }
  | _ => none }
def SectionTellsWrongFalsely : Prop := sectionTellsRow.holds Try.pinned (OpenSpec.ofChange sectionTellsWrong)

/-- 'rolodexlaw02.SectionBack': WHATEVER THE INPUT: true; the input reads as it did. -/
def sectionBackSpec : ChangeSpec := { name := "sectionBack", fn := fun _ => fun
  | [d1, d2, d3] => { results := [.lit (.bool true)], args := [d1, d2, d3] }
  | _ => none }
def sectionBackRow : OpenClaim := { program := "ytchaegfdcdlfaaa", sum := "76890eea1667ecd270be75e55babdbaa1c2425a3a633abfcaabfe9c7e6b272f9", func := "rolodex/rolodexlaw02.SectionBack", spec := "sectionBack", unfollowed := true, recurses := true, plainKeys := false, apart := false }
def SectionBackSaid : Prop := sectionBackRow.holds Try.pinned (OpenSpec.ofChange sectionBackSpec)

/-- ITS FALSE NEIGHBOUR: 'it returns false'. Refute it at one input. -/
def sectionBackWrong : ChangeSpec := { name := "sectionBack", fn := fun _ => fun
  | [d1, d2, d3] => { results := [.lit (.bool false)], args := [d1, d2, d3] }
  | _ => none }
def SectionBackWrongFalsely : Prop := sectionBackRow.holds Try.pinned (OpenSpec.ofChange sectionBackWrong)

/-- 'rolodexlaw02.SectionOne': WHATEVER THE INPUT: true; the input reads as it did. -/
def sectionOneSpec : ChangeSpec := { name := "sectionOne", fn := fun _ => fun
  | [d1, d2, d3, d4] => { results := [.lit (.bool true)], args := [d1, d2, d3, d4] }
  | _ => none }
def sectionOneRow : OpenClaim := { program := "ytchaegfdcdlfaaa", sum := "76890eea1667ecd270be75e55babdbaa1c2425a3a633abfcaabfe9c7e6b272f9", func := "rolodex/rolodexlaw02.SectionOne", spec := "sectionOne", unfollowed := true, recurses := true, plainKeys := false, apart := false }
def SectionOneSaid : Prop := sectionOneRow.holds Try.pinned (OpenSpec.ofChange sectionOneSpec)

/-- ITS FALSE NEIGHBOUR: 'it returns false'. Refute it at one input. -/
def sectionOneWrong : ChangeSpec := { name := "sectionOne", fn := fun _ => fun
  | [d1, d2, d3, d4] => { results := [.lit (.bool false)], args := [d1, d2, d3, d4] }
  | _ => none }
def SectionOneWrongFalsely : Prop := sectionOneRow.holds Try.pinned (OpenSpec.ofChange sectionOneWrong)

/-- 'rolodexlaw02.SectionCut': WHATEVER THE INPUT: true; the input reads as it did. -/
def sectionCutSpec : ChangeSpec := { name := "sectionCut", fn := fun _ => fun
  | [d1, d2, d3] => { results := [.lit (.bool true)], args := [d1, d2, d3] }
  | _ => none }
def sectionCutRow : OpenClaim := { program := "ytchaegfdcdlfaaa", sum := "76890eea1667ecd270be75e55babdbaa1c2425a3a633abfcaabfe9c7e6b272f9", func := "rolodex/rolodexlaw02.SectionCut", spec := "sectionCut", unfollowed := true, recurses := true, plainKeys := false, apart := false }
def SectionCutSaid : Prop := sectionCutRow.holds Try.pinned (OpenSpec.ofChange sectionCutSpec)

/-- ITS FALSE NEIGHBOUR: 'it returns false'. Refute it at one input. -/
def sectionCutWrong : ChangeSpec := { name := "sectionCut", fn := fun _ => fun
  | [d1, d2, d3] => { results := [.lit (.bool false)], args := [d1, d2, d3] }
  | _ => none }
def SectionCutWrongFalsely : Prop := sectionCutRow.holds Try.pinned (OpenSpec.ofChange sectionCutWrong)

/-- 'rolodexlaw02.SectionSums': WHATEVER THE INPUT: true; the input reads as it did. -/
def sectionSumsSpec : ChangeSpec := { name := "sectionSums", fn := fun _ => fun
  | [d1, d2, d3, d4, d5] => { results := [.lit (.bool true)], args := [d1, d2, d3, d4, d5] }
  | _ => none }
def sectionSumsRow : OpenClaim := { program := "ytchaegfdcdlfaaa", sum := "76890eea1667ecd270be75e55babdbaa1c2425a3a633abfcaabfe9c7e6b272f9", func := "rolodex/rolodexlaw02.SectionSums", spec := "sectionSums", unfollowed := true, recurses := true, plainKeys := false, apart := false }
def SectionSumsSaid : Prop := sectionSumsRow.holds Try.pinned (OpenSpec.ofChange sectionSumsSpec)

/-- ITS FALSE NEIGHBOUR: 'it returns false'. Refute it at one input. -/
def sectionSumsWrong : ChangeSpec := { name := "sectionSums", fn := fun _ => fun
  | [d1, d2, d3, d4, d5] => { results := [.lit (.bool false)], args := [d1, d2, d3, d4, d5] }
  | _ => none }
def SectionSumsWrongFalsely : Prop := sectionSumsRow.holds Try.pinned (OpenSpec.ofChange sectionSumsWrong)

/-- 'rolodexlaw02.SectionParts': WHATEVER THE INPUT: true; the input reads as it did. -/
def sectionPartsSpec : ChangeSpec := { name := "sectionParts", fn := fun _ => fun
  | [d1, d2] => { results := [.lit (.bool true)], args := [d1, d2] }
  | _ => none }
def sectionPartsRow : OpenClaim := { program := "ytchaegfdcdlfaaa", sum := "76890eea1667ecd270be75e55babdbaa1c2425a3a633abfcaabfe9c7e6b272f9", func := "rolodex/rolodexlaw02.SectionParts", spec := "sectionParts", unfollowed := true, recurses := true, plainKeys := false, apart := false }
def SectionPartsSaid : Prop := sectionPartsRow.holds Try.pinned (OpenSpec.ofChange sectionPartsSpec)

/-- ITS FALSE NEIGHBOUR: 'it returns false'. Refute it at one input. -/
def sectionPartsWrong : ChangeSpec := { name := "sectionParts", fn := fun _ => fun
  | [d1, d2] => { results := [.lit (.bool false)], args := [d1, d2] }
  | _ => none }
def SectionPartsWrongFalsely : Prop := sectionPartsRow.holds Try.pinned (OpenSpec.ofChange sectionPartsWrong)

/-- 'rolodexlaw02.SectionLong': WHATEVER THE INPUT: true; the input reads as it did. -/
def sectionLongSpec : ChangeSpec := { name := "sectionLong", fn := fun _ => fun
  | [d1, d2] => { results := [.lit (.bool true)], args := [d1, d2] }
  | _ => none }
def sectionLongRow : OpenClaim := { program := "ytchaegfdcdlfaaa", sum := "76890eea1667ecd270be75e55babdbaa1c2425a3a633abfcaabfe9c7e6b272f9", func := "rolodex/rolodexlaw02.SectionLong", spec := "sectionLong", unfollowed := true, recurses := true, plainKeys := false, apart := false }
def SectionLongSaid : Prop := sectionLongRow.holds Try.pinned (OpenSpec.ofChange sectionLongSpec)

/-- ITS FALSE NEIGHBOUR: 'it returns false'. Refute it at one input. -/
def sectionLongWrong : ChangeSpec := { name := "sectionLong", fn := fun _ => fun
  | [d1, d2] => { results := [.lit (.bool false)], args := [d1, d2] }
  | _ => none }
def SectionLongWrongFalsely : Prop := sectionLongRow.holds Try.pinned (OpenSpec.ofChange sectionLongWrong)

/-- 'rolodexlaw11.DeltaBytes': WHATEVER THE INPUT: true; the input reads as it did. -/
def deltaBytesSpec : ChangeSpec := { name := "deltaBytes", fn := fun _ => fun
  | [d1, d2] => { results := [.lit (.bool true)], args := [d1, d2] }
  | _ => none }
def deltaBytesRow : OpenClaim := { program := "ytchaegfdcdlfaaa", sum := "76890eea1667ecd270be75e55babdbaa1c2425a3a633abfcaabfe9c7e6b272f9", func := "rolodex/rolodexlaw11.DeltaBytes", spec := "deltaBytes", inPlace := ["internal/abi.NoEscape"], unfollowed := true, recurses := true, plainKeys := false, apart := false }
def DeltaBytesSaid : Prop := deltaBytesRow.holds Try.pinned (OpenSpec.ofChange deltaBytesSpec)

/-- ITS FALSE NEIGHBOUR: 'it returns false'. Refute it at one input. -/
def deltaBytesWrong : ChangeSpec := { name := "deltaBytes", fn := fun _ => fun
  | [d1, d2] => { results := [.lit (.bool false)], args := [d1, d2] }
  | _ => none }
def DeltaBytesWrongFalsely : Prop := deltaBytesRow.holds Try.pinned (OpenSpec.ofChange deltaBytesWrong)

/-- 'rolodexlaw11.DeltaMakes': WHATEVER THE INPUT: true; the input reads as it did. -/
def deltaMakesSpec : ChangeSpec := { name := "deltaMakes", fn := fun _ => fun
  | [d1, d2] => { results := [.lit (.bool true)], args := [d1, d2] }
  | _ => none }
def deltaMakesRow : OpenClaim := { program := "ytchaegfdcdlfaaa", sum := "76890eea1667ecd270be75e55babdbaa1c2425a3a633abfcaabfe9c7e6b272f9", func := "rolodex/rolodexlaw11.DeltaMakes", spec := "deltaMakes", inPlace := ["internal/abi.NoEscape"], unfollowed := true, recurses := true, plainKeys := false, apart := false }
def DeltaMakesSaid : Prop := deltaMakesRow.holds Try.pinned (OpenSpec.ofChange deltaMakesSpec)

/-- ITS FALSE NEIGHBOUR: 'it returns false'. Refute it at one input. -/
def deltaMakesWrong : ChangeSpec := { name := "deltaMakes", fn := fun _ => fun
  | [d1, d2] => { results := [.lit (.bool false)], args := [d1, d2] }
  | _ => none }
def DeltaMakesWrongFalsely : Prop := deltaMakesRow.holds Try.pinned (OpenSpec.ofChange deltaMakesWrong)

/-- 'rolodexlaw11.DeltaParts': WHATEVER THE INPUT: true; the input reads as it did. -/
def deltaPartsSpec : ChangeSpec := { name := "deltaParts", fn := fun _ => fun
  | [d1, d2, d3] => { results := [.lit (.bool true)], args := [d1, d2, d3] }
  | _ => none }
def deltaPartsRow : OpenClaim := { program := "ytchaegfdcdlfaaa", sum := "76890eea1667ecd270be75e55babdbaa1c2425a3a633abfcaabfe9c7e6b272f9", func := "rolodex/rolodexlaw11.DeltaParts", spec := "deltaParts", inPlace := ["internal/abi.NoEscape"], unfollowed := true, recurses := true, plainKeys := false, apart := false }
def DeltaPartsSaid : Prop := deltaPartsRow.holds Try.pinned (OpenSpec.ofChange deltaPartsSpec)

/-- ITS FALSE NEIGHBOUR: 'it returns false'. Refute it at one input. -/
def deltaPartsWrong : ChangeSpec := { name := "deltaParts", fn := fun _ => fun
  | [d1, d2, d3] => { results := [.lit (.bool false)], args := [d1, d2, d3] }
  | _ => none }
def DeltaPartsWrongFalsely : Prop := deltaPartsRow.holds Try.pinned (OpenSpec.ofChange deltaPartsWrong)

/-- 'rolodexlaw11.DeltaOwn': WHATEVER THE INPUT: true; the input reads as it did. -/
def deltaOwnSpec : ChangeSpec := { name := "deltaOwn", fn := fun _ => fun
  | [d] => { results := [.lit (.bool true)], args := [d] }
  | _ => none }
def deltaOwnRow : OpenClaim := { program := "ytchaegfdcdlfaaa", sum := "76890eea1667ecd270be75e55babdbaa1c2425a3a633abfcaabfe9c7e6b272f9", func := "rolodex/rolodexlaw11.DeltaOwn", spec := "deltaOwn", inPlace := ["internal/abi.NoEscape"], unfollowed := true, recurses := true, plainKeys := false, apart := false }
def DeltaOwnSaid : Prop := deltaOwnRow.holds Try.pinned (OpenSpec.ofChange deltaOwnSpec)

/-- ITS FALSE NEIGHBOUR: 'it returns false'. Refute it at one input. -/
def deltaOwnWrong : ChangeSpec := { name := "deltaOwn", fn := fun _ => fun
  | [d] => { results := [.lit (.bool false)], args := [d] }
  | _ => none }
def DeltaOwnWrongFalsely : Prop := deltaOwnRow.holds Try.pinned (OpenSpec.ofChange deltaOwnWrong)

/-- 'rolodexlaw11.DeltaLeast': WHATEVER THE INPUT: true; the input reads as it did. -/
def deltaLeastSpec : ChangeSpec := { name := "deltaLeast", fn := fun _ => fun
  | [d1, d2] => { results := [.lit (.bool true)], args := [d1, d2] }
  | _ => none }
def deltaLeastRow : OpenClaim := { program := "ytchaegfdcdlfaaa", sum := "76890eea1667ecd270be75e55babdbaa1c2425a3a633abfcaabfe9c7e6b272f9", func := "rolodex/rolodexlaw11.DeltaLeast", spec := "deltaLeast", inPlace := ["internal/abi.NoEscape"], unfollowed := true, recurses := true, plainKeys := false, apart := false }
def DeltaLeastSaid : Prop := deltaLeastRow.holds Try.pinned (OpenSpec.ofChange deltaLeastSpec)

/-- ITS FALSE NEIGHBOUR: 'it returns false'. Refute it at one input. -/
def deltaLeastWrong : ChangeSpec := { name := "deltaLeast", fn := fun _ => fun
  | [d1, d2] => { results := [.lit (.bool false)], args := [d1, d2] }
  | _ => none }
def DeltaLeastWrongFalsely : Prop := deltaLeastRow.holds Try.pinned (OpenSpec.ofChange deltaLeastWrong)

/-- 'rolodexlaw11.DeltaNone': WHATEVER THE INPUT: true; the input reads as it did. -/
def deltaNoneSpec : ChangeSpec := { name := "deltaNone", fn := fun _ => fun
  | [d1, d2] => { results := [.lit (.bool true)], args := [d1, d2] }
  | _ => none }
def deltaNoneRow : OpenClaim := { program := "ytchaegfdcdlfaaa", sum := "76890eea1667ecd270be75e55babdbaa1c2425a3a633abfcaabfe9c7e6b272f9", func := "rolodex/rolodexlaw11.DeltaNone", spec := "deltaNone", inPlace := ["internal/abi.NoEscape"], unfollowed := true, recurses := true, plainKeys := false, apart := false }
def DeltaNoneSaid : Prop := deltaNoneRow.holds Try.pinned (OpenSpec.ofChange deltaNoneSpec)

/-- ITS FALSE NEIGHBOUR: 'it returns false'. Refute it at one input. -/
def deltaNoneWrong : ChangeSpec := { name := "deltaNone", fn := fun _ => fun
  | [d1, d2] => { results := [.lit (.bool false)], args := [d1, d2] }
  | _ => none }
def DeltaNoneWrongFalsely : Prop := deltaNoneRow.holds Try.pinned (OpenSpec.ofChange deltaNoneWrong)

/-- 'rolodexlaw11.DeltaTells': WHATEVER THE INPUT: true; the input reads as it did. -/
def deltaTellsSpec : ChangeSpec := { name := "deltaTells", fn := fun _ => fun
  | [d1, d2, d3, d4, d5] => { results := [.lit (.bool true)], args := [d1, d2, d3, d4, d5] }
  | _ => none }
def deltaTellsRow : OpenClaim := { program := "ytchaegfdcdlfaaa", sum := "76890eea1667ecd270be75e55babdbaa1c2425a3a633abfcaabfe9c7e6b272f9", func := "rolodex/rolodexlaw11.DeltaTells", spec := "deltaTells", inPlace := ["internal/abi.NoEscape"], unfollowed := true, recurses := true, plainKeys := false, apart := false }
def DeltaTellsSaid : Prop := deltaTellsRow.holds Try.pinned (OpenSpec.ofChange deltaTellsSpec)

/-- ITS FALSE NEIGHBOUR: 'it returns false'. Refute it at one input. -/
def deltaTellsWrong : ChangeSpec := { name := "deltaTells", fn := fun _ => fun
  | [d1, d2, d3, d4, d5] => { results := [.lit (.bool false)], args := [d1, d2, d3, d4, d5] }
  | _ => none }
def DeltaTellsWrongFalsely : Prop := deltaTellsRow.holds Try.pinned (OpenSpec.ofChange deltaTellsWrong)

/-- 'rolodexlaw11.DeltaBack': WHATEVER THE INPUT: true; the input reads as it did. -/
def deltaBackSpec : ChangeSpec := { name := "deltaBack", fn := fun _ => fun
  | [d1, d2] => { results := [.lit (.bool true)], args := [d1, d2] }
  | _ => none }
def deltaBackRow : OpenClaim := { program := "ytchaegfdcdlfaaa", sum := "76890eea1667ecd270be75e55babdbaa1c2425a3a633abfcaabfe9c7e6b272f9", func := "rolodex/rolodexlaw11.DeltaBack", spec := "deltaBack", inPlace := ["internal/abi.NoEscape"], unfollowed := true, recurses := true, plainKeys := false, apart := false }
def DeltaBackSaid : Prop := deltaBackRow.holds Try.pinned (OpenSpec.ofChange deltaBackSpec)

/-- ITS FALSE NEIGHBOUR: 'it returns false'. Refute it at one input. -/
def deltaBackWrong : ChangeSpec := { name := "deltaBack", fn := fun _ => fun
  | [d1, d2] => { results := [.lit (.bool false)], args := [d1, d2] }
  | _ => none }
def DeltaBackWrongFalsely : Prop := deltaBackRow.holds Try.pinned (OpenSpec.ofChange deltaBackWrong)

/-- 'rolodexlaw13.ManicBack': WHATEVER THE INPUT: true; the input reads as it did. -/
def manicBackSpec : ChangeSpec := { name := "manicBack", fn := fun _ => fun
  | [d1, d2] => { results := [.lit (.bool true)], args := [d1, d2] }
  | _ => none }
def manicBackRow : OpenClaim := { program := "ytchaegfdcdlfaaa", sum := "76890eea1667ecd270be75e55babdbaa1c2425a3a633abfcaabfe9c7e6b272f9", func := "rolodex/rolodexlaw13.ManicBack", spec := "manicBack", inPlace := ["internal/bytealg.Compare"], unfollowed := true, recurses := true, plainKeys := false, apart := false }
def ManicBackSaid : Prop := manicBackRow.holds Try.pinned (OpenSpec.ofChange manicBackSpec)

/-- ITS FALSE NEIGHBOUR: 'it returns false'. Refute it at one input. -/
def manicBackWrong : ChangeSpec := { name := "manicBack", fn := fun _ => fun
  | [d1, d2] => { results := [.lit (.bool false)], args := [d1, d2] }
  | _ => none }
def ManicBackWrongFalsely : Prop := manicBackRow.holds Try.pinned (OpenSpec.ofChange manicBackWrong)

/-- 'rolodexlaw13.ManicChanged': WHATEVER THE INPUT: true; the input reads as it did. -/
def manicChangedSpec : ChangeSpec := { name := "manicChanged", fn := fun _ => fun
  | [d1, d2, d3] => { results := [.lit (.bool true)], args := [d1, d2, d3] }
  | _ => none }
def manicChangedRow : OpenClaim := { program := "ytchaegfdcdlfaaa", sum := "76890eea1667ecd270be75e55babdbaa1c2425a3a633abfcaabfe9c7e6b272f9", func := "rolodex/rolodexlaw13.ManicChanged", spec := "manicChanged", inPlace := ["internal/bytealg.Compare"], unfollowed := true, recurses := true, plainKeys := false, apart := false }
def ManicChangedSaid : Prop := manicChangedRow.holds Try.pinned (OpenSpec.ofChange manicChangedSpec)

/-- ITS FALSE NEIGHBOUR: 'it returns false'. Refute it at one input. -/
def manicChangedWrong : ChangeSpec := { name := "manicChanged", fn := fun _ => fun
  | [d1, d2, d3] => { results := [.lit (.bool false)], args := [d1, d2, d3] }
  | _ => none }
def ManicChangedWrongFalsely : Prop := manicChangedRow.holds Try.pinned (OpenSpec.ofChange manicChangedWrong)

/-- 'rolodexlaw13.ManicAlone': WHATEVER THE INPUT: true; the input reads as it did. -/
def manicAloneSpec : ChangeSpec := { name := "manicAlone", fn := fun _ => fun
  | [d1, d2] => { results := [.lit (.bool true)], args := [d1, d2] }
  | _ => none }
def manicAloneRow : OpenClaim := { program := "ytchaegfdcdlfaaa", sum := "76890eea1667ecd270be75e55babdbaa1c2425a3a633abfcaabfe9c7e6b272f9", func := "rolodex/rolodexlaw13.ManicAlone", spec := "manicAlone", inPlace := ["internal/bytealg.Compare"], unfollowed := true, recurses := true, plainKeys := false, apart := false }
def ManicAloneSaid : Prop := manicAloneRow.holds Try.pinned (OpenSpec.ofChange manicAloneSpec)

/-- ITS FALSE NEIGHBOUR: 'it returns false'. Refute it at one input. -/
def manicAloneWrong : ChangeSpec := { name := "manicAlone", fn := fun _ => fun
  | [d1, d2] => { results := [.lit (.bool false)], args := [d1, d2] }
  | _ => none }
def ManicAloneWrongFalsely : Prop := manicAloneRow.holds Try.pinned (OpenSpec.ofChange manicAloneWrong)

/-- 'rolodexlaw18.CodeBack': WHATEVER THE INPUT: true; the input reads as it did. -/
def codeBackSpec : ChangeSpec := { name := "codeBack", fn := fun _ => fun
  | [d1, d2] => { results := [.lit (.bool true)], args := [d1, d2] }
  | _ => none }
def codeBackRow : OpenClaim := { program := "ytchaegfdcdlfaaa", sum := "76890eea1667ecd270be75e55babdbaa1c2425a3a633abfcaabfe9c7e6b272f9", func := "rolodex/rolodexlaw18.CodeBack", spec := "codeBack", unfollowed := true, recurses := true, plainKeys := false, apart := false }
def CodeBackSaid : Prop := codeBackRow.holds Try.pinned (OpenSpec.ofChange codeBackSpec)

/-- ITS FALSE NEIGHBOUR: 'it returns false'. Refute it at one input. -/
def codeBackWrong : ChangeSpec := { name := "codeBack", fn := fun _ => fun
  | [d1, d2] => { results := [.lit (.bool false)], args := [d1, d2] }
  | _ => none }
def CodeBackWrongFalsely : Prop := codeBackRow.holds Try.pinned (OpenSpec.ofChange codeBackWrong)

/-- 'rolodexlaw18.CodeChanged': WHATEVER THE INPUT: true; the input reads as it did. -/
def codeChangedSpec : ChangeSpec := { name := "codeChanged", fn := fun _ => fun
  | [d1, d2, d3] => { results := [.lit (.bool true)], args := [d1, d2, d3] }
  | _ => none }
def codeChangedRow : OpenClaim := { program := "ytchaegfdcdlfaaa", sum := "76890eea1667ecd270be75e55babdbaa1c2425a3a633abfcaabfe9c7e6b272f9", func := "rolodex/rolodexlaw18.CodeChanged", spec := "codeChanged", unfollowed := true, recurses := true, plainKeys := false, apart := false }
def CodeChangedSaid : Prop := codeChangedRow.holds Try.pinned (OpenSpec.ofChange codeChangedSpec)

/-- ITS FALSE NEIGHBOUR: 'it returns false'. Refute it at one input. -/
def codeChangedWrong : ChangeSpec := { name := "codeChanged", fn := fun _ => fun
  | [d1, d2, d3] => { results := [.lit (.bool false)], args := [d1, d2, d3] }
  | _ => none }
def CodeChangedWrongFalsely : Prop := codeChangedRow.holds Try.pinned (OpenSpec.ofChange codeChangedWrong)

/-- 'rolodexlaw18.CodeDict': WHATEVER THE INPUT: true; the input reads as it did. -/
def codeDictSpec : ChangeSpec := { name := "codeDict", fn := fun _ => fun
  | [d] => { results := [.lit (.bool true)], args := [d] }
  | _ => none }
def codeDictRow : OpenClaim := { program := "ytchaegfdcdlfaaa", sum := "76890eea1667ecd270be75e55babdbaa1c2425a3a633abfcaabfe9c7e6b272f9", func := "rolodex/rolodexlaw18.CodeDict", spec := "codeDict", unfollowed := true, recurses := true, plainKeys := false, apart := false }
def CodeDictSaid : Prop := codeDictRow.holds Try.pinned (OpenSpec.ofChange codeDictSpec)

/-- ITS FALSE NEIGHBOUR: 'it returns false'. Refute it at one input. -/
def codeDictWrong : ChangeSpec := { name := "codeDict", fn := fun _ => fun
  | [d] => { results := [.lit (.bool false)], args := [d] }
  | _ => none }
def CodeDictWrongFalsely : Prop := codeDictRow.holds Try.pinned (OpenSpec.ofChange codeDictWrong)

/-- 'rolodexlaw18.CodeBatch': WHATEVER THE INPUT: true; the input reads as it did. -/
def codeBatchSpec : ChangeSpec := { name := "codeBatch", fn := fun _ => fun
  | [d1, d2] => { results := [.lit (.bool true)], args := [d1, d2] }
  | _ => none }
def codeBatchRow : OpenClaim := { program := "ytchaegfdcdlfaaa", sum := "76890eea1667ecd270be75e55babdbaa1c2425a3a633abfcaabfe9c7e6b272f9", func := "rolodex/rolodexlaw18.CodeBatch", spec := "codeBatch", unfollowed := true, recurses := true, plainKeys := false, apart := false }
def CodeBatchSaid : Prop := codeBatchRow.holds Try.pinned (OpenSpec.ofChange codeBatchSpec)

/-- ITS FALSE NEIGHBOUR: 'it returns false'. Refute it at one input. -/
def codeBatchWrong : ChangeSpec := { name := "codeBatch", fn := fun _ => fun
  | [d1, d2] => { results := [.lit (.bool false)], args := [d1, d2] }
  | _ => none }
def CodeBatchWrongFalsely : Prop := codeBatchRow.holds Try.pinned (OpenSpec.ofChange codeBatchWrong)

/-- 'rolodexlaw18.CodeLess': WHATEVER THE INPUT: true; the input reads as it did. -/
def codeLessSpec : ChangeSpec := { name := "codeLess", fn := fun _ => fun
  | [d] => { results := [.lit (.bool true)], args := [d] }
  | _ => none }
def codeLessRow : OpenClaim := { program := "ytchaegfdcdlfaaa", sum := "76890eea1667ecd270be75e55babdbaa1c2425a3a633abfcaabfe9c7e6b272f9", func := "rolodex/rolodexlaw18.CodeLess", spec := "codeLess", unfollowed := true, recurses := true, plainKeys := false, apart := false }
def CodeLessSaid : Prop := codeLessRow.holds Try.pinned (OpenSpec.ofChange codeLessSpec)

/-- ITS FALSE NEIGHBOUR: 'it returns false'. Refute it at one input. -/
def codeLessWrong : ChangeSpec := { name := "codeLess", fn := fun _ => fun
  | [d] => { results := [.lit (.bool false)], args := [d] }
  | _ => none }
def CodeLessWrongFalsely : Prop := codeLessRow.holds Try.pinned (OpenSpec.ofChange codeLessWrong)

/- THE SECOND FORM. 'bulk': how many values and letters a reading holds, each counted each time it is reached (what is shared counts as often as it is met; a slice's spare places count too). A statement '..UptoSaid' is the law's where the arguments, and the package variables that the reading takes, are together of bulk at most 1048576: NARROWER than '..Said'. Prove '..Said' where nothing that the law and all that it calls make is longer than what came in: it says more and counts as full. Else prove '..UptoSaid'. A law counts once. -/
mutual
def uptoBulk {H : Type} : DataW H → Nat
  | .lit (.string bytes) => bytes.length + 1
  | .lit _ => 1
  | .nil => 1
  | .ptr d => uptoBulk d + 1
  | .slice elems spare => uptoBulkAll elems + uptoBulkAll spare + 1
  | .agg parts => uptoBulkAll parts + 1
  | .iface _ d => uptoBulk d + 1
  | .map entries => uptoBulkEntries entries + 1
  | .held _ => 1
def uptoBulkAll {H : Type} : List (DataW H) → Nat
  | [] => 0
  | d :: r => uptoBulk d + uptoBulkAll r
def uptoBulkEntries {H : Type} : List (Lit × DataW H) → Nat
  | [] => 0
  | x :: r => uptoBulkEntry x + uptoBulkEntries r
def uptoBulkEntry {H : Type} : Lit × DataW H → Nat
  | (.string bytes, d) => bytes.length + uptoBulk d + 1
  | (_, d) => uptoBulk d + 1
 end
def uptoSmall : (H : Type) → List (DataW H) → Bool := fun _ ds => decide (uptoBulkAll ds ≤ 1048576)
def OpenSpec.upto (s : _root_.Go.ChangeSpec) : _root_.Go.OpenSpec := { _root_.Go.OpenSpec.ofChange s with cond := some uptoSmall }

/-- 'rolodexlaw10.SignTells', WHERE WHAT IT READS IS OF BULK AT MOST 1048576: true; the input reads as it did. -/
def signTellsUptoRow : OpenClaim := { program := "ytchaegfdcdlfaaa", sum := "76890eea1667ecd270be75e55babdbaa1c2425a3a633abfcaabfe9c7e6b272f9", func := "rolodex/rolodexlaw10.SignTells", spec := "signTells", plainKeys := false, apart := false, narrowed := true }
def SignTellsUptoSaid : Prop := signTellsUptoRow.holds Try.pinned (OpenSpec.upto signTellsSpec)

/-- 'rolodexlaw10.SignFinds', WHERE WHAT IT READS IS OF BULK AT MOST 1048576: true; the input reads as it did. -/
def signFindsUptoRow : OpenClaim := { program := "ytchaegfdcdlfaaa", sum := "76890eea1667ecd270be75e55babdbaa1c2425a3a633abfcaabfe9c7e6b272f9", func := "rolodex/rolodexlaw10.SignFinds", spec := "signFinds", plainKeys := false, apart := false, narrowed := true }
def SignFindsUptoSaid : Prop := signFindsUptoRow.holds Try.pinned (OpenSpec.upto signFindsSpec)

/-- 'rolodexlaw10.SignMany', WHERE WHAT IT READS IS OF BULK AT MOST 1048576: true; the input reads as it did. -/
def signManyUptoRow : OpenClaim := { program := "ytchaegfdcdlfaaa", sum := "76890eea1667ecd270be75e55babdbaa1c2425a3a633abfcaabfe9c7e6b272f9", func := "rolodex/rolodexlaw10.SignMany", spec := "signMany", plainKeys := false, apart := false, narrowed := true }
def SignManyUptoSaid : Prop := signManyUptoRow.holds Try.pinned (OpenSpec.upto signManySpec)

/-- 'rolodexlaw10.SignNone', WHERE WHAT IT READS IS OF BULK AT MOST 1048576: true; the input reads as it did. -/
def signNoneUptoRow : OpenClaim := { program := "ytchaegfdcdlfaaa", sum := "76890eea1667ecd270be75e55babdbaa1c2425a3a633abfcaabfe9c7e6b272f9", func := "rolodex/rolodexlaw10.SignNone", spec := "signNone", plainKeys := false, apart := false, narrowed := true }
def SignNoneUptoSaid : Prop := signNoneUptoRow.holds Try.pinned (OpenSpec.upto signNoneSpec)

/-- 'rolodexlaw10.SignJoin', WHERE WHAT IT READS IS OF BULK AT MOST 1048576: true; the input reads as it did. -/
def signJoinUptoRow : OpenClaim := { program := "ytchaegfdcdlfaaa", sum := "76890eea1667ecd270be75e55babdbaa1c2425a3a633abfcaabfe9c7e6b272f9", func := "rolodex/rolodexlaw10.SignJoin", spec := "signJoin", plainKeys := false, apart := false, narrowed := true }
def SignJoinUptoSaid : Prop := signJoinUptoRow.holds Try.pinned (OpenSpec.upto signJoinSpec)

/-- 'rolodexlaw02.SectionTells', WHERE WHAT IT READS IS OF BULK AT MOST 1048576: true; the input reads as it did. -/
def sectionTellsUptoRow : OpenClaim := { program := "ytchaegfdcdlfaaa", sum := "76890eea1667ecd270be75e55babdbaa1c2425a3a633abfcaabfe9c7e6b272f9", func := "rolodex/rolodexlaw02.SectionTells", spec := "sectionTells", unfollowed := true, recurses := true, plainKeys := false, apart := false, narrowed := true }
def SectionTellsUptoSaid : Prop := sectionTellsUptoRow.holds Try.pinned (OpenSpec.upto sectionTellsSpec)

/-- 'rolodexlaw02.SectionBack', WHERE WHAT IT READS IS OF BULK AT MOST 1048576: true; the input reads as it did. -/
def sectionBackUptoRow : OpenClaim := { program := "ytchaegfdcdlfaaa", sum := "76890eea1667ecd270be75e55babdbaa1c2425a3a633abfcaabfe9c7e6b272f9", func := "rolodex/rolodexlaw02.SectionBack", spec := "sectionBack", unfollowed := true, recurses := true, plainKeys := false, apart := false, narrowed := true }
def SectionBackUptoSaid : Prop := sectionBackUptoRow.holds Try.pinned (OpenSpec.upto sectionBackSpec)

/-- 'rolodexlaw02.SectionOne', WHERE WHAT IT READS IS OF BULK AT MOST 1048576: true; the input reads as it did. -/
def sectionOneUptoRow : OpenClaim := { program := "ytchaegfdcdlfaaa", sum := "76890eea1667ecd270be75e55babdbaa1c2425a3a633abfcaabfe9c7e6b272f9", func := "rolodex/rolodexlaw02.SectionOne", spec := "sectionOne", unfollowed := true, recurses := true, plainKeys := false, apart := false, narrowed := true }
def SectionOneUptoSaid : Prop := sectionOneUptoRow.holds Try.pinned (OpenSpec.upto sectionOneSpec)

/-- 'rolodexlaw02.SectionCut', WHERE WHAT IT READS IS OF BULK AT MOST 1048576: true; the input reads as it did. -/
def sectionCutUptoRow : OpenClaim := { program := "ytchaegfdcdlfaaa", sum := "76890eea1667ecd270be75e55babdbaa1c2425a3a633abfcaabfe9c7e6b272f9", func := "rolodex/rolodexlaw02.SectionCut", spec := "sectionCut", unfollowed := true, recurses := true, plainKeys := false, apart := false, narrowed := true }
def SectionCutUptoSaid : Prop := sectionCutUptoRow.holds Try.pinned (OpenSpec.upto sectionCutSpec)

/-- 'rolodexlaw02.SectionSums', WHERE WHAT IT READS IS OF BULK AT MOST 1048576: true; the input reads as it did. -/
def sectionSumsUptoRow : OpenClaim := { program := "ytchaegfdcdlfaaa", sum := "76890eea1667ecd270be75e55babdbaa1c2425a3a633abfcaabfe9c7e6b272f9", func := "rolodex/rolodexlaw02.SectionSums", spec := "sectionSums", unfollowed := true, recurses := true, plainKeys := false, apart := false, narrowed := true }
def SectionSumsUptoSaid : Prop := sectionSumsUptoRow.holds Try.pinned (OpenSpec.upto sectionSumsSpec)

/-- 'rolodexlaw02.SectionParts', WHERE WHAT IT READS IS OF BULK AT MOST 1048576: true; the input reads as it did. -/
def sectionPartsUptoRow : OpenClaim := { program := "ytchaegfdcdlfaaa", sum := "76890eea1667ecd270be75e55babdbaa1c2425a3a633abfcaabfe9c7e6b272f9", func := "rolodex/rolodexlaw02.SectionParts", spec := "sectionParts", unfollowed := true, recurses := true, plainKeys := false, apart := false, narrowed := true }
def SectionPartsUptoSaid : Prop := sectionPartsUptoRow.holds Try.pinned (OpenSpec.upto sectionPartsSpec)

/-- 'rolodexlaw02.SectionLong', WHERE WHAT IT READS IS OF BULK AT MOST 1048576: true; the input reads as it did. -/
def sectionLongUptoRow : OpenClaim := { program := "ytchaegfdcdlfaaa", sum := "76890eea1667ecd270be75e55babdbaa1c2425a3a633abfcaabfe9c7e6b272f9", func := "rolodex/rolodexlaw02.SectionLong", spec := "sectionLong", unfollowed := true, recurses := true, plainKeys := false, apart := false, narrowed := true }
def SectionLongUptoSaid : Prop := sectionLongUptoRow.holds Try.pinned (OpenSpec.upto sectionLongSpec)

/-- 'rolodexlaw11.DeltaBytes', WHERE WHAT IT READS IS OF BULK AT MOST 1048576: true; the input reads as it did. -/
def deltaBytesUptoRow : OpenClaim := { program := "ytchaegfdcdlfaaa", sum := "76890eea1667ecd270be75e55babdbaa1c2425a3a633abfcaabfe9c7e6b272f9", func := "rolodex/rolodexlaw11.DeltaBytes", spec := "deltaBytes", inPlace := ["internal/abi.NoEscape"], unfollowed := true, recurses := true, plainKeys := false, apart := false, narrowed := true }
def DeltaBytesUptoSaid : Prop := deltaBytesUptoRow.holds Try.pinned (OpenSpec.upto deltaBytesSpec)

/-- 'rolodexlaw11.DeltaMakes', WHERE WHAT IT READS IS OF BULK AT MOST 1048576: true; the input reads as it did. -/
def deltaMakesUptoRow : OpenClaim := { program := "ytchaegfdcdlfaaa", sum := "76890eea1667ecd270be75e55babdbaa1c2425a3a633abfcaabfe9c7e6b272f9", func := "rolodex/rolodexlaw11.DeltaMakes", spec := "deltaMakes", inPlace := ["internal/abi.NoEscape"], unfollowed := true, recurses := true, plainKeys := false, apart := false, narrowed := true }
def DeltaMakesUptoSaid : Prop := deltaMakesUptoRow.holds Try.pinned (OpenSpec.upto deltaMakesSpec)

/-- 'rolodexlaw11.DeltaParts', WHERE WHAT IT READS IS OF BULK AT MOST 1048576: true; the input reads as it did. -/
def deltaPartsUptoRow : OpenClaim := { program := "ytchaegfdcdlfaaa", sum := "76890eea1667ecd270be75e55babdbaa1c2425a3a633abfcaabfe9c7e6b272f9", func := "rolodex/rolodexlaw11.DeltaParts", spec := "deltaParts", inPlace := ["internal/abi.NoEscape"], unfollowed := true, recurses := true, plainKeys := false, apart := false, narrowed := true }
def DeltaPartsUptoSaid : Prop := deltaPartsUptoRow.holds Try.pinned (OpenSpec.upto deltaPartsSpec)

/-- 'rolodexlaw11.DeltaOwn', WHERE WHAT IT READS IS OF BULK AT MOST 1048576: true; the input reads as it did. -/
def deltaOwnUptoRow : OpenClaim := { program := "ytchaegfdcdlfaaa", sum := "76890eea1667ecd270be75e55babdbaa1c2425a3a633abfcaabfe9c7e6b272f9", func := "rolodex/rolodexlaw11.DeltaOwn", spec := "deltaOwn", inPlace := ["internal/abi.NoEscape"], unfollowed := true, recurses := true, plainKeys := false, apart := false, narrowed := true }
def DeltaOwnUptoSaid : Prop := deltaOwnUptoRow.holds Try.pinned (OpenSpec.upto deltaOwnSpec)

/-- 'rolodexlaw11.DeltaLeast', WHERE WHAT IT READS IS OF BULK AT MOST 1048576: true; the input reads as it did. -/
def deltaLeastUptoRow : OpenClaim := { program := "ytchaegfdcdlfaaa", sum := "76890eea1667ecd270be75e55babdbaa1c2425a3a633abfcaabfe9c7e6b272f9", func := "rolodex/rolodexlaw11.DeltaLeast", spec := "deltaLeast", inPlace := ["internal/abi.NoEscape"], unfollowed := true, recurses := true, plainKeys := false, apart := false, narrowed := true }
def DeltaLeastUptoSaid : Prop := deltaLeastUptoRow.holds Try.pinned (OpenSpec.upto deltaLeastSpec)

/-- 'rolodexlaw11.DeltaNone', WHERE WHAT IT READS IS OF BULK AT MOST 1048576: true; the input reads as it did. -/
def deltaNoneUptoRow : OpenClaim := { program := "ytchaegfdcdlfaaa", sum := "76890eea1667ecd270be75e55babdbaa1c2425a3a633abfcaabfe9c7e6b272f9", func := "rolodex/rolodexlaw11.DeltaNone", spec := "deltaNone", inPlace := ["internal/abi.NoEscape"], unfollowed := true, recurses := true, plainKeys := false, apart := false, narrowed := true }
def DeltaNoneUptoSaid : Prop := deltaNoneUptoRow.holds Try.pinned (OpenSpec.upto deltaNoneSpec)

/-- 'rolodexlaw11.DeltaTells', WHERE WHAT IT READS IS OF BULK AT MOST 1048576: true; the input reads as it did. -/
def deltaTellsUptoRow : OpenClaim := { program := "ytchaegfdcdlfaaa", sum := "76890eea1667ecd270be75e55babdbaa1c2425a3a633abfcaabfe9c7e6b272f9", func := "rolodex/rolodexlaw11.DeltaTells", spec := "deltaTells", inPlace := ["internal/abi.NoEscape"], unfollowed := true, recurses := true, plainKeys := false, apart := false, narrowed := true }
def DeltaTellsUptoSaid : Prop := deltaTellsUptoRow.holds Try.pinned (OpenSpec.upto deltaTellsSpec)

/-- 'rolodexlaw11.DeltaBack', WHERE WHAT IT READS IS OF BULK AT MOST 1048576: true; the input reads as it did. -/
def deltaBackUptoRow : OpenClaim := { program := "ytchaegfdcdlfaaa", sum := "76890eea1667ecd270be75e55babdbaa1c2425a3a633abfcaabfe9c7e6b272f9", func := "rolodex/rolodexlaw11.DeltaBack", spec := "deltaBack", inPlace := ["internal/abi.NoEscape"], unfollowed := true, recurses := true, plainKeys := false, apart := false, narrowed := true }
def DeltaBackUptoSaid : Prop := deltaBackUptoRow.holds Try.pinned (OpenSpec.upto deltaBackSpec)

/-- 'rolodexlaw13.ManicBack', WHERE WHAT IT READS IS OF BULK AT MOST 1048576: true; the input reads as it did. -/
def manicBackUptoRow : OpenClaim := { program := "ytchaegfdcdlfaaa", sum := "76890eea1667ecd270be75e55babdbaa1c2425a3a633abfcaabfe9c7e6b272f9", func := "rolodex/rolodexlaw13.ManicBack", spec := "manicBack", inPlace := ["internal/bytealg.Compare"], unfollowed := true, recurses := true, plainKeys := false, apart := false, narrowed := true }
def ManicBackUptoSaid : Prop := manicBackUptoRow.holds Try.pinned (OpenSpec.upto manicBackSpec)

/-- 'rolodexlaw13.ManicChanged', WHERE WHAT IT READS IS OF BULK AT MOST 1048576: true; the input reads as it did. -/
def manicChangedUptoRow : OpenClaim := { program := "ytchaegfdcdlfaaa", sum := "76890eea1667ecd270be75e55babdbaa1c2425a3a633abfcaabfe9c7e6b272f9", func := "rolodex/rolodexlaw13.ManicChanged", spec := "manicChanged", inPlace := ["internal/bytealg.Compare"], unfollowed := true, recurses := true, plainKeys := false, apart := false, narrowed := true }
def ManicChangedUptoSaid : Prop := manicChangedUptoRow.holds Try.pinned (OpenSpec.upto manicChangedSpec)

/-- 'rolodexlaw13.ManicAlone', WHERE WHAT IT READS IS OF BULK AT MOST 1048576: true; the input reads as it did. -/
def manicAloneUptoRow : OpenClaim := { program := "ytchaegfdcdlfaaa", sum := "76890eea1667ecd270be75e55babdbaa1c2425a3a633abfcaabfe9c7e6b272f9", func := "rolodex/rolodexlaw13.ManicAlone", spec := "manicAlone", inPlace := ["internal/bytealg.Compare"], unfollowed := true, recurses := true, plainKeys := false, apart := false, narrowed := true }
def ManicAloneUptoSaid : Prop := manicAloneUptoRow.holds Try.pinned (OpenSpec.upto manicAloneSpec)

/-- 'rolodexlaw18.CodeBack', WHERE WHAT IT READS IS OF BULK AT MOST 1048576: true; the input reads as it did. -/
def codeBackUptoRow : OpenClaim := { program := "ytchaegfdcdlfaaa", sum := "76890eea1667ecd270be75e55babdbaa1c2425a3a633abfcaabfe9c7e6b272f9", func := "rolodex/rolodexlaw18.CodeBack", spec := "codeBack", unfollowed := true, recurses := true, plainKeys := false, apart := false, narrowed := true }
def CodeBackUptoSaid : Prop := codeBackUptoRow.holds Try.pinned (OpenSpec.upto codeBackSpec)

/-- 'rolodexlaw18.CodeChanged', WHERE WHAT IT READS IS OF BULK AT MOST 1048576: true; the input reads as it did. -/
def codeChangedUptoRow : OpenClaim := { program := "ytchaegfdcdlfaaa", sum := "76890eea1667ecd270be75e55babdbaa1c2425a3a633abfcaabfe9c7e6b272f9", func := "rolodex/rolodexlaw18.CodeChanged", spec := "codeChanged", unfollowed := true, recurses := true, plainKeys := false, apart := false, narrowed := true }
def CodeChangedUptoSaid : Prop := codeChangedUptoRow.holds Try.pinned (OpenSpec.upto codeChangedSpec)

/-- 'rolodexlaw18.CodeDict', WHERE WHAT IT READS IS OF BULK AT MOST 1048576: true; the input reads as it did. -/
def codeDictUptoRow : OpenClaim := { program := "ytchaegfdcdlfaaa", sum := "76890eea1667ecd270be75e55babdbaa1c2425a3a633abfcaabfe9c7e6b272f9", func := "rolodex/rolodexlaw18.CodeDict", spec := "codeDict", unfollowed := true, recurses := true, plainKeys := false, apart := false, narrowed := true }
def CodeDictUptoSaid : Prop := codeDictUptoRow.holds Try.pinned (OpenSpec.upto codeDictSpec)

/-- 'rolodexlaw18.CodeBatch', WHERE WHAT IT READS IS OF BULK AT MOST 1048576: true; the input reads as it did. -/
def codeBatchUptoRow : OpenClaim := { program := "ytchaegfdcdlfaaa", sum := "76890eea1667ecd270be75e55babdbaa1c2425a3a633abfcaabfe9c7e6b272f9", func := "rolodex/rolodexlaw18.CodeBatch", spec := "codeBatch", unfollowed := true, recurses := true, plainKeys := false, apart := false, narrowed := true }
def CodeBatchUptoSaid : Prop := codeBatchUptoRow.holds Try.pinned (OpenSpec.upto codeBatchSpec)

/-- 'rolodexlaw18.CodeLess', WHERE WHAT IT READS IS OF BULK AT MOST 1048576: true; the input reads as it did. -/
def codeLessUptoRow : OpenClaim := { program := "ytchaegfdcdlfaaa", sum := "76890eea1667ecd270be75e55babdbaa1c2425a3a633abfcaabfe9c7e6b272f9", func := "rolodex/rolodexlaw18.CodeLess", spec := "codeLess", unfollowed := true, recurses := true, plainKeys := false, apart := false, narrowed := true }
def CodeLessUptoSaid : Prop := codeLessUptoRow.holds Try.pinned (OpenSpec.upto codeLessSpec)

end Rows
end Go.Proofs.Ytchaegfdcdlfaaa
