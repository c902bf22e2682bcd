/-
  No cell of these rows narrows 'for every input' (looked for: loops, veiled, ifaces, maps, wideKeys, modest, calm, conditions, laid).
  DERIVED. THE GIVEN ROWS OF THIS SEAT. 5 by the template 'for every input the law returns true; each argument reads behind the call as it read before'; 0 by the template 'total and deterministic' (their statements: YtenkaaigalcgcaaTotals.lean).
  GIVEN WITH THE SEED: the statements are not yours to turn. If you find one false, say at which input.
  Laid BY PROGRAM, IN A SANDBOX (cutbox-rows.mjs): the forced cells as the released guide's own fill.sh prints them over the translation ffbdd59a09bd72ac… (all of the seat's roots in one cut). By AI agents, Wed Nov 11 2026. No macro, syntax, notation, axiom, sorry.
-/
import Derived.Test.YtenkaaigalcgcaaChecked
import GoSem.Claim
import GoSem.ClaimJoined
import GoSem.ClaimMapViews
import Derived.JoinedTies
import Derived.KernelRfl
namespace Go.Proofs.Ytenkaaigalcgcaa
/- THE CELL 'sum', in the pinned program and in every row, IS THE sha256 OF THE DUMP (.gsa) THAT YtenkaaigalcgcaaProg.lean LOADS. Nothing in Lean hashes anything: it is a label: what it is worth is what the hold of that sum in a sandbox is worth. -/
noncomputable def Try.pinned : Pinned := { name := "ytenkaaigalcgcaa", sum := "ffbdd59a09bd72ac5ce4aa9a8bff911631ae6262e31321efd066db3f5e477115", checked := Try.checked }
namespace Rows
def none {H : Type} : Left H := { results := [], args := [] }

/-- 'rolodexlaw03.ShaTells': WHATEVER THE INPUT: true; the input reads as it did. -/
def shaTellsSpec : ChangeSpec := { name := "shaTells", fn := fun _ => fun
  | [d1, d2, d3, d4] => { results := [.lit (.bool true)], args := [d1, d2, d3, d4] }
  | _ => none }
def shaTellsRow : OpenClaim := { program := "ytenkaaigalcgcaa", sum := "ffbdd59a09bd72ac5ce4aa9a8bff911631ae6262e31321efd066db3f5e477115", func := "rolodex/rolodexlaw03.ShaTells", spec := "shaTells", inPlace := ["internal/bytealg.Compare"], apart := false }
def ShaTellsSaid : Prop := shaTellsRow.holds Try.pinned (OpenSpec.ofChange shaTellsSpec)

/-- ITS FALSE NEIGHBOUR: 'it returns false'. Refute it at one input. -/
def shaTellsWrong : ChangeSpec := { name := "shaTells", fn := fun _ => fun
  | [d1, d2, d3, d4] => { results := [.lit (.bool false)], args := [d1, d2, d3, d4] }
  | _ => none }
def ShaTellsWrongFalsely : Prop := shaTellsRow.holds Try.pinned (OpenSpec.ofChange shaTellsWrong)

/-- 'rolodexlaw03.ShaSame': WHATEVER THE INPUT: true; the input reads as it did. -/
def shaSameSpec : ChangeSpec := { name := "shaSame", fn := fun _ => fun
  | [d1, d2] => { results := [.lit (.bool true)], args := [d1, d2] }
  | _ => none }
def shaSameRow : OpenClaim := { program := "ytenkaaigalcgcaa", sum := "ffbdd59a09bd72ac5ce4aa9a8bff911631ae6262e31321efd066db3f5e477115", func := "rolodex/rolodexlaw03.ShaSame", spec := "shaSame", inPlace := ["internal/bytealg.Compare"], apart := false }
def ShaSameSaid : Prop := shaSameRow.holds Try.pinned (OpenSpec.ofChange shaSameSpec)

/-- ITS FALSE NEIGHBOUR: 'it returns false'. Refute it at one input. -/
def shaSameWrong : ChangeSpec := { name := "shaSame", fn := fun _ => fun
  | [d1, d2] => { results := [.lit (.bool false)], args := [d1, d2] }
  | _ => none }
def ShaSameWrongFalsely : Prop := shaSameRow.holds Try.pinned (OpenSpec.ofChange shaSameWrong)

/-- 'rolodexlaw03.ShaOrder': WHATEVER THE INPUT: true; the input reads as it did. -/
def shaOrderSpec : ChangeSpec := { name := "shaOrder", fn := fun _ => fun
  | [d1, d2, d3] => { results := [.lit (.bool true)], args := [d1, d2, d3] }
  | _ => none }
def shaOrderRow : OpenClaim := { program := "ytenkaaigalcgcaa", sum := "ffbdd59a09bd72ac5ce4aa9a8bff911631ae6262e31321efd066db3f5e477115", func := "rolodex/rolodexlaw03.ShaOrder", spec := "shaOrder", inPlace := ["internal/bytealg.Compare"], apart := false }
def ShaOrderSaid : Prop := shaOrderRow.holds Try.pinned (OpenSpec.ofChange shaOrderSpec)

/-- ITS FALSE NEIGHBOUR: 'it returns false'. Refute it at one input. -/
def shaOrderWrong : ChangeSpec := { name := "shaOrder", fn := fun _ => fun
  | [d1, d2, d3] => { results := [.lit (.bool false)], args := [d1, d2, d3] }
  | _ => none }
def ShaOrderWrongFalsely : Prop := shaOrderRow.holds Try.pinned (OpenSpec.ofChange shaOrderWrong)

/-- 'rolodexlaw03.ShaLong': WHATEVER THE INPUT: true; the input reads as it did. -/
def shaLongSpec : ChangeSpec := { name := "shaLong", fn := fun _ => fun
  | [d1, d2] => { results := [.lit (.bool true)], args := [d1, d2] }
  | _ => none }
def shaLongRow : OpenClaim := { program := "ytenkaaigalcgcaa", sum := "ffbdd59a09bd72ac5ce4aa9a8bff911631ae6262e31321efd066db3f5e477115", func := "rolodex/rolodexlaw03.ShaLong", spec := "shaLong", inPlace := ["internal/bytealg.Compare"], apart := false }
def ShaLongSaid : Prop := shaLongRow.holds Try.pinned (OpenSpec.ofChange shaLongSpec)

/-- ITS FALSE NEIGHBOUR: 'it returns false'. Refute it at one input. -/
def shaLongWrong : ChangeSpec := { name := "shaLong", fn := fun _ => fun
  | [d1, d2] => { results := [.lit (.bool false)], args := [d1, d2] }
  | _ => none }
def ShaLongWrongFalsely : Prop := shaLongRow.holds Try.pinned (OpenSpec.ofChange shaLongWrong)

/-- 'rolodexlaw03.ShaKnown': WHATEVER THE INPUT: true; the input reads as it did. -/
def shaKnownSpec : ChangeSpec := { name := "shaKnown", fn := fun _ => fun
  | [d1, d2] => { results := [.lit (.bool true)], args := [d1, d2] }
  | _ => none }
def shaKnownRow : OpenClaim := { program := "ytenkaaigalcgcaa", sum := "ffbdd59a09bd72ac5ce4aa9a8bff911631ae6262e31321efd066db3f5e477115", func := "rolodex/rolodexlaw03.ShaKnown", spec := "shaKnown", inPlace := ["internal/bytealg.Compare"], apart := false }
def ShaKnownSaid : Prop := shaKnownRow.holds Try.pinned (OpenSpec.ofChange shaKnownSpec)

/-- ITS FALSE NEIGHBOUR: 'it returns false'. Refute it at one input. -/
def shaKnownWrong : ChangeSpec := { name := "shaKnown", fn := fun _ => fun
  | [d1, d2] => { results := [.lit (.bool false)], args := [d1, d2] }
  | _ => none }
def ShaKnownWrongFalsely : Prop := shaKnownRow.holds Try.pinned (OpenSpec.ofChange shaKnownWrong)

/- THE SECOND FORM. 'bulk': how many values and letters a reading holds, each counted each time it is reached (what is shared counts as often as it is met; a slice's spare places count too). A statement '..UptoSaid' is the law's where the arguments, and the package variables that the reading takes, are together of bulk at most 1048576: NARROWER than '..Said'. Prove '..Said' where nothing that the law and all that it calls make is longer than what came in: it says more and counts as full. Else prove '..UptoSaid'. A law counts once. -/
mutual
def uptoBulk {H : Type} : DataW H → Nat
  | .lit (.string bytes) => bytes.length + 1
  | .lit _ => 1
  | .nil => 1
  | .ptr d => uptoBulk d + 1
  | .slice elems spare => uptoBulkAll elems + uptoBulkAll spare + 1
  | .agg parts => uptoBulkAll parts + 1
  | .iface _ d => uptoBulk d + 1
  | .map entries => uptoBulkEntries entries + 1
  | .held _ => 1
def uptoBulkAll {H : Type} : List (DataW H) → Nat
  | [] => 0
  | d :: r => uptoBulk d + uptoBulkAll r
def uptoBulkEntries {H : Type} : List (Lit × DataW H) → Nat
  | [] => 0
  | x :: r => uptoBulkEntry x + uptoBulkEntries r
def uptoBulkEntry {H : Type} : Lit × DataW H → Nat
  | (.string bytes, d) => bytes.length + uptoBulk d + 1
  | (_, d) => uptoBulk d + 1
 end
def uptoSmall : (H : Type) → List (DataW H) → Bool := fun _ ds => decide (uptoBulkAll ds ≤ 1048576)
def OpenSpec.upto (s : _root_.Go.ChangeSpec) : _root_.Go.OpenSpec := { _root_.Go.OpenSpec.ofChange s with cond := some uptoSmall }

/-- 'rolodexlaw03.ShaTells', WHERE WHAT IT READS IS OF BULK AT MOST 1048576: true; the input reads as it did. -/
def shaTellsUptoRow : OpenClaim := { program := "ytenkaaigalcgcaa", sum := "ffbdd59a09bd72ac5ce4aa9a8bff911631ae6262e31321efd066db3f5e477115", func := "rolodex/rolodexlaw03.ShaTells", spec := "shaTells", inPlace := ["internal/bytealg.Compare"], apart := false, narrowed := true }
def ShaTellsUptoSaid : Prop := shaTellsUptoRow.holds Try.pinned (OpenSpec.upto shaTellsSpec)

/-- 'rolodexlaw03.ShaSame', WHERE WHAT IT READS IS OF BULK AT MOST 1048576: true; the input reads as it did. -/
def shaSameUptoRow : OpenClaim := { program := "ytenkaaigalcgcaa", sum := "ffbdd59a09bd72ac5ce4aa9a8bff911631ae6262e31321efd066db3f5e477115", func := "rolodex/rolodexlaw03.ShaSame", spec := "shaSame", inPlace := ["internal/bytealg.Compare"], apart := false, narrowed := true }
def ShaSameUptoSaid : Prop := shaSameUptoRow.holds Try.pinned (OpenSpec.upto shaSameSpec)

/-- 'rolodexlaw03.ShaOrder', WHERE WHAT IT READS IS OF BULK AT MOST 1048576: true; the input reads as it did. -/
def shaOrderUptoRow : OpenClaim := { program := "ytenkaaigalcgcaa", sum := "ffbdd59a09bd72ac5ce4aa9a8bff911631ae6262e31321efd066db3f5e477115", func := "rolodex/rolodexlaw03.ShaOrder", spec := "shaOrder", inPlace := ["internal/bytealg.Compare"], apart := false, narrowed := true }
def ShaOrderUptoSaid : Prop := shaOrderUptoRow.holds Try.pinned (OpenSpec.upto shaOrderSpec)

/-- 'rolodexlaw03.ShaLong', WHERE WHAT IT READS IS OF BULK AT MOST 1048576: true; the input reads as it did. -/
def shaLongUptoRow : OpenClaim := { program := "ytenkaaigalcgcaa", sum := "ffbdd59a09bd72ac5ce4aa9a8bff911631ae6262e31321efd066db3f5e477115", func := "rolodex/rolodexlaw03.ShaLong", spec := "shaLong", inPlace := ["internal/bytealg.Compare"], apart := false, narrowed := true }
def ShaLongUptoSaid : Prop := shaLongUptoRow.holds Try.pinned (OpenSpec.upto shaLongSpec)

/-- 'rolodexlaw03.ShaKnown', WHERE WHAT IT READS IS OF BULK AT MOST 1048576: true; the input reads as it did. -/
def shaKnownUptoRow : OpenClaim := { program := "ytenkaaigalcgcaa", sum := "ffbdd59a09bd72ac5ce4aa9a8bff911631ae6262e31321efd066db3f5e477115", func := "rolodex/rolodexlaw03.ShaKnown", spec := "shaKnown", inPlace := ["internal/bytealg.Compare"], apart := false, narrowed := true }
def ShaKnownUptoSaid : Prop := shaKnownUptoRow.holds Try.pinned (OpenSpec.upto shaKnownSpec)

end Rows
end Go.Proofs.Ytenkaaigalcgcaa
