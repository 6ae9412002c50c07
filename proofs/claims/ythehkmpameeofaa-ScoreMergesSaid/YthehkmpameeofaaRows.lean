/-
  No cell of these rows narrows 'for every input' (looked for: loops, veiled, ifaces, maps, wideKeys, modest, calm, conditions, laid).
  DERIVED. THE GIVEN ROWS OF THIS SEAT. 3 by the template 'for every input the law returns true; each argument reads behind the call as it read before'; 0 by the template 'total and deterministic' (their statements: YthehkmpameeofaaTotals.lean).
  GIVEN WITH THE SEED: the statements are not yours to turn. If you find one false, say at which input.
  Laid BY PROGRAM, IN A SANDBOX (cutbox-rows.mjs): the forced cells as the released guide's own fill.sh prints them over the translation d29aedbb76700d64… (all of the seat's roots in one cut). By AI agents, Wed Nov 11 2026. No macro, syntax, notation, axiom, sorry.
-/
import Derived.Test.YthehkmpameeofaaChecked
import GoSem.Claim
import GoSem.ClaimJoined
import GoSem.ClaimMapViews
import Derived.JoinedTies
import Derived.KernelRfl
namespace Go.Proofs.Ythehkmpameeofaa
/- THE CELL 'sum', in the pinned program and in every row, IS THE sha256 OF THE DUMP (.gsa) THAT YthehkmpameeofaaProg.lean LOADS. Nothing in Lean hashes anything: it is a label: what it is worth is what the hold of that sum in a sandbox is worth. -/
noncomputable def Try.pinned : Pinned := { name := "ythehkmpameeofaa", sum := "d29aedbb76700d643f65cdc2089551a2cd93ddc73db9fd716ac80cd673b2b23f", checked := Try.checked }
namespace Rows
def none {H : Type} : Left H := { results := [], args := [] }

/-- 'sackbutlaw23.ScoreMerges': WHATEVER THE INPUT: true; the input reads as it did. -/
def scoreMergesSpec : ChangeSpec := { name := "scoreMerges", fn := fun _ => fun
  | [d1, d2, d3] => { results := [.lit (.bool true)], args := [d1, d2, d3] }
  | _ => none }
def scoreMergesRow : OpenClaim := { program := "ythehkmpameeofaa", sum := "d29aedbb76700d643f65cdc2089551a2cd93ddc73db9fd716ac80cd673b2b23f", func := "sackbut/sackbutlaw23.ScoreMerges", spec := "scoreMerges", unfollowed := true, recurses := true, apart := false }
def ScoreMergesSaid : Prop := scoreMergesRow.holds Try.pinned (OpenSpec.ofChange scoreMergesSpec)

/-- ITS FALSE NEIGHBOUR: 'it returns false'. Refute it at one input. -/
def scoreMergesWrong : ChangeSpec := { name := "scoreMerges", fn := fun _ => fun
  | [d1, d2, d3] => { results := [.lit (.bool false)], args := [d1, d2, d3] }
  | _ => none }
def ScoreMergesWrongFalsely : Prop := scoreMergesRow.holds Try.pinned (OpenSpec.ofChange scoreMergesWrong)

/-- 'sackbutlaw20.MeterLoudest': WHATEVER THE INPUT: true; the input reads as it did. -/
def meterLoudestSpec : ChangeSpec := { name := "meterLoudest", fn := fun _ => fun
  | [d1, d2, d3] => { results := [.lit (.bool true)], args := [d1, d2, d3] }
  | _ => none }
def meterLoudestRow : OpenClaim := { program := "ythehkmpameeofaa", sum := "d29aedbb76700d643f65cdc2089551a2cd93ddc73db9fd716ac80cd673b2b23f", func := "sackbut/sackbutlaw20.MeterLoudest", spec := "meterLoudest", unfollowed := true, recurses := true, apart := false }
def MeterLoudestSaid : Prop := meterLoudestRow.holds Try.pinned (OpenSpec.ofChange meterLoudestSpec)

/-- ITS FALSE NEIGHBOUR: 'it returns false'. Refute it at one input. -/
def meterLoudestWrong : ChangeSpec := { name := "meterLoudest", fn := fun _ => fun
  | [d1, d2, d3] => { results := [.lit (.bool false)], args := [d1, d2, d3] }
  | _ => none }
def MeterLoudestWrongFalsely : Prop := meterLoudestRow.holds Try.pinned (OpenSpec.ofChange meterLoudestWrong)

/-- 'sackbutlaw12.RankSorted': WHATEVER THE INPUT: true; the input reads as it did. -/
def rankSortedSpec : ChangeSpec := { name := "rankSorted", fn := fun _ => fun
  | [d1, d2] => { results := [.lit (.bool true)], args := [d1, d2] }
  | _ => none }
def rankSortedRow : OpenClaim := { program := "ythehkmpameeofaa", sum := "d29aedbb76700d643f65cdc2089551a2cd93ddc73db9fd716ac80cd673b2b23f", func := "sackbut/sackbutlaw12.RankSorted", spec := "rankSorted", unfollowed := true, recurses := true, apart := false }
def RankSortedSaid : Prop := rankSortedRow.holds Try.pinned (OpenSpec.ofChange rankSortedSpec)

/-- ITS FALSE NEIGHBOUR: 'it returns false'. Refute it at one input. -/
def rankSortedWrong : ChangeSpec := { name := "rankSorted", fn := fun _ => fun
  | [d1, d2] => { results := [.lit (.bool false)], args := [d1, d2] }
  | _ => none }
def RankSortedWrongFalsely : Prop := rankSortedRow.holds Try.pinned (OpenSpec.ofChange rankSortedWrong)

/- THE SECOND FORM. 'bulk': how many values and letters a reading holds, each counted each time it is reached (what is shared counts as often as it is met; a slice's spare places count too). A statement '..UptoSaid' is the law's where the arguments, and the package variables that the reading takes, are together of bulk at most 1048576: NARROWER than '..Said'. Prove '..Said' where nothing that the law and all that it calls make is longer than what came in: it says more and counts as full. Else prove '..UptoSaid'. A law counts once. -/
mutual
def uptoBulk {H : Type} : DataW H → Nat
  | .lit (.string bytes) => bytes.length + 1
  | .lit _ => 1
  | .nil => 1
  | .ptr d => uptoBulk d + 1
  | .slice elems spare => uptoBulkAll elems + uptoBulkAll spare + 1
  | .agg parts => uptoBulkAll parts + 1
  | .iface _ d => uptoBulk d + 1
  | .map entries => uptoBulkEntries entries + 1
  | .held _ => 1
def uptoBulkAll {H : Type} : List (DataW H) → Nat
  | [] => 0
  | d :: r => uptoBulk d + uptoBulkAll r
def uptoBulkEntries {H : Type} : List (Lit × DataW H) → Nat
  | [] => 0
  | x :: r => uptoBulkEntry x + uptoBulkEntries r
def uptoBulkEntry {H : Type} : Lit × DataW H → Nat
  | (.string bytes, d) => bytes.length + uptoBulk d + 1
  | (_, d) => uptoBulk d + 1
 end
def uptoSmall : (H : Type) → List (DataW H) → Bool := fun _ ds => decide (uptoBulkAll ds ≤ 1048576)
def OpenSpec.upto (s : _root_.Go.ChangeSpec) : _root_.Go.OpenSpec := { _root_.Go.OpenSpec.ofChange s with cond := some uptoSmall }

/-- 'sackbutlaw23.ScoreMerges', WHERE WHAT IT READS IS OF BULK AT MOST 1048576: true; the input reads as it did. -/
def scoreMergesUptoRow : OpenClaim := { program := "ythehkmpameeofaa", sum := "d29aedbb76700d643f65cdc2089551a2cd93ddc73db9fd716ac80cd673b2b23f", func := "sackbut/sackbutlaw23.ScoreMerges", spec := "scoreMerges", unfollowed := true, recurses := true, apart := false, narrowed := true }
def ScoreMergesUptoSaid : Prop := scoreMergesUptoRow.holds Try.pinned (OpenSpec.upto scoreMergesSpec)

/-- 'sackbutlaw20.MeterLoudest', WHERE WHAT IT READS IS OF BULK AT MOST 1048576: true; the input reads as it did. -/
def meterLoudestUptoRow : OpenClaim := { program := "ythehkmpameeofaa", sum := "d29aedbb76700d643f65cdc2089551a2cd93ddc73db9fd716ac80cd673b2b23f", func := "sackbut/sackbutlaw20.MeterLoudest", spec := "meterLoudest", unfollowed := true, recurses := true, apart := false, narrowed := true }
def MeterLoudestUptoSaid : Prop := meterLoudestUptoRow.holds Try.pinned (OpenSpec.upto meterLoudestSpec)

/-- 'sackbutlaw12.RankSorted', WHERE WHAT IT READS IS OF BULK AT MOST 1048576: true; the input reads as it did. -/
def rankSortedUptoRow : OpenClaim := { program := "ythehkmpameeofaa", sum := "d29aedbb76700d643f65cdc2089551a2cd93ddc73db9fd716ac80cd673b2b23f", func := "sackbut/sackbutlaw12.RankSorted", spec := "rankSorted", unfollowed := true, recurses := true, apart := false, narrowed := true }
def RankSortedUptoSaid : Prop := rankSortedUptoRow.holds Try.pinned (OpenSpec.upto rankSortedSpec)

end Rows
end Go.Proofs.Ythehkmpameeofaa
