/-
  No cell of these rows narrows 'for every input' (looked for: loops, veiled, ifaces, maps, wideKeys, modest, calm, conditions, laid).
  DERIVED. THE GIVEN ROWS OF THIS SEAT. 11 by the template 'for every input the law returns true; each argument reads behind the call as it read before'; 0 by the template 'total and deterministic' (their statements: YtdbedajaapamhaaTotals.lean).
  GIVEN WITH THE SEED: the statements are not yours to turn. If you find one false, say at which input.
  Laid BY PROGRAM, IN A SANDBOX (cutbox-rows.mjs): the forced cells as the released guide's own fill.sh prints them over the translation 27371b23d73dac2c… (all of the seat's roots in one cut). By AI agents, Wed Nov 11 2026. No macro, syntax, notation, axiom, sorry.
-/
import Derived.Test.YtdbedajaapamhaaChecked
import GoSem.Claim
import GoSem.ClaimJoined
import GoSem.ClaimMapViews
import Derived.JoinedTies
import Derived.KernelRfl
namespace Go.Proofs.Ytdbedajaapamhaa
/- THE CELL 'sum', in the pinned program and in every row, IS THE sha256 OF THE DUMP (.gsa) THAT YtdbedajaapamhaaProg.lean LOADS. Nothing in Lean hashes anything: it is a label: what it is worth is what the hold of that sum in a sandbox is worth. -/
noncomputable def Try.pinned : Pinned := { name := "ytdbedajaapamhaa", sum := "27371b23d73dac2c13898785a26515609ce1499624bbd3f49b2044c756e0800b", checked := Try.checked }
namespace Rows
def none {H : Type} : Left H := { results := [], args := [] }

/-- 'turntablelaw10.SuperGreater': WHATEVER THE INPUT: true; the input reads as it did. -/
def superGreaterSpec : ChangeSpec := { name := "superGreater", fn := fun _ => fun
  | [d1, d2] => { results := [.lit (.bool true)], args := [d1, d2] }
  | _ => none }
def superGreaterRow : OpenClaim := { program := "ytdbedajaapamhaa", sum := "27371b23d73dac2c13898785a26515609ce1499624bbd3f49b2044c756e0800b", func := "turntable/turntablelaw10.SuperGreater", spec := "superGreater", unfollowed := true, recurses := true, apart := false }
def SuperGreaterSaid : Prop := superGreaterRow.holds Try.pinned (OpenSpec.ofChange superGreaterSpec)

/-- ITS FALSE NEIGHBOUR: 'it returns false'. Refute it at one input. -/
def superGreaterWrong : ChangeSpec := { name := "superGreater", fn := fun _ => fun
  | [d1, d2] => { results := [.lit (.bool false)], args := [d1, d2] }
  | _ => none }
def SuperGreaterWrongFalsely : Prop := superGreaterRow.holds Try.pinned (OpenSpec.ofChange superGreaterWrong)

/-- 'turntablelaw10.SuperNone': WHATEVER THE INPUT: true; the input reads as it did. -/
def superNoneSpec : ChangeSpec := { name := "superNone", fn := fun _ => fun
  | [d] => { results := [.lit (.bool true)], args := [d] }
  | _ => none }
def superNoneRow : OpenClaim := { program := "ytdbedajaapamhaa", sum := "27371b23d73dac2c13898785a26515609ce1499624bbd3f49b2044c756e0800b", func := "turntable/turntablelaw10.SuperNone", spec := "superNone", unfollowed := true, recurses := true, apart := false }
def SuperNoneSaid : Prop := superNoneRow.holds Try.pinned (OpenSpec.ofChange superNoneSpec)

/-- ITS FALSE NEIGHBOUR: 'it returns false'. Refute it at one input. -/
def superNoneWrong : ChangeSpec := { name := "superNone", fn := fun _ => fun
  | [d] => { results := [.lit (.bool false)], args := [d] }
  | _ => none }
def SuperNoneWrongFalsely : Prop := superNoneRow.holds Try.pinned (OpenSpec.ofChange superNoneWrong)

/-- 'turntablelaw10.SuperBarrier': WHATEVER THE INPUT: true; the input reads as it did. -/
def superBarrierSpec : ChangeSpec := { name := "superBarrier", fn := fun _ => fun
  | [d1, d2, d3] => { results := [.lit (.bool true)], args := [d1, d2, d3] }
  | _ => none }
def superBarrierRow : OpenClaim := { program := "ytdbedajaapamhaa", sum := "27371b23d73dac2c13898785a26515609ce1499624bbd3f49b2044c756e0800b", func := "turntable/turntablelaw10.SuperBarrier", spec := "superBarrier", unfollowed := true, recurses := true, apart := false }
def SuperBarrierSaid : Prop := superBarrierRow.holds Try.pinned (OpenSpec.ofChange superBarrierSpec)

/-- ITS FALSE NEIGHBOUR: 'it returns false'. Refute it at one input. -/
def superBarrierWrong : ChangeSpec := { name := "superBarrier", fn := fun _ => fun
  | [d1, d2, d3] => { results := [.lit (.bool false)], args := [d1, d2, d3] }
  | _ => none }
def SuperBarrierWrongFalsely : Prop := superBarrierRow.holds Try.pinned (OpenSpec.ofChange superBarrierWrong)

/-- 'turntablelaw10.SuperSwaps': WHATEVER THE INPUT: true; the input reads as it did. -/
def superSwapsSpec : ChangeSpec := { name := "superSwaps", fn := fun _ => fun
  | [d1, d2, d3, d4, d5] => { results := [.lit (.bool true)], args := [d1, d2, d3, d4, d5] }
  | _ => none }
def superSwapsRow : OpenClaim := { program := "ytdbedajaapamhaa", sum := "27371b23d73dac2c13898785a26515609ce1499624bbd3f49b2044c756e0800b", func := "turntable/turntablelaw10.SuperSwaps", spec := "superSwaps", unfollowed := true, recurses := true, apart := false }
def SuperSwapsSaid : Prop := superSwapsRow.holds Try.pinned (OpenSpec.ofChange superSwapsSpec)

/-- ITS FALSE NEIGHBOUR: 'it returns false'. Refute it at one input. -/
def superSwapsWrong : ChangeSpec := { name := "superSwaps", fn := fun _ => fun
  | [d1, d2, d3, d4, d5] => { results := [.lit (.bool false)], args := [d1, d2, d3, d4, d5] }
  | _ => none }
def SuperSwapsWrongFalsely : Prop := superSwapsRow.holds Try.pinned (OpenSpec.ofChange superSwapsWrong)

/-- 'turntablelaw09.TableTells': WHATEVER THE INPUT: true; the input reads as it did. -/
def tableTellsSpec : ChangeSpec := { name := "tableTells", fn := fun _ => fun
  | [d1, d2] => { results := [.lit (.bool true)], args := [d1, d2] }
  | _ => none }
def tableTellsRow : OpenClaim := { program := "ytdbedajaapamhaa", sum := "27371b23d73dac2c13898785a26515609ce1499624bbd3f49b2044c756e0800b", func := "turntable/turntablelaw09.TableTells", spec := "tableTells", unfollowed := true, recurses := true, apart := false }
def TableTellsSaid : Prop := tableTellsRow.holds Try.pinned (OpenSpec.ofChange tableTellsSpec)

/-- ITS FALSE NEIGHBOUR: 'it returns false'. Refute it at one input. -/
def tableTellsWrong : ChangeSpec := { name := "tableTells", fn := fun _ => fun
  | [d1, d2] => { results := [.lit (.bool false)], args := [d1, d2] }
  | _ => none }
def TableTellsWrongFalsely : Prop := tableTellsRow.holds Try.pinned (OpenSpec.ofChange tableTellsWrong)

/-- 'turntablelaw09.TableBack': WHATEVER THE INPUT: true; the input reads as it did. -/
def tableBackSpec : ChangeSpec := { name := "tableBack", fn := fun _ => fun
  | [d1, d2] => { results := [.lit (.bool true)], args := [d1, d2] }
  | _ => none }
def tableBackRow : OpenClaim := { program := "ytdbedajaapamhaa", sum := "27371b23d73dac2c13898785a26515609ce1499624bbd3f49b2044c756e0800b", func := "turntable/turntablelaw09.TableBack", spec := "tableBack", unfollowed := true, recurses := true, apart := false }
def TableBackSaid : Prop := tableBackRow.holds Try.pinned (OpenSpec.ofChange tableBackSpec)

/-- ITS FALSE NEIGHBOUR: 'it returns false'. Refute it at one input. -/
def tableBackWrong : ChangeSpec := { name := "tableBack", fn := fun _ => fun
  | [d1, d2] => { results := [.lit (.bool false)], args := [d1, d2] }
  | _ => none }
def TableBackWrongFalsely : Prop := tableBackRow.holds Try.pinned (OpenSpec.ofChange tableBackWrong)

/-- 'turntablelaw09.TableAll': WHATEVER THE INPUT: true; the input reads as it did. -/
def tableAllSpec : ChangeSpec := { name := "tableAll", fn := fun _ => fun
  | [d] => { results := [.lit (.bool true)], args := [d] }
  | _ => none }
def tableAllRow : OpenClaim := { program := "ytdbedajaapamhaa", sum := "27371b23d73dac2c13898785a26515609ce1499624bbd3f49b2044c756e0800b", func := "turntable/turntablelaw09.TableAll", spec := "tableAll", unfollowed := true, recurses := true, apart := false }
def TableAllSaid : Prop := tableAllRow.holds Try.pinned (OpenSpec.ofChange tableAllSpec)

/-- ITS FALSE NEIGHBOUR: 'it returns false'. Refute it at one input. -/
def tableAllWrong : ChangeSpec := { name := "tableAll", fn := fun _ => fun
  | [d] => { results := [.lit (.bool false)], args := [d] }
  | _ => none }
def TableAllWrongFalsely : Prop := tableAllRow.holds Try.pinned (OpenSpec.ofChange tableAllWrong)

/-- 'turntablelaw09.TableBursts': WHATEVER THE INPUT: true; the input reads as it did. -/
def tableBurstsSpec : ChangeSpec := { name := "tableBursts", fn := fun _ => fun
  | [d1, d2, d3] => { results := [.lit (.bool true)], args := [d1, d2, d3] }
  | _ => none }
def tableBurstsRow : OpenClaim := { program := "ytdbedajaapamhaa", sum := "27371b23d73dac2c13898785a26515609ce1499624bbd3f49b2044c756e0800b", func := "turntable/turntablelaw09.TableBursts", spec := "tableBursts", unfollowed := true, recurses := true, apart := false }
def TableBurstsSaid : Prop := tableBurstsRow.holds Try.pinned (OpenSpec.ofChange tableBurstsSpec)

/-- ITS FALSE NEIGHBOUR: 'it returns false'. Refute it at one input. -/
def tableBurstsWrong : ChangeSpec := { name := "tableBursts", fn := fun _ => fun
  | [d1, d2, d3] => { results := [.lit (.bool false)], args := [d1, d2, d3] }
  | _ => none }
def TableBurstsWrongFalsely : Prop := tableBurstsRow.holds Try.pinned (OpenSpec.ofChange tableBurstsWrong)

/-- 'turntablelaw09.TableRefuses': WHATEVER THE INPUT: true; the input reads as it did. -/
def tableRefusesSpec : ChangeSpec := { name := "tableRefuses", fn := fun _ => fun
  | [d1, d2, d3] => { results := [.lit (.bool true)], args := [d1, d2, d3] }
  | _ => none }
def tableRefusesRow : OpenClaim := { program := "ytdbedajaapamhaa", sum := "27371b23d73dac2c13898785a26515609ce1499624bbd3f49b2044c756e0800b", func := "turntable/turntablelaw09.TableRefuses", spec := "tableRefuses", unfollowed := true, recurses := true, apart := false }
def TableRefusesSaid : Prop := tableRefusesRow.holds Try.pinned (OpenSpec.ofChange tableRefusesSpec)

/-- ITS FALSE NEIGHBOUR: 'it returns false'. Refute it at one input. -/
def tableRefusesWrong : ChangeSpec := { name := "tableRefuses", fn := fun _ => fun
  | [d1, d2, d3] => { results := [.lit (.bool false)], args := [d1, d2, d3] }
  | _ => none }
def TableRefusesWrongFalsely : Prop := tableRefusesRow.holds Try.pinned (OpenSpec.ofChange tableRefusesWrong)

/-- 'turntablelaw09.TableGens': WHATEVER THE INPUT: true; the input reads as it did. -/
def tableGensSpec : ChangeSpec := { name := "tableGens", fn := fun _ => fun
  | [d1, d2] => { results := [.lit (.bool true)], args := [d1, d2] }
  | _ => none }
def tableGensRow : OpenClaim := { program := "ytdbedajaapamhaa", sum := "27371b23d73dac2c13898785a26515609ce1499624bbd3f49b2044c756e0800b", func := "turntable/turntablelaw09.TableGens", spec := "tableGens", unfollowed := true, recurses := true, apart := false }
def TableGensSaid : Prop := tableGensRow.holds Try.pinned (OpenSpec.ofChange tableGensSpec)

/-- ITS FALSE NEIGHBOUR: 'it returns false'. Refute it at one input. -/
def tableGensWrong : ChangeSpec := { name := "tableGens", fn := fun _ => fun
  | [d1, d2] => { results := [.lit (.bool false)], args := [d1, d2] }
  | _ => none }
def TableGensWrongFalsely : Prop := tableGensRow.holds Try.pinned (OpenSpec.ofChange tableGensWrong)

/-- 'turntablelaw09.TableChanges': WHATEVER THE INPUT: true; the input reads as it did. -/
def tableChangesSpec : ChangeSpec := { name := "tableChanges", fn := fun _ => fun
  | [d1, d2] => { results := [.lit (.bool true)], args := [d1, d2] }
  | _ => none }
def tableChangesRow : OpenClaim := { program := "ytdbedajaapamhaa", sum := "27371b23d73dac2c13898785a26515609ce1499624bbd3f49b2044c756e0800b", func := "turntable/turntablelaw09.TableChanges", spec := "tableChanges", unfollowed := true, recurses := true, apart := false }
def TableChangesSaid : Prop := tableChangesRow.holds Try.pinned (OpenSpec.ofChange tableChangesSpec)

/-- ITS FALSE NEIGHBOUR: 'it returns false'. Refute it at one input. -/
def tableChangesWrong : ChangeSpec := { name := "tableChanges", fn := fun _ => fun
  | [d1, d2] => { results := [.lit (.bool false)], args := [d1, d2] }
  | _ => none }
def TableChangesWrongFalsely : Prop := tableChangesRow.holds Try.pinned (OpenSpec.ofChange tableChangesWrong)

/- THE SECOND FORM. 'bulk': how many values and letters a reading holds, each counted each time it is reached (what is shared counts as often as it is met; a slice's spare places count too). A statement '..UptoSaid' is the law's where the arguments, and the package variables that the reading takes, are together of bulk at most 1048576: NARROWER than '..Said'. Prove '..Said' where nothing that the law and all that it calls make is longer than what came in: it says more and counts as full. Else prove '..UptoSaid'. A law counts once. -/
mutual
def uptoBulk {H : Type} : DataW H → Nat
  | .lit (.string bytes) => bytes.length + 1
  | .lit _ => 1
  | .nil => 1
  | .ptr d => uptoBulk d + 1
  | .slice elems spare => uptoBulkAll elems + uptoBulkAll spare + 1
  | .agg parts => uptoBulkAll parts + 1
  | .iface _ d => uptoBulk d + 1
  | .map entries => uptoBulkEntries entries + 1
  | .held _ => 1
def uptoBulkAll {H : Type} : List (DataW H) → Nat
  | [] => 0
  | d :: r => uptoBulk d + uptoBulkAll r
def uptoBulkEntries {H : Type} : List (Lit × DataW H) → Nat
  | [] => 0
  | x :: r => uptoBulkEntry x + uptoBulkEntries r
def uptoBulkEntry {H : Type} : Lit × DataW H → Nat
  | (.string bytes, d) => bytes.length + uptoBulk d + 1
  | (_, d) => uptoBulk d + 1
 end
def uptoSmall : (H : Type) → List (DataW H) → Bool := fun _ ds => decide (uptoBulkAll ds ≤ 1048576)
def OpenSpec.upto (s : _root_.Go.ChangeSpec) : _root_.Go.OpenSpec := { _root_.Go.OpenSpec.ofChange s with cond := some uptoSmall }

/-- 'turntablelaw10.SuperGreater', WHERE WHAT IT READS IS OF BULK AT MOST 1048576: true; the input reads as it did. -/
def superGreaterUptoRow : OpenClaim := { program := "ytdbedajaapamhaa", sum := "27371b23d73dac2c13898785a26515609ce1499624bbd3f49b2044c756e0800b", func := "turntable/turntablelaw10.SuperGreater", spec := "superGreater", unfollowed := true, recurses := true, apart := false, narrowed := true }
def SuperGreaterUptoSaid : Prop := superGreaterUptoRow.holds Try.pinned (OpenSpec.upto superGreaterSpec)

/-- 'turntablelaw10.SuperNone', WHERE WHAT IT READS IS OF BULK AT MOST 1048576: true; the input reads as it did. -/
def superNoneUptoRow : OpenClaim := { program := "ytdbedajaapamhaa", sum := "27371b23d73dac2c13898785a26515609ce1499624bbd3f49b2044c756e0800b", func := "turntable/turntablelaw10.SuperNone", spec := "superNone", unfollowed := true, recurses := true, apart := false, narrowed := true }
def SuperNoneUptoSaid : Prop := superNoneUptoRow.holds Try.pinned (OpenSpec.upto superNoneSpec)

/-- 'turntablelaw10.SuperBarrier', WHERE WHAT IT READS IS OF BULK AT MOST 1048576: true; the input reads as it did. -/
def superBarrierUptoRow : OpenClaim := { program := "ytdbedajaapamhaa", sum := "27371b23d73dac2c13898785a26515609ce1499624bbd3f49b2044c756e0800b", func := "turntable/turntablelaw10.SuperBarrier", spec := "superBarrier", unfollowed := true, recurses := true, apart := false, narrowed := true }
def SuperBarrierUptoSaid : Prop := superBarrierUptoRow.holds Try.pinned (OpenSpec.upto superBarrierSpec)

/-- 'turntablelaw10.SuperSwaps', WHERE WHAT IT READS IS OF BULK AT MOST 1048576: true; the input reads as it did. -/
def superSwapsUptoRow : OpenClaim := { program := "ytdbedajaapamhaa", sum := "27371b23d73dac2c13898785a26515609ce1499624bbd3f49b2044c756e0800b", func := "turntable/turntablelaw10.SuperSwaps", spec := "superSwaps", unfollowed := true, recurses := true, apart := false, narrowed := true }
def SuperSwapsUptoSaid : Prop := superSwapsUptoRow.holds Try.pinned (OpenSpec.upto superSwapsSpec)

/-- 'turntablelaw09.TableTells', WHERE WHAT IT READS IS OF BULK AT MOST 1048576: true; the input reads as it did. -/
def tableTellsUptoRow : OpenClaim := { program := "ytdbedajaapamhaa", sum := "27371b23d73dac2c13898785a26515609ce1499624bbd3f49b2044c756e0800b", func := "turntable/turntablelaw09.TableTells", spec := "tableTells", unfollowed := true, recurses := true, apart := false, narrowed := true }
def TableTellsUptoSaid : Prop := tableTellsUptoRow.holds Try.pinned (OpenSpec.upto tableTellsSpec)

/-- 'turntablelaw09.TableBack', WHERE WHAT IT READS IS OF BULK AT MOST 1048576: true; the input reads as it did. -/
def tableBackUptoRow : OpenClaim := { program := "ytdbedajaapamhaa", sum := "27371b23d73dac2c13898785a26515609ce1499624bbd3f49b2044c756e0800b", func := "turntable/turntablelaw09.TableBack", spec := "tableBack", unfollowed := true, recurses := true, apart := false, narrowed := true }
def TableBackUptoSaid : Prop := tableBackUptoRow.holds Try.pinned (OpenSpec.upto tableBackSpec)

/-- 'turntablelaw09.TableAll', WHERE WHAT IT READS IS OF BULK AT MOST 1048576: true; the input reads as it did. -/
def tableAllUptoRow : OpenClaim := { program := "ytdbedajaapamhaa", sum := "27371b23d73dac2c13898785a26515609ce1499624bbd3f49b2044c756e0800b", func := "turntable/turntablelaw09.TableAll", spec := "tableAll", unfollowed := true, recurses := true, apart := false, narrowed := true }
def TableAllUptoSaid : Prop := tableAllUptoRow.holds Try.pinned (OpenSpec.upto tableAllSpec)

/-- 'turntablelaw09.TableBursts', WHERE WHAT IT READS IS OF BULK AT MOST 1048576: true; the input reads as it did. -/
def tableBurstsUptoRow : OpenClaim := { program := "ytdbedajaapamhaa", sum := "27371b23d73dac2c13898785a26515609ce1499624bbd3f49b2044c756e0800b", func := "turntable/turntablelaw09.TableBursts", spec := "tableBursts", unfollowed := true, recurses := true, apart := false, narrowed := true }
def TableBurstsUptoSaid : Prop := tableBurstsUptoRow.holds Try.pinned (OpenSpec.upto tableBurstsSpec)

/-- 'turntablelaw09.TableRefuses', WHERE WHAT IT READS IS OF BULK AT MOST 1048576: true; the input reads as it did. -/
def tableRefusesUptoRow : OpenClaim := { program := "ytdbedajaapamhaa", sum := "27371b23d73dac2c13898785a26515609ce1499624bbd3f49b2044c756e0800b", func := "turntable/turntablelaw09.TableRefuses", spec := "tableRefuses", unfollowed := true, recurses := true, apart := false, narrowed := true }
def TableRefusesUptoSaid : Prop := tableRefusesUptoRow.holds Try.pinned (OpenSpec.upto tableRefusesSpec)

/-- 'turntablelaw09.TableGens', WHERE WHAT IT READS IS OF BULK AT MOST 1048576: true; the input reads as it did. -/
def tableGensUptoRow : OpenClaim := { program := "ytdbedajaapamhaa", sum := "27371b23d73dac2c13898785a26515609ce1499624bbd3f49b2044c756e0800b", func := "turntable/turntablelaw09.TableGens", spec := "tableGens", unfollowed := true, recurses := true, apart := false, narrowed := true }
def TableGensUptoSaid : Prop := tableGensUptoRow.holds Try.pinned (OpenSpec.upto tableGensSpec)

/-- 'turntablelaw09.TableChanges', WHERE WHAT IT READS IS OF BULK AT MOST 1048576: true; the input reads as it did. -/
def tableChangesUptoRow : OpenClaim := { program := "ytdbedajaapamhaa", sum := "27371b23d73dac2c13898785a26515609ce1499624bbd3f49b2044c756e0800b", func := "turntable/turntablelaw09.TableChanges", spec := "tableChanges", unfollowed := true, recurses := true, apart := false, narrowed := true }
def TableChangesUptoSaid : Prop := tableChangesUptoRow.holds Try.pinned (OpenSpec.upto tableChangesSpec)

end Rows
end Go.Proofs.Ytdbedajaapamhaa
