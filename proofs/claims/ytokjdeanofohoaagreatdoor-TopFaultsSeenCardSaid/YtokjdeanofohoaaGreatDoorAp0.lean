import Derived.Test.YtokjdeanofohoaaGreatDoorCards
import Derived.Test.YtokjdeanofohoaaGreatDoorTie
import Derived.WalkKit
import Derived.RangeFuncIn
import Derived.RangeFuncLeaves
import Derived.TacticsIn
import Derived.OrdersIn
import Derived.ControlIn
import Derived.WalkSpells
import Derived.Orders
import Derived.ChangeArms
import Derived.ChangeSame
import Derived.ProofKit
import Derived.RowKit
import Derived.Below
import Derived.WideKeyArgs
import Derived.OpenShut
import Derived.LaidMore
import Derived.Lay
import Derived.SevenTiedAt
import Derived.Stop.Joined
import Derived.Maps.AppendAt
import Derived.Laws.OwnMore
import Derived.Laws.StructEq
import Derived.Laws.MakeOwn
import Derived.Laws.Runes
import Derived.MapKept
import Derived.WideKeyRuns
import Derived.ChangeKeysEq
import Derived.Lib.AppendZeros
import Derived.Deep.Draws
import Derived.Ground.NamesProg
import Derived.RangeFuncRecord
import Derived.Laws.CopyRow
import Derived.Laws.RangeAny
import Derived.Lib.Strings
import Derived.Lib.Slices
import Derived.Lib.Walk
import Derived.Lib.Builder
import Derived.Lib.AppendStr
import Derived.Lib.UnsafeStr
import Derived.Lib.MakeNoZero
import Derived.Lib.LaidTab
import Derived.Stop.LaidErr
set_option synthInstance.checkSynthOrder false
set_option synthInstance.maxSize 10000
set_option synthInstance.maxHeartbeats 400000
set_option maxRecDepth 100000
set_option maxHeartbeats 4000000
set_option linter.unusedVariables false
set_option linter.unusedSimpArgs false
set_option linter.defProp false
namespace Go.Proofs.YtokjdeanofohoaaGreatDoor
open Go Go.ChangeShapes Go.WideShapes Go.ChangeAt Go.RowKit
abbrev laid3:List (String×DataW Unit):=Rows.topFaultsSeenRow.laid
theorem own:ownKnob Tryz.prog.godebug=none:=by kernel_rfl
theorem laidOut:laidOutB Tryz.prog=true:=by kernel_rfl
theorem laid_met (os:Os) (args:Array Value):laidMetH Tryz.prog laid3 ((World.laidAll Tryz.prog os laid3).forCall (fun _ _=>0) ⟨#[],args,[]⟩).memory:=by
 rw [MakeChecks.laidMetH_plain _ _ _ (by kernel_rfl)];exact laidMet_laidAll _ (by kernel_rfl) (by kernel_rfl)
theorem mapsRow:mapsRowed Tryz.prog=true:=by kernel_rfl
theorem stopsH:Tryz.prog.stopsHeard=true:=by kernel_rfl
theorem plainK:Tryz.prog.plainKeys=true:=by kernel_rfl
theorem mayE:Tryz.prog.mayEnter=true:=by kernel_rfl
theorem liftsF:Tryz.prog.liftsFinal=Rows.topFaultsSeenRow.lifted:=by kernel_rfl
theorem makeP:Tryz.prog.make=some Rows.topFaultsSeenRow.make:=by kernel_rfl
theorem mainI : Tryz.prog.mainIs = some (true, "f1a708414cd019405daf7e1143bb7d9310917d24f86495077935f9cb4b43f5ed".toList) := by kernel_rfl
theorem looksN:false=Tryz.prog.looks []:=by kernel_rfl
end Go.Proofs.YtokjdeanofohoaaGreatDoor
