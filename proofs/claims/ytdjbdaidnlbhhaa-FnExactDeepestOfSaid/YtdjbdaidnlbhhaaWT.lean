/- Proved here: what the table of types of the program says. Printed by program. -/
import Derived.Test.YtdjbdaidnlbhhaaPB
import Derived.Test.YtdjbdaidnlbhhaaVQ
import Derived.Test.YtdjbdaidnlbhhaaProg
set_option linter.unusedVariables false
set_option linter.unusedSimpArgs false
set_option maxRecDepth 4000
namespace Go.Proofs.Ytdjbdaidnlbhhaa.VL
open Go
theorem fomo : Try.prog.follows .mixedOrders = true := by kernel_rfl
theorem ag101 : aggT Try.prog 101 = some false := by kernel_rfl
theorem ag103 : aggT Try.prog 103 = some true := by kernel_rfl
theorem ag105 : aggT Try.prog 105 = some false := by kernel_rfl
theorem ag106 : aggT Try.prog 106 = some true := by kernel_rfl
theorem ag121 : aggT Try.prog 121 = some true := by kernel_rfl
theorem ag127 : aggT Try.prog 127 = some false := by kernel_rfl
theorem ag2 : aggT Try.prog 2 = some false := by kernel_rfl
theorem ag23 : aggT Try.prog 23 = some true := by kernel_rfl
theorem ag3 : aggT Try.prog 3 = some false := by kernel_rfl
theorem ag31 : aggT Try.prog 31 = some false := by kernel_rfl
theorem ag33 : aggT Try.prog 33 = some true := by kernel_rfl
theorem ag35 : aggT Try.prog 35 = some true := by kernel_rfl
theorem ag38 : aggT Try.prog 38 = some false := by kernel_rfl
theorem ag39 : aggT Try.prog 39 = some true := by kernel_rfl
theorem ag4 : aggT Try.prog 4 = some false := by kernel_rfl
theorem ag41 : aggT Try.prog 41 = some true := by kernel_rfl
theorem ag44 : aggT Try.prog 44 = some true := by kernel_rfl
theorem ag49 : aggT Try.prog 49 = some true := by kernel_rfl
theorem ag50 : aggT Try.prog 50 = some false := by kernel_rfl
theorem ag51 : aggT Try.prog 51 = some false := by kernel_rfl
theorem ag53 : aggT Try.prog 53 = some true := by kernel_rfl
theorem ag57 : aggT Try.prog 57 = some true := by kernel_rfl
theorem ag58 : aggT Try.prog 58 = some false := by kernel_rfl
theorem ag60 : aggT Try.prog 60 = some true := by kernel_rfl
theorem ag63 : aggT Try.prog 63 = some false := by kernel_rfl
theorem ag66 : aggT Try.prog 66 = some false := by kernel_rfl
theorem ag85 : aggT Try.prog 85 = some false := by kernel_rfl
theorem ag93 : aggT Try.prog 93 = some false := by kernel_rfl
theorem ag98 : aggT Try.prog 98 = some true := by kernel_rfl
theorem ar39 : arT Try.prog 39 = some (2, 38) := by kernel_rfl
theorem ar41 : arT Try.prog 41 = some (2, 38) := by kernel_rfl
theorem by101 : bytesT Try.prog 101 = some 24 := by kernel_rfl
theorem by103 : bytesT Try.prog 103 = some 80 := by kernel_rfl
theorem by105 : bytesT Try.prog 105 = some 8 := by kernel_rfl
theorem by106 : bytesT Try.prog 106 = some 80 := by kernel_rfl
theorem by121 : bytesT Try.prog 121 = some 16 := by kernel_rfl
theorem by127 : bytesT Try.prog 127 = some 24 := by kernel_rfl
theorem by2 : bytesT Try.prog 2 = some 8 := by kernel_rfl
theorem by23 : bytesT Try.prog 23 = some 16 := by kernel_rfl
theorem by3 : bytesT Try.prog 3 = some 8 := by kernel_rfl
theorem by31 : bytesT Try.prog 31 = some 2 := by kernel_rfl
theorem by33 : bytesT Try.prog 33 = some 6 := by kernel_rfl
theorem by35 : bytesT Try.prog 35 = some 6 := by kernel_rfl
theorem by38 : bytesT Try.prog 38 = some 8 := by kernel_rfl
theorem by39 : bytesT Try.prog 39 = some 16 := by kernel_rfl
theorem by4 : bytesT Try.prog 4 = some 1 := by kernel_rfl
theorem by41 : bytesT Try.prog 41 = some 16 := by kernel_rfl
theorem by44 : bytesT Try.prog 44 = some 16 := by kernel_rfl
theorem by49 : bytesT Try.prog 49 = some 32 := by kernel_rfl
theorem by50 : bytesT Try.prog 50 = some 24 := by kernel_rfl
theorem by51 : bytesT Try.prog 51 = some 24 := by kernel_rfl
theorem by53 : bytesT Try.prog 53 = some 80 := by kernel_rfl
theorem by57 : bytesT Try.prog 57 = some 32 := by kernel_rfl
theorem by58 : bytesT Try.prog 58 = some 24 := by kernel_rfl
theorem by60 : bytesT Try.prog 60 = some 80 := by kernel_rfl
theorem by63 : bytesT Try.prog 63 = some 24 := by kernel_rfl
theorem by66 : bytesT Try.prog 66 = some 24 := by kernel_rfl
theorem by85 : bytesT Try.prog 85 = some 8 := by kernel_rfl
theorem by93 : bytesT Try.prog 93 = some 8 := by kernel_rfl
theorem by98 : bytesT Try.prog 98 = some 16 := by kernel_rfl
theorem eg103 : Program.eqGuardType Try.prog (Program.depth Try.prog) 103 = false := by kernel_rfl
theorem eg106 : Program.eqGuardType Try.prog (Program.depth Try.prog) 106 = false := by kernel_rfl
theorem eg121 : Program.eqGuardType Try.prog (Program.depth Try.prog) 121 = false := by kernel_rfl
theorem eg23 : Program.eqGuardType Try.prog (Program.depth Try.prog) 23 = false := by kernel_rfl
theorem eg33 : Program.eqGuardType Try.prog (Program.depth Try.prog) 33 = false := by kernel_rfl
theorem eg35 : Program.eqGuardType Try.prog (Program.depth Try.prog) 35 = false := by kernel_rfl
theorem eg39 : Program.eqGuardType Try.prog (Program.depth Try.prog) 39 = false := by kernel_rfl
theorem eg41 : Program.eqGuardType Try.prog (Program.depth Try.prog) 41 = false := by kernel_rfl
theorem eg44 : Program.eqGuardType Try.prog (Program.depth Try.prog) 44 = false := by kernel_rfl
theorem eg49 : Program.eqGuardType Try.prog (Program.depth Try.prog) 49 = false := by kernel_rfl
theorem eg53 : Program.eqGuardType Try.prog (Program.depth Try.prog) 53 = false := by kernel_rfl
theorem eg57 : Program.eqGuardType Try.prog (Program.depth Try.prog) 57 = false := by kernel_rfl
theorem eg60 : Program.eqGuardType Try.prog (Program.depth Try.prog) 60 = false := by kernel_rfl
theorem eg98 : Program.eqGuardType Try.prog (Program.depth Try.prog) 98 = false := by kernel_rfl
theorem el101 : elT Try.prog 101 = some 31 := by kernel_rfl
theorem el127 : elT Try.prog 127 = some 3 := by kernel_rfl
theorem el50 : elT Try.prog 50 = some 2 := by kernel_rfl
theorem el51 : elT Try.prog 51 = some 121 := by kernel_rfl
theorem el58 : elT Try.prog 58 = some 98 := by kernel_rfl
theorem el63 : elT Try.prog 63 = some 103 := by kernel_rfl
theorem el66 : elT Try.prog 66 = some 106 := by kernel_rfl
theorem fd103_0 : fldT Try.prog 103 0 = some (31, 0) := by kernel_rfl
theorem fd103_1 : fldT Try.prog 103 1 = some (50, 1) := by kernel_rfl
theorem fd103_2 : fldT Try.prog 103 2 = some (101, 2) := by kernel_rfl
theorem fd103_3 : fldT Try.prog 103 3 = some (50, 3) := by kernel_rfl
theorem fd106_0 : fldT Try.prog 106 0 = some (31, 0) := by kernel_rfl
theorem fd106_1 : fldT Try.prog 106 1 = some (50, 1) := by kernel_rfl
theorem fd106_2 : fldT Try.prog 106 2 = some (101, 2) := by kernel_rfl
theorem fd106_3 : fldT Try.prog 106 3 = some (50, 3) := by kernel_rfl
theorem fd121_0 : fldT Try.prog 121 0 = some (2, 0) := by kernel_rfl
theorem fd121_1 : fldT Try.prog 121 1 = some (31, 1) := by kernel_rfl
theorem fd23_0 : fldT Try.prog 23 0 = some (2, 0) := by kernel_rfl
theorem fd23_1 : fldT Try.prog 23 1 = some (2, 1) := by kernel_rfl
theorem fd33_0 : fldT Try.prog 33 0 = some (31, 0) := by kernel_rfl
theorem fd33_1 : fldT Try.prog 33 1 = some (31, 1) := by kernel_rfl
theorem fd33_2 : fldT Try.prog 33 2 = some (31, 2) := by kernel_rfl
theorem fd35_0 : fldT Try.prog 35 0 = some (31, 0) := by kernel_rfl
theorem fd35_1 : fldT Try.prog 35 1 = some (31, 1) := by kernel_rfl
theorem fd35_2 : fldT Try.prog 35 2 = some (31, 2) := by kernel_rfl
theorem fd44_0 : fldT Try.prog 44 0 = some (2, 0) := by kernel_rfl
theorem fd44_1 : fldT Try.prog 44 1 = some (2, 1) := by kernel_rfl
theorem fd49_0 : fldT Try.prog 49 0 = some (39, 0) := by kernel_rfl
theorem fd49_1 : fldT Try.prog 49 1 = some (39, 2) := by kernel_rfl
theorem fd53_0 : fldT Try.prog 53 0 = some (49, 0) := by kernel_rfl
theorem fd53_1 : fldT Try.prog 53 1 = some (50, 4) := by kernel_rfl
theorem fd53_2 : fldT Try.prog 53 2 = some (51, 5) := by kernel_rfl
theorem fd57_0 : fldT Try.prog 57 0 = some (41, 0) := by kernel_rfl
theorem fd57_1 : fldT Try.prog 57 1 = some (41, 2) := by kernel_rfl
theorem fd60_0 : fldT Try.prog 60 0 = some (57, 0) := by kernel_rfl
theorem fd60_1 : fldT Try.prog 60 1 = some (50, 4) := by kernel_rfl
theorem fd60_2 : fldT Try.prog 60 2 = some (58, 5) := by kernel_rfl
theorem fd98_0 : fldT Try.prog 98 0 = some (2, 0) := by kernel_rfl
theorem fd98_1 : fldT Try.prog 98 1 = some (31, 1) := by kernel_rfl
theorem pl103 : plT Try.prog 103 = some [(0, 1), (1, 1), (2, 1), (3, 1)] := by kernel_rfl
theorem pl106 : plT Try.prog 106 = some [(0, 1), (1, 1), (2, 1), (3, 1)] := by kernel_rfl
theorem pl121 : plT Try.prog 121 = some [(0, 1), (1, 1)] := by kernel_rfl
theorem pl23 : plT Try.prog 23 = some [(0, 1), (1, 1)] := by kernel_rfl
theorem pl33 : plT Try.prog 33 = some [(0, 1), (1, 1), (2, 1)] := by kernel_rfl
theorem pl35 : plT Try.prog 35 = some [(0, 1), (1, 1), (2, 1)] := by kernel_rfl
theorem pl44 : plT Try.prog 44 = some [(0, 1), (1, 1)] := by kernel_rfl
theorem pl49 : plT Try.prog 49 = some [(0, 2), (2, 2)] := by kernel_rfl
theorem pl53 : plT Try.prog 53 = some [(0, 4), (4, 1), (5, 1)] := by kernel_rfl
theorem pl57 : plT Try.prog 57 = some [(0, 2), (2, 2)] := by kernel_rfl
theorem pl60 : plT Try.prog 60 = some [(0, 4), (4, 1), (5, 1)] := by kernel_rfl
theorem pl98 : plT Try.prog 98 = some [(0, 1), (1, 1)] := by kernel_rfl
theorem sz101 : sizeT Try.prog 101 = some 1 := by kernel_rfl
theorem sz103 : sizeT Try.prog 103 = some 4 := by kernel_rfl
theorem sz105 : sizeT Try.prog 105 = some 1 := by kernel_rfl
theorem sz106 : sizeT Try.prog 106 = some 4 := by kernel_rfl
theorem sz121 : sizeT Try.prog 121 = some 2 := by kernel_rfl
theorem sz127 : sizeT Try.prog 127 = some 1 := by kernel_rfl
theorem sz2 : sizeT Try.prog 2 = some 1 := by kernel_rfl
theorem sz23 : sizeT Try.prog 23 = some 2 := by kernel_rfl
theorem sz3 : sizeT Try.prog 3 = some 1 := by kernel_rfl
theorem sz31 : sizeT Try.prog 31 = some 1 := by kernel_rfl
theorem sz33 : sizeT Try.prog 33 = some 3 := by kernel_rfl
theorem sz35 : sizeT Try.prog 35 = some 3 := by kernel_rfl
theorem sz38 : sizeT Try.prog 38 = some 1 := by kernel_rfl
theorem sz39 : sizeT Try.prog 39 = some 2 := by kernel_rfl
theorem sz4 : sizeT Try.prog 4 = some 1 := by kernel_rfl
theorem sz41 : sizeT Try.prog 41 = some 2 := by kernel_rfl
theorem sz44 : sizeT Try.prog 44 = some 2 := by kernel_rfl
theorem sz49 : sizeT Try.prog 49 = some 4 := by kernel_rfl
theorem sz50 : sizeT Try.prog 50 = some 1 := by kernel_rfl
theorem sz51 : sizeT Try.prog 51 = some 1 := by kernel_rfl
theorem sz53 : sizeT Try.prog 53 = some 6 := by kernel_rfl
theorem sz57 : sizeT Try.prog 57 = some 4 := by kernel_rfl
theorem sz58 : sizeT Try.prog 58 = some 1 := by kernel_rfl
theorem sz60 : sizeT Try.prog 60 = some 6 := by kernel_rfl
theorem sz63 : sizeT Try.prog 63 = some 1 := by kernel_rfl
theorem sz66 : sizeT Try.prog 66 = some 1 := by kernel_rfl
theorem sz85 : sizeT Try.prog 85 = some 1 := by kernel_rfl
theorem sz93 : sizeT Try.prog 93 = some 1 := by kernel_rfl
theorem sz98 : sizeT Try.prog 98 = some 2 := by kernel_rfl
theorem us101 : (Try.prog.underlying 101).isSome = true := by kernel_rfl
theorem us103 : (Try.prog.underlying 103).isSome = true := by kernel_rfl
theorem us105 : (Try.prog.underlying 105).isSome = true := by kernel_rfl
theorem us106 : (Try.prog.underlying 106).isSome = true := by kernel_rfl
theorem us121 : (Try.prog.underlying 121).isSome = true := by kernel_rfl
theorem us127 : (Try.prog.underlying 127).isSome = true := by kernel_rfl
theorem us2 : (Try.prog.underlying 2).isSome = true := by kernel_rfl
theorem us23 : (Try.prog.underlying 23).isSome = true := by kernel_rfl
theorem us3 : (Try.prog.underlying 3).isSome = true := by kernel_rfl
theorem us31 : (Try.prog.underlying 31).isSome = true := by kernel_rfl
theorem us33 : (Try.prog.underlying 33).isSome = true := by kernel_rfl
theorem us35 : (Try.prog.underlying 35).isSome = true := by kernel_rfl
theorem us38 : (Try.prog.underlying 38).isSome = true := by kernel_rfl
theorem us39 : (Try.prog.underlying 39).isSome = true := by kernel_rfl
theorem us4 : (Try.prog.underlying 4).isSome = true := by kernel_rfl
theorem us41 : (Try.prog.underlying 41).isSome = true := by kernel_rfl
theorem us44 : (Try.prog.underlying 44).isSome = true := by kernel_rfl
theorem us49 : (Try.prog.underlying 49).isSome = true := by kernel_rfl
theorem us50 : (Try.prog.underlying 50).isSome = true := by kernel_rfl
theorem us51 : (Try.prog.underlying 51).isSome = true := by kernel_rfl
theorem us53 : (Try.prog.underlying 53).isSome = true := by kernel_rfl
theorem us57 : (Try.prog.underlying 57).isSome = true := by kernel_rfl
theorem us58 : (Try.prog.underlying 58).isSome = true := by kernel_rfl
theorem us60 : (Try.prog.underlying 60).isSome = true := by kernel_rfl
theorem us63 : (Try.prog.underlying 63).isSome = true := by kernel_rfl
theorem us66 : (Try.prog.underlying 66).isSome = true := by kernel_rfl
theorem us85 : (Try.prog.underlying 85).isSome = true := by kernel_rfl
theorem us93 : (Try.prog.underlying 93).isSome = true := by kernel_rfl
theorem us98 : (Try.prog.underlying 98).isSome = true := by kernel_rfl
theorem zk101 : ∀ s, ((Kd.slice (Kd.int .i16)) : Kd (List (Int))).rd s (Value.cl (.slice none 0 0)) ([]) := fun s => ⟨none, 0, rfl, Nat.le_refl _, by decide, fun h => absurd h (by decide)⟩
theorem zk103 : ∀ s, (kKnot : Kd (Int × List (Int) × List (Int) × List (Int))).rd s (Value.cl (.agg #[.int .i16 0, .slice none 0 0, .slice none 0 0, .slice none 0 0])) ((0, [], [], [])) := fun s => ⟨[.int .i16 0], [.slice none 0 0, .slice none 0 0, .slice none 0 0], rfl, ⟨rfl, inRb_of rfl⟩, ⟨[.slice none 0 0], [.slice none 0 0, .slice none 0 0], rfl, ⟨none, 0, rfl, Nat.le_refl _, by decide, fun h => absurd h (by decide)⟩, ⟨[.slice none 0 0], [.slice none 0 0], rfl, ⟨none, 0, rfl, Nat.le_refl _, by decide, fun h => absurd h (by decide)⟩, ⟨none, 0, rfl, Nat.le_refl _, by decide, fun h => absurd h (by decide)⟩⟩⟩⟩
theorem zk106 : ∀ s, (kKnot : Kd (Int × List (Int) × List (Int) × List (Int))).rd s (Value.cl (.agg #[.int .i16 0, .slice none 0 0, .slice none 0 0, .slice none 0 0])) ((0, [], [], [])) := fun s => ⟨[.int .i16 0], [.slice none 0 0, .slice none 0 0, .slice none 0 0], rfl, ⟨rfl, inRb_of rfl⟩, ⟨[.slice none 0 0], [.slice none 0 0, .slice none 0 0], rfl, ⟨none, 0, rfl, Nat.le_refl _, by decide, fun h => absurd h (by decide)⟩, ⟨[.slice none 0 0], [.slice none 0 0], rfl, ⟨none, 0, rfl, Nat.le_refl _, by decide, fun h => absurd h (by decide)⟩, ⟨none, 0, rfl, Nat.le_refl _, by decide, fun h => absurd h (by decide)⟩⟩⟩⟩
theorem zk121 : ∀ s, (kWit : Kd (Int × Int)).rd s (Value.cl (.agg #[.int .i64 0, .int .i16 0])) ((0, 0)) := fun s => ⟨[.int .i64 0], [.int .i16 0], rfl, ⟨rfl, inRb_of rfl⟩, ⟨rfl, inRb_of rfl⟩⟩
theorem zk127 : ∀ s, ((Kd.slice (Kd.int .i64)) : Kd (List (Int))).rd s (Value.cl (.slice none 0 0)) ([]) := fun s => ⟨none, 0, rfl, Nat.le_refl _, by decide, fun h => absurd h (by decide)⟩
theorem zk2 : ∀ s, ((Kd.int .i64) : Kd (Int)).rd s (Value.cl (.int .i64 0)) (0) := fun s => ⟨rfl, inRb_of rfl⟩
theorem zk23 : ∀ s, (kShare : Kd (Int × Int)).rd s (Value.cl (.agg #[.int .i64 0, .int .i64 0])) ((0, 0)) := fun s => ⟨[.int .i64 0], [.int .i64 0], rfl, ⟨rfl, inRb_of rfl⟩, ⟨rfl, inRb_of rfl⟩⟩
theorem zk3 : ∀ s, ((Kd.int .i64) : Kd (Int)).rd s (Value.cl (.int .i64 0)) (0) := fun s => ⟨rfl, inRb_of rfl⟩
theorem zk31 : ∀ s, ((Kd.int .i16) : Kd (Int)).rd s (Value.cl (.int .i16 0)) (0) := fun s => ⟨rfl, inRb_of rfl⟩
theorem zk33 : ∀ s, (kMix : Kd (Int × Int × Int)).rd s (Value.cl (.agg #[.int .i16 0, .int .i16 0, .int .i16 0])) ((0, 0, 0)) := fun s => ⟨[.int .i16 0], [.int .i16 0, .int .i16 0], rfl, ⟨rfl, inRb_of rfl⟩, ⟨[.int .i16 0], [.int .i16 0], rfl, ⟨rfl, inRb_of rfl⟩, ⟨rfl, inRb_of rfl⟩⟩⟩
theorem zk35 : ∀ s, (kMix : Kd (Int × Int × Int)).rd s (Value.cl (.agg #[.int .i16 0, .int .i16 0, .int .i16 0])) ((0, 0, 0)) := fun s => ⟨[.int .i16 0], [.int .i16 0, .int .i16 0], rfl, ⟨rfl, inRb_of rfl⟩, ⟨[.int .i16 0], [.int .i16 0], rfl, ⟨rfl, inRb_of rfl⟩, ⟨rfl, inRb_of rfl⟩⟩⟩
theorem zk38 : ∀ s, (Kd.u64 : Kd (BitVec 64)).rd s (Value.cl (.int .u64 0)) (0) := fun s => rfl
theorem zk39 : ∀ s, (kMask : Kd (BitVec 64 × BitVec 64)).rd s (Value.cl (.agg #[.int .u64 0, .int .u64 0])) ((0, 0)) := fun s => ⟨[.int .u64 0], [.int .u64 0], rfl, rfl, rfl⟩
theorem zk4 : ∀ s, (Kd.bool : Kd (Bool)).rd s (Value.cl (.bool false)) (false) := fun s => rfl
theorem zk41 : ∀ s, (kMask : Kd (BitVec 64 × BitVec 64)).rd s (Value.cl (.agg #[.int .u64 0, .int .u64 0])) ((0, 0)) := fun s => ⟨[.int .u64 0], [.int .u64 0], rfl, rfl, rfl⟩
theorem zk44 : ∀ s, (kShare : Kd (Int × Int)).rd s (Value.cl (.agg #[.int .i64 0, .int .i64 0])) ((0, 0)) := fun s => ⟨[.int .i64 0], [.int .i64 0], rfl, ⟨rfl, inRb_of rfl⟩, ⟨rfl, inRb_of rfl⟩⟩
theorem zk49 : ∀ s, (kQuery : Kd ((BitVec 64 × BitVec 64) × (BitVec 64 × BitVec 64))).rd s (Value.cl (.agg #[.int .u64 0, .int .u64 0, .int .u64 0, .int .u64 0])) (((0, 0), (0, 0))) := fun s => ⟨[.int .u64 0, .int .u64 0], [.int .u64 0, .int .u64 0], rfl, ⟨[.int .u64 0], [.int .u64 0], rfl, rfl, rfl⟩, ⟨[.int .u64 0], [.int .u64 0], rfl, rfl, rfl⟩⟩
theorem zk50 : ∀ s, ((Kd.slice (Kd.int .i64)) : Kd (List (Int))).rd s (Value.cl (.slice none 0 0)) ([]) := fun s => ⟨none, 0, rfl, Nat.le_refl _, by decide, fun h => absurd h (by decide)⟩
theorem zk51 : ∀ s, ((Kd.slice kWit) : Kd (List (Int × Int))).rd s (Value.cl (.slice none 0 0)) ([]) := fun s => ⟨none, 0, rfl, Nat.le_refl _, by decide, fun h => absurd h (by decide)⟩
theorem zk53 : ∀ s, (kAns : Kd (((BitVec 64 × BitVec 64) × (BitVec 64 × BitVec 64)) × List (Int) × List (Int × Int))).rd s (Value.cl (.agg #[.int .u64 0, .int .u64 0, .int .u64 0, .int .u64 0, .slice none 0 0, .slice none 0 0])) ((((0, 0), (0, 0)), [], [])) := fun s => ⟨[.int .u64 0, .int .u64 0, .int .u64 0, .int .u64 0], [.slice none 0 0, .slice none 0 0], rfl, ⟨[.int .u64 0, .int .u64 0], [.int .u64 0, .int .u64 0], rfl, ⟨[.int .u64 0], [.int .u64 0], rfl, rfl, rfl⟩, ⟨[.int .u64 0], [.int .u64 0], rfl, rfl, rfl⟩⟩, ⟨[.slice none 0 0], [.slice none 0 0], rfl, ⟨none, 0, rfl, Nat.le_refl _, by decide, fun h => absurd h (by decide)⟩, ⟨none, 0, rfl, Nat.le_refl _, by decide, fun h => absurd h (by decide)⟩⟩⟩
theorem zk57 : ∀ s, (kQuery : Kd ((BitVec 64 × BitVec 64) × (BitVec 64 × BitVec 64))).rd s (Value.cl (.agg #[.int .u64 0, .int .u64 0, .int .u64 0, .int .u64 0])) (((0, 0), (0, 0))) := fun s => ⟨[.int .u64 0, .int .u64 0], [.int .u64 0, .int .u64 0], rfl, ⟨[.int .u64 0], [.int .u64 0], rfl, rfl, rfl⟩, ⟨[.int .u64 0], [.int .u64 0], rfl, rfl, rfl⟩⟩
theorem zk58 : ∀ s, ((Kd.slice kWit) : Kd (List (Int × Int))).rd s (Value.cl (.slice none 0 0)) ([]) := fun s => ⟨none, 0, rfl, Nat.le_refl _, by decide, fun h => absurd h (by decide)⟩
theorem zk60 : ∀ s, (kAns : Kd (((BitVec 64 × BitVec 64) × (BitVec 64 × BitVec 64)) × List (Int) × List (Int × Int))).rd s (Value.cl (.agg #[.int .u64 0, .int .u64 0, .int .u64 0, .int .u64 0, .slice none 0 0, .slice none 0 0])) ((((0, 0), (0, 0)), [], [])) := fun s => ⟨[.int .u64 0, .int .u64 0, .int .u64 0, .int .u64 0], [.slice none 0 0, .slice none 0 0], rfl, ⟨[.int .u64 0, .int .u64 0], [.int .u64 0, .int .u64 0], rfl, ⟨[.int .u64 0], [.int .u64 0], rfl, rfl, rfl⟩, ⟨[.int .u64 0], [.int .u64 0], rfl, rfl, rfl⟩⟩, ⟨[.slice none 0 0], [.slice none 0 0], rfl, ⟨none, 0, rfl, Nat.le_refl _, by decide, fun h => absurd h (by decide)⟩, ⟨none, 0, rfl, Nat.le_refl _, by decide, fun h => absurd h (by decide)⟩⟩⟩
theorem zk63 : ∀ s, ((Kd.slice kKnot) : Kd (List (Int × List (Int) × List (Int) × List (Int)))).rd s (Value.cl (.slice none 0 0)) ([]) := fun s => ⟨none, 0, rfl, Nat.le_refl _, by decide, fun h => absurd h (by decide)⟩
theorem zk66 : ∀ s, ((Kd.slice kKnot) : Kd (List (Int × List (Int) × List (Int) × List (Int)))).rd s (Value.cl (.slice none 0 0)) ([]) := fun s => ⟨none, 0, rfl, Nat.le_refl _, by decide, fun h => absurd h (by decide)⟩
theorem zk98 : ∀ s, (kWit : Kd (Int × Int)).rd s (Value.cl (.agg #[.int .i64 0, .int .i16 0])) ((0, 0)) := fun s => ⟨[.int .i64 0], [.int .i16 0], rfl, ⟨rfl, inRb_of rfl⟩, ⟨rfl, inRb_of rfl⟩⟩
theorem zr101 : zeroT Try.prog 101 = some (.slice none 0 0) := by kernel_rfl
theorem zr103 : zeroT Try.prog 103 = some (.agg #[.int .i16 0, .slice none 0 0, .slice none 0 0, .slice none 0 0]) := by kernel_rfl
theorem zr106 : zeroT Try.prog 106 = some (.agg #[.int .i16 0, .slice none 0 0, .slice none 0 0, .slice none 0 0]) := by kernel_rfl
theorem zr121 : zeroT Try.prog 121 = some (.agg #[.int .i64 0, .int .i16 0]) := by kernel_rfl
theorem zr127 : zeroT Try.prog 127 = some (.slice none 0 0) := by kernel_rfl
theorem zr2 : zeroT Try.prog 2 = some (.int .i64 0) := by kernel_rfl
theorem zr23 : zeroT Try.prog 23 = some (.agg #[.int .i64 0, .int .i64 0]) := by kernel_rfl
theorem zr3 : zeroT Try.prog 3 = some (.int .i64 0) := by kernel_rfl
theorem zr31 : zeroT Try.prog 31 = some (.int .i16 0) := by kernel_rfl
theorem zr33 : zeroT Try.prog 33 = some (.agg #[.int .i16 0, .int .i16 0, .int .i16 0]) := by kernel_rfl
theorem zr35 : zeroT Try.prog 35 = some (.agg #[.int .i16 0, .int .i16 0, .int .i16 0]) := by kernel_rfl
theorem zr38 : zeroT Try.prog 38 = some (.int .u64 0) := by kernel_rfl
theorem zr39 : zeroT Try.prog 39 = some (.agg #[.int .u64 0, .int .u64 0]) := by kernel_rfl
theorem zr4 : zeroT Try.prog 4 = some (.bool false) := by kernel_rfl
theorem zr41 : zeroT Try.prog 41 = some (.agg #[.int .u64 0, .int .u64 0]) := by kernel_rfl
theorem zr44 : zeroT Try.prog 44 = some (.agg #[.int .i64 0, .int .i64 0]) := by kernel_rfl
theorem zr49 : zeroT Try.prog 49 = some (.agg #[.int .u64 0, .int .u64 0, .int .u64 0, .int .u64 0]) := by kernel_rfl
theorem zr50 : zeroT Try.prog 50 = some (.slice none 0 0) := by kernel_rfl
theorem zr51 : zeroT Try.prog 51 = some (.slice none 0 0) := by kernel_rfl
theorem zr53 : zeroT Try.prog 53 = some (.agg #[.int .u64 0, .int .u64 0, .int .u64 0, .int .u64 0, .slice none 0 0, .slice none 0 0]) := by kernel_rfl
theorem zr57 : zeroT Try.prog 57 = some (.agg #[.int .u64 0, .int .u64 0, .int .u64 0, .int .u64 0]) := by kernel_rfl
theorem zr58 : zeroT Try.prog 58 = some (.slice none 0 0) := by kernel_rfl
theorem zr60 : zeroT Try.prog 60 = some (.agg #[.int .u64 0, .int .u64 0, .int .u64 0, .int .u64 0, .slice none 0 0, .slice none 0 0]) := by kernel_rfl
theorem zr63 : zeroT Try.prog 63 = some (.slice none 0 0) := by kernel_rfl
theorem zr66 : zeroT Try.prog 66 = some (.slice none 0 0) := by kernel_rfl
theorem zr98 : zeroT Try.prog 98 = some (.agg #[.int .i64 0, .int .i16 0]) := by kernel_rfl
theorem sb103_0 : Sub (kKnot : Kd (Int × List (Int) × List (Int) × List (Int))) 0 (Kd.int .i16) (fun x => x.1) (fun x y => (y, x.2.1, x.2.2.1, x.2.2.2)) := Sub.fst
theorem sb103_1 : Sub (kKnot : Kd (Int × List (Int) × List (Int) × List (Int))) 1 (Kd.slice (Kd.int .i64)) (fun x => x.2.1) (fun x y => (x.1, y, x.2.2.1, x.2.2.2)) := Sub.snd (Sub.fst)
theorem sb103_2 : Sub (kKnot : Kd (Int × List (Int) × List (Int) × List (Int))) 2 (Kd.slice (Kd.int .i16)) (fun x => x.2.2.1) (fun x y => (x.1, x.2.1, y, x.2.2.2)) := Sub.snd (Sub.snd (Sub.fst))
theorem sb103_3 : Sub (kKnot : Kd (Int × List (Int) × List (Int) × List (Int))) 3 (Kd.slice (Kd.int .i64)) (fun x => x.2.2.2) (fun x y => (x.1, x.2.1, x.2.2.1, y)) := Sub.snd (Sub.snd (Sub.snd (Sub.whole _)))
theorem sb106_0 : Sub (kKnot : Kd (Int × List (Int) × List (Int) × List (Int))) 0 (Kd.int .i16) (fun x => x.1) (fun x y => (y, x.2.1, x.2.2.1, x.2.2.2)) := Sub.fst
theorem sb106_1 : Sub (kKnot : Kd (Int × List (Int) × List (Int) × List (Int))) 1 (Kd.slice (Kd.int .i64)) (fun x => x.2.1) (fun x y => (x.1, y, x.2.2.1, x.2.2.2)) := Sub.snd (Sub.fst)
theorem sb106_2 : Sub (kKnot : Kd (Int × List (Int) × List (Int) × List (Int))) 2 (Kd.slice (Kd.int .i16)) (fun x => x.2.2.1) (fun x y => (x.1, x.2.1, y, x.2.2.2)) := Sub.snd (Sub.snd (Sub.fst))
theorem sb106_3 : Sub (kKnot : Kd (Int × List (Int) × List (Int) × List (Int))) 3 (Kd.slice (Kd.int .i64)) (fun x => x.2.2.2) (fun x y => (x.1, x.2.1, x.2.2.1, y)) := Sub.snd (Sub.snd (Sub.snd (Sub.whole _)))
theorem sb121_0 : Sub (kWit : Kd (Int × Int)) 0 (Kd.int .i64) (fun x => x.1) (fun x y => (y, x.2)) := Sub.fst
theorem sb121_1 : Sub (kWit : Kd (Int × Int)) 1 (Kd.int .i16) (fun x => x.2) (fun x y => (x.1, y)) := Sub.snd (Sub.whole _)
theorem sb23_0 : Sub (kShare : Kd (Int × Int)) 0 (Kd.int .i64) (fun x => x.1) (fun x y => (y, x.2)) := Sub.fst
theorem sb23_1 : Sub (kShare : Kd (Int × Int)) 1 (Kd.int .i64) (fun x => x.2) (fun x y => (x.1, y)) := Sub.snd (Sub.whole _)
theorem sb33_0 : Sub (kMix : Kd (Int × Int × Int)) 0 (Kd.int .i16) (fun x => x.1) (fun x y => (y, x.2.1, x.2.2)) := Sub.fst
theorem sb33_1 : Sub (kMix : Kd (Int × Int × Int)) 1 (Kd.int .i16) (fun x => x.2.1) (fun x y => (x.1, y, x.2.2)) := Sub.snd (Sub.fst)
theorem sb33_2 : Sub (kMix : Kd (Int × Int × Int)) 2 (Kd.int .i16) (fun x => x.2.2) (fun x y => (x.1, x.2.1, y)) := Sub.snd (Sub.snd (Sub.whole _))
theorem sb35_0 : Sub (kMix : Kd (Int × Int × Int)) 0 (Kd.int .i16) (fun x => x.1) (fun x y => (y, x.2.1, x.2.2)) := Sub.fst
theorem sb35_1 : Sub (kMix : Kd (Int × Int × Int)) 1 (Kd.int .i16) (fun x => x.2.1) (fun x y => (x.1, y, x.2.2)) := Sub.snd (Sub.fst)
theorem sb35_2 : Sub (kMix : Kd (Int × Int × Int)) 2 (Kd.int .i16) (fun x => x.2.2) (fun x y => (x.1, x.2.1, y)) := Sub.snd (Sub.snd (Sub.whole _))
theorem sb44_0 : Sub (kShare : Kd (Int × Int)) 0 (Kd.int .i64) (fun x => x.1) (fun x y => (y, x.2)) := Sub.fst
theorem sb44_1 : Sub (kShare : Kd (Int × Int)) 1 (Kd.int .i64) (fun x => x.2) (fun x y => (x.1, y)) := Sub.snd (Sub.whole _)
theorem sb49_0 : Sub (kQuery : Kd ((BitVec 64 × BitVec 64) × (BitVec 64 × BitVec 64))) 0 kMask (fun x => x.1) (fun x y => (y, x.2)) := Sub.fst
theorem sb49_1 : Sub (kQuery : Kd ((BitVec 64 × BitVec 64) × (BitVec 64 × BitVec 64))) 2 kMask (fun x => x.2) (fun x y => (x.1, y)) := Sub.snd (Sub.whole _)
theorem sb53_0 : Sub (kAns : Kd (((BitVec 64 × BitVec 64) × (BitVec 64 × BitVec 64)) × List (Int) × List (Int × Int))) 0 kQuery (fun x => x.1) (fun x y => (y, x.2.1, x.2.2)) := Sub.fst
theorem sb53_1 : Sub (kAns : Kd (((BitVec 64 × BitVec 64) × (BitVec 64 × BitVec 64)) × List (Int) × List (Int × Int))) 4 (Kd.slice (Kd.int .i64)) (fun x => x.2.1) (fun x y => (x.1, y, x.2.2)) := Sub.snd (Sub.fst)
theorem sb53_2 : Sub (kAns : Kd (((BitVec 64 × BitVec 64) × (BitVec 64 × BitVec 64)) × List (Int) × List (Int × Int))) 5 (Kd.slice kWit) (fun x => x.2.2) (fun x y => (x.1, x.2.1, y)) := Sub.snd (Sub.snd (Sub.whole _))
theorem sb57_0 : Sub (kQuery : Kd ((BitVec 64 × BitVec 64) × (BitVec 64 × BitVec 64))) 0 kMask (fun x => x.1) (fun x y => (y, x.2)) := Sub.fst
theorem sb57_1 : Sub (kQuery : Kd ((BitVec 64 × BitVec 64) × (BitVec 64 × BitVec 64))) 2 kMask (fun x => x.2) (fun x y => (x.1, y)) := Sub.snd (Sub.whole _)
theorem sb60_0 : Sub (kAns : Kd (((BitVec 64 × BitVec 64) × (BitVec 64 × BitVec 64)) × List (Int) × List (Int × Int))) 0 kQuery (fun x => x.1) (fun x y => (y, x.2.1, x.2.2)) := Sub.fst
theorem sb60_1 : Sub (kAns : Kd (((BitVec 64 × BitVec 64) × (BitVec 64 × BitVec 64)) × List (Int) × List (Int × Int))) 4 (Kd.slice (Kd.int .i64)) (fun x => x.2.1) (fun x y => (x.1, y, x.2.2)) := Sub.snd (Sub.fst)
theorem sb60_2 : Sub (kAns : Kd (((BitVec 64 × BitVec 64) × (BitVec 64 × BitVec 64)) × List (Int) × List (Int × Int))) 5 (Kd.slice kWit) (fun x => x.2.2) (fun x y => (x.1, x.2.1, y)) := Sub.snd (Sub.snd (Sub.whole _))
theorem sb98_0 : Sub (kWit : Kd (Int × Int)) 0 (Kd.int .i64) (fun x => x.1) (fun x y => (y, x.2)) := Sub.fst
theorem sb98_1 : Sub (kWit : Kd (Int × Int)) 1 (Kd.int .i16) (fun x => x.2) (fun x y => (x.1, y)) := Sub.snd (Sub.whole _)
theorem sx39_0 : Sub (kMask : Kd (BitVec 64 × BitVec 64)) (Int.toNat 0 * 1) Kd.u64 (fun x => x.1) (fun x y => (y, x.2)) := Sub.fst
theorem sx39_1 : Sub (kMask : Kd (BitVec 64 × BitVec 64)) (Int.toNat 1 * 1) Kd.u64 (fun x => x.2) (fun x y => (x.1, y)) := Sub.snd (Sub.whole _)
theorem sx41_0 : Sub (kMask : Kd (BitVec 64 × BitVec 64)) (Int.toNat 0 * 1) Kd.u64 (fun x => x.1) (fun x y => (y, x.2)) := Sub.fst
theorem sx41_1 : Sub (kMask : Kd (BitVec 64 × BitVec 64)) (Int.toNat 1 * 1) Kd.u64 (fun x => x.2) (fun x y => (x.1, y)) := Sub.snd (Sub.whole _)
theorem eq2 : EqT Try.prog 2 ((Kd.int .i64) : Kd (Int)) 1 := EqT.int Try.underlying2 sz2
theorem eq23 : EqT Try.prog 23 (kShare : Kd (Int × Int)) 2 := EqT.struct Try.underlying23 sz23 (by kernel_rfl) (EqFs.cons (r := 1) rfl rfl eq2 (EqFs.one rfl rfl eq2) rfl rfl)
theorem eq31 : EqT Try.prog 31 ((Kd.int .i16) : Kd (Int)) 1 := EqT.int Try.underlying31 sz31
theorem eq33 : EqT Try.prog 33 (kMix : Kd (Int × Int × Int)) 2 := EqT.struct Try.underlying33 sz33 (by kernel_rfl) (EqFs.cons (r := 1) rfl rfl eq31 (EqFs.cons (r := 1) rfl rfl eq31 (EqFs.one rfl rfl eq31) rfl rfl) rfl rfl)
theorem eq35 : EqT Try.prog 35 (kMix : Kd (Int × Int × Int)) 2 := EqT.struct Try.underlying35 sz35 (by kernel_rfl) (EqFs.cons (r := 1) rfl rfl eq31 (EqFs.cons (r := 1) rfl rfl eq31 (EqFs.one rfl rfl eq31) rfl rfl) rfl rfl)
theorem eq38 : EqT Try.prog 38 (Kd.u64 : Kd (BitVec 64)) 1 := EqT.u64 Try.underlying38 sz38
theorem eq39 : EqT Try.prog 39 (kMask : Kd (BitVec 64 × BitVec 64)) 2 := EqT.two Try.underlying39 sz39 (by kernel_rfl) eq38
theorem eq41 : EqT Try.prog 41 (kMask : Kd (BitVec 64 × BitVec 64)) 2 := EqT.two Try.underlying41 sz41 (by kernel_rfl) eq38
theorem eq44 : EqT Try.prog 44 (kShare : Kd (Int × Int)) 2 := EqT.struct Try.underlying44 sz44 (by kernel_rfl) (EqFs.cons (r := 1) rfl rfl eq2 (EqFs.one rfl rfl eq2) rfl rfl)
theorem eq49 : EqT Try.prog 49 (kQuery : Kd ((BitVec 64 × BitVec 64) × (BitVec 64 × BitVec 64))) 3 := EqT.struct Try.underlying49 sz49 (by kernel_rfl) (EqFs.cons (r := 2) rfl rfl eq39 (EqFs.one rfl rfl eq39) rfl rfl)
theorem eq57 : EqT Try.prog 57 (kQuery : Kd ((BitVec 64 × BitVec 64) × (BitVec 64 × BitVec 64))) 3 := EqT.struct Try.underlying57 sz57 (by kernel_rfl) (EqFs.cons (r := 2) rfl rfl eq41 (EqFs.one rfl rfl eq41) rfl rfl)
theorem eq98 : EqT Try.prog 98 (kWit : Kd (Int × Int)) 2 := EqT.struct Try.underlying98 sz98 (by kernel_rfl) (EqFs.cons (r := 1) rfl rfl eq2 (EqFs.one rfl rfl eq31) rfl rfl)
theorem eq121 : EqT Try.prog 121 (kWit : Kd (Int × Int)) 2 := EqT.struct Try.underlying121 sz121 (by kernel_rfl) (EqFs.cons (r := 1) rfl rfl eq2 (EqFs.one rfl rfl eq31) rfl rfl)
end Go.Proofs.Ytdjbdaidnlbhhaa.VL
