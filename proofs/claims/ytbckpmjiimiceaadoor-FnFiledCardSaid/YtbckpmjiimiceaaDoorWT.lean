/- Proved here: what the table of types of the program says. Printed by program. -/
import Derived.Test.YtbckpmjiimiceaaDoorBpa
import Derived.Test.YtbckpmjiimiceaaDoorBvb
import Derived.Test.YtbckpmjiimiceaaDoorVLC
import Derived.Test.YtbckpmjiimiceaaDoorVLD
import Derived.Test.YtbckpmjiimiceaaDoorProg
set_option linter.unusedVariables false
set_option linter.unusedSimpArgs false
set_option maxRecDepth 4000
namespace Go.Proofs.YtbckpmjiimiceaaDoor.VL
open Go
theorem fomo : Tryd.prog.follows .mixedOrders = true := by kernel_rfl
theorem ag2 : aggT Tryd.prog 2 = some false := by kernel_rfl
theorem ag22 : aggT Tryd.prog 22 = some false := by kernel_rfl
theorem ag24 : aggT Tryd.prog 24 = some false := by kernel_rfl
theorem ag3 : aggT Tryd.prog 3 = some false := by kernel_rfl
theorem ag4 : aggT Tryd.prog 4 = some false := by kernel_rfl
theorem ag5 : aggT Tryd.prog 5 = some false := by kernel_rfl
theorem ag56 : aggT Tryd.prog 56 = some false := by kernel_rfl
theorem ag77 : aggT Tryd.prog 77 = some true := by kernel_rfl
theorem ag9 : aggT Tryd.prog 9 = some false := by kernel_rfl
theorem ar77 : arT Tryd.prog 77 = some (256, 4) := by kernel_rfl
theorem by2 : bytesT Tryd.prog 2 = some 8 := by kernel_rfl
theorem by9 : bytesT Tryd.prog 9 = some 16 := by kernel_rfl
theorem el22 : elT Tryd.prog 22 = some 5 := by kernel_rfl
theorem el24 : elT Tryd.prog 24 = some 9 := by kernel_rfl
theorem el26 : elT Tryd.prog 26 = some 2 := by kernel_rfl
theorem el82 : elT Tryd.prog 82 = some 3 := by kernel_rfl
theorem fd58_0 : fldT Tryd.prog 58 0 = some (22, 0) := by kernel_rfl
theorem fd58_1 : fldT Tryd.prog 58 1 = some (3, 1) := by kernel_rfl
theorem fd58_2 : fldT Tryd.prog 58 2 = some (56, 2) := by kernel_rfl
theorem pl58 : plT Tryd.prog 58 = some [(0, 1), (1, 1), (2, 1)] := by kernel_rfl
theorem sz2 : sizeT Tryd.prog 2 = some 1 := by kernel_rfl
theorem sz22 : sizeT Tryd.prog 22 = some 1 := by kernel_rfl
theorem sz3 : sizeT Tryd.prog 3 = some 1 := by kernel_rfl
theorem sz4 : sizeT Tryd.prog 4 = some 1 := by kernel_rfl
theorem sz5 : sizeT Tryd.prog 5 = some 1 := by kernel_rfl
theorem sz56 : sizeT Tryd.prog 56 = some 1 := by kernel_rfl
theorem sz77 : sizeT Tryd.prog 77 = some 256 := by kernel_rfl
theorem sz9 : sizeT Tryd.prog 9 = some 1 := by kernel_rfl
theorem us3 : (Tryd.prog.underlying 3).isSome = true := by kernel_rfl
theorem us5 : (Tryd.prog.underlying 5).isSome = true := by kernel_rfl
theorem us56 : (Tryd.prog.underlying 56).isSome = true := by kernel_rfl
theorem us71 : (Tryd.prog.underlying 71).isSome = true := by kernel_rfl
theorem zk2 : ∀ s, ((Kd.int .i64) : Kd (Int)).rd s (Value.cl (.int .i64 0)) (0) := fun s => ⟨rfl, inRb_of rfl⟩
theorem zk3 : ∀ s, ((Kd.int .i64) : Kd (Int)).rd s (Value.cl (.int .i64 0)) (0) := fun s => ⟨rfl, inRb_of rfl⟩
theorem zk58 : ∀ s, ((Kd.pair (Kd.slice (Kd.int .u8)) (Kd.pair (Kd.int .i64) Kd.u64)) : Kd (List (Int) × Int × BitVec 64)).rd s (Value.cl (.agg #[.slice none 0 0, .int .i64 0, .int .u64 0])) (([], 0, 0)) := fun s => ⟨[.slice none 0 0], [.int .i64 0, .int .u64 0], rfl, ⟨none, 0, rfl, Nat.le_refl _, by decide, fun h => absurd h (by decide)⟩, ⟨[.int .i64 0], [.int .u64 0], rfl, ⟨rfl, inRb_of rfl⟩, rfl⟩⟩
theorem zk77 : ∀ s, ((Kd.arr 256 Kd.bool) : Kd (List (Bool))).rd s (Value.cl (.agg (List.replicate 256 (.bool false)).toArray)) ((List.replicate 256 false)) := zarr 256 (fun s => rfl)
theorem zk9 : ∀ s, (Kd.str : Kd (ByteArray)).rd s (Value.cl (.string .empty)) (.empty) := fun s => ⟨rfl, by decide⟩
theorem zr2 : zeroT Tryd.prog 2 = some (.int .i64 0) := by kernel_rfl
theorem zr3 : zeroT Tryd.prog 3 = some (.int .i64 0) := by kernel_rfl
theorem zr58 : zeroT Tryd.prog 58 = some (.agg #[.slice none 0 0, .int .i64 0, .int .u64 0]) := by kernel_rfl
theorem zr77 : zeroT Tryd.prog 77 = some (.agg (List.replicate 256 (.bool false)).toArray) := by kernel_rfl
theorem zr9 : zeroT Tryd.prog 9 = some (.string .empty) := by kernel_rfl
theorem sb58_0 : Sub ((Kd.pair (Kd.slice (Kd.int .u8)) (Kd.pair (Kd.int .i64) Kd.u64)) : Kd (List (Int) × Int × BitVec 64)) 0 (Kd.slice (Kd.int .u8)) (fun x => x.1) (fun x y => (y, x.2.1, x.2.2)) := Sub.fst
theorem sb58_1 : Sub ((Kd.pair (Kd.slice (Kd.int .u8)) (Kd.pair (Kd.int .i64) Kd.u64)) : Kd (List (Int) × Int × BitVec 64)) 1 (Kd.int .i64) (fun x => x.2.1) (fun x y => (x.1, y, x.2.2)) := Sub.snd (Sub.fst)
theorem sb58_2 : Sub ((Kd.pair (Kd.slice (Kd.int .u8)) (Kd.pair (Kd.int .i64) Kd.u64)) : Kd (List (Int) × Int × BitVec 64)) 2 Kd.u64 (fun x => x.2.2) (fun x y => (x.1, x.2.1, y)) := Sub.snd (Sub.snd (Sub.whole _))
end Go.Proofs.YtbckpmjiimiceaaDoor.VL
