/- Proved here: what the table of types of the program says. Printed by program. -/
import Derived.Test.YtcaeabgfgofefaaDoorPB
import Derived.Test.YtcaeabgfgofefaaDoorVT
import Derived.Test.YtcaeabgfgofefaaDoorProg
set_option linter.unusedVariables false
set_option linter.unusedSimpArgs false
set_option maxRecDepth 4000
namespace Go.Proofs.YtcaeabgfgofefaaDoor.VL
open Go
theorem fomo : Tryd.prog.follows .mixedOrders = true := by kernel_rfl
theorem ag2 : aggT Tryd.prog 2 = some false := by kernel_rfl
theorem ag203 : aggT Tryd.prog 203 = some true := by kernel_rfl
theorem ag22 : aggT Tryd.prog 22 = some false := by kernel_rfl
theorem ag23 : aggT Tryd.prog 23 = some true := by kernel_rfl
theorem ag25 : aggT Tryd.prog 25 = some true := by kernel_rfl
theorem ag29 : aggT Tryd.prog 29 = some true := by kernel_rfl
theorem ag31 : aggT Tryd.prog 31 = some true := by kernel_rfl
theorem ag4 : aggT Tryd.prog 4 = some false := by kernel_rfl
theorem ag9 : aggT Tryd.prog 9 = some false := by kernel_rfl
theorem ar203 : arT Tryd.prog 203 = some (256, 4) := by kernel_rfl
theorem ar23 : arT Tryd.prog 23 = some (2, 22) := by kernel_rfl
theorem ar29 : arT Tryd.prog 29 = some (2, 22) := by kernel_rfl
theorem by2 : bytesT Tryd.prog 2 = some 8 := by kernel_rfl
theorem by31 : bytesT Tryd.prog 31 = some 32 := by kernel_rfl
theorem el191 : elT Tryd.prog 191 = some 5 := by kernel_rfl
theorem el34 : elT Tryd.prog 34 = some 25 := by kernel_rfl
theorem el38 : elT Tryd.prog 38 = some 31 := by kernel_rfl
theorem el61 : elT Tryd.prog 61 = some 2 := by kernel_rfl
theorem fd25_0 : fldT Tryd.prog 25 0 = some (9, 0) := by kernel_rfl
theorem fd25_1 : fldT Tryd.prog 25 1 = some (23, 1) := by kernel_rfl
theorem fd31_0 : fldT Tryd.prog 31 0 = some (9, 0) := by kernel_rfl
theorem fd31_1 : fldT Tryd.prog 31 1 = some (29, 1) := by kernel_rfl
theorem sz2 : sizeT Tryd.prog 2 = some 1 := by kernel_rfl
theorem sz203 : sizeT Tryd.prog 203 = some 256 := by kernel_rfl
theorem sz22 : sizeT Tryd.prog 22 = some 1 := by kernel_rfl
theorem sz23 : sizeT Tryd.prog 23 = some 2 := by kernel_rfl
theorem sz25 : sizeT Tryd.prog 25 = some 3 := by kernel_rfl
theorem sz29 : sizeT Tryd.prog 29 = some 2 := by kernel_rfl
theorem sz31 : sizeT Tryd.prog 31 = some 3 := by kernel_rfl
theorem sz4 : sizeT Tryd.prog 4 = some 1 := by kernel_rfl
theorem sz5 : sizeT Tryd.prog 5 = some 1 := by kernel_rfl
theorem sz9 : sizeT Tryd.prog 9 = some 1 := by kernel_rfl
theorem us22 : (Tryd.prog.underlying 22).isSome = true := by kernel_rfl
theorem us3 : (Tryd.prog.underlying 3).isSome = true := by kernel_rfl
theorem zk2 : ∀ s, ((Kd.int .i64) : Kd (Int)).rd s (Value.cl (.int .i64 0)) (0) := fun s => ⟨rfl, inRb_of rfl⟩
theorem zk203 : ∀ s, ((Kd.arr 256 Kd.bool) : Kd (List (Bool))).rd s (Value.cl (.agg (List.replicate 256 (.bool false)).toArray)) ((List.replicate 256 false)) := zarr 256 (fun s => rfl)
theorem zk29 : ∀ s, (kMask : Kd (BitVec 64 × BitVec 64)).rd s (Value.cl (.agg #[.int .u64 0, .int .u64 0])) ((0, 0)) := fun s => ⟨[.int .u64 0], [.int .u64 0], rfl, rfl, rfl⟩
theorem zk31 : ∀ s, (kCard : Kd (ByteArray × (BitVec 64 × BitVec 64))).rd s (Value.cl (.agg #[.string .empty, .int .u64 0, .int .u64 0])) ((.empty, (0, 0))) := fun s => ⟨[.string .empty], [.int .u64 0, .int .u64 0], rfl, ⟨rfl, by decide⟩, ⟨[.int .u64 0], [.int .u64 0], rfl, rfl, rfl⟩⟩
theorem zk5 : ∀ s, ((Kd.int .u8) : Kd (Int)).rd s (Value.cl (.int .u8 0)) (0) := fun s => ⟨rfl, inRb_of rfl⟩
theorem zr2 : zeroT Tryd.prog 2 = some (.int .i64 0) := by kernel_rfl
theorem zr203 : zeroT Tryd.prog 203 = some (.agg (List.replicate 256 (.bool false)).toArray) := by kernel_rfl
theorem zr29 : zeroT Tryd.prog 29 = some (.agg #[.int .u64 0, .int .u64 0]) := by kernel_rfl
theorem zr31 : zeroT Tryd.prog 31 = some (.agg #[.string .empty, .int .u64 0, .int .u64 0]) := by kernel_rfl
theorem zr5 : zeroT Tryd.prog 5 = some (.int .u8 0) := by kernel_rfl
theorem sb25_0 : Sub (kCard : Kd (ByteArray × (BitVec 64 × BitVec 64))) 0 Kd.str (fun x => x.1) (fun x y => (y, x.2)) := Sub.fst
theorem sb25_1 : Sub (kCard : Kd (ByteArray × (BitVec 64 × BitVec 64))) 1 kMask (fun x => x.2) (fun x y => (x.1, y)) := Sub.snd (Sub.whole _)
theorem sb31_0 : Sub (kCard : Kd (ByteArray × (BitVec 64 × BitVec 64))) 0 Kd.str (fun x => x.1) (fun x y => (y, x.2)) := Sub.fst
theorem sb31_1 : Sub (kCard : Kd (ByteArray × (BitVec 64 × BitVec 64))) 1 kMask (fun x => x.2) (fun x y => (x.1, y)) := Sub.snd (Sub.whole _)
theorem sx29_0 : Sub (kMask : Kd (BitVec 64 × BitVec 64)) (Int.toNat 0 * 1) Kd.u64 (fun x => x.1) (fun x y => (y, x.2)) := Sub.fst
theorem sx29_1 : Sub (kMask : Kd (BitVec 64 × BitVec 64)) (Int.toNat 1 * 1) Kd.u64 (fun x => x.2) (fun x y => (x.1, y)) := Sub.snd (Sub.whole _)
end Go.Proofs.YtcaeabgfgofefaaDoor.VL
