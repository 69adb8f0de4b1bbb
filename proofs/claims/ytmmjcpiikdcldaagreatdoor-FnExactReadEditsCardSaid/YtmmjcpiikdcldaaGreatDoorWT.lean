/- Proved here: what the table of types of the program says. Printed by program. -/
import Derived.Test.YtmmjcpiikdcldaaGreatDoorBpa
import Derived.Test.YtmmjcpiikdcldaaGreatDoorBvb
import Derived.Test.YtmmjcpiikdcldaaGreatDoorVLC
import Derived.Test.YtmmjcpiikdcldaaGreatDoorProg
set_option linter.unusedVariables false
set_option linter.unusedSimpArgs false
set_option maxRecDepth 4000
namespace Go.Proofs.YtmmjcpiikdcldaaGreatDoor.VL
open Go
theorem fomo : Tryz.prog.follows .mixedOrders = true := by kernel_rfl
theorem ag168 : aggT Tryz.prog 168 = some true := by kernel_rfl
theorem ag2 : aggT Tryz.prog 2 = some false := by kernel_rfl
theorem ag36 : aggT Tryz.prog 36 = some false := by kernel_rfl
theorem ag38 : aggT Tryz.prog 38 = some true := by kernel_rfl
theorem ag4 : aggT Tryz.prog 4 = some false := by kernel_rfl
theorem ag40 : aggT Tryz.prog 40 = some true := by kernel_rfl
theorem ag60 : aggT Tryz.prog 60 = some false := by kernel_rfl
theorem ag61 : aggT Tryz.prog 61 = some false := by kernel_rfl
theorem ag63 : aggT Tryz.prog 63 = some true := by kernel_rfl
theorem ag9 : aggT Tryz.prog 9 = some false := by kernel_rfl
theorem ar136 : arT Tryz.prog 136 = some (5, 9) := by kernel_rfl
theorem ar168 : arT Tryz.prog 168 = some (256, 4) := by kernel_rfl
theorem ar38 : arT Tryz.prog 38 = some (2, 36) := by kernel_rfl
theorem by2 : bytesT Tryz.prog 2 = some 8 := by kernel_rfl
theorem by63 : bytesT Tryz.prog 63 = some 48 := by kernel_rfl
theorem by9 : bytesT Tryz.prog 9 = some 16 := by kernel_rfl
theorem eg38 : Program.eqGuardType Tryz.prog (Program.depth Tryz.prog) 38 = false := by kernel_rfl
theorem el22 : elT Tryz.prog 22 = some 5 := by kernel_rfl
theorem el43 : elT Tryz.prog 43 = some 2 := by kernel_rfl
theorem el49 : elT Tryz.prog 49 = some 63 := by kernel_rfl
theorem el81 : elT Tryz.prog 81 = some 9 := by kernel_rfl
theorem fd40_0 : fldT Tryz.prog 40 0 = some (9, 0) := by kernel_rfl
theorem fd40_1 : fldT Tryz.prog 40 1 = some (38, 1) := by kernel_rfl
theorem fd63_0 : fldT Tryz.prog 63 0 = some (60, 0) := by kernel_rfl
theorem fd63_1 : fldT Tryz.prog 63 1 = some (9, 1) := by kernel_rfl
theorem fd63_2 : fldT Tryz.prog 63 2 = some (61, 2) := by kernel_rfl
theorem fd63_3 : fldT Tryz.prog 63 3 = some (38, 3) := by kernel_rfl
theorem pl40 : plT Tryz.prog 40 = some [(0, 1), (1, 2)] := by kernel_rfl
theorem pl63 : plT Tryz.prog 63 = some [(0, 1), (1, 1), (2, 1), (3, 2)] := by kernel_rfl
theorem sz136 : sizeT Tryz.prog 136 = some 5 := by kernel_rfl
theorem sz168 : sizeT Tryz.prog 168 = some 256 := by kernel_rfl
theorem sz2 : sizeT Tryz.prog 2 = some 1 := by kernel_rfl
theorem sz36 : sizeT Tryz.prog 36 = some 1 := by kernel_rfl
theorem sz38 : sizeT Tryz.prog 38 = some 2 := by kernel_rfl
theorem sz4 : sizeT Tryz.prog 4 = some 1 := by kernel_rfl
theorem sz40 : sizeT Tryz.prog 40 = some 3 := by kernel_rfl
theorem sz5 : sizeT Tryz.prog 5 = some 1 := by kernel_rfl
theorem sz60 : sizeT Tryz.prog 60 = some 1 := by kernel_rfl
theorem sz61 : sizeT Tryz.prog 61 = some 1 := by kernel_rfl
theorem sz63 : sizeT Tryz.prog 63 = some 5 := by kernel_rfl
theorem sz9 : sizeT Tryz.prog 9 = some 1 := by kernel_rfl
theorem us2 : (Tryz.prog.underlying 2).isSome = true := by kernel_rfl
theorem us3 : (Tryz.prog.underlying 3).isSome = true := by kernel_rfl
theorem us5 : (Tryz.prog.underlying 5).isSome = true := by kernel_rfl
theorem us61 : (Tryz.prog.underlying 61).isSome = true := by kernel_rfl
theorem zk136 : ∀ s, ((Kd.arr 5 Kd.str) : Kd (List (ByteArray))).rd s (Value.cl (.agg (List.replicate 5 (.string .empty)).toArray)) ((List.replicate 5 .empty)) := zarr 5 (fun s => ⟨rfl, by decide⟩)
theorem zk168 : ∀ s, ((Kd.arr 256 Kd.bool) : Kd (List (Bool))).rd s (Value.cl (.agg (List.replicate 256 (.bool false)).toArray)) ((List.replicate 256 false)) := zarr 256 (fun s => rfl)
theorem zk2 : ∀ s, ((Kd.int .i64) : Kd (Int)).rd s (Value.cl (.int .i64 0)) (0) := fun s => ⟨rfl, inRb_of rfl⟩
theorem zk38 : ∀ s, (kMask : Kd (BitVec 64 × BitVec 64)).rd s (Value.cl (.agg #[.int .u64 0, .int .u64 0])) ((0, 0)) := fun s => ⟨[.int .u64 0], [.int .u64 0], rfl, rfl, rfl⟩
theorem zk40 : ∀ s, (kCard : Kd (ByteArray × (BitVec 64 × BitVec 64))).rd s (Value.cl (.agg #[.string .empty, .int .u64 0, .int .u64 0])) ((.empty, (0, 0))) := fun s => ⟨[.string .empty], [.int .u64 0, .int .u64 0], rfl, ⟨rfl, by decide⟩, ⟨[.int .u64 0], [.int .u64 0], rfl, rfl, rfl⟩⟩
theorem zk5 : ∀ s, ((Kd.int .u8) : Kd (Int)).rd s (Value.cl (.int .u8 0)) (0) := fun s => ⟨rfl, inRb_of rfl⟩
theorem zk63 : ∀ s, (kEdit : Kd (Int × ByteArray × Int × (BitVec 64 × BitVec 64))).rd s (Value.cl (.agg #[.int .i8 0, .string .empty, .int .i16 0, .int .u64 0, .int .u64 0])) ((0, .empty, 0, (0, 0))) := fun s => ⟨[.int .i8 0], [.string .empty, .int .i16 0, .int .u64 0, .int .u64 0], rfl, ⟨rfl, inRb_of rfl⟩, ⟨[.string .empty], [.int .i16 0, .int .u64 0, .int .u64 0], rfl, ⟨rfl, by decide⟩, ⟨[.int .i16 0], [.int .u64 0, .int .u64 0], rfl, ⟨rfl, inRb_of rfl⟩, ⟨[.int .u64 0], [.int .u64 0], rfl, rfl, rfl⟩⟩⟩⟩
theorem zk9 : ∀ s, (Kd.str : Kd (ByteArray)).rd s (Value.cl (.string .empty)) (.empty) := fun s => ⟨rfl, by decide⟩
theorem zr136 : zeroT Tryz.prog 136 = some (.agg (List.replicate 5 (.string .empty)).toArray) := by kernel_rfl
theorem zr168 : zeroT Tryz.prog 168 = some (.agg (List.replicate 256 (.bool false)).toArray) := by kernel_rfl
theorem zr2 : zeroT Tryz.prog 2 = some (.int .i64 0) := by kernel_rfl
theorem zr38 : zeroT Tryz.prog 38 = some (.agg #[.int .u64 0, .int .u64 0]) := by kernel_rfl
theorem zr40 : zeroT Tryz.prog 40 = some (.agg #[.string .empty, .int .u64 0, .int .u64 0]) := by kernel_rfl
theorem zr5 : zeroT Tryz.prog 5 = some (.int .u8 0) := by kernel_rfl
theorem zr63 : zeroT Tryz.prog 63 = some (.agg #[.int .i8 0, .string .empty, .int .i16 0, .int .u64 0, .int .u64 0]) := by kernel_rfl
theorem zr9 : zeroT Tryz.prog 9 = some (.string .empty) := by kernel_rfl
theorem sb40_0 : Sub (kCard : Kd (ByteArray × (BitVec 64 × BitVec 64))) 0 Kd.str (fun x => x.1) (fun x y => (y, x.2)) := Sub.fst
theorem sb40_1 : Sub (kCard : Kd (ByteArray × (BitVec 64 × BitVec 64))) 1 kMask (fun x => x.2) (fun x y => (x.1, y)) := Sub.snd (Sub.whole _)
theorem sb63_0 : Sub (kEdit : Kd (Int × ByteArray × Int × (BitVec 64 × BitVec 64))) 0 (Kd.int .i8) (fun x => x.1) (fun x y => (y, x.2.1, x.2.2.1, x.2.2.2)) := Sub.fst
theorem sb63_1 : Sub (kEdit : Kd (Int × ByteArray × Int × (BitVec 64 × BitVec 64))) 1 Kd.str (fun x => x.2.1) (fun x y => (x.1, y, x.2.2.1, x.2.2.2)) := Sub.snd (Sub.fst)
theorem sb63_2 : Sub (kEdit : Kd (Int × ByteArray × Int × (BitVec 64 × BitVec 64))) 2 (Kd.int .i16) (fun x => x.2.2.1) (fun x y => (x.1, x.2.1, y, x.2.2.2)) := Sub.snd (Sub.snd (Sub.fst))
theorem sb63_3 : Sub (kEdit : Kd (Int × ByteArray × Int × (BitVec 64 × BitVec 64))) 3 kMask (fun x => x.2.2.2) (fun x y => (x.1, x.2.1, x.2.2.1, y)) := Sub.snd (Sub.snd (Sub.snd (Sub.whole _)))
theorem sx38_0 : Sub (kMask : Kd (BitVec 64 × BitVec 64)) (Int.toNat 0 * 1) Kd.u64 (fun x => x.1) (fun x y => (y, x.2)) := Sub.fst
theorem sx38_1 : Sub (kMask : Kd (BitVec 64 × BitVec 64)) (Int.toNat 1 * 1) Kd.u64 (fun x => x.2) (fun x y => (x.1, y)) := Sub.snd (Sub.whole _)
theorem eq36 : EqT Tryz.prog 36 (Kd.u64 : Kd (BitVec 64)) 1 := EqT.u64 Tryz.underlying36 sz36
theorem eq38 : EqT Tryz.prog 38 (kMask : Kd (BitVec 64 × BitVec 64)) 2 := EqT.two Tryz.underlying38 sz38 (by kernel_rfl) eq36
end Go.Proofs.YtmmjcpiikdcldaaGreatDoor.VL
