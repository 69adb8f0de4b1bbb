/- Proved here: what the table of types of the program says. Printed by program. -/
import Derived.Test.YtfnkphllkbkfaaaDoorBpa
import Derived.Test.YtfnkphllkbkfaaaDoorBvb
import Derived.Test.YtfnkphllkbkfaaaDoorProg
set_option linter.unusedVariables false
set_option linter.unusedSimpArgs false
set_option maxRecDepth 4000
namespace Go.Proofs.YtfnkphllkbkfaaaDoor.VL
open Go
theorem fomo : Tryd.prog.follows .mixedOrders = true := by kernel_rfl
theorem ag199 : aggT Tryd.prog 199 = some true := by kernel_rfl
theorem ag2 : aggT Tryd.prog 2 = some false := by kernel_rfl
theorem ag4 : aggT Tryd.prog 4 = some false := by kernel_rfl
theorem ag47 : aggT Tryd.prog 47 = some false := by kernel_rfl
theorem ag48 : aggT Tryd.prog 48 = some false := by kernel_rfl
theorem ag49 : aggT Tryd.prog 49 = some false := by kernel_rfl
theorem ag50 : aggT Tryd.prog 50 = some true := by kernel_rfl
theorem ag52 : aggT Tryd.prog 52 = some true := by kernel_rfl
theorem ag55 : aggT Tryd.prog 55 = some true := by kernel_rfl
theorem ag57 : aggT Tryd.prog 57 = some true := by kernel_rfl
theorem ag9 : aggT Tryd.prog 9 = some false := by kernel_rfl
theorem ar163 : arT Tryd.prog 163 = some (5, 9) := by kernel_rfl
theorem ar199 : arT Tryd.prog 199 = some (256, 4) := by kernel_rfl
theorem ar50 : arT Tryd.prog 50 = some (2, 49) := by kernel_rfl
theorem ar55 : arT Tryd.prog 55 = some (2, 49) := by kernel_rfl
theorem by2 : bytesT Tryd.prog 2 = some 8 := by kernel_rfl
theorem by57 : bytesT Tryd.prog 57 = some 48 := by kernel_rfl
theorem eg55 : Program.eqGuardType Tryd.prog (Program.depth Tryd.prog) 55 = false := by kernel_rfl
theorem el146 : elT Tryd.prog 146 = some 5 := by kernel_rfl
theorem el22 : elT Tryd.prog 22 = some 52 := by kernel_rfl
theorem el24 : elT Tryd.prog 24 = some 57 := by kernel_rfl
theorem el33 : elT Tryd.prog 33 = some 9 := by kernel_rfl
theorem el75 : elT Tryd.prog 75 = some 2 := by kernel_rfl
theorem fd101_0 : fldT Tryd.prog 101 0 = some (9, 0) := by kernel_rfl
theorem fd101_1 : fldT Tryd.prog 101 1 = some (55, 1) := by kernel_rfl
theorem fd52_0 : fldT Tryd.prog 52 0 = some (47, 0) := by kernel_rfl
theorem fd52_1 : fldT Tryd.prog 52 1 = some (9, 1) := by kernel_rfl
theorem fd52_2 : fldT Tryd.prog 52 2 = some (48, 2) := by kernel_rfl
theorem fd52_3 : fldT Tryd.prog 52 3 = some (50, 3) := by kernel_rfl
theorem fd57_0 : fldT Tryd.prog 57 0 = some (47, 0) := by kernel_rfl
theorem fd57_1 : fldT Tryd.prog 57 1 = some (9, 1) := by kernel_rfl
theorem fd57_2 : fldT Tryd.prog 57 2 = some (48, 2) := by kernel_rfl
theorem fd57_3 : fldT Tryd.prog 57 3 = some (55, 3) := by kernel_rfl
theorem pl101 : plT Tryd.prog 101 = some [(0, 1), (1, 2)] := by kernel_rfl
theorem sz163 : sizeT Tryd.prog 163 = some 5 := by kernel_rfl
theorem sz199 : sizeT Tryd.prog 199 = some 256 := by kernel_rfl
theorem sz2 : sizeT Tryd.prog 2 = some 1 := by kernel_rfl
theorem sz4 : sizeT Tryd.prog 4 = some 1 := by kernel_rfl
theorem sz47 : sizeT Tryd.prog 47 = some 1 := by kernel_rfl
theorem sz48 : sizeT Tryd.prog 48 = some 1 := by kernel_rfl
theorem sz49 : sizeT Tryd.prog 49 = some 1 := by kernel_rfl
theorem sz5 : sizeT Tryd.prog 5 = some 1 := by kernel_rfl
theorem sz50 : sizeT Tryd.prog 50 = some 2 := by kernel_rfl
theorem sz52 : sizeT Tryd.prog 52 = some 5 := by kernel_rfl
theorem sz55 : sizeT Tryd.prog 55 = some 2 := by kernel_rfl
theorem sz57 : sizeT Tryd.prog 57 = some 5 := by kernel_rfl
theorem sz9 : sizeT Tryd.prog 9 = some 1 := by kernel_rfl
theorem us2 : (Tryd.prog.underlying 2).isSome = true := by kernel_rfl
theorem us48 : (Tryd.prog.underlying 48).isSome = true := by kernel_rfl
theorem zk101 : ∀ s, (kCard : Kd (ByteArray × (BitVec 64 × BitVec 64))).rd s (Value.cl (.agg #[.string .empty, .int .u64 0, .int .u64 0])) ((.empty, (0, 0))) := fun s => ⟨[.string .empty], [.int .u64 0, .int .u64 0], rfl, ⟨rfl, by decide⟩, ⟨[.int .u64 0], [.int .u64 0], rfl, rfl, rfl⟩⟩
theorem zk163 : ∀ s, ((Kd.arr 5 Kd.str) : Kd (List (ByteArray))).rd s (Value.cl (.agg (List.replicate 5 (.string .empty)).toArray)) ((List.replicate 5 .empty)) := zarr 5 (fun s => ⟨rfl, by decide⟩)
theorem zk199 : ∀ s, ((Kd.arr 256 Kd.bool) : Kd (List (Bool))).rd s (Value.cl (.agg (List.replicate 256 (.bool false)).toArray)) ((List.replicate 256 false)) := zarr 256 (fun s => rfl)
theorem zk2 : ∀ s, ((Kd.int .i64) : Kd (Int)).rd s (Value.cl (.int .i64 0)) (0) := fun s => ⟨rfl, inRb_of rfl⟩
theorem zk5 : ∀ s, ((Kd.int .u8) : Kd (Int)).rd s (Value.cl (.int .u8 0)) (0) := fun s => ⟨rfl, inRb_of rfl⟩
theorem zk55 : ∀ s, (kMask : Kd (BitVec 64 × BitVec 64)).rd s (Value.cl (.agg #[.int .u64 0, .int .u64 0])) ((0, 0)) := fun s => ⟨[.int .u64 0], [.int .u64 0], rfl, rfl, rfl⟩
theorem zk57 : ∀ s, (kEdit : Kd (Int × ByteArray × Int × (BitVec 64 × BitVec 64))).rd s (Value.cl (.agg #[.int .i8 0, .string .empty, .int .i16 0, .int .u64 0, .int .u64 0])) ((0, .empty, 0, (0, 0))) := fun s => ⟨[.int .i8 0], [.string .empty, .int .i16 0, .int .u64 0, .int .u64 0], rfl, ⟨rfl, inRb_of rfl⟩, ⟨[.string .empty], [.int .i16 0, .int .u64 0, .int .u64 0], rfl, ⟨rfl, by decide⟩, ⟨[.int .i16 0], [.int .u64 0, .int .u64 0], rfl, ⟨rfl, inRb_of rfl⟩, ⟨[.int .u64 0], [.int .u64 0], rfl, rfl, rfl⟩⟩⟩⟩
theorem zk9 : ∀ s, (Kd.str : Kd (ByteArray)).rd s (Value.cl (.string .empty)) (.empty) := fun s => ⟨rfl, by decide⟩
theorem zr101 : zeroT Tryd.prog 101 = some (.agg #[.string .empty, .int .u64 0, .int .u64 0]) := by kernel_rfl
theorem zr163 : zeroT Tryd.prog 163 = some (.agg (List.replicate 5 (.string .empty)).toArray) := by kernel_rfl
theorem zr199 : zeroT Tryd.prog 199 = some (.agg (List.replicate 256 (.bool false)).toArray) := by kernel_rfl
theorem zr2 : zeroT Tryd.prog 2 = some (.int .i64 0) := by kernel_rfl
theorem zr5 : zeroT Tryd.prog 5 = some (.int .u8 0) := by kernel_rfl
theorem zr55 : zeroT Tryd.prog 55 = some (.agg #[.int .u64 0, .int .u64 0]) := by kernel_rfl
theorem zr57 : zeroT Tryd.prog 57 = some (.agg #[.int .i8 0, .string .empty, .int .i16 0, .int .u64 0, .int .u64 0]) := by kernel_rfl
theorem zr9 : zeroT Tryd.prog 9 = some (.string .empty) := by kernel_rfl
theorem sb101_0 : Sub (kCard : Kd (ByteArray × (BitVec 64 × BitVec 64))) 0 Kd.str (fun x => x.1) (fun x y => (y, x.2)) := Sub.fst
theorem sb101_1 : Sub (kCard : Kd (ByteArray × (BitVec 64 × BitVec 64))) 1 kMask (fun x => x.2) (fun x y => (x.1, y)) := Sub.snd (Sub.whole _)
theorem sb52_0 : Sub (kEdit : Kd (Int × ByteArray × Int × (BitVec 64 × BitVec 64))) 0 (Kd.int .i8) (fun x => x.1) (fun x y => (y, x.2.1, x.2.2.1, x.2.2.2)) := Sub.fst
theorem sb52_1 : Sub (kEdit : Kd (Int × ByteArray × Int × (BitVec 64 × BitVec 64))) 1 Kd.str (fun x => x.2.1) (fun x y => (x.1, y, x.2.2.1, x.2.2.2)) := Sub.snd (Sub.fst)
theorem sb52_2 : Sub (kEdit : Kd (Int × ByteArray × Int × (BitVec 64 × BitVec 64))) 2 (Kd.int .i16) (fun x => x.2.2.1) (fun x y => (x.1, x.2.1, y, x.2.2.2)) := Sub.snd (Sub.snd (Sub.fst))
theorem sb52_3 : Sub (kEdit : Kd (Int × ByteArray × Int × (BitVec 64 × BitVec 64))) 3 kMask (fun x => x.2.2.2) (fun x y => (x.1, x.2.1, x.2.2.1, y)) := Sub.snd (Sub.snd (Sub.snd (Sub.whole _)))
theorem sb57_0 : Sub (kEdit : Kd (Int × ByteArray × Int × (BitVec 64 × BitVec 64))) 0 (Kd.int .i8) (fun x => x.1) (fun x y => (y, x.2.1, x.2.2.1, x.2.2.2)) := Sub.fst
theorem sb57_1 : Sub (kEdit : Kd (Int × ByteArray × Int × (BitVec 64 × BitVec 64))) 1 Kd.str (fun x => x.2.1) (fun x y => (x.1, y, x.2.2.1, x.2.2.2)) := Sub.snd (Sub.fst)
theorem sb57_2 : Sub (kEdit : Kd (Int × ByteArray × Int × (BitVec 64 × BitVec 64))) 2 (Kd.int .i16) (fun x => x.2.2.1) (fun x y => (x.1, x.2.1, y, x.2.2.2)) := Sub.snd (Sub.snd (Sub.fst))
theorem sb57_3 : Sub (kEdit : Kd (Int × ByteArray × Int × (BitVec 64 × BitVec 64))) 3 kMask (fun x => x.2.2.2) (fun x y => (x.1, x.2.1, x.2.2.1, y)) := Sub.snd (Sub.snd (Sub.snd (Sub.whole _)))
theorem sx55_1 : Sub (kMask : Kd (BitVec 64 × BitVec 64)) (Int.toNat 1 * 1) Kd.u64 (fun x => x.2) (fun x y => (x.1, y)) := Sub.snd (Sub.whole _)
theorem eq49 : EqT Tryd.prog 49 (Kd.u64 : Kd (BitVec 64)) 1 := EqT.u64 Tryd.underlying49 sz49
theorem eq55 : EqT Tryd.prog 55 (kMask : Kd (BitVec 64 × BitVec 64)) 2 := EqT.two Tryd.underlying55 sz55 (by kernel_rfl) eq49
end Go.Proofs.YtfnkphllkbkfaaaDoor.VL
