/- Proved here: what the table of types of the program says. Printed by program. -/
import Derived.Test.YtfnkphllkbkfaaaDoorPB
import Derived.Test.YtfnkphllkbkfaaaDoorVY
import Derived.Test.YtfnkphllkbkfaaaDoorProg
set_option linter.unusedVariables false
set_option linter.unusedSimpArgs false
set_option maxRecDepth 4000
namespace Go.Proofs.YtfnkphllkbkfaaaDoor.VL
open Go
theorem fomo : Tryd.prog.follows .mixedOrders = true := by kernel_rfl
theorem ag199 : aggT Tryd.prog 199 = some true := by kernel_rfl
theorem ag4 : aggT Tryd.prog 4 = some false := by kernel_rfl
theorem ag47 : aggT Tryd.prog 47 = some false := by kernel_rfl
theorem ag48 : aggT Tryd.prog 48 = some false := by kernel_rfl
theorem ag49 : aggT Tryd.prog 49 = some false := by kernel_rfl
theorem ag50 : aggT Tryd.prog 50 = some true := by kernel_rfl
theorem ag52 : aggT Tryd.prog 52 = some true := by kernel_rfl
theorem ag55 : aggT Tryd.prog 55 = some true := by kernel_rfl
theorem ag57 : aggT Tryd.prog 57 = some true := by kernel_rfl
theorem ag9 : aggT Tryd.prog 9 = some false := by kernel_rfl
theorem ar199 : arT Tryd.prog 199 = some (256, 4) := by kernel_rfl
theorem ar50 : arT Tryd.prog 50 = some (2, 49) := by kernel_rfl
theorem ar55 : arT Tryd.prog 55 = some (2, 49) := by kernel_rfl
theorem ar92 : arT Tryd.prog 92 = some (5, 47) := by kernel_rfl
theorem by57 : bytesT Tryd.prog 57 = some 48 := by kernel_rfl
theorem eg55 : Program.eqGuardType Tryd.prog (Program.depth Tryd.prog) 55 = false := by kernel_rfl
theorem el146 : elT Tryd.prog 146 = some 5 := by kernel_rfl
theorem el22 : elT Tryd.prog 22 = some 52 := by kernel_rfl
theorem el24 : elT Tryd.prog 24 = some 57 := by kernel_rfl
theorem fd52_0 : fldT Tryd.prog 52 0 = some (47, 0) := by kernel_rfl
theorem fd52_1 : fldT Tryd.prog 52 1 = some (9, 1) := by kernel_rfl
theorem fd52_2 : fldT Tryd.prog 52 2 = some (48, 2) := by kernel_rfl
theorem fd52_3 : fldT Tryd.prog 52 3 = some (50, 3) := by kernel_rfl
theorem fd57_0 : fldT Tryd.prog 57 0 = some (47, 0) := by kernel_rfl
theorem fd57_1 : fldT Tryd.prog 57 1 = some (9, 1) := by kernel_rfl
theorem fd57_2 : fldT Tryd.prog 57 2 = some (48, 2) := by kernel_rfl
theorem fd57_3 : fldT Tryd.prog 57 3 = some (55, 3) := by kernel_rfl
theorem sz199 : sizeT Tryd.prog 199 = some 256 := by kernel_rfl
theorem sz4 : sizeT Tryd.prog 4 = some 1 := by kernel_rfl
theorem sz47 : sizeT Tryd.prog 47 = some 1 := by kernel_rfl
theorem sz48 : sizeT Tryd.prog 48 = some 1 := by kernel_rfl
theorem sz49 : sizeT Tryd.prog 49 = some 1 := by kernel_rfl
theorem sz5 : sizeT Tryd.prog 5 = some 1 := by kernel_rfl
theorem sz50 : sizeT Tryd.prog 50 = some 2 := by kernel_rfl
theorem sz52 : sizeT Tryd.prog 52 = some 5 := by kernel_rfl
theorem sz55 : sizeT Tryd.prog 55 = some 2 := by kernel_rfl
theorem sz57 : sizeT Tryd.prog 57 = some 5 := by kernel_rfl
theorem sz9 : sizeT Tryd.prog 9 = some 1 := by kernel_rfl
theorem sz92 : sizeT Tryd.prog 92 = some 5 := by kernel_rfl
theorem us3 : (Tryd.prog.underlying 3).isSome = true := by kernel_rfl
theorem us48 : (Tryd.prog.underlying 48).isSome = true := by kernel_rfl
theorem zk199 : ∀ s, ((Kd.arr 256 Kd.bool) : Kd (List (Bool))).rd s (Value.cl (.agg (List.replicate 256 (.bool false)).toArray)) ((List.replicate 256 false)) := zarr 256 (fun s => rfl)
theorem zk5 : ∀ s, ((Kd.int .u8) : Kd (Int)).rd s (Value.cl (.int .u8 0)) (0) := fun s => ⟨rfl, inRb_of rfl⟩
theorem zk55 : ∀ s, (kMask : Kd (BitVec 64 × BitVec 64)).rd s (Value.cl (.agg #[.int .u64 0, .int .u64 0])) ((0, 0)) := fun s => ⟨[.int .u64 0], [.int .u64 0], rfl, rfl, rfl⟩
theorem zk57 : ∀ s, (kEdit : Kd (Int × ByteArray × Int × (BitVec 64 × BitVec 64))).rd s (Value.cl (.agg #[.int .i8 0, .string .empty, .int .i16 0, .int .u64 0, .int .u64 0])) ((0, .empty, 0, (0, 0))) := fun s => ⟨[.int .i8 0], [.string .empty, .int .i16 0, .int .u64 0, .int .u64 0], rfl, ⟨rfl, inRb_of rfl⟩, ⟨[.string .empty], [.int .i16 0, .int .u64 0, .int .u64 0], rfl, ⟨rfl, by decide⟩, ⟨[.int .i16 0], [.int .u64 0, .int .u64 0], rfl, ⟨rfl, inRb_of rfl⟩, ⟨[.int .u64 0], [.int .u64 0], rfl, rfl, rfl⟩⟩⟩⟩
theorem zk92 : ∀ s, ((Kd.arr 5 (Kd.int .i8)) : Kd (List (Int))).rd s (Value.cl (.agg (List.replicate 5 (.int .i8 0)).toArray)) ((List.replicate 5 0)) := zarr 5 (fun s => ⟨rfl, inRb_of rfl⟩)
theorem zr199 : zeroT Tryd.prog 199 = some (.agg (List.replicate 256 (.bool false)).toArray) := by kernel_rfl
theorem zr5 : zeroT Tryd.prog 5 = some (.int .u8 0) := by kernel_rfl
theorem zr55 : zeroT Tryd.prog 55 = some (.agg #[.int .u64 0, .int .u64 0]) := by kernel_rfl
theorem zr57 : zeroT Tryd.prog 57 = some (.agg #[.int .i8 0, .string .empty, .int .i16 0, .int .u64 0, .int .u64 0]) := by kernel_rfl
theorem zr92 : zeroT Tryd.prog 92 = some (.agg (List.replicate 5 (.int .i8 0)).toArray) := by kernel_rfl
theorem sb52_0 : Sub (kEdit : Kd (Int × ByteArray × Int × (BitVec 64 × BitVec 64))) 0 (Kd.int .i8) (fun x => x.1) (fun x y => (y, x.2.1, x.2.2.1, x.2.2.2)) := Sub.fst
theorem sb52_1 : Sub (kEdit : Kd (Int × ByteArray × Int × (BitVec 64 × BitVec 64))) 1 Kd.str (fun x => x.2.1) (fun x y => (x.1, y, x.2.2.1, x.2.2.2)) := Sub.snd (Sub.fst)
theorem sb52_2 : Sub (kEdit : Kd (Int × ByteArray × Int × (BitVec 64 × BitVec 64))) 2 (Kd.int .i16) (fun x => x.2.2.1) (fun x y => (x.1, x.2.1, y, x.2.2.2)) := Sub.snd (Sub.snd (Sub.fst))
theorem sb52_3 : Sub (kEdit : Kd (Int × ByteArray × Int × (BitVec 64 × BitVec 64))) 3 kMask (fun x => x.2.2.2) (fun x y => (x.1, x.2.1, x.2.2.1, y)) := Sub.snd (Sub.snd (Sub.snd (Sub.whole _)))
theorem sb57_0 : Sub (kEdit : Kd (Int × ByteArray × Int × (BitVec 64 × BitVec 64))) 0 (Kd.int .i8) (fun x => x.1) (fun x y => (y, x.2.1, x.2.2.1, x.2.2.2)) := Sub.fst
theorem sb57_1 : Sub (kEdit : Kd (Int × ByteArray × Int × (BitVec 64 × BitVec 64))) 1 Kd.str (fun x => x.2.1) (fun x y => (x.1, y, x.2.2.1, x.2.2.2)) := Sub.snd (Sub.fst)
theorem sb57_2 : Sub (kEdit : Kd (Int × ByteArray × Int × (BitVec 64 × BitVec 64))) 2 (Kd.int .i16) (fun x => x.2.2.1) (fun x y => (x.1, x.2.1, y, x.2.2.2)) := Sub.snd (Sub.snd (Sub.fst))
theorem sb57_3 : Sub (kEdit : Kd (Int × ByteArray × Int × (BitVec 64 × BitVec 64))) 3 kMask (fun x => x.2.2.2) (fun x y => (x.1, x.2.1, x.2.2.1, y)) := Sub.snd (Sub.snd (Sub.snd (Sub.whole _)))
theorem sx55_1 : Sub (kMask : Kd (BitVec 64 × BitVec 64)) (Int.toNat 1 * 1) Kd.u64 (fun x => x.2) (fun x y => (x.1, y)) := Sub.snd (Sub.whole _)
theorem eq49 : EqT Tryd.prog 49 (Kd.u64 : Kd (BitVec 64)) 1 := EqT.u64 Tryd.underlying49 sz49
theorem eq55 : EqT Tryd.prog 55 (kMask : Kd (BitVec 64 × BitVec 64)) 2 := EqT.two Tryd.underlying55 sz55 (by kernel_rfl) eq49
end Go.Proofs.YtfnkphllkbkfaaaDoor.VL
