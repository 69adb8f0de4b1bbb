/- Proved here: what the table of types of the program says. Printed by program. -/
import Derived.Test.YtmdiimhighlllaaGreatDoorBpa
import Derived.Test.YtmdiimhighlllaaGreatDoorBvc
import Derived.Test.YtmdiimhighlllaaGreatDoorVLC
import Derived.Test.YtmdiimhighlllaaGreatDoorProg
set_option linter.unusedVariables false
set_option linter.unusedSimpArgs false
set_option maxRecDepth 4000
namespace Go.Proofs.YtmdiimhighlllaaGreatDoor.VL
open Go
theorem fomo : Tryz.prog.follows .mixedOrders = true := by kernel_rfl
theorem ag134 : aggT Tryz.prog 134 = some true := by kernel_rfl
theorem ag145 : aggT Tryz.prog 145 = some true := by kernel_rfl
theorem ag198 : aggT Tryz.prog 198 = some true := by kernel_rfl
theorem ag2 : aggT Tryz.prog 2 = some false := by kernel_rfl
theorem ag22 : aggT Tryz.prog 22 = some false := by kernel_rfl
theorem ag25 : aggT Tryz.prog 25 = some false := by kernel_rfl
theorem ag3 : aggT Tryz.prog 3 = some false := by kernel_rfl
theorem ag32 : aggT Tryz.prog 32 = some false := by kernel_rfl
theorem ag34 : aggT Tryz.prog 34 = some true := by kernel_rfl
theorem ag36 : aggT Tryz.prog 36 = some true := by kernel_rfl
theorem ag4 : aggT Tryz.prog 4 = some false := by kernel_rfl
theorem ag43 : aggT Tryz.prog 43 = some false := by kernel_rfl
theorem ag49 : aggT Tryz.prog 49 = some false := by kernel_rfl
theorem ag5 : aggT Tryz.prog 5 = some false := by kernel_rfl
theorem ag50 : aggT Tryz.prog 50 = some false := by kernel_rfl
theorem ag52 : aggT Tryz.prog 52 = some true := by kernel_rfl
theorem ag73 : aggT Tryz.prog 73 = some true := by kernel_rfl
theorem ag76 : aggT Tryz.prog 76 = some false := by kernel_rfl
theorem ag78 : aggT Tryz.prog 78 = some true := by kernel_rfl
theorem ag9 : aggT Tryz.prog 9 = some false := by kernel_rfl
theorem ar161 : arT Tryz.prog 161 = some (4, 50) := by kernel_rfl
theorem ar198 : arT Tryz.prog 198 = some (256, 4) := by kernel_rfl
theorem ar204 : arT Tryz.prog 204 = some (10, 43) := by kernel_rfl
theorem ar34 : arT Tryz.prog 34 = some (2, 32) := by kernel_rfl
theorem by134 : bytesT Tryz.prog 134 = some 16 := by kernel_rfl
theorem by145 : bytesT Tryz.prog 145 = some 48 := by kernel_rfl
theorem by2 : bytesT Tryz.prog 2 = some 8 := by kernel_rfl
theorem by3 : bytesT Tryz.prog 3 = some 8 := by kernel_rfl
theorem by36 : bytesT Tryz.prog 36 = some 32 := by kernel_rfl
theorem by4 : bytesT Tryz.prog 4 = some 1 := by kernel_rfl
theorem by52 : bytesT Tryz.prog 52 = some 24 := by kernel_rfl
theorem eg134 : Program.eqGuardType Tryz.prog (Program.depth Tryz.prog) 134 = false := by kernel_rfl
theorem eg34 : Program.eqGuardType Tryz.prog (Program.depth Tryz.prog) 34 = false := by kernel_rfl
theorem eg36 : Program.eqGuardType Tryz.prog (Program.depth Tryz.prog) 36 = false := by kernel_rfl
theorem eg73 : Program.eqGuardType Tryz.prog (Program.depth Tryz.prog) 73 = false := by kernel_rfl
theorem el150 : elT Tryz.prog 150 = some 9 := by kernel_rfl
theorem el182 : elT Tryz.prog 182 = some 3 := by kernel_rfl
theorem el183 : elT Tryz.prog 183 = some 4 := by kernel_rfl
theorem el22 : elT Tryz.prog 22 = some 5 := by kernel_rfl
theorem el24 : elT Tryz.prog 24 = some 52 := by kernel_rfl
theorem el25 : elT Tryz.prog 25 = some 36 := by kernel_rfl
theorem el43 : elT Tryz.prog 43 = some 2 := by kernel_rfl
theorem el76 : elT Tryz.prog 76 = some 134 := by kernel_rfl
theorem el85 : elT Tryz.prog 85 = some 145 := by kernel_rfl
theorem fd134_0 : fldT Tryz.prog 134 0 = some (2, 0) := by kernel_rfl
theorem fd134_1 : fldT Tryz.prog 134 1 = some (50, 1) := by kernel_rfl
theorem fd145_0 : fldT Tryz.prog 145 0 = some (49, 0) := by kernel_rfl
theorem fd145_1 : fldT Tryz.prog 145 1 = some (9, 1) := by kernel_rfl
theorem fd145_2 : fldT Tryz.prog 145 2 = some (50, 2) := by kernel_rfl
theorem fd145_3 : fldT Tryz.prog 145 3 = some (34, 3) := by kernel_rfl
theorem fd154_0 : fldT Tryz.prog 154 0 = some (22, 0) := by kernel_rfl
theorem fd154_1 : fldT Tryz.prog 154 1 = some (3, 1) := by kernel_rfl
theorem fd154_2 : fldT Tryz.prog 154 2 = some (32, 2) := by kernel_rfl
theorem fd36_0 : fldT Tryz.prog 36 0 = some (9, 0) := by kernel_rfl
theorem fd36_1 : fldT Tryz.prog 36 1 = some (34, 1) := by kernel_rfl
theorem fd52_0 : fldT Tryz.prog 52 0 = some (9, 0) := by kernel_rfl
theorem fd52_1 : fldT Tryz.prog 52 1 = some (49, 1) := by kernel_rfl
theorem fd52_2 : fldT Tryz.prog 52 2 = some (50, 2) := by kernel_rfl
theorem fd52_3 : fldT Tryz.prog 52 3 = some (50, 3) := by kernel_rfl
theorem fd73_0 : fldT Tryz.prog 73 0 = some (34, 0) := by kernel_rfl
theorem fd73_1 : fldT Tryz.prog 73 1 = some (34, 2) := by kernel_rfl
theorem fd78_0 : fldT Tryz.prog 78 0 = some (73, 0) := by kernel_rfl
theorem fd78_1 : fldT Tryz.prog 78 1 = some (43, 4) := by kernel_rfl
theorem fd78_2 : fldT Tryz.prog 78 2 = some (76, 5) := by kernel_rfl
theorem pl134 : plT Tryz.prog 134 = some [(0, 1), (1, 1)] := by kernel_rfl
theorem pl145 : plT Tryz.prog 145 = some [(0, 1), (1, 1), (2, 1), (3, 2)] := by kernel_rfl
theorem pl154 : plT Tryz.prog 154 = some [(0, 1), (1, 1), (2, 1)] := by kernel_rfl
theorem pl36 : plT Tryz.prog 36 = some [(0, 1), (1, 2)] := by kernel_rfl
theorem pl52 : plT Tryz.prog 52 = some [(0, 1), (1, 1), (2, 1), (3, 1)] := by kernel_rfl
theorem pl73 : plT Tryz.prog 73 = some [(0, 2), (2, 2)] := by kernel_rfl
theorem pl78 : plT Tryz.prog 78 = some [(0, 4), (4, 1), (5, 1)] := by kernel_rfl
theorem sz134 : sizeT Tryz.prog 134 = some 2 := by kernel_rfl
theorem sz145 : sizeT Tryz.prog 145 = some 5 := by kernel_rfl
theorem sz161 : sizeT Tryz.prog 161 = some 4 := by kernel_rfl
theorem sz198 : sizeT Tryz.prog 198 = some 256 := by kernel_rfl
theorem sz2 : sizeT Tryz.prog 2 = some 1 := by kernel_rfl
theorem sz22 : sizeT Tryz.prog 22 = some 1 := by kernel_rfl
theorem sz3 : sizeT Tryz.prog 3 = some 1 := by kernel_rfl
theorem sz32 : sizeT Tryz.prog 32 = some 1 := by kernel_rfl
theorem sz34 : sizeT Tryz.prog 34 = some 2 := by kernel_rfl
theorem sz36 : sizeT Tryz.prog 36 = some 3 := by kernel_rfl
theorem sz4 : sizeT Tryz.prog 4 = some 1 := by kernel_rfl
theorem sz43 : sizeT Tryz.prog 43 = some 1 := by kernel_rfl
theorem sz49 : sizeT Tryz.prog 49 = some 1 := by kernel_rfl
theorem sz5 : sizeT Tryz.prog 5 = some 1 := by kernel_rfl
theorem sz50 : sizeT Tryz.prog 50 = some 1 := by kernel_rfl
theorem sz52 : sizeT Tryz.prog 52 = some 4 := by kernel_rfl
theorem sz73 : sizeT Tryz.prog 73 = some 4 := by kernel_rfl
theorem sz76 : sizeT Tryz.prog 76 = some 1 := by kernel_rfl
theorem sz78 : sizeT Tryz.prog 78 = some 6 := by kernel_rfl
theorem sz9 : sizeT Tryz.prog 9 = some 1 := by kernel_rfl
theorem us2 : (Tryz.prog.underlying 2).isSome = true := by kernel_rfl
theorem us3 : (Tryz.prog.underlying 3).isSome = true := by kernel_rfl
theorem us32 : (Tryz.prog.underlying 32).isSome = true := by kernel_rfl
theorem us5 : (Tryz.prog.underlying 5).isSome = true := by kernel_rfl
theorem us50 : (Tryz.prog.underlying 50).isSome = true := by kernel_rfl
theorem zk134 : ∀ s, (kWit : Kd (Int × Int)).rd s (Value.cl (.agg #[.int .i64 0, .int .i16 0])) ((0, 0)) := fun s => ⟨[.int .i64 0], [.int .i16 0], rfl, ⟨rfl, inRb_of rfl⟩, ⟨rfl, inRb_of rfl⟩⟩
theorem zk145 : ∀ s, (kEdit : Kd (Int × ByteArray × Int × (BitVec 64 × BitVec 64))).rd s (Value.cl (.agg #[.int .i8 0, .string .empty, .int .i16 0, .int .u64 0, .int .u64 0])) ((0, .empty, 0, (0, 0))) := fun s => ⟨[.int .i8 0], [.string .empty, .int .i16 0, .int .u64 0, .int .u64 0], rfl, ⟨rfl, inRb_of rfl⟩, ⟨[.string .empty], [.int .i16 0, .int .u64 0, .int .u64 0], rfl, ⟨rfl, by decide⟩, ⟨[.int .i16 0], [.int .u64 0, .int .u64 0], rfl, ⟨rfl, inRb_of rfl⟩, ⟨[.int .u64 0], [.int .u64 0], rfl, rfl, rfl⟩⟩⟩⟩
theorem zk154 : ∀ s, ((Kd.pair (Kd.slice (Kd.int .u8)) (Kd.pair (Kd.int .i64) Kd.u64)) : Kd (List (Int) × Int × BitVec 64)).rd s (Value.cl (.agg #[.slice none 0 0, .int .i64 0, .int .u64 0])) (([], 0, 0)) := fun s => ⟨[.slice none 0 0], [.int .i64 0, .int .u64 0], rfl, ⟨none, 0, rfl, Nat.le_refl _, by decide, fun h => absurd h (by decide)⟩, ⟨[.int .i64 0], [.int .u64 0], rfl, ⟨rfl, inRb_of rfl⟩, rfl⟩⟩
theorem zk161 : ∀ s, ((Kd.arr 4 (Kd.int .i16)) : Kd (List (Int))).rd s (Value.cl (.agg (List.replicate 4 (.int .i16 0)).toArray)) ((List.replicate 4 0)) := zarr 4 (fun s => ⟨rfl, inRb_of rfl⟩)
theorem zk198 : ∀ s, ((Kd.arr 256 Kd.bool) : Kd (List (Bool))).rd s (Value.cl (.agg (List.replicate 256 (.bool false)).toArray)) ((List.replicate 256 false)) := zarr 256 (fun s => rfl)
theorem zk2 : ∀ s, ((Kd.int .i64) : Kd (Int)).rd s (Value.cl (.int .i64 0)) (0) := fun s => ⟨rfl, inRb_of rfl⟩
theorem zk204 : ∀ s, ((Kd.arr 10 (Kd.slice (Kd.int .i64))) : Kd (List (List (Int)))).rd s (Value.cl (.agg (List.replicate 10 (.slice none 0 0)).toArray)) ((List.replicate 10 [])) := zarr 10 (fun s => ⟨none, 0, rfl, Nat.le_refl _, by decide, fun h => absurd h (by decide)⟩)
theorem zk3 : ∀ s, ((Kd.int .i64) : Kd (Int)).rd s (Value.cl (.int .i64 0)) (0) := fun s => ⟨rfl, inRb_of rfl⟩
theorem zk34 : ∀ s, (kMask : Kd (BitVec 64 × BitVec 64)).rd s (Value.cl (.agg #[.int .u64 0, .int .u64 0])) ((0, 0)) := fun s => ⟨[.int .u64 0], [.int .u64 0], rfl, rfl, rfl⟩
theorem zk36 : ∀ s, (kCard : Kd (ByteArray × (BitVec 64 × BitVec 64))).rd s (Value.cl (.agg #[.string .empty, .int .u64 0, .int .u64 0])) ((.empty, (0, 0))) := fun s => ⟨[.string .empty], [.int .u64 0, .int .u64 0], rfl, ⟨rfl, by decide⟩, ⟨[.int .u64 0], [.int .u64 0], rfl, rfl, rfl⟩⟩
theorem zk4 : ∀ s, (Kd.bool : Kd (Bool)).rd s (Value.cl (.bool false)) (false) := fun s => rfl
theorem zk52 : ∀ s, (kField : Kd (ByteArray × Int × Int × Int)).rd s (Value.cl (.agg #[.string .empty, .int .i8 0, .int .i16 0, .int .i16 0])) ((.empty, 0, 0, 0)) := fun s => ⟨[.string .empty], [.int .i8 0, .int .i16 0, .int .i16 0], rfl, ⟨rfl, by decide⟩, ⟨[.int .i8 0], [.int .i16 0, .int .i16 0], rfl, ⟨rfl, inRb_of rfl⟩, ⟨[.int .i16 0], [.int .i16 0], rfl, ⟨rfl, inRb_of rfl⟩, ⟨rfl, inRb_of rfl⟩⟩⟩⟩
theorem zk73 : ∀ s, (kQuery : Kd ((BitVec 64 × BitVec 64) × (BitVec 64 × BitVec 64))).rd s (Value.cl (.agg #[.int .u64 0, .int .u64 0, .int .u64 0, .int .u64 0])) (((0, 0), (0, 0))) := fun s => ⟨[.int .u64 0, .int .u64 0], [.int .u64 0, .int .u64 0], rfl, ⟨[.int .u64 0], [.int .u64 0], rfl, rfl, rfl⟩, ⟨[.int .u64 0], [.int .u64 0], rfl, rfl, rfl⟩⟩
theorem zk78 : ∀ s, (kAns : Kd (((BitVec 64 × BitVec 64) × (BitVec 64 × BitVec 64)) × List (Int) × List (Int × Int))).rd s (Value.cl (.agg #[.int .u64 0, .int .u64 0, .int .u64 0, .int .u64 0, .slice none 0 0, .slice none 0 0])) ((((0, 0), (0, 0)), [], [])) := fun s => ⟨[.int .u64 0, .int .u64 0, .int .u64 0, .int .u64 0], [.slice none 0 0, .slice none 0 0], rfl, ⟨[.int .u64 0, .int .u64 0], [.int .u64 0, .int .u64 0], rfl, ⟨[.int .u64 0], [.int .u64 0], rfl, rfl, rfl⟩, ⟨[.int .u64 0], [.int .u64 0], rfl, rfl, rfl⟩⟩, ⟨[.slice none 0 0], [.slice none 0 0], rfl, ⟨none, 0, rfl, Nat.le_refl _, by decide, fun h => absurd h (by decide)⟩, ⟨none, 0, rfl, Nat.le_refl _, by decide, fun h => absurd h (by decide)⟩⟩⟩
theorem zk9 : ∀ s, (Kd.str : Kd (ByteArray)).rd s (Value.cl (.string .empty)) (.empty) := fun s => ⟨rfl, by decide⟩
theorem zkr78 : ∀ s, ((Kd.pair kQuery (Kd.pair Kd.raw Kd.raw)) : Kd (((BitVec 64 × BitVec 64) × (BitVec 64 × BitVec 64)) × Value × Value)).rd s (Value.cl (.agg #[.int .u64 0, .int .u64 0, .int .u64 0, .int .u64 0, .slice none 0 0, .slice none 0 0])) ((((0, 0), (0, 0)), (Value.slice none 0 0), (Value.slice none 0 0))) := fun s => ⟨[.int .u64 0, .int .u64 0, .int .u64 0, .int .u64 0], [.slice none 0 0, .slice none 0 0], rfl, ⟨[.int .u64 0, .int .u64 0], [.int .u64 0, .int .u64 0], rfl, ⟨[.int .u64 0], [.int .u64 0], rfl, rfl, rfl⟩, ⟨[.int .u64 0], [.int .u64 0], rfl, rfl, rfl⟩⟩, ⟨[.slice none 0 0], [.slice none 0 0], rfl, ⟨rfl, rfl⟩, ⟨rfl, rfl⟩⟩⟩
theorem zr134 : zeroT Tryz.prog 134 = some (.agg #[.int .i64 0, .int .i16 0]) := by kernel_rfl
theorem zr145 : zeroT Tryz.prog 145 = some (.agg #[.int .i8 0, .string .empty, .int .i16 0, .int .u64 0, .int .u64 0]) := by kernel_rfl
theorem zr154 : zeroT Tryz.prog 154 = some (.agg #[.slice none 0 0, .int .i64 0, .int .u64 0]) := by kernel_rfl
theorem zr161 : zeroT Tryz.prog 161 = some (.agg (List.replicate 4 (.int .i16 0)).toArray) := by kernel_rfl
theorem zr198 : zeroT Tryz.prog 198 = some (.agg (List.replicate 256 (.bool false)).toArray) := by kernel_rfl
theorem zr2 : zeroT Tryz.prog 2 = some (.int .i64 0) := by kernel_rfl
theorem zr204 : zeroT Tryz.prog 204 = some (.agg (List.replicate 10 (.slice none 0 0)).toArray) := by kernel_rfl
theorem zr3 : zeroT Tryz.prog 3 = some (.int .i64 0) := by kernel_rfl
theorem zr34 : zeroT Tryz.prog 34 = some (.agg #[.int .u64 0, .int .u64 0]) := by kernel_rfl
theorem zr36 : zeroT Tryz.prog 36 = some (.agg #[.string .empty, .int .u64 0, .int .u64 0]) := by kernel_rfl
theorem zr4 : zeroT Tryz.prog 4 = some (.bool false) := by kernel_rfl
theorem zr52 : zeroT Tryz.prog 52 = some (.agg #[.string .empty, .int .i8 0, .int .i16 0, .int .i16 0]) := by kernel_rfl
theorem zr73 : zeroT Tryz.prog 73 = some (.agg #[.int .u64 0, .int .u64 0, .int .u64 0, .int .u64 0]) := by kernel_rfl
theorem zr78 : zeroT Tryz.prog 78 = some (.agg #[.int .u64 0, .int .u64 0, .int .u64 0, .int .u64 0, .slice none 0 0, .slice none 0 0]) := by kernel_rfl
theorem zr9 : zeroT Tryz.prog 9 = some (.string .empty) := by kernel_rfl
theorem sb134_0 : Sub (kWit : Kd (Int × Int)) 0 (Kd.int .i64) (fun x => x.1) (fun x y => (y, x.2)) := Sub.fst
theorem sb134_1 : Sub (kWit : Kd (Int × Int)) 1 (Kd.int .i16) (fun x => x.2) (fun x y => (x.1, y)) := Sub.snd (Sub.whole _)
theorem sb145_0 : Sub (kEdit : Kd (Int × ByteArray × Int × (BitVec 64 × BitVec 64))) 0 (Kd.int .i8) (fun x => x.1) (fun x y => (y, x.2.1, x.2.2.1, x.2.2.2)) := Sub.fst
theorem sb145_1 : Sub (kEdit : Kd (Int × ByteArray × Int × (BitVec 64 × BitVec 64))) 1 Kd.str (fun x => x.2.1) (fun x y => (x.1, y, x.2.2.1, x.2.2.2)) := Sub.snd (Sub.fst)
theorem sb145_2 : Sub (kEdit : Kd (Int × ByteArray × Int × (BitVec 64 × BitVec 64))) 2 (Kd.int .i16) (fun x => x.2.2.1) (fun x y => (x.1, x.2.1, y, x.2.2.2)) := Sub.snd (Sub.snd (Sub.fst))
theorem sb145_3 : Sub (kEdit : Kd (Int × ByteArray × Int × (BitVec 64 × BitVec 64))) 3 kMask (fun x => x.2.2.2) (fun x y => (x.1, x.2.1, x.2.2.1, y)) := Sub.snd (Sub.snd (Sub.snd (Sub.whole _)))
theorem sb154_0 : Sub ((Kd.pair (Kd.slice (Kd.int .u8)) (Kd.pair (Kd.int .i64) Kd.u64)) : Kd (List (Int) × Int × BitVec 64)) 0 (Kd.slice (Kd.int .u8)) (fun x => x.1) (fun x y => (y, x.2.1, x.2.2)) := Sub.fst
theorem sb154_1 : Sub ((Kd.pair (Kd.slice (Kd.int .u8)) (Kd.pair (Kd.int .i64) Kd.u64)) : Kd (List (Int) × Int × BitVec 64)) 1 (Kd.int .i64) (fun x => x.2.1) (fun x y => (x.1, y, x.2.2)) := Sub.snd (Sub.fst)
theorem sb154_2 : Sub ((Kd.pair (Kd.slice (Kd.int .u8)) (Kd.pair (Kd.int .i64) Kd.u64)) : Kd (List (Int) × Int × BitVec 64)) 2 Kd.u64 (fun x => x.2.2) (fun x y => (x.1, x.2.1, y)) := Sub.snd (Sub.snd (Sub.whole _))
theorem sb36_0 : Sub (kCard : Kd (ByteArray × (BitVec 64 × BitVec 64))) 0 Kd.str (fun x => x.1) (fun x y => (y, x.2)) := Sub.fst
theorem sb36_1 : Sub (kCard : Kd (ByteArray × (BitVec 64 × BitVec 64))) 1 kMask (fun x => x.2) (fun x y => (x.1, y)) := Sub.snd (Sub.whole _)
theorem sb52_0 : Sub (kField : Kd (ByteArray × Int × Int × Int)) 0 Kd.str (fun x => x.1) (fun x y => (y, x.2.1, x.2.2.1, x.2.2.2)) := Sub.fst
theorem sb52_1 : Sub (kField : Kd (ByteArray × Int × Int × Int)) 1 (Kd.int .i8) (fun x => x.2.1) (fun x y => (x.1, y, x.2.2.1, x.2.2.2)) := Sub.snd (Sub.fst)
theorem sb52_2 : Sub (kField : Kd (ByteArray × Int × Int × Int)) 2 (Kd.int .i16) (fun x => x.2.2.1) (fun x y => (x.1, x.2.1, y, x.2.2.2)) := Sub.snd (Sub.snd (Sub.fst))
theorem sb52_3 : Sub (kField : Kd (ByteArray × Int × Int × Int)) 3 (Kd.int .i16) (fun x => x.2.2.2) (fun x y => (x.1, x.2.1, x.2.2.1, y)) := Sub.snd (Sub.snd (Sub.snd (Sub.whole _)))
theorem sb73_0 : Sub (kQuery : Kd ((BitVec 64 × BitVec 64) × (BitVec 64 × BitVec 64))) 0 kMask (fun x => x.1) (fun x y => (y, x.2)) := Sub.fst
theorem sb73_1 : Sub (kQuery : Kd ((BitVec 64 × BitVec 64) × (BitVec 64 × BitVec 64))) 2 kMask (fun x => x.2) (fun x y => (x.1, y)) := Sub.snd (Sub.whole _)
theorem sb78_0 : Sub (kAns : Kd (((BitVec 64 × BitVec 64) × (BitVec 64 × BitVec 64)) × List (Int) × List (Int × Int))) 0 kQuery (fun x => x.1) (fun x y => (y, x.2.1, x.2.2)) := Sub.fst
theorem sb78_1 : Sub (kAns : Kd (((BitVec 64 × BitVec 64) × (BitVec 64 × BitVec 64)) × List (Int) × List (Int × Int))) 4 (Kd.slice (Kd.int .i64)) (fun x => x.2.1) (fun x y => (x.1, y, x.2.2)) := Sub.snd (Sub.fst)
theorem sb78_2 : Sub (kAns : Kd (((BitVec 64 × BitVec 64) × (BitVec 64 × BitVec 64)) × List (Int) × List (Int × Int))) 5 (Kd.slice kWit) (fun x => x.2.2) (fun x y => (x.1, x.2.1, y)) := Sub.snd (Sub.snd (Sub.whole _))
theorem sbr78_0 : Sub ((Kd.pair kQuery (Kd.pair Kd.raw Kd.raw)) : Kd (((BitVec 64 × BitVec 64) × (BitVec 64 × BitVec 64)) × Value × Value)) 0 kQuery (fun x => x.1) (fun x y => (y, x.2.1, x.2.2)) := Sub.fst
theorem sbr78_1 : Sub ((Kd.pair kQuery (Kd.pair Kd.raw Kd.raw)) : Kd (((BitVec 64 × BitVec 64) × (BitVec 64 × BitVec 64)) × Value × Value)) 4 Kd.raw (fun x => x.2.1) (fun x y => (x.1, y, x.2.2)) := Sub.snd (Sub.fst)
theorem sbr78_2 : Sub ((Kd.pair kQuery (Kd.pair Kd.raw Kd.raw)) : Kd (((BitVec 64 × BitVec 64) × (BitVec 64 × BitVec 64)) × Value × Value)) 5 Kd.raw (fun x => x.2.2) (fun x y => (x.1, x.2.1, y)) := Sub.snd (Sub.snd (Sub.whole _))
theorem sx34_0 : Sub (kMask : Kd (BitVec 64 × BitVec 64)) (Int.toNat 0 * 1) Kd.u64 (fun x => x.1) (fun x y => (y, x.2)) := Sub.fst
theorem sx34_1 : Sub (kMask : Kd (BitVec 64 × BitVec 64)) (Int.toNat 1 * 1) Kd.u64 (fun x => x.2) (fun x y => (x.1, y)) := Sub.snd (Sub.whole _)
theorem eq32 : EqT Tryz.prog 32 (Kd.u64 : Kd (BitVec 64)) 1 := EqT.u64 Tryz.underlying32 sz32
theorem eq34 : EqT Tryz.prog 34 (kMask : Kd (BitVec 64 × BitVec 64)) 2 := EqT.two Tryz.underlying34 sz34 (by kernel_rfl) eq32
theorem eq9 : EqT Tryz.prog 9 (Kd.str : Kd (ByteArray)) 1 := EqT.str Tryz.underlying9 sz9
theorem eq36 : EqT Tryz.prog 36 (kCard : Kd (ByteArray × (BitVec 64 × BitVec 64))) 3 := EqT.struct Tryz.underlying36 sz36 (by kernel_rfl) (EqFs.cons (r := 2) rfl rfl eq9 (EqFs.one rfl rfl eq34) rfl rfl)
theorem eq50 : EqT Tryz.prog 50 ((Kd.int .i16) : Kd (Int)) 1 := EqT.int Tryz.underlying50 sz50
theorem eq73 : EqT Tryz.prog 73 (kQuery : Kd ((BitVec 64 × BitVec 64) × (BitVec 64 × BitVec 64))) 3 := EqT.struct Tryz.underlying73 sz73 (by kernel_rfl) (EqFs.cons (r := 2) rfl rfl eq34 (EqFs.one rfl rfl eq34) rfl rfl)
theorem eq2 : EqT Tryz.prog 2 ((Kd.int .i64) : Kd (Int)) 1 := EqT.int Tryz.underlying2 sz2
theorem eq134 : EqT Tryz.prog 134 (kWit : Kd (Int × Int)) 2 := EqT.struct Tryz.underlying134 sz134 (by kernel_rfl) (EqFs.cons (r := 1) rfl rfl eq2 (EqFs.one rfl rfl eq50) rfl rfl)
end Go.Proofs.YtmdiimhighlllaaGreatDoor.VL
