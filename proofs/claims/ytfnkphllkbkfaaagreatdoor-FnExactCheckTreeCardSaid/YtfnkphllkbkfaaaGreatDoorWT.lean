/- Proved here: what the table of types of the program says. Printed by program. -/
import Derived.Test.YtfnkphllkbkfaaaGreatDoorBpa
import Derived.Test.YtfnkphllkbkfaaaGreatDoorBvc
import Derived.Test.YtfnkphllkbkfaaaGreatDoorProg
set_option linter.unusedVariables false
set_option linter.unusedSimpArgs false
set_option maxRecDepth 4000
namespace Go.Proofs.YtfnkphllkbkfaaaGreatDoor.VL
open Go
theorem fomo : Tryz.prog.follows .mixedOrders = true := by kernel_rfl
theorem ag131 : aggT Tryz.prog 131 = some true := by kernel_rfl
theorem ag2 : aggT Tryz.prog 2 = some false := by kernel_rfl
theorem ag3 : aggT Tryz.prog 3 = some false := by kernel_rfl
theorem ag4 : aggT Tryz.prog 4 = some false := by kernel_rfl
theorem ag41 : aggT Tryz.prog 41 = some false := by kernel_rfl
theorem ag42 : aggT Tryz.prog 42 = some false := by kernel_rfl
theorem ag44 : aggT Tryz.prog 44 = some true := by kernel_rfl
theorem ag46 : aggT Tryz.prog 46 = some false := by kernel_rfl
theorem ag47 : aggT Tryz.prog 47 = some true := by kernel_rfl
theorem ag49 : aggT Tryz.prog 49 = some true := by kernel_rfl
theorem ag51 : aggT Tryz.prog 51 = some false := by kernel_rfl
theorem ag52 : aggT Tryz.prog 52 = some false := by kernel_rfl
theorem ag54 : aggT Tryz.prog 54 = some true := by kernel_rfl
theorem ag59 : aggT Tryz.prog 59 = some true := by kernel_rfl
theorem ag60 : aggT Tryz.prog 60 = some true := by kernel_rfl
theorem ag62 : aggT Tryz.prog 62 = some true := by kernel_rfl
theorem ag66 : aggT Tryz.prog 66 = some true := by kernel_rfl
theorem ag9 : aggT Tryz.prog 9 = some false := by kernel_rfl
theorem ar119 : arT Tryz.prog 119 = some (4, 42) := by kernel_rfl
theorem ar128 : arT Tryz.prog 128 = some (10, 51) := by kernel_rfl
theorem ar131 : arT Tryz.prog 131 = some (256, 4) := by kernel_rfl
theorem ar47 : arT Tryz.prog 47 = some (2, 46) := by kernel_rfl
theorem ar60 : arT Tryz.prog 60 = some (2, 46) := by kernel_rfl
theorem by2 : bytesT Tryz.prog 2 = some 8 := by kernel_rfl
theorem by3 : bytesT Tryz.prog 3 = some 8 := by kernel_rfl
theorem by42 : bytesT Tryz.prog 42 = some 2 := by kernel_rfl
theorem by51 : bytesT Tryz.prog 51 = some 24 := by kernel_rfl
theorem by59 : bytesT Tryz.prog 59 = some 24 := by kernel_rfl
theorem by62 : bytesT Tryz.prog 62 = some 32 := by kernel_rfl
theorem by66 : bytesT Tryz.prog 66 = some 80 := by kernel_rfl
theorem eg60 : Program.eqGuardType Tryz.prog (Program.depth Tryz.prog) 60 = false := by kernel_rfl
theorem el22 : elT Tryz.prog 22 = some 44 := by kernel_rfl
theorem el23 : elT Tryz.prog 23 = some 49 := by kernel_rfl
theorem el24 : elT Tryz.prog 24 = some 54 := by kernel_rfl
theorem el30 : elT Tryz.prog 30 = some 59 := by kernel_rfl
theorem el32 : elT Tryz.prog 32 = some 62 := by kernel_rfl
theorem el34 : elT Tryz.prog 34 = some 66 := by kernel_rfl
theorem el51 : elT Tryz.prog 51 = some 2 := by kernel_rfl
theorem el52 : elT Tryz.prog 52 = some 42 := by kernel_rfl
theorem el71 : elT Tryz.prog 71 = some 51 := by kernel_rfl
theorem el91 : elT Tryz.prog 91 = some 3 := by kernel_rfl
theorem fd44_0 : fldT Tryz.prog 44 0 = some (9, 0) := by kernel_rfl
theorem fd44_1 : fldT Tryz.prog 44 1 = some (41, 1) := by kernel_rfl
theorem fd44_2 : fldT Tryz.prog 44 2 = some (42, 2) := by kernel_rfl
theorem fd44_3 : fldT Tryz.prog 44 3 = some (42, 3) := by kernel_rfl
theorem fd49_0 : fldT Tryz.prog 49 0 = some (9, 0) := by kernel_rfl
theorem fd49_1 : fldT Tryz.prog 49 1 = some (47, 1) := by kernel_rfl
theorem fd54_0 : fldT Tryz.prog 54 0 = some (42, 0) := by kernel_rfl
theorem fd54_1 : fldT Tryz.prog 54 1 = some (51, 1) := by kernel_rfl
theorem fd54_2 : fldT Tryz.prog 54 2 = some (52, 2) := by kernel_rfl
theorem fd54_3 : fldT Tryz.prog 54 3 = some (51, 3) := by kernel_rfl
theorem fd59_0 : fldT Tryz.prog 59 0 = some (9, 0) := by kernel_rfl
theorem fd59_1 : fldT Tryz.prog 59 1 = some (41, 1) := by kernel_rfl
theorem fd59_2 : fldT Tryz.prog 59 2 = some (42, 2) := by kernel_rfl
theorem fd59_3 : fldT Tryz.prog 59 3 = some (42, 3) := by kernel_rfl
theorem fd62_0 : fldT Tryz.prog 62 0 = some (9, 0) := by kernel_rfl
theorem fd62_1 : fldT Tryz.prog 62 1 = some (60, 1) := by kernel_rfl
theorem fd66_0 : fldT Tryz.prog 66 0 = some (42, 0) := by kernel_rfl
theorem fd66_1 : fldT Tryz.prog 66 1 = some (51, 1) := by kernel_rfl
theorem fd66_2 : fldT Tryz.prog 66 2 = some (52, 2) := by kernel_rfl
theorem fd66_3 : fldT Tryz.prog 66 3 = some (51, 3) := by kernel_rfl
theorem sz119 : sizeT Tryz.prog 119 = some 4 := by kernel_rfl
theorem sz131 : sizeT Tryz.prog 131 = some 256 := by kernel_rfl
theorem sz2 : sizeT Tryz.prog 2 = some 1 := by kernel_rfl
theorem sz3 : sizeT Tryz.prog 3 = some 1 := by kernel_rfl
theorem sz4 : sizeT Tryz.prog 4 = some 1 := by kernel_rfl
theorem sz41 : sizeT Tryz.prog 41 = some 1 := by kernel_rfl
theorem sz42 : sizeT Tryz.prog 42 = some 1 := by kernel_rfl
theorem sz44 : sizeT Tryz.prog 44 = some 4 := by kernel_rfl
theorem sz46 : sizeT Tryz.prog 46 = some 1 := by kernel_rfl
theorem sz47 : sizeT Tryz.prog 47 = some 2 := by kernel_rfl
theorem sz49 : sizeT Tryz.prog 49 = some 3 := by kernel_rfl
theorem sz51 : sizeT Tryz.prog 51 = some 1 := by kernel_rfl
theorem sz52 : sizeT Tryz.prog 52 = some 1 := by kernel_rfl
theorem sz54 : sizeT Tryz.prog 54 = some 4 := by kernel_rfl
theorem sz59 : sizeT Tryz.prog 59 = some 4 := by kernel_rfl
theorem sz60 : sizeT Tryz.prog 60 = some 2 := by kernel_rfl
theorem sz62 : sizeT Tryz.prog 62 = some 3 := by kernel_rfl
theorem sz66 : sizeT Tryz.prog 66 = some 4 := by kernel_rfl
theorem sz9 : sizeT Tryz.prog 9 = some 1 := by kernel_rfl
theorem us2 : (Tryz.prog.underlying 2).isSome = true := by kernel_rfl
theorem us42 : (Tryz.prog.underlying 42).isSome = true := by kernel_rfl
theorem us46 : (Tryz.prog.underlying 46).isSome = true := by kernel_rfl
theorem zk119 : ∀ s, ((Kd.arr 4 (Kd.int .i16)) : Kd (List (Int))).rd s (Value.cl (.agg (List.replicate 4 (.int .i16 0)).toArray)) ((List.replicate 4 0)) := zarr 4 (fun s => ⟨rfl, inRb_of rfl⟩)
theorem zk128 : ∀ s, ((Kd.arr 10 (Kd.slice (Kd.int .i64))) : Kd (List (List (Int)))).rd s (Value.cl (.agg (List.replicate 10 (.slice none 0 0)).toArray)) ((List.replicate 10 [])) := zarr 10 (fun s => ⟨none, 0, rfl, Nat.le_refl _, by decide, fun h => absurd h (by decide)⟩)
theorem zk131 : ∀ s, ((Kd.arr 256 Kd.bool) : Kd (List (Bool))).rd s (Value.cl (.agg (List.replicate 256 (.bool false)).toArray)) ((List.replicate 256 false)) := zarr 256 (fun s => rfl)
theorem zk2 : ∀ s, ((Kd.int .i64) : Kd (Int)).rd s (Value.cl (.int .i64 0)) (0) := fun s => ⟨rfl, inRb_of rfl⟩
theorem zk3 : ∀ s, ((Kd.int .i64) : Kd (Int)).rd s (Value.cl (.int .i64 0)) (0) := fun s => ⟨rfl, inRb_of rfl⟩
theorem zk42 : ∀ s, ((Kd.int .i16) : Kd (Int)).rd s (Value.cl (.int .i16 0)) (0) := fun s => ⟨rfl, inRb_of rfl⟩
theorem zk59 : ∀ s, (kField : Kd (ByteArray × Int × Int × Int)).rd s (Value.cl (.agg #[.string .empty, .int .i8 0, .int .i16 0, .int .i16 0])) ((.empty, 0, 0, 0)) := fun s => ⟨[.string .empty], [.int .i8 0, .int .i16 0, .int .i16 0], rfl, ⟨rfl, by decide⟩, ⟨[.int .i8 0], [.int .i16 0, .int .i16 0], rfl, ⟨rfl, inRb_of rfl⟩, ⟨[.int .i16 0], [.int .i16 0], rfl, ⟨rfl, inRb_of rfl⟩, ⟨rfl, inRb_of rfl⟩⟩⟩⟩
theorem zk60 : ∀ s, (kMask : Kd (BitVec 64 × BitVec 64)).rd s (Value.cl (.agg #[.int .u64 0, .int .u64 0])) ((0, 0)) := fun s => ⟨[.int .u64 0], [.int .u64 0], rfl, rfl, rfl⟩
theorem zk62 : ∀ s, (kCard : Kd (ByteArray × (BitVec 64 × BitVec 64))).rd s (Value.cl (.agg #[.string .empty, .int .u64 0, .int .u64 0])) ((.empty, (0, 0))) := fun s => ⟨[.string .empty], [.int .u64 0, .int .u64 0], rfl, ⟨rfl, by decide⟩, ⟨[.int .u64 0], [.int .u64 0], rfl, rfl, rfl⟩⟩
theorem zk66 : ∀ s, (kKnot : Kd (Int × List (Int) × List (Int) × List (Int))).rd s (Value.cl (.agg #[.int .i16 0, .slice none 0 0, .slice none 0 0, .slice none 0 0])) ((0, [], [], [])) := fun s => ⟨[.int .i16 0], [.slice none 0 0, .slice none 0 0, .slice none 0 0], rfl, ⟨rfl, inRb_of rfl⟩, ⟨[.slice none 0 0], [.slice none 0 0, .slice none 0 0], rfl, ⟨none, 0, rfl, Nat.le_refl _, by decide, fun h => absurd h (by decide)⟩, ⟨[.slice none 0 0], [.slice none 0 0], rfl, ⟨none, 0, rfl, Nat.le_refl _, by decide, fun h => absurd h (by decide)⟩, ⟨none, 0, rfl, Nat.le_refl _, by decide, fun h => absurd h (by decide)⟩⟩⟩⟩
theorem zkr51 : ∀ s, (Kd.raw : Kd (Value)).rd s (Value.cl (.slice none 0 0)) ((Value.slice none 0 0)) := fun s => ⟨rfl, rfl⟩
theorem zkr66 : ∀ s, ((Kd.pair (Kd.int .i16) (Kd.pair Kd.raw (Kd.pair Kd.raw Kd.raw))) : Kd (Int × Value × Value × Value)).rd s (Value.cl (.agg #[.int .i16 0, .slice none 0 0, .slice none 0 0, .slice none 0 0])) ((0, (Value.slice none 0 0), (Value.slice none 0 0), (Value.slice none 0 0))) := fun s => ⟨[.int .i16 0], [.slice none 0 0, .slice none 0 0, .slice none 0 0], rfl, ⟨rfl, inRb_of rfl⟩, ⟨[.slice none 0 0], [.slice none 0 0, .slice none 0 0], rfl, ⟨rfl, rfl⟩, ⟨[.slice none 0 0], [.slice none 0 0], rfl, ⟨rfl, rfl⟩, ⟨rfl, rfl⟩⟩⟩⟩
theorem zr119 : zeroT Tryz.prog 119 = some (.agg (List.replicate 4 (.int .i16 0)).toArray) := by kernel_rfl
theorem zr128 : zeroT Tryz.prog 128 = some (.agg (List.replicate 10 (.slice none 0 0)).toArray) := by kernel_rfl
theorem zr131 : zeroT Tryz.prog 131 = some (.agg (List.replicate 256 (.bool false)).toArray) := by kernel_rfl
theorem zr2 : zeroT Tryz.prog 2 = some (.int .i64 0) := by kernel_rfl
theorem zr3 : zeroT Tryz.prog 3 = some (.int .i64 0) := by kernel_rfl
theorem zr42 : zeroT Tryz.prog 42 = some (.int .i16 0) := by kernel_rfl
theorem zr51 : zeroT Tryz.prog 51 = some (.slice none 0 0) := by kernel_rfl
theorem zr59 : zeroT Tryz.prog 59 = some (.agg #[.string .empty, .int .i8 0, .int .i16 0, .int .i16 0]) := by kernel_rfl
theorem zr60 : zeroT Tryz.prog 60 = some (.agg #[.int .u64 0, .int .u64 0]) := by kernel_rfl
theorem zr62 : zeroT Tryz.prog 62 = some (.agg #[.string .empty, .int .u64 0, .int .u64 0]) := by kernel_rfl
theorem zr66 : zeroT Tryz.prog 66 = some (.agg #[.int .i16 0, .slice none 0 0, .slice none 0 0, .slice none 0 0]) := by kernel_rfl
theorem sb44_0 : Sub (kField : Kd (ByteArray × Int × Int × Int)) 0 Kd.str (fun x => x.1) (fun x y => (y, x.2.1, x.2.2.1, x.2.2.2)) := Sub.fst
theorem sb44_1 : Sub (kField : Kd (ByteArray × Int × Int × Int)) 1 (Kd.int .i8) (fun x => x.2.1) (fun x y => (x.1, y, x.2.2.1, x.2.2.2)) := Sub.snd (Sub.fst)
theorem sb44_2 : Sub (kField : Kd (ByteArray × Int × Int × Int)) 2 (Kd.int .i16) (fun x => x.2.2.1) (fun x y => (x.1, x.2.1, y, x.2.2.2)) := Sub.snd (Sub.snd (Sub.fst))
theorem sb44_3 : Sub (kField : Kd (ByteArray × Int × Int × Int)) 3 (Kd.int .i16) (fun x => x.2.2.2) (fun x y => (x.1, x.2.1, x.2.2.1, y)) := Sub.snd (Sub.snd (Sub.snd (Sub.whole _)))
theorem sb49_0 : Sub (kCard : Kd (ByteArray × (BitVec 64 × BitVec 64))) 0 Kd.str (fun x => x.1) (fun x y => (y, x.2)) := Sub.fst
theorem sb49_1 : Sub (kCard : Kd (ByteArray × (BitVec 64 × BitVec 64))) 1 kMask (fun x => x.2) (fun x y => (x.1, y)) := Sub.snd (Sub.whole _)
theorem sb54_0 : Sub (kKnot : Kd (Int × List (Int) × List (Int) × List (Int))) 0 (Kd.int .i16) (fun x => x.1) (fun x y => (y, x.2.1, x.2.2.1, x.2.2.2)) := Sub.fst
theorem sb54_1 : Sub (kKnot : Kd (Int × List (Int) × List (Int) × List (Int))) 1 (Kd.slice (Kd.int .i64)) (fun x => x.2.1) (fun x y => (x.1, y, x.2.2.1, x.2.2.2)) := Sub.snd (Sub.fst)
theorem sb54_2 : Sub (kKnot : Kd (Int × List (Int) × List (Int) × List (Int))) 2 (Kd.slice (Kd.int .i16)) (fun x => x.2.2.1) (fun x y => (x.1, x.2.1, y, x.2.2.2)) := Sub.snd (Sub.snd (Sub.fst))
theorem sb54_3 : Sub (kKnot : Kd (Int × List (Int) × List (Int) × List (Int))) 3 (Kd.slice (Kd.int .i64)) (fun x => x.2.2.2) (fun x y => (x.1, x.2.1, x.2.2.1, y)) := Sub.snd (Sub.snd (Sub.snd (Sub.whole _)))
theorem sb59_0 : Sub (kField : Kd (ByteArray × Int × Int × Int)) 0 Kd.str (fun x => x.1) (fun x y => (y, x.2.1, x.2.2.1, x.2.2.2)) := Sub.fst
theorem sb59_1 : Sub (kField : Kd (ByteArray × Int × Int × Int)) 1 (Kd.int .i8) (fun x => x.2.1) (fun x y => (x.1, y, x.2.2.1, x.2.2.2)) := Sub.snd (Sub.fst)
theorem sb59_2 : Sub (kField : Kd (ByteArray × Int × Int × Int)) 2 (Kd.int .i16) (fun x => x.2.2.1) (fun x y => (x.1, x.2.1, y, x.2.2.2)) := Sub.snd (Sub.snd (Sub.fst))
theorem sb59_3 : Sub (kField : Kd (ByteArray × Int × Int × Int)) 3 (Kd.int .i16) (fun x => x.2.2.2) (fun x y => (x.1, x.2.1, x.2.2.1, y)) := Sub.snd (Sub.snd (Sub.snd (Sub.whole _)))
theorem sb62_0 : Sub (kCard : Kd (ByteArray × (BitVec 64 × BitVec 64))) 0 Kd.str (fun x => x.1) (fun x y => (y, x.2)) := Sub.fst
theorem sb62_1 : Sub (kCard : Kd (ByteArray × (BitVec 64 × BitVec 64))) 1 kMask (fun x => x.2) (fun x y => (x.1, y)) := Sub.snd (Sub.whole _)
theorem sb66_0 : Sub (kKnot : Kd (Int × List (Int) × List (Int) × List (Int))) 0 (Kd.int .i16) (fun x => x.1) (fun x y => (y, x.2.1, x.2.2.1, x.2.2.2)) := Sub.fst
theorem sb66_1 : Sub (kKnot : Kd (Int × List (Int) × List (Int) × List (Int))) 1 (Kd.slice (Kd.int .i64)) (fun x => x.2.1) (fun x y => (x.1, y, x.2.2.1, x.2.2.2)) := Sub.snd (Sub.fst)
theorem sb66_2 : Sub (kKnot : Kd (Int × List (Int) × List (Int) × List (Int))) 2 (Kd.slice (Kd.int .i16)) (fun x => x.2.2.1) (fun x y => (x.1, x.2.1, y, x.2.2.2)) := Sub.snd (Sub.snd (Sub.fst))
theorem sb66_3 : Sub (kKnot : Kd (Int × List (Int) × List (Int) × List (Int))) 3 (Kd.slice (Kd.int .i64)) (fun x => x.2.2.2) (fun x y => (x.1, x.2.1, x.2.2.1, y)) := Sub.snd (Sub.snd (Sub.snd (Sub.whole _)))
theorem sbr66_0 : Sub ((Kd.pair (Kd.int .i16) (Kd.pair Kd.raw (Kd.pair Kd.raw Kd.raw))) : Kd (Int × Value × Value × Value)) 0 (Kd.int .i16) (fun x => x.1) (fun x y => (y, x.2.1, x.2.2.1, x.2.2.2)) := Sub.fst
theorem sbr66_1 : Sub ((Kd.pair (Kd.int .i16) (Kd.pair Kd.raw (Kd.pair Kd.raw Kd.raw))) : Kd (Int × Value × Value × Value)) 1 Kd.raw (fun x => x.2.1) (fun x y => (x.1, y, x.2.2.1, x.2.2.2)) := Sub.snd (Sub.fst)
theorem sbr66_2 : Sub ((Kd.pair (Kd.int .i16) (Kd.pair Kd.raw (Kd.pair Kd.raw Kd.raw))) : Kd (Int × Value × Value × Value)) 2 Kd.raw (fun x => x.2.2.1) (fun x y => (x.1, x.2.1, y, x.2.2.2)) := Sub.snd (Sub.snd (Sub.fst))
theorem sbr66_3 : Sub ((Kd.pair (Kd.int .i16) (Kd.pair Kd.raw (Kd.pair Kd.raw Kd.raw))) : Kd (Int × Value × Value × Value)) 3 Kd.raw (fun x => x.2.2.2) (fun x y => (x.1, x.2.1, x.2.2.1, y)) := Sub.snd (Sub.snd (Sub.snd (Sub.whole _)))
theorem sx60_0 : Sub (kMask : Kd (BitVec 64 × BitVec 64)) (Int.toNat 0 * 1) Kd.u64 (fun x => x.1) (fun x y => (y, x.2)) := Sub.fst
theorem sx60_1 : Sub (kMask : Kd (BitVec 64 × BitVec 64)) (Int.toNat 1 * 1) Kd.u64 (fun x => x.2) (fun x y => (x.1, y)) := Sub.snd (Sub.whole _)
theorem eq46 : EqT Tryz.prog 46 (Kd.u64 : Kd (BitVec 64)) 1 := EqT.u64 Tryz.underlying46 sz46
theorem eq60 : EqT Tryz.prog 60 (kMask : Kd (BitVec 64 × BitVec 64)) 2 := EqT.two Tryz.underlying60 sz60 (by kernel_rfl) eq46
end Go.Proofs.YtfnkphllkbkfaaaGreatDoor.VL
