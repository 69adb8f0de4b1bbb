/- Proved here: what the table of types of the program says. Printed by program. -/
import Derived.Test.YtkgboidjghcegaaGreatDoorBpa
import Derived.Test.YtkgboidjghcegaaGreatDoorBvb
import Derived.Test.YtkgboidjghcegaaGreatDoorVLC
import Derived.Test.YtkgboidjghcegaaGreatDoorVLD
import Derived.Test.YtkgboidjghcegaaGreatDoorProg
set_option linter.unusedVariables false
set_option linter.unusedSimpArgs false
set_option maxRecDepth 4000
namespace Go.Proofs.YtkgboidjghcegaaGreatDoor.VL
open Go
theorem fomo : Tryz.prog.follows .mixedOrders = true := by kernel_rfl
theorem ag190 : aggT Tryz.prog 190 = some true := by kernel_rfl
theorem ag2 : aggT Tryz.prog 2 = some false := by kernel_rfl
theorem ag3 : aggT Tryz.prog 3 = some false := by kernel_rfl
theorem ag4 : aggT Tryz.prog 4 = some false := by kernel_rfl
theorem ag40 : aggT Tryz.prog 40 = some false := by kernel_rfl
theorem ag5 : aggT Tryz.prog 5 = some false := by kernel_rfl
theorem ag52 : aggT Tryz.prog 52 = some true := by kernel_rfl
theorem ag54 : aggT Tryz.prog 54 = some true := by kernel_rfl
theorem ag60 : aggT Tryz.prog 60 = some true := by kernel_rfl
theorem ag68 : aggT Tryz.prog 68 = some false := by kernel_rfl
theorem ag69 : aggT Tryz.prog 69 = some false := by kernel_rfl
theorem ag73 : aggT Tryz.prog 73 = some false := by kernel_rfl
theorem ag80 : aggT Tryz.prog 80 = some true := by kernel_rfl
theorem ag81 : aggT Tryz.prog 81 = some false := by kernel_rfl
theorem ag84 : aggT Tryz.prog 84 = some true := by kernel_rfl
theorem ag86 : aggT Tryz.prog 86 = some true := by kernel_rfl
theorem ag9 : aggT Tryz.prog 9 = some false := by kernel_rfl
theorem ar163 : arT Tryz.prog 163 = some (4, 69) := by kernel_rfl
theorem ar182 : arT Tryz.prog 182 = some (10, 81) := by kernel_rfl
theorem ar190 : arT Tryz.prog 190 = some (256, 4) := by kernel_rfl
theorem ar84 : arT Tryz.prog 84 = some (2, 73) := by kernel_rfl
theorem ar91 : arT Tryz.prog 91 = some (2, 2) := by kernel_rfl
theorem by2 : bytesT Tryz.prog 2 = some 8 := by kernel_rfl
theorem by5 : bytesT Tryz.prog 5 = some 1 := by kernel_rfl
theorem by52 : bytesT Tryz.prog 52 = some 24 := by kernel_rfl
theorem by54 : bytesT Tryz.prog 54 = some 16 := by kernel_rfl
theorem by86 : bytesT Tryz.prog 86 = some 32 := by kernel_rfl
theorem cz2 : Tryz.prog.cellsOf 2 = 1 := by kernel_rfl
theorem eg52 : Program.eqGuardType Tryz.prog (Program.depth Tryz.prog) 52 = false := by kernel_rfl
theorem eg54 : Program.eqGuardType Tryz.prog (Program.depth Tryz.prog) 54 = false := by kernel_rfl
theorem eg60 : Program.eqGuardType Tryz.prog (Program.depth Tryz.prog) 60 = false := by kernel_rfl
theorem eg84 : Program.eqGuardType Tryz.prog (Program.depth Tryz.prog) 84 = false := by kernel_rfl
theorem el121 : elT Tryz.prog 121 = some 3 := by kernel_rfl
theorem el124 : elT Tryz.prog 124 = some 9 := by kernel_rfl
theorem el26 : elT Tryz.prog 26 = some 52 := by kernel_rfl
theorem el29 : elT Tryz.prog 29 = some 80 := by kernel_rfl
theorem el31 : elT Tryz.prog 31 = some 86 := by kernel_rfl
theorem el40 : elT Tryz.prog 40 = some 5 := by kernel_rfl
theorem el45 : elT Tryz.prog 45 = some 54 := by kernel_rfl
theorem el81 : elT Tryz.prog 81 = some 2 := by kernel_rfl
theorem fd129_0 : fldT Tryz.prog 129 0 = some (40, 0) := by kernel_rfl
theorem fd129_1 : fldT Tryz.prog 129 1 = some (3, 1) := by kernel_rfl
theorem fd129_2 : fldT Tryz.prog 129 2 = some (73, 2) := by kernel_rfl
theorem fd52_0 : fldT Tryz.prog 52 0 = some (2, 0) := by kernel_rfl
theorem fd52_1 : fldT Tryz.prog 52 1 = some (2, 1) := by kernel_rfl
theorem fd52_2 : fldT Tryz.prog 52 2 = some (2, 2) := by kernel_rfl
theorem fd54_0 : fldT Tryz.prog 54 0 = some (2, 0) := by kernel_rfl
theorem fd54_1 : fldT Tryz.prog 54 1 = some (2, 1) := by kernel_rfl
theorem fd60_0 : fldT Tryz.prog 60 0 = some (2, 0) := by kernel_rfl
theorem fd60_1 : fldT Tryz.prog 60 1 = some (2, 1) := by kernel_rfl
theorem fd80_0 : fldT Tryz.prog 80 0 = some (9, 0) := by kernel_rfl
theorem fd80_1 : fldT Tryz.prog 80 1 = some (68, 1) := by kernel_rfl
theorem fd80_2 : fldT Tryz.prog 80 2 = some (69, 2) := by kernel_rfl
theorem fd80_3 : fldT Tryz.prog 80 3 = some (69, 3) := by kernel_rfl
theorem fd86_0 : fldT Tryz.prog 86 0 = some (9, 0) := by kernel_rfl
theorem fd86_1 : fldT Tryz.prog 86 1 = some (84, 1) := by kernel_rfl
theorem pl129 : plT Tryz.prog 129 = some [(0, 1), (1, 1), (2, 1)] := by kernel_rfl
theorem pl52 : plT Tryz.prog 52 = some [(0, 1), (1, 1), (2, 1)] := by kernel_rfl
theorem pl54 : plT Tryz.prog 54 = some [(0, 1), (1, 1)] := by kernel_rfl
theorem pl60 : plT Tryz.prog 60 = some [(0, 1), (1, 1)] := by kernel_rfl
theorem pl80 : plT Tryz.prog 80 = some [(0, 1), (1, 1), (2, 1), (3, 1)] := by kernel_rfl
theorem pl86 : plT Tryz.prog 86 = some [(0, 1), (1, 2)] := by kernel_rfl
theorem sz163 : sizeT Tryz.prog 163 = some 4 := by kernel_rfl
theorem sz190 : sizeT Tryz.prog 190 = some 256 := by kernel_rfl
theorem sz2 : sizeT Tryz.prog 2 = some 1 := by kernel_rfl
theorem sz3 : sizeT Tryz.prog 3 = some 1 := by kernel_rfl
theorem sz4 : sizeT Tryz.prog 4 = some 1 := by kernel_rfl
theorem sz40 : sizeT Tryz.prog 40 = some 1 := by kernel_rfl
theorem sz5 : sizeT Tryz.prog 5 = some 1 := by kernel_rfl
theorem sz52 : sizeT Tryz.prog 52 = some 3 := by kernel_rfl
theorem sz54 : sizeT Tryz.prog 54 = some 2 := by kernel_rfl
theorem sz60 : sizeT Tryz.prog 60 = some 2 := by kernel_rfl
theorem sz68 : sizeT Tryz.prog 68 = some 1 := by kernel_rfl
theorem sz69 : sizeT Tryz.prog 69 = some 1 := by kernel_rfl
theorem sz73 : sizeT Tryz.prog 73 = some 1 := by kernel_rfl
theorem sz80 : sizeT Tryz.prog 80 = some 4 := by kernel_rfl
theorem sz81 : sizeT Tryz.prog 81 = some 1 := by kernel_rfl
theorem sz84 : sizeT Tryz.prog 84 = some 2 := by kernel_rfl
theorem sz86 : sizeT Tryz.prog 86 = some 3 := by kernel_rfl
theorem sz9 : sizeT Tryz.prog 9 = some 1 := by kernel_rfl
theorem sz91 : sizeT Tryz.prog 91 = some 2 := by kernel_rfl
theorem us2 : (Tryz.prog.underlying 2).isSome = true := by kernel_rfl
theorem us3 : (Tryz.prog.underlying 3).isSome = true := by kernel_rfl
theorem us5 : (Tryz.prog.underlying 5).isSome = true := by kernel_rfl
theorem us69 : (Tryz.prog.underlying 69).isSome = true := by kernel_rfl
theorem us73 : (Tryz.prog.underlying 73).isSome = true := by kernel_rfl
theorem zk129 : ∀ s, ((Kd.pair (Kd.slice (Kd.int .u8)) (Kd.pair (Kd.int .i64) Kd.u64)) : Kd (List (Int) × Int × BitVec 64)).rd s (Value.cl (.agg #[.slice none 0 0, .int .i64 0, .int .u64 0])) (([], 0, 0)) := fun s => ⟨[.slice none 0 0], [.int .i64 0, .int .u64 0], rfl, ⟨none, 0, rfl, Nat.le_refl _, by decide, fun h => absurd h (by decide)⟩, ⟨[.int .i64 0], [.int .u64 0], rfl, ⟨rfl, inRb_of rfl⟩, rfl⟩⟩
theorem zk163 : ∀ s, ((Kd.arr 4 (Kd.int .i16)) : Kd (List (Int))).rd s (Value.cl (.agg (List.replicate 4 (.int .i16 0)).toArray)) ((List.replicate 4 0)) := zarr 4 (fun s => ⟨rfl, inRb_of rfl⟩)
theorem zk182 : ∀ s, ((Kd.arr 10 (Kd.slice (Kd.int .i64))) : Kd (List (List (Int)))).rd s (Value.cl (.agg (List.replicate 10 (.slice none 0 0)).toArray)) ((List.replicate 10 [])) := zarr 10 (fun s => ⟨none, 0, rfl, Nat.le_refl _, by decide, fun h => absurd h (by decide)⟩)
theorem zk190 : ∀ s, ((Kd.arr 256 Kd.bool) : Kd (List (Bool))).rd s (Value.cl (.agg (List.replicate 256 (.bool false)).toArray)) ((List.replicate 256 false)) := zarr 256 (fun s => rfl)
theorem zk2 : ∀ s, ((Kd.int .i64) : Kd (Int)).rd s (Value.cl (.int .i64 0)) (0) := fun s => ⟨rfl, inRb_of rfl⟩
theorem zk3 : ∀ s, ((Kd.int .i64) : Kd (Int)).rd s (Value.cl (.int .i64 0)) (0) := fun s => ⟨rfl, inRb_of rfl⟩
theorem zk5 : ∀ s, ((Kd.int .u8) : Kd (Int)).rd s (Value.cl (.int .u8 0)) (0) := fun s => ⟨rfl, inRb_of rfl⟩
theorem zk52 : ∀ s, ((Kd.pair (Kd.int .i64) (Kd.pair (Kd.int .i64) (Kd.int .i64))) : Kd (Int × Int × Int)).rd s (Value.cl (.agg #[.int .i64 0, .int .i64 0, .int .i64 0])) ((0, 0, 0)) := fun s => ⟨[.int .i64 0], [.int .i64 0, .int .i64 0], rfl, ⟨rfl, inRb_of rfl⟩, ⟨[.int .i64 0], [.int .i64 0], rfl, ⟨rfl, inRb_of rfl⟩, ⟨rfl, inRb_of rfl⟩⟩⟩
theorem zk54 : ∀ s, (kShare : Kd (Int × Int)).rd s (Value.cl (.agg #[.int .i64 0, .int .i64 0])) ((0, 0)) := fun s => ⟨[.int .i64 0], [.int .i64 0], rfl, ⟨rfl, inRb_of rfl⟩, ⟨rfl, inRb_of rfl⟩⟩
theorem zk60 : ∀ s, (kShare : Kd (Int × Int)).rd s (Value.cl (.agg #[.int .i64 0, .int .i64 0])) ((0, 0)) := fun s => ⟨[.int .i64 0], [.int .i64 0], rfl, ⟨rfl, inRb_of rfl⟩, ⟨rfl, inRb_of rfl⟩⟩
theorem zk80 : ∀ s, (kField : Kd (ByteArray × Int × Int × Int)).rd s (Value.cl (.agg #[.string .empty, .int .i8 0, .int .i16 0, .int .i16 0])) ((.empty, 0, 0, 0)) := fun s => ⟨[.string .empty], [.int .i8 0, .int .i16 0, .int .i16 0], rfl, ⟨rfl, by decide⟩, ⟨[.int .i8 0], [.int .i16 0, .int .i16 0], rfl, ⟨rfl, inRb_of rfl⟩, ⟨[.int .i16 0], [.int .i16 0], rfl, ⟨rfl, inRb_of rfl⟩, ⟨rfl, inRb_of rfl⟩⟩⟩⟩
theorem zk84 : ∀ s, (kMask : Kd (BitVec 64 × BitVec 64)).rd s (Value.cl (.agg #[.int .u64 0, .int .u64 0])) ((0, 0)) := fun s => ⟨[.int .u64 0], [.int .u64 0], rfl, rfl, rfl⟩
theorem zk86 : ∀ s, (kCard : Kd (ByteArray × (BitVec 64 × BitVec 64))).rd s (Value.cl (.agg #[.string .empty, .int .u64 0, .int .u64 0])) ((.empty, (0, 0))) := fun s => ⟨[.string .empty], [.int .u64 0, .int .u64 0], rfl, ⟨rfl, by decide⟩, ⟨[.int .u64 0], [.int .u64 0], rfl, rfl, rfl⟩⟩
theorem zk9 : ∀ s, (Kd.str : Kd (ByteArray)).rd s (Value.cl (.string .empty)) (.empty) := fun s => ⟨rfl, by decide⟩
theorem zk91 : ∀ s, (kShare : Kd (Int × Int)).rd s (Value.cl (.agg #[.int .i64 0, .int .i64 0])) ((0, 0)) := fun s => ⟨[.int .i64 0], [.int .i64 0], rfl, ⟨rfl, inRb_of rfl⟩, ⟨rfl, inRb_of rfl⟩⟩
theorem zr129 : zeroT Tryz.prog 129 = some (.agg #[.slice none 0 0, .int .i64 0, .int .u64 0]) := by kernel_rfl
theorem zr163 : zeroT Tryz.prog 163 = some (.agg (List.replicate 4 (.int .i16 0)).toArray) := by kernel_rfl
theorem zr182 : zeroT Tryz.prog 182 = some (.agg (List.replicate 10 (.slice none 0 0)).toArray) := by kernel_rfl
theorem zr190 : zeroT Tryz.prog 190 = some (.agg (List.replicate 256 (.bool false)).toArray) := by kernel_rfl
theorem zr2 : zeroT Tryz.prog 2 = some (.int .i64 0) := by kernel_rfl
theorem zr3 : zeroT Tryz.prog 3 = some (.int .i64 0) := by kernel_rfl
theorem zr5 : zeroT Tryz.prog 5 = some (.int .u8 0) := by kernel_rfl
theorem zr52 : zeroT Tryz.prog 52 = some (.agg #[.int .i64 0, .int .i64 0, .int .i64 0]) := by kernel_rfl
theorem zr54 : zeroT Tryz.prog 54 = some (.agg #[.int .i64 0, .int .i64 0]) := by kernel_rfl
theorem zr60 : zeroT Tryz.prog 60 = some (.agg #[.int .i64 0, .int .i64 0]) := by kernel_rfl
theorem zr80 : zeroT Tryz.prog 80 = some (.agg #[.string .empty, .int .i8 0, .int .i16 0, .int .i16 0]) := by kernel_rfl
theorem zr84 : zeroT Tryz.prog 84 = some (.agg #[.int .u64 0, .int .u64 0]) := by kernel_rfl
theorem zr86 : zeroT Tryz.prog 86 = some (.agg #[.string .empty, .int .u64 0, .int .u64 0]) := by kernel_rfl
theorem zr9 : zeroT Tryz.prog 9 = some (.string .empty) := by kernel_rfl
theorem zr91 : zeroT Tryz.prog 91 = some (.agg #[.int .i64 0, .int .i64 0]) := by kernel_rfl
theorem sb129_0 : Sub ((Kd.pair (Kd.slice (Kd.int .u8)) (Kd.pair (Kd.int .i64) Kd.u64)) : Kd (List (Int) × Int × BitVec 64)) 0 (Kd.slice (Kd.int .u8)) (fun x => x.1) (fun x y => (y, x.2.1, x.2.2)) := Sub.fst
theorem sb129_1 : Sub ((Kd.pair (Kd.slice (Kd.int .u8)) (Kd.pair (Kd.int .i64) Kd.u64)) : Kd (List (Int) × Int × BitVec 64)) 1 (Kd.int .i64) (fun x => x.2.1) (fun x y => (x.1, y, x.2.2)) := Sub.snd (Sub.fst)
theorem sb129_2 : Sub ((Kd.pair (Kd.slice (Kd.int .u8)) (Kd.pair (Kd.int .i64) Kd.u64)) : Kd (List (Int) × Int × BitVec 64)) 2 Kd.u64 (fun x => x.2.2) (fun x y => (x.1, x.2.1, y)) := Sub.snd (Sub.snd (Sub.whole _))
theorem sb52_0 : Sub ((Kd.pair (Kd.int .i64) (Kd.pair (Kd.int .i64) (Kd.int .i64))) : Kd (Int × Int × Int)) 0 (Kd.int .i64) (fun x => x.1) (fun x y => (y, x.2.1, x.2.2)) := Sub.fst
theorem sb52_1 : Sub ((Kd.pair (Kd.int .i64) (Kd.pair (Kd.int .i64) (Kd.int .i64))) : Kd (Int × Int × Int)) 1 (Kd.int .i64) (fun x => x.2.1) (fun x y => (x.1, y, x.2.2)) := Sub.snd (Sub.fst)
theorem sb52_2 : Sub ((Kd.pair (Kd.int .i64) (Kd.pair (Kd.int .i64) (Kd.int .i64))) : Kd (Int × Int × Int)) 2 (Kd.int .i64) (fun x => x.2.2) (fun x y => (x.1, x.2.1, y)) := Sub.snd (Sub.snd (Sub.whole _))
theorem sb54_0 : Sub (kShare : Kd (Int × Int)) 0 (Kd.int .i64) (fun x => x.1) (fun x y => (y, x.2)) := Sub.fst
theorem sb54_1 : Sub (kShare : Kd (Int × Int)) 1 (Kd.int .i64) (fun x => x.2) (fun x y => (x.1, y)) := Sub.snd (Sub.whole _)
theorem sb60_0 : Sub (kShare : Kd (Int × Int)) 0 (Kd.int .i64) (fun x => x.1) (fun x y => (y, x.2)) := Sub.fst
theorem sb60_1 : Sub (kShare : Kd (Int × Int)) 1 (Kd.int .i64) (fun x => x.2) (fun x y => (x.1, y)) := Sub.snd (Sub.whole _)
theorem sb80_0 : Sub (kField : Kd (ByteArray × Int × Int × Int)) 0 Kd.str (fun x => x.1) (fun x y => (y, x.2.1, x.2.2.1, x.2.2.2)) := Sub.fst
theorem sb80_1 : Sub (kField : Kd (ByteArray × Int × Int × Int)) 1 (Kd.int .i8) (fun x => x.2.1) (fun x y => (x.1, y, x.2.2.1, x.2.2.2)) := Sub.snd (Sub.fst)
theorem sb80_2 : Sub (kField : Kd (ByteArray × Int × Int × Int)) 2 (Kd.int .i16) (fun x => x.2.2.1) (fun x y => (x.1, x.2.1, y, x.2.2.2)) := Sub.snd (Sub.snd (Sub.fst))
theorem sb80_3 : Sub (kField : Kd (ByteArray × Int × Int × Int)) 3 (Kd.int .i16) (fun x => x.2.2.2) (fun x y => (x.1, x.2.1, x.2.2.1, y)) := Sub.snd (Sub.snd (Sub.snd (Sub.whole _)))
theorem sb86_0 : Sub (kCard : Kd (ByteArray × (BitVec 64 × BitVec 64))) 0 Kd.str (fun x => x.1) (fun x y => (y, x.2)) := Sub.fst
theorem sb86_1 : Sub (kCard : Kd (ByteArray × (BitVec 64 × BitVec 64))) 1 kMask (fun x => x.2) (fun x y => (x.1, y)) := Sub.snd (Sub.whole _)
theorem sx84_0 : Sub (kMask : Kd (BitVec 64 × BitVec 64)) (Int.toNat 0 * 1) Kd.u64 (fun x => x.1) (fun x y => (y, x.2)) := Sub.fst
theorem sx84_1 : Sub (kMask : Kd (BitVec 64 × BitVec 64)) (Int.toNat 1 * 1) Kd.u64 (fun x => x.2) (fun x y => (x.1, y)) := Sub.snd (Sub.whole _)
theorem sx91_0 : Sub (kShare : Kd (Int × Int)) (Int.toNat 0 * 1) (Kd.int .i64) (fun x => x.1) (fun x y => (y, x.2)) := Sub.fst
theorem sx91_1 : Sub (kShare : Kd (Int × Int)) (Int.toNat 1 * 1) (Kd.int .i64) (fun x => x.2) (fun x y => (x.1, y)) := Sub.snd (Sub.whole _)
theorem eq2 : EqT Tryz.prog 2 ((Kd.int .i64) : Kd (Int)) 1 := EqT.int Tryz.underlying2 sz2
theorem eq52 : EqT Tryz.prog 52 ((Kd.pair (Kd.int .i64) (Kd.pair (Kd.int .i64) (Kd.int .i64))) : Kd (Int × Int × Int)) 2 := EqT.struct Tryz.underlying52 sz52 (by kernel_rfl) (EqFs.cons (r := 1) rfl rfl eq2 (EqFs.cons (r := 1) rfl rfl eq2 (EqFs.one rfl rfl eq2) rfl rfl) rfl rfl)
theorem eq54 : EqT Tryz.prog 54 (kShare : Kd (Int × Int)) 2 := EqT.struct Tryz.underlying54 sz54 (by kernel_rfl) (EqFs.cons (r := 1) rfl rfl eq2 (EqFs.one rfl rfl eq2) rfl rfl)
theorem eq60 : EqT Tryz.prog 60 (kShare : Kd (Int × Int)) 2 := EqT.struct Tryz.underlying60 sz60 (by kernel_rfl) (EqFs.cons (r := 1) rfl rfl eq2 (EqFs.one rfl rfl eq2) rfl rfl)
theorem eq73 : EqT Tryz.prog 73 (Kd.u64 : Kd (BitVec 64)) 1 := EqT.u64 Tryz.underlying73 sz73
theorem eq84 : EqT Tryz.prog 84 (kMask : Kd (BitVec 64 × BitVec 64)) 2 := EqT.two Tryz.underlying84 sz84 (by kernel_rfl) eq73
end Go.Proofs.YtkgboidjghcegaaGreatDoor.VL
