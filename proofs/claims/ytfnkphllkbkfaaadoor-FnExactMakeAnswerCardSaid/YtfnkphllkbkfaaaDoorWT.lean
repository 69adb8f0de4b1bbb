/- Proved here: what the table of types of the program says. Printed by program. -/
import Derived.Test.YtfnkphllkbkfaaaDoorBpa
import Derived.Test.YtfnkphllkbkfaaaDoorBvc
import Derived.Test.YtfnkphllkbkfaaaDoorProg
set_option linter.unusedVariables false
set_option linter.unusedSimpArgs false
set_option maxRecDepth 4000
namespace Go.Proofs.YtfnkphllkbkfaaaDoor.VL
open Go
theorem fomo : Tryd.prog.follows .mixedOrders = true := by kernel_rfl
theorem ag101 : aggT Tryd.prog 101 = some true := by kernel_rfl
theorem ag138 : aggT Tryd.prog 138 = some true := by kernel_rfl
theorem ag199 : aggT Tryd.prog 199 = some true := by kernel_rfl
theorem ag2 : aggT Tryd.prog 2 = some false := by kernel_rfl
theorem ag4 : aggT Tryd.prog 4 = some false := by kernel_rfl
theorem ag48 : aggT Tryd.prog 48 = some false := by kernel_rfl
theorem ag49 : aggT Tryd.prog 49 = some false := by kernel_rfl
theorem ag50 : aggT Tryd.prog 50 = some true := by kernel_rfl
theorem ag55 : aggT Tryd.prog 55 = some true := by kernel_rfl
theorem ag72 : aggT Tryd.prog 72 = some true := by kernel_rfl
theorem ag74 : aggT Tryd.prog 74 = some true := by kernel_rfl
theorem ag75 : aggT Tryd.prog 75 = some false := by kernel_rfl
theorem ag76 : aggT Tryd.prog 76 = some false := by kernel_rfl
theorem ag78 : aggT Tryd.prog 78 = some true := by kernel_rfl
theorem ag9 : aggT Tryd.prog 9 = some false := by kernel_rfl
theorem ag97 : aggT Tryd.prog 97 = some true := by kernel_rfl
theorem ar199 : arT Tryd.prog 199 = some (256, 4) := by kernel_rfl
theorem ar50 : arT Tryd.prog 50 = some (2, 49) := by kernel_rfl
theorem ar55 : arT Tryd.prog 55 = some (2, 49) := by kernel_rfl
theorem by101 : bytesT Tryd.prog 101 = some 32 := by kernel_rfl
theorem by138 : bytesT Tryd.prog 138 = some 16 := by kernel_rfl
theorem by2 : bytesT Tryd.prog 2 = some 8 := by kernel_rfl
theorem eg55 : Program.eqGuardType Tryd.prog (Program.depth Tryd.prog) 55 = false := by kernel_rfl
theorem el146 : elT Tryd.prog 146 = some 5 := by kernel_rfl
theorem el31 : elT Tryd.prog 31 = some 97 := by kernel_rfl
theorem el36 : elT Tryd.prog 36 = some 101 := by kernel_rfl
theorem el75 : elT Tryd.prog 75 = some 2 := by kernel_rfl
theorem el76 : elT Tryd.prog 76 = some 138 := by kernel_rfl
theorem fd101_0 : fldT Tryd.prog 101 0 = some (9, 0) := by kernel_rfl
theorem fd101_1 : fldT Tryd.prog 101 1 = some (55, 1) := by kernel_rfl
theorem fd138_0 : fldT Tryd.prog 138 0 = some (2, 0) := by kernel_rfl
theorem fd138_1 : fldT Tryd.prog 138 1 = some (48, 1) := by kernel_rfl
theorem fd72_0 : fldT Tryd.prog 72 0 = some (50, 0) := by kernel_rfl
theorem fd72_1 : fldT Tryd.prog 72 1 = some (50, 2) := by kernel_rfl
theorem fd74_0 : fldT Tryd.prog 74 0 = some (55, 0) := by kernel_rfl
theorem fd74_1 : fldT Tryd.prog 74 1 = some (55, 2) := by kernel_rfl
theorem fd78_0 : fldT Tryd.prog 78 0 = some (74, 0) := by kernel_rfl
theorem fd78_1 : fldT Tryd.prog 78 1 = some (75, 4) := by kernel_rfl
theorem fd78_2 : fldT Tryd.prog 78 2 = some (76, 5) := by kernel_rfl
theorem fd97_0 : fldT Tryd.prog 97 0 = some (9, 0) := by kernel_rfl
theorem fd97_1 : fldT Tryd.prog 97 1 = some (50, 1) := by kernel_rfl
theorem pl138 : plT Tryd.prog 138 = some [(0, 1), (1, 1)] := by kernel_rfl
theorem pl78 : plT Tryd.prog 78 = some [(0, 4), (4, 1), (5, 1)] := by kernel_rfl
theorem sz101 : sizeT Tryd.prog 101 = some 3 := by kernel_rfl
theorem sz138 : sizeT Tryd.prog 138 = some 2 := by kernel_rfl
theorem sz199 : sizeT Tryd.prog 199 = some 256 := by kernel_rfl
theorem sz2 : sizeT Tryd.prog 2 = some 1 := by kernel_rfl
theorem sz4 : sizeT Tryd.prog 4 = some 1 := by kernel_rfl
theorem sz48 : sizeT Tryd.prog 48 = some 1 := by kernel_rfl
theorem sz49 : sizeT Tryd.prog 49 = some 1 := by kernel_rfl
theorem sz5 : sizeT Tryd.prog 5 = some 1 := by kernel_rfl
theorem sz50 : sizeT Tryd.prog 50 = some 2 := by kernel_rfl
theorem sz55 : sizeT Tryd.prog 55 = some 2 := by kernel_rfl
theorem sz72 : sizeT Tryd.prog 72 = some 4 := by kernel_rfl
theorem sz74 : sizeT Tryd.prog 74 = some 4 := by kernel_rfl
theorem sz75 : sizeT Tryd.prog 75 = some 1 := by kernel_rfl
theorem sz76 : sizeT Tryd.prog 76 = some 1 := by kernel_rfl
theorem sz78 : sizeT Tryd.prog 78 = some 6 := by kernel_rfl
theorem sz9 : sizeT Tryd.prog 9 = some 1 := by kernel_rfl
theorem sz97 : sizeT Tryd.prog 97 = some 3 := by kernel_rfl
theorem us2 : (Tryd.prog.underlying 2).isSome = true := by kernel_rfl
theorem us3 : (Tryd.prog.underlying 3).isSome = true := by kernel_rfl
theorem zk101 : ∀ s, (kCard : Kd (ByteArray × (BitVec 64 × BitVec 64))).rd s (Value.cl (.agg #[.string .empty, .int .u64 0, .int .u64 0])) ((.empty, (0, 0))) := fun s => ⟨[.string .empty], [.int .u64 0, .int .u64 0], rfl, ⟨rfl, by decide⟩, ⟨[.int .u64 0], [.int .u64 0], rfl, rfl, rfl⟩⟩
theorem zk138 : ∀ s, (kWit : Kd (Int × Int)).rd s (Value.cl (.agg #[.int .i64 0, .int .i16 0])) ((0, 0)) := fun s => ⟨[.int .i64 0], [.int .i16 0], rfl, ⟨rfl, inRb_of rfl⟩, ⟨rfl, inRb_of rfl⟩⟩
theorem zk199 : ∀ s, ((Kd.arr 256 Kd.bool) : Kd (List (Bool))).rd s (Value.cl (.agg (List.replicate 256 (.bool false)).toArray)) ((List.replicate 256 false)) := zarr 256 (fun s => rfl)
theorem zk2 : ∀ s, ((Kd.int .i64) : Kd (Int)).rd s (Value.cl (.int .i64 0)) (0) := fun s => ⟨rfl, inRb_of rfl⟩
theorem zk5 : ∀ s, ((Kd.int .u8) : Kd (Int)).rd s (Value.cl (.int .u8 0)) (0) := fun s => ⟨rfl, inRb_of rfl⟩
theorem zk55 : ∀ s, (kMask : Kd (BitVec 64 × BitVec 64)).rd s (Value.cl (.agg #[.int .u64 0, .int .u64 0])) ((0, 0)) := fun s => ⟨[.int .u64 0], [.int .u64 0], rfl, rfl, rfl⟩
theorem zk74 : ∀ s, (kQuery : Kd ((BitVec 64 × BitVec 64) × (BitVec 64 × BitVec 64))).rd s (Value.cl (.agg #[.int .u64 0, .int .u64 0, .int .u64 0, .int .u64 0])) (((0, 0), (0, 0))) := fun s => ⟨[.int .u64 0, .int .u64 0], [.int .u64 0, .int .u64 0], rfl, ⟨[.int .u64 0], [.int .u64 0], rfl, rfl, rfl⟩, ⟨[.int .u64 0], [.int .u64 0], rfl, rfl, rfl⟩⟩
theorem zk78 : ∀ s, (kAns : Kd (((BitVec 64 × BitVec 64) × (BitVec 64 × BitVec 64)) × List (Int) × List (Int × Int))).rd s (Value.cl (.agg #[.int .u64 0, .int .u64 0, .int .u64 0, .int .u64 0, .slice none 0 0, .slice none 0 0])) ((((0, 0), (0, 0)), [], [])) := fun s => ⟨[.int .u64 0, .int .u64 0, .int .u64 0, .int .u64 0], [.slice none 0 0, .slice none 0 0], rfl, ⟨[.int .u64 0, .int .u64 0], [.int .u64 0, .int .u64 0], rfl, ⟨[.int .u64 0], [.int .u64 0], rfl, rfl, rfl⟩, ⟨[.int .u64 0], [.int .u64 0], rfl, rfl, rfl⟩⟩, ⟨[.slice none 0 0], [.slice none 0 0], rfl, ⟨none, 0, rfl, Nat.le_refl _, by decide, fun h => absurd h (by decide)⟩, ⟨none, 0, rfl, Nat.le_refl _, by decide, fun h => absurd h (by decide)⟩⟩⟩
theorem zkr78 : ∀ s, ((Kd.pair kQuery (Kd.pair Kd.raw Kd.raw)) : Kd (((BitVec 64 × BitVec 64) × (BitVec 64 × BitVec 64)) × Value × Value)).rd s (Value.cl (.agg #[.int .u64 0, .int .u64 0, .int .u64 0, .int .u64 0, .slice none 0 0, .slice none 0 0])) ((((0, 0), (0, 0)), (Value.slice none 0 0), (Value.slice none 0 0))) := fun s => ⟨[.int .u64 0, .int .u64 0, .int .u64 0, .int .u64 0], [.slice none 0 0, .slice none 0 0], rfl, ⟨[.int .u64 0, .int .u64 0], [.int .u64 0, .int .u64 0], rfl, ⟨[.int .u64 0], [.int .u64 0], rfl, rfl, rfl⟩, ⟨[.int .u64 0], [.int .u64 0], rfl, rfl, rfl⟩⟩, ⟨[.slice none 0 0], [.slice none 0 0], rfl, ⟨rfl, rfl⟩, ⟨rfl, rfl⟩⟩⟩
theorem zr101 : zeroT Tryd.prog 101 = some (.agg #[.string .empty, .int .u64 0, .int .u64 0]) := by kernel_rfl
theorem zr138 : zeroT Tryd.prog 138 = some (.agg #[.int .i64 0, .int .i16 0]) := by kernel_rfl
theorem zr199 : zeroT Tryd.prog 199 = some (.agg (List.replicate 256 (.bool false)).toArray) := by kernel_rfl
theorem zr2 : zeroT Tryd.prog 2 = some (.int .i64 0) := by kernel_rfl
theorem zr5 : zeroT Tryd.prog 5 = some (.int .u8 0) := by kernel_rfl
theorem zr55 : zeroT Tryd.prog 55 = some (.agg #[.int .u64 0, .int .u64 0]) := by kernel_rfl
theorem zr74 : zeroT Tryd.prog 74 = some (.agg #[.int .u64 0, .int .u64 0, .int .u64 0, .int .u64 0]) := by kernel_rfl
theorem zr78 : zeroT Tryd.prog 78 = some (.agg #[.int .u64 0, .int .u64 0, .int .u64 0, .int .u64 0, .slice none 0 0, .slice none 0 0]) := by kernel_rfl
theorem sb101_0 : Sub (kCard : Kd (ByteArray × (BitVec 64 × BitVec 64))) 0 Kd.str (fun x => x.1) (fun x y => (y, x.2)) := Sub.fst
theorem sb101_1 : Sub (kCard : Kd (ByteArray × (BitVec 64 × BitVec 64))) 1 kMask (fun x => x.2) (fun x y => (x.1, y)) := Sub.snd (Sub.whole _)
theorem sb138_0 : Sub (kWit : Kd (Int × Int)) 0 (Kd.int .i64) (fun x => x.1) (fun x y => (y, x.2)) := Sub.fst
theorem sb138_1 : Sub (kWit : Kd (Int × Int)) 1 (Kd.int .i16) (fun x => x.2) (fun x y => (x.1, y)) := Sub.snd (Sub.whole _)
theorem sb72_0 : Sub (kQuery : Kd ((BitVec 64 × BitVec 64) × (BitVec 64 × BitVec 64))) 0 kMask (fun x => x.1) (fun x y => (y, x.2)) := Sub.fst
theorem sb72_1 : Sub (kQuery : Kd ((BitVec 64 × BitVec 64) × (BitVec 64 × BitVec 64))) 2 kMask (fun x => x.2) (fun x y => (x.1, y)) := Sub.snd (Sub.whole _)
theorem sb74_0 : Sub (kQuery : Kd ((BitVec 64 × BitVec 64) × (BitVec 64 × BitVec 64))) 0 kMask (fun x => x.1) (fun x y => (y, x.2)) := Sub.fst
theorem sb74_1 : Sub (kQuery : Kd ((BitVec 64 × BitVec 64) × (BitVec 64 × BitVec 64))) 2 kMask (fun x => x.2) (fun x y => (x.1, y)) := Sub.snd (Sub.whole _)
theorem sb78_0 : Sub (kAns : Kd (((BitVec 64 × BitVec 64) × (BitVec 64 × BitVec 64)) × List (Int) × List (Int × Int))) 0 kQuery (fun x => x.1) (fun x y => (y, x.2.1, x.2.2)) := Sub.fst
theorem sb78_1 : Sub (kAns : Kd (((BitVec 64 × BitVec 64) × (BitVec 64 × BitVec 64)) × List (Int) × List (Int × Int))) 4 (Kd.slice (Kd.int .i64)) (fun x => x.2.1) (fun x y => (x.1, y, x.2.2)) := Sub.snd (Sub.fst)
theorem sb78_2 : Sub (kAns : Kd (((BitVec 64 × BitVec 64) × (BitVec 64 × BitVec 64)) × List (Int) × List (Int × Int))) 5 (Kd.slice kWit) (fun x => x.2.2) (fun x y => (x.1, x.2.1, y)) := Sub.snd (Sub.snd (Sub.whole _))
theorem sb97_0 : Sub (kCard : Kd (ByteArray × (BitVec 64 × BitVec 64))) 0 Kd.str (fun x => x.1) (fun x y => (y, x.2)) := Sub.fst
theorem sb97_1 : Sub (kCard : Kd (ByteArray × (BitVec 64 × BitVec 64))) 1 kMask (fun x => x.2) (fun x y => (x.1, y)) := Sub.snd (Sub.whole _)
theorem sbr78_0 : Sub ((Kd.pair kQuery (Kd.pair Kd.raw Kd.raw)) : Kd (((BitVec 64 × BitVec 64) × (BitVec 64 × BitVec 64)) × Value × Value)) 0 kQuery (fun x => x.1) (fun x y => (y, x.2.1, x.2.2)) := Sub.fst
theorem sbr78_1 : Sub ((Kd.pair kQuery (Kd.pair Kd.raw Kd.raw)) : Kd (((BitVec 64 × BitVec 64) × (BitVec 64 × BitVec 64)) × Value × Value)) 4 Kd.raw (fun x => x.2.1) (fun x y => (x.1, y, x.2.2)) := Sub.snd (Sub.fst)
theorem sbr78_2 : Sub ((Kd.pair kQuery (Kd.pair Kd.raw Kd.raw)) : Kd (((BitVec 64 × BitVec 64) × (BitVec 64 × BitVec 64)) × Value × Value)) 5 Kd.raw (fun x => x.2.2) (fun x y => (x.1, x.2.1, y)) := Sub.snd (Sub.snd (Sub.whole _))
theorem sx55_0 : Sub (kMask : Kd (BitVec 64 × BitVec 64)) (Int.toNat 0 * 1) Kd.u64 (fun x => x.1) (fun x y => (y, x.2)) := Sub.fst
theorem sx55_1 : Sub (kMask : Kd (BitVec 64 × BitVec 64)) (Int.toNat 1 * 1) Kd.u64 (fun x => x.2) (fun x y => (x.1, y)) := Sub.snd (Sub.whole _)
theorem eq49 : EqT Tryd.prog 49 (Kd.u64 : Kd (BitVec 64)) 1 := EqT.u64 Tryd.underlying49 sz49
theorem eq55 : EqT Tryd.prog 55 (kMask : Kd (BitVec 64 × BitVec 64)) 2 := EqT.two Tryd.underlying55 sz55 (by kernel_rfl) eq49
end Go.Proofs.YtfnkphllkbkfaaaDoor.VL
