/- Proved here: what the table of types of the program says. Printed by program. -/
import Derived.Test.YtohcpnobmknglaaDoorBpa
import Derived.Test.YtohcpnobmknglaaDoorBvc
import Derived.Test.YtohcpnobmknglaaDoorProg
set_option linter.unusedVariables false
set_option linter.unusedSimpArgs false
set_option maxRecDepth 4000
namespace Go.Proofs.YtohcpnobmknglaaDoor.VL
open Go
theorem fomo : Tryd.prog.follows .mixedOrders = true := by kernel_rfl
theorem ag130 : aggT Tryd.prog 130 = some false := by kernel_rfl
theorem ag141 : aggT Tryd.prog 141 = some true := by kernel_rfl
theorem ag2 : aggT Tryd.prog 2 = some false := by kernel_rfl
theorem ag214 : aggT Tryd.prog 214 = some true := by kernel_rfl
theorem ag22 : aggT Tryd.prog 22 = some false := by kernel_rfl
theorem ag28 : aggT Tryd.prog 28 = some false := by kernel_rfl
theorem ag3 : aggT Tryd.prog 3 = some false := by kernel_rfl
theorem ag30 : aggT Tryd.prog 30 = some true := by kernel_rfl
theorem ag34 : aggT Tryd.prog 34 = some false := by kernel_rfl
theorem ag4 : aggT Tryd.prog 4 = some false := by kernel_rfl
theorem ag42 : aggT Tryd.prog 42 = some true := by kernel_rfl
theorem ag5 : aggT Tryd.prog 5 = some false := by kernel_rfl
theorem ag55 : aggT Tryd.prog 55 = some true := by kernel_rfl
theorem ag57 : aggT Tryd.prog 57 = some false := by kernel_rfl
theorem ag59 : aggT Tryd.prog 59 = some true := by kernel_rfl
theorem ag68 : aggT Tryd.prog 68 = some false := by kernel_rfl
theorem ag70 : aggT Tryd.prog 70 = some true := by kernel_rfl
theorem ag9 : aggT Tryd.prog 9 = some false := by kernel_rfl
theorem ar214 : arT Tryd.prog 214 = some (256, 4) := by kernel_rfl
theorem ar30 : arT Tryd.prog 30 = some (2, 28) := by kernel_rfl
theorem by141 : bytesT Tryd.prog 141 = some 24 := by kernel_rfl
theorem by2 : bytesT Tryd.prog 2 = some 8 := by kernel_rfl
theorem by3 : bytesT Tryd.prog 3 = some 8 := by kernel_rfl
theorem by4 : bytesT Tryd.prog 4 = some 1 := by kernel_rfl
theorem by42 : bytesT Tryd.prog 42 = some 32 := by kernel_rfl
theorem by70 : bytesT Tryd.prog 70 = some 16 := by kernel_rfl
theorem eg30 : Program.eqGuardType Tryd.prog (Program.depth Tryd.prog) 30 = false := by kernel_rfl
theorem eg55 : Program.eqGuardType Tryd.prog (Program.depth Tryd.prog) 55 = false := by kernel_rfl
theorem eg70 : Program.eqGuardType Tryd.prog (Program.depth Tryd.prog) 70 = false := by kernel_rfl
theorem el123 : elT Tryd.prog 123 = some 55 := by kernel_rfl
theorem el179 : elT Tryd.prog 179 = some 3 := by kernel_rfl
theorem el180 : elT Tryd.prog 180 = some 4 := by kernel_rfl
theorem el22 : elT Tryd.prog 22 = some 5 := by kernel_rfl
theorem el24 : elT Tryd.prog 24 = some 141 := by kernel_rfl
theorem el26 : elT Tryd.prog 26 = some 42 := by kernel_rfl
theorem el34 : elT Tryd.prog 34 = some 2 := by kernel_rfl
theorem el45 : elT Tryd.prog 45 = some 9 := by kernel_rfl
theorem el57 : elT Tryd.prog 57 = some 70 := by kernel_rfl
theorem fd141_1 : fldT Tryd.prog 141 1 = some (130, 1) := by kernel_rfl
theorem fd141_2 : fldT Tryd.prog 141 2 = some (68, 2) := by kernel_rfl
theorem fd141_3 : fldT Tryd.prog 141 3 = some (68, 3) := by kernel_rfl
theorem fd163_0 : fldT Tryd.prog 163 0 = some (22, 0) := by kernel_rfl
theorem fd163_1 : fldT Tryd.prog 163 1 = some (3, 1) := by kernel_rfl
theorem fd163_2 : fldT Tryd.prog 163 2 = some (28, 2) := by kernel_rfl
theorem fd42_0 : fldT Tryd.prog 42 0 = some (9, 0) := by kernel_rfl
theorem fd42_1 : fldT Tryd.prog 42 1 = some (30, 1) := by kernel_rfl
theorem fd55_0 : fldT Tryd.prog 55 0 = some (30, 0) := by kernel_rfl
theorem fd55_1 : fldT Tryd.prog 55 1 = some (30, 2) := by kernel_rfl
theorem fd59_0 : fldT Tryd.prog 59 0 = some (55, 0) := by kernel_rfl
theorem fd59_1 : fldT Tryd.prog 59 1 = some (34, 4) := by kernel_rfl
theorem fd59_2 : fldT Tryd.prog 59 2 = some (57, 5) := by kernel_rfl
theorem fd70_0 : fldT Tryd.prog 70 0 = some (2, 0) := by kernel_rfl
theorem fd70_1 : fldT Tryd.prog 70 1 = some (68, 1) := by kernel_rfl
theorem pl141 : plT Tryd.prog 141 = some [(0, 1), (1, 1), (2, 1), (3, 1)] := by kernel_rfl
theorem pl163 : plT Tryd.prog 163 = some [(0, 1), (1, 1), (2, 1)] := by kernel_rfl
theorem pl42 : plT Tryd.prog 42 = some [(0, 1), (1, 2)] := by kernel_rfl
theorem pl55 : plT Tryd.prog 55 = some [(0, 2), (2, 2)] := by kernel_rfl
theorem pl59 : plT Tryd.prog 59 = some [(0, 4), (4, 1), (5, 1)] := by kernel_rfl
theorem pl70 : plT Tryd.prog 70 = some [(0, 1), (1, 1)] := by kernel_rfl
theorem sz130 : sizeT Tryd.prog 130 = some 1 := by kernel_rfl
theorem sz141 : sizeT Tryd.prog 141 = some 4 := by kernel_rfl
theorem sz2 : sizeT Tryd.prog 2 = some 1 := by kernel_rfl
theorem sz214 : sizeT Tryd.prog 214 = some 256 := by kernel_rfl
theorem sz22 : sizeT Tryd.prog 22 = some 1 := by kernel_rfl
theorem sz28 : sizeT Tryd.prog 28 = some 1 := by kernel_rfl
theorem sz3 : sizeT Tryd.prog 3 = some 1 := by kernel_rfl
theorem sz30 : sizeT Tryd.prog 30 = some 2 := by kernel_rfl
theorem sz34 : sizeT Tryd.prog 34 = some 1 := by kernel_rfl
theorem sz4 : sizeT Tryd.prog 4 = some 1 := by kernel_rfl
theorem sz42 : sizeT Tryd.prog 42 = some 3 := by kernel_rfl
theorem sz5 : sizeT Tryd.prog 5 = some 1 := by kernel_rfl
theorem sz55 : sizeT Tryd.prog 55 = some 4 := by kernel_rfl
theorem sz57 : sizeT Tryd.prog 57 = some 1 := by kernel_rfl
theorem sz59 : sizeT Tryd.prog 59 = some 6 := by kernel_rfl
theorem sz68 : sizeT Tryd.prog 68 = some 1 := by kernel_rfl
theorem sz70 : sizeT Tryd.prog 70 = some 2 := by kernel_rfl
theorem sz9 : sizeT Tryd.prog 9 = some 1 := by kernel_rfl
theorem us2 : (Tryd.prog.underlying 2).isSome = true := by kernel_rfl
theorem us28 : (Tryd.prog.underlying 28).isSome = true := by kernel_rfl
theorem us3 : (Tryd.prog.underlying 3).isSome = true := by kernel_rfl
theorem us5 : (Tryd.prog.underlying 5).isSome = true := by kernel_rfl
theorem us68 : (Tryd.prog.underlying 68).isSome = true := by kernel_rfl
theorem zk141 : ∀ s, (kField : Kd (ByteArray × Int × Int × Int)).rd s (Value.cl (.agg #[.string .empty, .int .i8 0, .int .i16 0, .int .i16 0])) ((.empty, 0, 0, 0)) := fun s => ⟨[.string .empty], [.int .i8 0, .int .i16 0, .int .i16 0], rfl, ⟨rfl, by decide⟩, ⟨[.int .i8 0], [.int .i16 0, .int .i16 0], rfl, ⟨rfl, inRb_of rfl⟩, ⟨[.int .i16 0], [.int .i16 0], rfl, ⟨rfl, inRb_of rfl⟩, ⟨rfl, inRb_of rfl⟩⟩⟩⟩
theorem zk163 : ∀ s, ((Kd.pair (Kd.slice (Kd.int .u8)) (Kd.pair (Kd.int .i64) Kd.u64)) : Kd (List (Int) × Int × BitVec 64)).rd s (Value.cl (.agg #[.slice none 0 0, .int .i64 0, .int .u64 0])) (([], 0, 0)) := fun s => ⟨[.slice none 0 0], [.int .i64 0, .int .u64 0], rfl, ⟨none, 0, rfl, Nat.le_refl _, by decide, fun h => absurd h (by decide)⟩, ⟨[.int .i64 0], [.int .u64 0], rfl, ⟨rfl, inRb_of rfl⟩, rfl⟩⟩
theorem zk2 : ∀ s, ((Kd.int .i64) : Kd (Int)).rd s (Value.cl (.int .i64 0)) (0) := fun s => ⟨rfl, inRb_of rfl⟩
theorem zk214 : ∀ s, ((Kd.arr 256 Kd.bool) : Kd (List (Bool))).rd s (Value.cl (.agg (List.replicate 256 (.bool false)).toArray)) ((List.replicate 256 false)) := zarr 256 (fun s => rfl)
theorem zk3 : ∀ s, ((Kd.int .i64) : Kd (Int)).rd s (Value.cl (.int .i64 0)) (0) := fun s => ⟨rfl, inRb_of rfl⟩
theorem zk30 : ∀ s, (kMask : Kd (BitVec 64 × BitVec 64)).rd s (Value.cl (.agg #[.int .u64 0, .int .u64 0])) ((0, 0)) := fun s => ⟨[.int .u64 0], [.int .u64 0], rfl, rfl, rfl⟩
theorem zk4 : ∀ s, (Kd.bool : Kd (Bool)).rd s (Value.cl (.bool false)) (false) := fun s => rfl
theorem zk42 : ∀ s, (kCard : Kd (ByteArray × (BitVec 64 × BitVec 64))).rd s (Value.cl (.agg #[.string .empty, .int .u64 0, .int .u64 0])) ((.empty, (0, 0))) := fun s => ⟨[.string .empty], [.int .u64 0, .int .u64 0], rfl, ⟨rfl, by decide⟩, ⟨[.int .u64 0], [.int .u64 0], rfl, rfl, rfl⟩⟩
theorem zk55 : ∀ s, (kQuery : Kd ((BitVec 64 × BitVec 64) × (BitVec 64 × BitVec 64))).rd s (Value.cl (.agg #[.int .u64 0, .int .u64 0, .int .u64 0, .int .u64 0])) (((0, 0), (0, 0))) := fun s => ⟨[.int .u64 0, .int .u64 0], [.int .u64 0, .int .u64 0], rfl, ⟨[.int .u64 0], [.int .u64 0], rfl, rfl, rfl⟩, ⟨[.int .u64 0], [.int .u64 0], rfl, rfl, rfl⟩⟩
theorem zk59 : ∀ s, (kAns : Kd (((BitVec 64 × BitVec 64) × (BitVec 64 × BitVec 64)) × List (Int) × List (Int × Int))).rd s (Value.cl (.agg #[.int .u64 0, .int .u64 0, .int .u64 0, .int .u64 0, .slice none 0 0, .slice none 0 0])) ((((0, 0), (0, 0)), [], [])) := fun s => ⟨[.int .u64 0, .int .u64 0, .int .u64 0, .int .u64 0], [.slice none 0 0, .slice none 0 0], rfl, ⟨[.int .u64 0, .int .u64 0], [.int .u64 0, .int .u64 0], rfl, ⟨[.int .u64 0], [.int .u64 0], rfl, rfl, rfl⟩, ⟨[.int .u64 0], [.int .u64 0], rfl, rfl, rfl⟩⟩, ⟨[.slice none 0 0], [.slice none 0 0], rfl, ⟨none, 0, rfl, Nat.le_refl _, by decide, fun h => absurd h (by decide)⟩, ⟨none, 0, rfl, Nat.le_refl _, by decide, fun h => absurd h (by decide)⟩⟩⟩
theorem zk70 : ∀ s, (kWit : Kd (Int × Int)).rd s (Value.cl (.agg #[.int .i64 0, .int .i16 0])) ((0, 0)) := fun s => ⟨[.int .i64 0], [.int .i16 0], rfl, ⟨rfl, inRb_of rfl⟩, ⟨rfl, inRb_of rfl⟩⟩
theorem zk9 : ∀ s, (Kd.str : Kd (ByteArray)).rd s (Value.cl (.string .empty)) (.empty) := fun s => ⟨rfl, by decide⟩
theorem zkp59 : ∀ s, ((Kd.pair kQuery (Kd.pair (Kd.slice (Kd.int .i64)) Kd.raw)) : Kd (((BitVec 64 × BitVec 64) × (BitVec 64 × BitVec 64)) × List (Int) × Value)).rd s (Value.cl (.agg #[.int .u64 0, .int .u64 0, .int .u64 0, .int .u64 0, .slice none 0 0, .slice none 0 0])) ((((0, 0), (0, 0)), [], (Value.slice none 0 0))) := fun s => ⟨[.int .u64 0, .int .u64 0, .int .u64 0, .int .u64 0], [.slice none 0 0, .slice none 0 0], rfl, ⟨[.int .u64 0, .int .u64 0], [.int .u64 0, .int .u64 0], rfl, ⟨[.int .u64 0], [.int .u64 0], rfl, rfl, rfl⟩, ⟨[.int .u64 0], [.int .u64 0], rfl, rfl, rfl⟩⟩, ⟨[.slice none 0 0], [.slice none 0 0], rfl, ⟨none, 0, rfl, Nat.le_refl _, by decide, fun h => absurd h (by decide)⟩, ⟨rfl, rfl⟩⟩⟩
theorem zkr59 : ∀ s, ((Kd.pair kQuery (Kd.pair Kd.raw Kd.raw)) : Kd (((BitVec 64 × BitVec 64) × (BitVec 64 × BitVec 64)) × Value × Value)).rd s (Value.cl (.agg #[.int .u64 0, .int .u64 0, .int .u64 0, .int .u64 0, .slice none 0 0, .slice none 0 0])) ((((0, 0), (0, 0)), (Value.slice none 0 0), (Value.slice none 0 0))) := fun s => ⟨[.int .u64 0, .int .u64 0, .int .u64 0, .int .u64 0], [.slice none 0 0, .slice none 0 0], rfl, ⟨[.int .u64 0, .int .u64 0], [.int .u64 0, .int .u64 0], rfl, ⟨[.int .u64 0], [.int .u64 0], rfl, rfl, rfl⟩, ⟨[.int .u64 0], [.int .u64 0], rfl, rfl, rfl⟩⟩, ⟨[.slice none 0 0], [.slice none 0 0], rfl, ⟨rfl, rfl⟩, ⟨rfl, rfl⟩⟩⟩
theorem zr141 : zeroT Tryd.prog 141 = some (.agg #[.string .empty, .int .i8 0, .int .i16 0, .int .i16 0]) := by kernel_rfl
theorem zr163 : zeroT Tryd.prog 163 = some (.agg #[.slice none 0 0, .int .i64 0, .int .u64 0]) := by kernel_rfl
theorem zr2 : zeroT Tryd.prog 2 = some (.int .i64 0) := by kernel_rfl
theorem zr214 : zeroT Tryd.prog 214 = some (.agg (List.replicate 256 (.bool false)).toArray) := by kernel_rfl
theorem zr3 : zeroT Tryd.prog 3 = some (.int .i64 0) := by kernel_rfl
theorem zr30 : zeroT Tryd.prog 30 = some (.agg #[.int .u64 0, .int .u64 0]) := by kernel_rfl
theorem zr4 : zeroT Tryd.prog 4 = some (.bool false) := by kernel_rfl
theorem zr42 : zeroT Tryd.prog 42 = some (.agg #[.string .empty, .int .u64 0, .int .u64 0]) := by kernel_rfl
theorem zr55 : zeroT Tryd.prog 55 = some (.agg #[.int .u64 0, .int .u64 0, .int .u64 0, .int .u64 0]) := by kernel_rfl
theorem zr59 : zeroT Tryd.prog 59 = some (.agg #[.int .u64 0, .int .u64 0, .int .u64 0, .int .u64 0, .slice none 0 0, .slice none 0 0]) := by kernel_rfl
theorem zr70 : zeroT Tryd.prog 70 = some (.agg #[.int .i64 0, .int .i16 0]) := by kernel_rfl
theorem zr9 : zeroT Tryd.prog 9 = some (.string .empty) := by kernel_rfl
theorem sb141_0 : Sub (kField : Kd (ByteArray × Int × Int × Int)) 0 Kd.str (fun x => x.1) (fun x y => (y, x.2.1, x.2.2.1, x.2.2.2)) := Sub.fst
theorem sb141_1 : Sub (kField : Kd (ByteArray × Int × Int × Int)) 1 (Kd.int .i8) (fun x => x.2.1) (fun x y => (x.1, y, x.2.2.1, x.2.2.2)) := Sub.snd (Sub.fst)
theorem sb141_2 : Sub (kField : Kd (ByteArray × Int × Int × Int)) 2 (Kd.int .i16) (fun x => x.2.2.1) (fun x y => (x.1, x.2.1, y, x.2.2.2)) := Sub.snd (Sub.snd (Sub.fst))
theorem sb141_3 : Sub (kField : Kd (ByteArray × Int × Int × Int)) 3 (Kd.int .i16) (fun x => x.2.2.2) (fun x y => (x.1, x.2.1, x.2.2.1, y)) := Sub.snd (Sub.snd (Sub.snd (Sub.whole _)))
theorem sb163_0 : Sub ((Kd.pair (Kd.slice (Kd.int .u8)) (Kd.pair (Kd.int .i64) Kd.u64)) : Kd (List (Int) × Int × BitVec 64)) 0 (Kd.slice (Kd.int .u8)) (fun x => x.1) (fun x y => (y, x.2.1, x.2.2)) := Sub.fst
theorem sb163_1 : Sub ((Kd.pair (Kd.slice (Kd.int .u8)) (Kd.pair (Kd.int .i64) Kd.u64)) : Kd (List (Int) × Int × BitVec 64)) 1 (Kd.int .i64) (fun x => x.2.1) (fun x y => (x.1, y, x.2.2)) := Sub.snd (Sub.fst)
theorem sb163_2 : Sub ((Kd.pair (Kd.slice (Kd.int .u8)) (Kd.pair (Kd.int .i64) Kd.u64)) : Kd (List (Int) × Int × BitVec 64)) 2 Kd.u64 (fun x => x.2.2) (fun x y => (x.1, x.2.1, y)) := Sub.snd (Sub.snd (Sub.whole _))
theorem sb42_0 : Sub (kCard : Kd (ByteArray × (BitVec 64 × BitVec 64))) 0 Kd.str (fun x => x.1) (fun x y => (y, x.2)) := Sub.fst
theorem sb42_1 : Sub (kCard : Kd (ByteArray × (BitVec 64 × BitVec 64))) 1 kMask (fun x => x.2) (fun x y => (x.1, y)) := Sub.snd (Sub.whole _)
theorem sb55_0 : Sub (kQuery : Kd ((BitVec 64 × BitVec 64) × (BitVec 64 × BitVec 64))) 0 kMask (fun x => x.1) (fun x y => (y, x.2)) := Sub.fst
theorem sb55_1 : Sub (kQuery : Kd ((BitVec 64 × BitVec 64) × (BitVec 64 × BitVec 64))) 2 kMask (fun x => x.2) (fun x y => (x.1, y)) := Sub.snd (Sub.whole _)
theorem sb59_0 : Sub (kAns : Kd (((BitVec 64 × BitVec 64) × (BitVec 64 × BitVec 64)) × List (Int) × List (Int × Int))) 0 kQuery (fun x => x.1) (fun x y => (y, x.2.1, x.2.2)) := Sub.fst
theorem sb59_1 : Sub (kAns : Kd (((BitVec 64 × BitVec 64) × (BitVec 64 × BitVec 64)) × List (Int) × List (Int × Int))) 4 (Kd.slice (Kd.int .i64)) (fun x => x.2.1) (fun x y => (x.1, y, x.2.2)) := Sub.snd (Sub.fst)
theorem sb59_2 : Sub (kAns : Kd (((BitVec 64 × BitVec 64) × (BitVec 64 × BitVec 64)) × List (Int) × List (Int × Int))) 5 (Kd.slice kWit) (fun x => x.2.2) (fun x y => (x.1, x.2.1, y)) := Sub.snd (Sub.snd (Sub.whole _))
theorem sb70_0 : Sub (kWit : Kd (Int × Int)) 0 (Kd.int .i64) (fun x => x.1) (fun x y => (y, x.2)) := Sub.fst
theorem sb70_1 : Sub (kWit : Kd (Int × Int)) 1 (Kd.int .i16) (fun x => x.2) (fun x y => (x.1, y)) := Sub.snd (Sub.whole _)
theorem sbp59_0 : Sub ((Kd.pair kQuery (Kd.pair (Kd.slice (Kd.int .i64)) Kd.raw)) : Kd (((BitVec 64 × BitVec 64) × (BitVec 64 × BitVec 64)) × List (Int) × Value)) 0 kQuery (fun x => x.1) (fun x y => (y, x.2.1, x.2.2)) := Sub.fst
theorem sbp59_1 : Sub ((Kd.pair kQuery (Kd.pair (Kd.slice (Kd.int .i64)) Kd.raw)) : Kd (((BitVec 64 × BitVec 64) × (BitVec 64 × BitVec 64)) × List (Int) × Value)) 4 (Kd.slice (Kd.int .i64)) (fun x => x.2.1) (fun x y => (x.1, y, x.2.2)) := Sub.snd (Sub.fst)
theorem sbp59_2 : Sub ((Kd.pair kQuery (Kd.pair (Kd.slice (Kd.int .i64)) Kd.raw)) : Kd (((BitVec 64 × BitVec 64) × (BitVec 64 × BitVec 64)) × List (Int) × Value)) 5 Kd.raw (fun x => x.2.2) (fun x y => (x.1, x.2.1, y)) := Sub.snd (Sub.snd (Sub.whole _))
theorem sbr59_0 : Sub ((Kd.pair kQuery (Kd.pair Kd.raw Kd.raw)) : Kd (((BitVec 64 × BitVec 64) × (BitVec 64 × BitVec 64)) × Value × Value)) 0 kQuery (fun x => x.1) (fun x y => (y, x.2.1, x.2.2)) := Sub.fst
theorem sbr59_1 : Sub ((Kd.pair kQuery (Kd.pair Kd.raw Kd.raw)) : Kd (((BitVec 64 × BitVec 64) × (BitVec 64 × BitVec 64)) × Value × Value)) 4 Kd.raw (fun x => x.2.1) (fun x y => (x.1, y, x.2.2)) := Sub.snd (Sub.fst)
theorem sbr59_2 : Sub ((Kd.pair kQuery (Kd.pair Kd.raw Kd.raw)) : Kd (((BitVec 64 × BitVec 64) × (BitVec 64 × BitVec 64)) × Value × Value)) 5 Kd.raw (fun x => x.2.2) (fun x y => (x.1, x.2.1, y)) := Sub.snd (Sub.snd (Sub.whole _))
theorem sx30_0 : Sub (kMask : Kd (BitVec 64 × BitVec 64)) (Int.toNat 0 * 1) Kd.u64 (fun x => x.1) (fun x y => (y, x.2)) := Sub.fst
theorem sx30_1 : Sub (kMask : Kd (BitVec 64 × BitVec 64)) (Int.toNat 1 * 1) Kd.u64 (fun x => x.2) (fun x y => (x.1, y)) := Sub.snd (Sub.whole _)
theorem eq28 : EqT Tryd.prog 28 (Kd.u64 : Kd (BitVec 64)) 1 := EqT.u64 Tryd.underlying28 sz28
theorem eq30 : EqT Tryd.prog 30 (kMask : Kd (BitVec 64 × BitVec 64)) 2 := EqT.two Tryd.underlying30 sz30 (by kernel_rfl) eq28
theorem eq55 : EqT Tryd.prog 55 (kQuery : Kd ((BitVec 64 × BitVec 64) × (BitVec 64 × BitVec 64))) 3 := EqT.struct Tryd.underlying55 sz55 (by kernel_rfl) (EqFs.cons (r := 2) rfl rfl eq30 (EqFs.one rfl rfl eq30) rfl rfl)
theorem eq68 : EqT Tryd.prog 68 ((Kd.int .i16) : Kd (Int)) 1 := EqT.int Tryd.underlying68 sz68
theorem eq2 : EqT Tryd.prog 2 ((Kd.int .i64) : Kd (Int)) 1 := EqT.int Tryd.underlying2 sz2
theorem eq70 : EqT Tryd.prog 70 (kWit : Kd (Int × Int)) 2 := EqT.struct Tryd.underlying70 sz70 (by kernel_rfl) (EqFs.cons (r := 1) rfl rfl eq2 (EqFs.one rfl rfl eq68) rfl rfl)
end Go.Proofs.YtohcpnobmknglaaDoor.VL
