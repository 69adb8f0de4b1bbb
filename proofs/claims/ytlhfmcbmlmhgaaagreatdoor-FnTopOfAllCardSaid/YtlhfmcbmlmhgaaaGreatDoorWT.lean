/- Proved here: what the table of types of the program says. Printed by program. -/
import Derived.Test.YtlhfmcbmlmhgaaaGreatDoorBpa
import Derived.Test.YtlhfmcbmlmhgaaaGreatDoorBvc
import Derived.Test.YtlhfmcbmlmhgaaaGreatDoorVLC
import Derived.Test.YtlhfmcbmlmhgaaaGreatDoorProg
set_option linter.unusedVariables false
set_option linter.unusedSimpArgs false
set_option maxRecDepth 4000
namespace Go.Proofs.YtlhfmcbmlmhgaaaGreatDoor.VL
open Go
theorem fomo : Tryz.prog.follows .mixedOrders = true := by kernel_rfl
theorem ag146 : aggT Tryz.prog 146 = some true := by kernel_rfl
theorem ag2 : aggT Tryz.prog 2 = some false := by kernel_rfl
theorem ag23 : aggT Tryz.prog 23 = some false := by kernel_rfl
theorem ag24 : aggT Tryz.prog 24 = some false := by kernel_rfl
theorem ag25 : aggT Tryz.prog 25 = some false := by kernel_rfl
theorem ag26 : aggT Tryz.prog 26 = some false := by kernel_rfl
theorem ag28 : aggT Tryz.prog 28 = some true := by kernel_rfl
theorem ag29 : aggT Tryz.prog 29 = some false := by kernel_rfl
theorem ag3 : aggT Tryz.prog 3 = some false := by kernel_rfl
theorem ag31 : aggT Tryz.prog 31 = some true := by kernel_rfl
theorem ag33 : aggT Tryz.prog 33 = some true := by kernel_rfl
theorem ag4 : aggT Tryz.prog 4 = some false := by kernel_rfl
theorem ag49 : aggT Tryz.prog 49 = some true := by kernel_rfl
theorem ag52 : aggT Tryz.prog 52 = some false := by kernel_rfl
theorem ag54 : aggT Tryz.prog 54 = some true := by kernel_rfl
theorem ag63 : aggT Tryz.prog 63 = some true := by kernel_rfl
theorem ag9 : aggT Tryz.prog 9 = some false := by kernel_rfl
theorem ag97 : aggT Tryz.prog 97 = some true := by kernel_rfl
theorem ar109 : arT Tryz.prog 109 = some (5, 25) := by kernel_rfl
theorem ar118 : arT Tryz.prog 118 = some (4, 26) := by kernel_rfl
theorem ar146 : arT Tryz.prog 146 = some (256, 4) := by kernel_rfl
theorem ar152 : arT Tryz.prog 152 = some (10, 23) := by kernel_rfl
theorem ar31 : arT Tryz.prog 31 = some (2, 29) := by kernel_rfl
theorem by2 : bytesT Tryz.prog 2 = some 8 := by kernel_rfl
theorem by3 : bytesT Tryz.prog 3 = some 8 := by kernel_rfl
theorem by33 : bytesT Tryz.prog 33 = some 32 := by kernel_rfl
theorem by4 : bytesT Tryz.prog 4 = some 1 := by kernel_rfl
theorem by63 : bytesT Tryz.prog 63 = some 48 := by kernel_rfl
theorem by97 : bytesT Tryz.prog 97 = some 16 := by kernel_rfl
theorem eg31 : Program.eqGuardType Tryz.prog (Program.depth Tryz.prog) 31 = false := by kernel_rfl
theorem eg33 : Program.eqGuardType Tryz.prog (Program.depth Tryz.prog) 33 = false := by kernel_rfl
theorem eg49 : Program.eqGuardType Tryz.prog (Program.depth Tryz.prog) 49 = false := by kernel_rfl
theorem eg63 : Program.eqGuardType Tryz.prog (Program.depth Tryz.prog) 63 = false := by kernel_rfl
theorem eg97 : Program.eqGuardType Tryz.prog (Program.depth Tryz.prog) 97 = false := by kernel_rfl
theorem el135 : elT Tryz.prog 135 = some 3 := by kernel_rfl
theorem el136 : elT Tryz.prog 136 = some 4 := by kernel_rfl
theorem el22 : elT Tryz.prog 22 = some 28 := by kernel_rfl
theorem el23 : elT Tryz.prog 23 = some 2 := by kernel_rfl
theorem el24 : elT Tryz.prog 24 = some 33 := by kernel_rfl
theorem el52 : elT Tryz.prog 52 = some 97 := by kernel_rfl
theorem el59 : elT Tryz.prog 59 = some 63 := by kernel_rfl
theorem fd28_0 : fldT Tryz.prog 28 0 = some (9, 0) := by kernel_rfl
theorem fd28_1 : fldT Tryz.prog 28 1 = some (25, 1) := by kernel_rfl
theorem fd28_2 : fldT Tryz.prog 28 2 = some (26, 2) := by kernel_rfl
theorem fd28_3 : fldT Tryz.prog 28 3 = some (26, 3) := by kernel_rfl
theorem fd33_0 : fldT Tryz.prog 33 0 = some (9, 0) := by kernel_rfl
theorem fd33_1 : fldT Tryz.prog 33 1 = some (31, 1) := by kernel_rfl
theorem fd49_0 : fldT Tryz.prog 49 0 = some (31, 0) := by kernel_rfl
theorem fd49_1 : fldT Tryz.prog 49 1 = some (31, 2) := by kernel_rfl
theorem fd54_0 : fldT Tryz.prog 54 0 = some (49, 0) := by kernel_rfl
theorem fd54_1 : fldT Tryz.prog 54 1 = some (23, 4) := by kernel_rfl
theorem fd54_2 : fldT Tryz.prog 54 2 = some (52, 5) := by kernel_rfl
theorem fd63_0 : fldT Tryz.prog 63 0 = some (25, 0) := by kernel_rfl
theorem fd63_1 : fldT Tryz.prog 63 1 = some (9, 1) := by kernel_rfl
theorem fd63_2 : fldT Tryz.prog 63 2 = some (26, 2) := by kernel_rfl
theorem fd63_3 : fldT Tryz.prog 63 3 = some (31, 3) := by kernel_rfl
theorem fd97_0 : fldT Tryz.prog 97 0 = some (2, 0) := by kernel_rfl
theorem fd97_1 : fldT Tryz.prog 97 1 = some (26, 1) := by kernel_rfl
theorem pl33 : plT Tryz.prog 33 = some [(0, 1), (1, 2)] := by kernel_rfl
theorem pl49 : plT Tryz.prog 49 = some [(0, 2), (2, 2)] := by kernel_rfl
theorem pl54 : plT Tryz.prog 54 = some [(0, 4), (4, 1), (5, 1)] := by kernel_rfl
theorem pl63 : plT Tryz.prog 63 = some [(0, 1), (1, 1), (2, 1), (3, 2)] := by kernel_rfl
theorem pl97 : plT Tryz.prog 97 = some [(0, 1), (1, 1)] := by kernel_rfl
theorem sz109 : sizeT Tryz.prog 109 = some 5 := by kernel_rfl
theorem sz118 : sizeT Tryz.prog 118 = some 4 := by kernel_rfl
theorem sz146 : sizeT Tryz.prog 146 = some 256 := by kernel_rfl
theorem sz2 : sizeT Tryz.prog 2 = some 1 := by kernel_rfl
theorem sz23 : sizeT Tryz.prog 23 = some 1 := by kernel_rfl
theorem sz25 : sizeT Tryz.prog 25 = some 1 := by kernel_rfl
theorem sz26 : sizeT Tryz.prog 26 = some 1 := by kernel_rfl
theorem sz28 : sizeT Tryz.prog 28 = some 4 := by kernel_rfl
theorem sz29 : sizeT Tryz.prog 29 = some 1 := by kernel_rfl
theorem sz3 : sizeT Tryz.prog 3 = some 1 := by kernel_rfl
theorem sz31 : sizeT Tryz.prog 31 = some 2 := by kernel_rfl
theorem sz33 : sizeT Tryz.prog 33 = some 3 := by kernel_rfl
theorem sz4 : sizeT Tryz.prog 4 = some 1 := by kernel_rfl
theorem sz49 : sizeT Tryz.prog 49 = some 4 := by kernel_rfl
theorem sz52 : sizeT Tryz.prog 52 = some 1 := by kernel_rfl
theorem sz54 : sizeT Tryz.prog 54 = some 6 := by kernel_rfl
theorem sz63 : sizeT Tryz.prog 63 = some 5 := by kernel_rfl
theorem sz9 : sizeT Tryz.prog 9 = some 1 := by kernel_rfl
theorem sz97 : sizeT Tryz.prog 97 = some 2 := by kernel_rfl
theorem us2 : (Tryz.prog.underlying 2).isSome = true := by kernel_rfl
theorem us26 : (Tryz.prog.underlying 26).isSome = true := by kernel_rfl
theorem us29 : (Tryz.prog.underlying 29).isSome = true := by kernel_rfl
theorem zk109 : ∀ s, ((Kd.arr 5 (Kd.int .i8)) : Kd (List (Int))).rd s (Value.cl (.agg (List.replicate 5 (.int .i8 0)).toArray)) ((List.replicate 5 0)) := zarr 5 (fun s => ⟨rfl, inRb_of rfl⟩)
theorem zk118 : ∀ s, ((Kd.arr 4 (Kd.int .i16)) : Kd (List (Int))).rd s (Value.cl (.agg (List.replicate 4 (.int .i16 0)).toArray)) ((List.replicate 4 0)) := zarr 4 (fun s => ⟨rfl, inRb_of rfl⟩)
theorem zk146 : ∀ s, ((Kd.arr 256 Kd.bool) : Kd (List (Bool))).rd s (Value.cl (.agg (List.replicate 256 (.bool false)).toArray)) ((List.replicate 256 false)) := zarr 256 (fun s => rfl)
theorem zk152 : ∀ s, ((Kd.arr 10 (Kd.slice (Kd.int .i64))) : Kd (List (List (Int)))).rd s (Value.cl (.agg (List.replicate 10 (.slice none 0 0)).toArray)) ((List.replicate 10 [])) := zarr 10 (fun s => ⟨none, 0, rfl, Nat.le_refl _, by decide, fun h => absurd h (by decide)⟩)
theorem zk2 : ∀ s, ((Kd.int .i64) : Kd (Int)).rd s (Value.cl (.int .i64 0)) (0) := fun s => ⟨rfl, inRb_of rfl⟩
theorem zk28 : ∀ s, (kField : Kd (ByteArray × Int × Int × Int)).rd s (Value.cl (.agg #[.string .empty, .int .i8 0, .int .i16 0, .int .i16 0])) ((.empty, 0, 0, 0)) := fun s => ⟨[.string .empty], [.int .i8 0, .int .i16 0, .int .i16 0], rfl, ⟨rfl, by decide⟩, ⟨[.int .i8 0], [.int .i16 0, .int .i16 0], rfl, ⟨rfl, inRb_of rfl⟩, ⟨[.int .i16 0], [.int .i16 0], rfl, ⟨rfl, inRb_of rfl⟩, ⟨rfl, inRb_of rfl⟩⟩⟩⟩
theorem zk3 : ∀ s, ((Kd.int .i64) : Kd (Int)).rd s (Value.cl (.int .i64 0)) (0) := fun s => ⟨rfl, inRb_of rfl⟩
theorem zk31 : ∀ s, (kMask : Kd (BitVec 64 × BitVec 64)).rd s (Value.cl (.agg #[.int .u64 0, .int .u64 0])) ((0, 0)) := fun s => ⟨[.int .u64 0], [.int .u64 0], rfl, rfl, rfl⟩
theorem zk33 : ∀ s, (kCard : Kd (ByteArray × (BitVec 64 × BitVec 64))).rd s (Value.cl (.agg #[.string .empty, .int .u64 0, .int .u64 0])) ((.empty, (0, 0))) := fun s => ⟨[.string .empty], [.int .u64 0, .int .u64 0], rfl, ⟨rfl, by decide⟩, ⟨[.int .u64 0], [.int .u64 0], rfl, rfl, rfl⟩⟩
theorem zk4 : ∀ s, (Kd.bool : Kd (Bool)).rd s (Value.cl (.bool false)) (false) := fun s => rfl
theorem zk49 : ∀ s, (kQuery : Kd ((BitVec 64 × BitVec 64) × (BitVec 64 × BitVec 64))).rd s (Value.cl (.agg #[.int .u64 0, .int .u64 0, .int .u64 0, .int .u64 0])) (((0, 0), (0, 0))) := fun s => ⟨[.int .u64 0, .int .u64 0], [.int .u64 0, .int .u64 0], rfl, ⟨[.int .u64 0], [.int .u64 0], rfl, rfl, rfl⟩, ⟨[.int .u64 0], [.int .u64 0], rfl, rfl, rfl⟩⟩
theorem zk54 : ∀ s, (kAns : Kd (((BitVec 64 × BitVec 64) × (BitVec 64 × BitVec 64)) × List (Int) × List (Int × Int))).rd s (Value.cl (.agg #[.int .u64 0, .int .u64 0, .int .u64 0, .int .u64 0, .slice none 0 0, .slice none 0 0])) ((((0, 0), (0, 0)), [], [])) := fun s => ⟨[.int .u64 0, .int .u64 0, .int .u64 0, .int .u64 0], [.slice none 0 0, .slice none 0 0], rfl, ⟨[.int .u64 0, .int .u64 0], [.int .u64 0, .int .u64 0], rfl, ⟨[.int .u64 0], [.int .u64 0], rfl, rfl, rfl⟩, ⟨[.int .u64 0], [.int .u64 0], rfl, rfl, rfl⟩⟩, ⟨[.slice none 0 0], [.slice none 0 0], rfl, ⟨none, 0, rfl, Nat.le_refl _, by decide, fun h => absurd h (by decide)⟩, ⟨none, 0, rfl, Nat.le_refl _, by decide, fun h => absurd h (by decide)⟩⟩⟩
theorem zk63 : ∀ s, (kEdit : Kd (Int × ByteArray × Int × (BitVec 64 × BitVec 64))).rd s (Value.cl (.agg #[.int .i8 0, .string .empty, .int .i16 0, .int .u64 0, .int .u64 0])) ((0, .empty, 0, (0, 0))) := fun s => ⟨[.int .i8 0], [.string .empty, .int .i16 0, .int .u64 0, .int .u64 0], rfl, ⟨rfl, inRb_of rfl⟩, ⟨[.string .empty], [.int .i16 0, .int .u64 0, .int .u64 0], rfl, ⟨rfl, by decide⟩, ⟨[.int .i16 0], [.int .u64 0, .int .u64 0], rfl, ⟨rfl, inRb_of rfl⟩, ⟨[.int .u64 0], [.int .u64 0], rfl, rfl, rfl⟩⟩⟩⟩
theorem zk97 : ∀ s, (kWit : Kd (Int × Int)).rd s (Value.cl (.agg #[.int .i64 0, .int .i16 0])) ((0, 0)) := fun s => ⟨[.int .i64 0], [.int .i16 0], rfl, ⟨rfl, inRb_of rfl⟩, ⟨rfl, inRb_of rfl⟩⟩
theorem zkr54 : ∀ s, ((Kd.pair kQuery (Kd.pair Kd.raw Kd.raw)) : Kd (((BitVec 64 × BitVec 64) × (BitVec 64 × BitVec 64)) × Value × Value)).rd s (Value.cl (.agg #[.int .u64 0, .int .u64 0, .int .u64 0, .int .u64 0, .slice none 0 0, .slice none 0 0])) ((((0, 0), (0, 0)), (Value.slice none 0 0), (Value.slice none 0 0))) := fun s => ⟨[.int .u64 0, .int .u64 0, .int .u64 0, .int .u64 0], [.slice none 0 0, .slice none 0 0], rfl, ⟨[.int .u64 0, .int .u64 0], [.int .u64 0, .int .u64 0], rfl, ⟨[.int .u64 0], [.int .u64 0], rfl, rfl, rfl⟩, ⟨[.int .u64 0], [.int .u64 0], rfl, rfl, rfl⟩⟩, ⟨[.slice none 0 0], [.slice none 0 0], rfl, ⟨rfl, rfl⟩, ⟨rfl, rfl⟩⟩⟩
theorem zr109 : zeroT Tryz.prog 109 = some (.agg (List.replicate 5 (.int .i8 0)).toArray) := by kernel_rfl
theorem zr118 : zeroT Tryz.prog 118 = some (.agg (List.replicate 4 (.int .i16 0)).toArray) := by kernel_rfl
theorem zr146 : zeroT Tryz.prog 146 = some (.agg (List.replicate 256 (.bool false)).toArray) := by kernel_rfl
theorem zr152 : zeroT Tryz.prog 152 = some (.agg (List.replicate 10 (.slice none 0 0)).toArray) := by kernel_rfl
theorem zr2 : zeroT Tryz.prog 2 = some (.int .i64 0) := by kernel_rfl
theorem zr28 : zeroT Tryz.prog 28 = some (.agg #[.string .empty, .int .i8 0, .int .i16 0, .int .i16 0]) := by kernel_rfl
theorem zr3 : zeroT Tryz.prog 3 = some (.int .i64 0) := by kernel_rfl
theorem zr31 : zeroT Tryz.prog 31 = some (.agg #[.int .u64 0, .int .u64 0]) := by kernel_rfl
theorem zr33 : zeroT Tryz.prog 33 = some (.agg #[.string .empty, .int .u64 0, .int .u64 0]) := by kernel_rfl
theorem zr4 : zeroT Tryz.prog 4 = some (.bool false) := by kernel_rfl
theorem zr49 : zeroT Tryz.prog 49 = some (.agg #[.int .u64 0, .int .u64 0, .int .u64 0, .int .u64 0]) := by kernel_rfl
theorem zr54 : zeroT Tryz.prog 54 = some (.agg #[.int .u64 0, .int .u64 0, .int .u64 0, .int .u64 0, .slice none 0 0, .slice none 0 0]) := by kernel_rfl
theorem zr63 : zeroT Tryz.prog 63 = some (.agg #[.int .i8 0, .string .empty, .int .i16 0, .int .u64 0, .int .u64 0]) := by kernel_rfl
theorem zr97 : zeroT Tryz.prog 97 = some (.agg #[.int .i64 0, .int .i16 0]) := by kernel_rfl
theorem sb28_0 : Sub (kField : Kd (ByteArray × Int × Int × Int)) 0 Kd.str (fun x => x.1) (fun x y => (y, x.2.1, x.2.2.1, x.2.2.2)) := Sub.fst
theorem sb28_1 : Sub (kField : Kd (ByteArray × Int × Int × Int)) 1 (Kd.int .i8) (fun x => x.2.1) (fun x y => (x.1, y, x.2.2.1, x.2.2.2)) := Sub.snd (Sub.fst)
theorem sb28_2 : Sub (kField : Kd (ByteArray × Int × Int × Int)) 2 (Kd.int .i16) (fun x => x.2.2.1) (fun x y => (x.1, x.2.1, y, x.2.2.2)) := Sub.snd (Sub.snd (Sub.fst))
theorem sb28_3 : Sub (kField : Kd (ByteArray × Int × Int × Int)) 3 (Kd.int .i16) (fun x => x.2.2.2) (fun x y => (x.1, x.2.1, x.2.2.1, y)) := Sub.snd (Sub.snd (Sub.snd (Sub.whole _)))
theorem sb33_0 : Sub (kCard : Kd (ByteArray × (BitVec 64 × BitVec 64))) 0 Kd.str (fun x => x.1) (fun x y => (y, x.2)) := Sub.fst
theorem sb33_1 : Sub (kCard : Kd (ByteArray × (BitVec 64 × BitVec 64))) 1 kMask (fun x => x.2) (fun x y => (x.1, y)) := Sub.snd (Sub.whole _)
theorem sb49_0 : Sub (kQuery : Kd ((BitVec 64 × BitVec 64) × (BitVec 64 × BitVec 64))) 0 kMask (fun x => x.1) (fun x y => (y, x.2)) := Sub.fst
theorem sb49_1 : Sub (kQuery : Kd ((BitVec 64 × BitVec 64) × (BitVec 64 × BitVec 64))) 2 kMask (fun x => x.2) (fun x y => (x.1, y)) := Sub.snd (Sub.whole _)
theorem sb54_0 : Sub (kAns : Kd (((BitVec 64 × BitVec 64) × (BitVec 64 × BitVec 64)) × List (Int) × List (Int × Int))) 0 kQuery (fun x => x.1) (fun x y => (y, x.2.1, x.2.2)) := Sub.fst
theorem sb54_1 : Sub (kAns : Kd (((BitVec 64 × BitVec 64) × (BitVec 64 × BitVec 64)) × List (Int) × List (Int × Int))) 4 (Kd.slice (Kd.int .i64)) (fun x => x.2.1) (fun x y => (x.1, y, x.2.2)) := Sub.snd (Sub.fst)
theorem sb54_2 : Sub (kAns : Kd (((BitVec 64 × BitVec 64) × (BitVec 64 × BitVec 64)) × List (Int) × List (Int × Int))) 5 (Kd.slice kWit) (fun x => x.2.2) (fun x y => (x.1, x.2.1, y)) := Sub.snd (Sub.snd (Sub.whole _))
theorem sb63_0 : Sub (kEdit : Kd (Int × ByteArray × Int × (BitVec 64 × BitVec 64))) 0 (Kd.int .i8) (fun x => x.1) (fun x y => (y, x.2.1, x.2.2.1, x.2.2.2)) := Sub.fst
theorem sb63_1 : Sub (kEdit : Kd (Int × ByteArray × Int × (BitVec 64 × BitVec 64))) 1 Kd.str (fun x => x.2.1) (fun x y => (x.1, y, x.2.2.1, x.2.2.2)) := Sub.snd (Sub.fst)
theorem sb63_2 : Sub (kEdit : Kd (Int × ByteArray × Int × (BitVec 64 × BitVec 64))) 2 (Kd.int .i16) (fun x => x.2.2.1) (fun x y => (x.1, x.2.1, y, x.2.2.2)) := Sub.snd (Sub.snd (Sub.fst))
theorem sb63_3 : Sub (kEdit : Kd (Int × ByteArray × Int × (BitVec 64 × BitVec 64))) 3 kMask (fun x => x.2.2.2) (fun x y => (x.1, x.2.1, x.2.2.1, y)) := Sub.snd (Sub.snd (Sub.snd (Sub.whole _)))
theorem sb97_0 : Sub (kWit : Kd (Int × Int)) 0 (Kd.int .i64) (fun x => x.1) (fun x y => (y, x.2)) := Sub.fst
theorem sb97_1 : Sub (kWit : Kd (Int × Int)) 1 (Kd.int .i16) (fun x => x.2) (fun x y => (x.1, y)) := Sub.snd (Sub.whole _)
theorem sbr54_0 : Sub ((Kd.pair kQuery (Kd.pair Kd.raw Kd.raw)) : Kd (((BitVec 64 × BitVec 64) × (BitVec 64 × BitVec 64)) × Value × Value)) 0 kQuery (fun x => x.1) (fun x y => (y, x.2.1, x.2.2)) := Sub.fst
theorem sbr54_1 : Sub ((Kd.pair kQuery (Kd.pair Kd.raw Kd.raw)) : Kd (((BitVec 64 × BitVec 64) × (BitVec 64 × BitVec 64)) × Value × Value)) 4 Kd.raw (fun x => x.2.1) (fun x y => (x.1, y, x.2.2)) := Sub.snd (Sub.fst)
theorem sbr54_2 : Sub ((Kd.pair kQuery (Kd.pair Kd.raw Kd.raw)) : Kd (((BitVec 64 × BitVec 64) × (BitVec 64 × BitVec 64)) × Value × Value)) 5 Kd.raw (fun x => x.2.2) (fun x y => (x.1, x.2.1, y)) := Sub.snd (Sub.snd (Sub.whole _))
theorem sx31_0 : Sub (kMask : Kd (BitVec 64 × BitVec 64)) (Int.toNat 0 * 1) Kd.u64 (fun x => x.1) (fun x y => (y, x.2)) := Sub.fst
theorem sx31_1 : Sub (kMask : Kd (BitVec 64 × BitVec 64)) (Int.toNat 1 * 1) Kd.u64 (fun x => x.2) (fun x y => (x.1, y)) := Sub.snd (Sub.whole _)
theorem eq26 : EqT Tryz.prog 26 ((Kd.int .i16) : Kd (Int)) 1 := EqT.int Tryz.underlying26 sz26
theorem eq9 : EqT Tryz.prog 9 (Kd.str : Kd (ByteArray)) 1 := EqT.str Tryz.underlying9 sz9
theorem eq25 : EqT Tryz.prog 25 ((Kd.int .i8) : Kd (Int)) 1 := EqT.int Tryz.underlying25 sz25
theorem eq29 : EqT Tryz.prog 29 (Kd.u64 : Kd (BitVec 64)) 1 := EqT.u64 Tryz.underlying29 sz29
theorem eq31 : EqT Tryz.prog 31 (kMask : Kd (BitVec 64 × BitVec 64)) 2 := EqT.two Tryz.underlying31 sz31 (by kernel_rfl) eq29
theorem eq33 : EqT Tryz.prog 33 (kCard : Kd (ByteArray × (BitVec 64 × BitVec 64))) 3 := EqT.struct Tryz.underlying33 sz33 (by kernel_rfl) (EqFs.cons (r := 2) rfl rfl eq9 (EqFs.one rfl rfl eq31) rfl rfl)
theorem eq49 : EqT Tryz.prog 49 (kQuery : Kd ((BitVec 64 × BitVec 64) × (BitVec 64 × BitVec 64))) 3 := EqT.struct Tryz.underlying49 sz49 (by kernel_rfl) (EqFs.cons (r := 2) rfl rfl eq31 (EqFs.one rfl rfl eq31) rfl rfl)
theorem eq63 : EqT Tryz.prog 63 (kEdit : Kd (Int × ByteArray × Int × (BitVec 64 × BitVec 64))) 3 := EqT.struct Tryz.underlying63 sz63 (by kernel_rfl) (EqFs.cons (r := 2) rfl rfl eq25 (EqFs.cons (r := 2) rfl rfl eq9 (EqFs.cons (r := 2) rfl rfl eq26 (EqFs.one rfl rfl eq31) rfl rfl) rfl rfl) rfl rfl)
theorem eq2 : EqT Tryz.prog 2 ((Kd.int .i64) : Kd (Int)) 1 := EqT.int Tryz.underlying2 sz2
theorem eq97 : EqT Tryz.prog 97 (kWit : Kd (Int × Int)) 2 := EqT.struct Tryz.underlying97 sz97 (by kernel_rfl) (EqFs.cons (r := 1) rfl rfl eq2 (EqFs.one rfl rfl eq26) rfl rfl)
end Go.Proofs.YtlhfmcbmlmhgaaaGreatDoor.VL
