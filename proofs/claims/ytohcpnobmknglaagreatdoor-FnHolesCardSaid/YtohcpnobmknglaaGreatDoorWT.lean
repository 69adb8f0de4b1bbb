/- Proved here: what the table of types of the program says. Printed by program. -/
import Derived.Test.YtohcpnobmknglaaGreatDoorBpa
import Derived.Test.YtohcpnobmknglaaGreatDoorBvc
import Derived.Test.YtohcpnobmknglaaGreatDoorProg
set_option linter.unusedVariables false
set_option linter.unusedSimpArgs false
set_option maxRecDepth 4000
namespace Go.Proofs.YtohcpnobmknglaaGreatDoor.VL
open Go
theorem fomo : Tryz.prog.follows .mixedOrders = true := by kernel_rfl
theorem ag111 : aggT Tryz.prog 111 = some false := by kernel_rfl
theorem ag120 : aggT Tryz.prog 120 = some true := by kernel_rfl
theorem ag2 : aggT Tryz.prog 2 = some false := by kernel_rfl
theorem ag217 : aggT Tryz.prog 217 = some true := by kernel_rfl
theorem ag22 : aggT Tryz.prog 22 = some false := by kernel_rfl
theorem ag3 : aggT Tryz.prog 3 = some false := by kernel_rfl
theorem ag31 : aggT Tryz.prog 31 = some false := by kernel_rfl
theorem ag33 : aggT Tryz.prog 33 = some true := by kernel_rfl
theorem ag39 : aggT Tryz.prog 39 = some true := by kernel_rfl
theorem ag4 : aggT Tryz.prog 4 = some false := by kernel_rfl
theorem ag45 : aggT Tryz.prog 45 = some false := by kernel_rfl
theorem ag47 : aggT Tryz.prog 47 = some true := by kernel_rfl
theorem ag5 : aggT Tryz.prog 5 = some false := by kernel_rfl
theorem ag54 : aggT Tryz.prog 54 = some false := by kernel_rfl
theorem ag9 : aggT Tryz.prog 9 = some false := by kernel_rfl
theorem ar196 : arT Tryz.prog 196 = some (4, 45) := by kernel_rfl
theorem ar217 : arT Tryz.prog 217 = some (256, 4) := by kernel_rfl
theorem ar33 : arT Tryz.prog 33 = some (2, 31) := by kernel_rfl
theorem by2 : bytesT Tryz.prog 2 = some 8 := by kernel_rfl
theorem by39 : bytesT Tryz.prog 39 = some 32 := by kernel_rfl
theorem by54 : bytesT Tryz.prog 54 = some 24 := by kernel_rfl
theorem by9 : bytesT Tryz.prog 9 = some 16 := by kernel_rfl
theorem eg33 : Program.eqGuardType Tryz.prog (Program.depth Tryz.prog) 33 = false := by kernel_rfl
theorem el22 : elT Tryz.prog 22 = some 5 := by kernel_rfl
theorem el24 : elT Tryz.prog 24 = some 120 := by kernel_rfl
theorem el25 : elT Tryz.prog 25 = some 39 := by kernel_rfl
theorem el28 : elT Tryz.prog 28 = some 2 := by kernel_rfl
theorem el51 : elT Tryz.prog 51 = some 54 := by kernel_rfl
theorem el54 : elT Tryz.prog 54 = some 9 := by kernel_rfl
theorem fd120_0 : fldT Tryz.prog 120 0 = some (9, 0) := by kernel_rfl
theorem fd120_1 : fldT Tryz.prog 120 1 = some (111, 1) := by kernel_rfl
theorem fd120_2 : fldT Tryz.prog 120 2 = some (45, 2) := by kernel_rfl
theorem fd120_3 : fldT Tryz.prog 120 3 = some (45, 3) := by kernel_rfl
theorem fd148_0 : fldT Tryz.prog 148 0 = some (22, 0) := by kernel_rfl
theorem fd148_1 : fldT Tryz.prog 148 1 = some (3, 1) := by kernel_rfl
theorem fd148_2 : fldT Tryz.prog 148 2 = some (31, 2) := by kernel_rfl
theorem fd39_0 : fldT Tryz.prog 39 0 = some (9, 0) := by kernel_rfl
theorem fd39_1 : fldT Tryz.prog 39 1 = some (33, 1) := by kernel_rfl
theorem fd47_0 : fldT Tryz.prog 47 0 = some (45, 0) := by kernel_rfl
theorem fd47_1 : fldT Tryz.prog 47 1 = some (45, 1) := by kernel_rfl
theorem fd47_2 : fldT Tryz.prog 47 2 = some (45, 2) := by kernel_rfl
theorem pl120 : plT Tryz.prog 120 = some [(0, 1), (1, 1), (2, 1), (3, 1)] := by kernel_rfl
theorem pl148 : plT Tryz.prog 148 = some [(0, 1), (1, 1), (2, 1)] := by kernel_rfl
theorem pl39 : plT Tryz.prog 39 = some [(0, 1), (1, 2)] := by kernel_rfl
theorem pl47 : plT Tryz.prog 47 = some [(0, 1), (1, 1), (2, 1)] := by kernel_rfl
theorem sz111 : sizeT Tryz.prog 111 = some 1 := by kernel_rfl
theorem sz120 : sizeT Tryz.prog 120 = some 4 := by kernel_rfl
theorem sz196 : sizeT Tryz.prog 196 = some 4 := by kernel_rfl
theorem sz2 : sizeT Tryz.prog 2 = some 1 := by kernel_rfl
theorem sz217 : sizeT Tryz.prog 217 = some 256 := by kernel_rfl
theorem sz22 : sizeT Tryz.prog 22 = some 1 := by kernel_rfl
theorem sz3 : sizeT Tryz.prog 3 = some 1 := by kernel_rfl
theorem sz31 : sizeT Tryz.prog 31 = some 1 := by kernel_rfl
theorem sz33 : sizeT Tryz.prog 33 = some 2 := by kernel_rfl
theorem sz39 : sizeT Tryz.prog 39 = some 3 := by kernel_rfl
theorem sz4 : sizeT Tryz.prog 4 = some 1 := by kernel_rfl
theorem sz45 : sizeT Tryz.prog 45 = some 1 := by kernel_rfl
theorem sz47 : sizeT Tryz.prog 47 = some 3 := by kernel_rfl
theorem sz5 : sizeT Tryz.prog 5 = some 1 := by kernel_rfl
theorem sz54 : sizeT Tryz.prog 54 = some 1 := by kernel_rfl
theorem sz9 : sizeT Tryz.prog 9 = some 1 := by kernel_rfl
theorem us2 : (Tryz.prog.underlying 2).isSome = true := by kernel_rfl
theorem us3 : (Tryz.prog.underlying 3).isSome = true := by kernel_rfl
theorem us31 : (Tryz.prog.underlying 31).isSome = true := by kernel_rfl
theorem us45 : (Tryz.prog.underlying 45).isSome = true := by kernel_rfl
theorem us5 : (Tryz.prog.underlying 5).isSome = true := by kernel_rfl
theorem zk120 : ∀ s, (kField : Kd (ByteArray × Int × Int × Int)).rd s (Value.cl (.agg #[.string .empty, .int .i8 0, .int .i16 0, .int .i16 0])) ((.empty, 0, 0, 0)) := fun s => ⟨[.string .empty], [.int .i8 0, .int .i16 0, .int .i16 0], rfl, ⟨rfl, by decide⟩, ⟨[.int .i8 0], [.int .i16 0, .int .i16 0], rfl, ⟨rfl, inRb_of rfl⟩, ⟨[.int .i16 0], [.int .i16 0], rfl, ⟨rfl, inRb_of rfl⟩, ⟨rfl, inRb_of rfl⟩⟩⟩⟩
theorem zk148 : ∀ s, ((Kd.pair (Kd.slice (Kd.int .u8)) (Kd.pair (Kd.int .i64) Kd.u64)) : Kd (List (Int) × Int × BitVec 64)).rd s (Value.cl (.agg #[.slice none 0 0, .int .i64 0, .int .u64 0])) (([], 0, 0)) := fun s => ⟨[.slice none 0 0], [.int .i64 0, .int .u64 0], rfl, ⟨none, 0, rfl, Nat.le_refl _, by decide, fun h => absurd h (by decide)⟩, ⟨[.int .i64 0], [.int .u64 0], rfl, ⟨rfl, inRb_of rfl⟩, rfl⟩⟩
theorem zk196 : ∀ s, ((Kd.arr 4 (Kd.int .i16)) : Kd (List (Int))).rd s (Value.cl (.agg (List.replicate 4 (.int .i16 0)).toArray)) ((List.replicate 4 0)) := zarr 4 (fun s => ⟨rfl, inRb_of rfl⟩)
theorem zk2 : ∀ s, ((Kd.int .i64) : Kd (Int)).rd s (Value.cl (.int .i64 0)) (0) := fun s => ⟨rfl, inRb_of rfl⟩
theorem zk217 : ∀ s, ((Kd.arr 256 Kd.bool) : Kd (List (Bool))).rd s (Value.cl (.agg (List.replicate 256 (.bool false)).toArray)) ((List.replicate 256 false)) := zarr 256 (fun s => rfl)
theorem zk33 : ∀ s, (kMask : Kd (BitVec 64 × BitVec 64)).rd s (Value.cl (.agg #[.int .u64 0, .int .u64 0])) ((0, 0)) := fun s => ⟨[.int .u64 0], [.int .u64 0], rfl, rfl, rfl⟩
theorem zk39 : ∀ s, (kCard : Kd (ByteArray × (BitVec 64 × BitVec 64))).rd s (Value.cl (.agg #[.string .empty, .int .u64 0, .int .u64 0])) ((.empty, (0, 0))) := fun s => ⟨[.string .empty], [.int .u64 0, .int .u64 0], rfl, ⟨rfl, by decide⟩, ⟨[.int .u64 0], [.int .u64 0], rfl, rfl, rfl⟩⟩
theorem zk47 : ∀ s, (kMix : Kd (Int × Int × Int)).rd s (Value.cl (.agg #[.int .i16 0, .int .i16 0, .int .i16 0])) ((0, 0, 0)) := fun s => ⟨[.int .i16 0], [.int .i16 0, .int .i16 0], rfl, ⟨rfl, inRb_of rfl⟩, ⟨[.int .i16 0], [.int .i16 0], rfl, ⟨rfl, inRb_of rfl⟩, ⟨rfl, inRb_of rfl⟩⟩⟩
theorem zk54 : ∀ s, ((Kd.slice Kd.str) : Kd (List (ByteArray))).rd s (Value.cl (.slice none 0 0)) ([]) := fun s => ⟨none, 0, rfl, Nat.le_refl _, by decide, fun h => absurd h (by decide)⟩
theorem zk9 : ∀ s, (Kd.str : Kd (ByteArray)).rd s (Value.cl (.string .empty)) (.empty) := fun s => ⟨rfl, by decide⟩
theorem zr120 : zeroT Tryz.prog 120 = some (.agg #[.string .empty, .int .i8 0, .int .i16 0, .int .i16 0]) := by kernel_rfl
theorem zr148 : zeroT Tryz.prog 148 = some (.agg #[.slice none 0 0, .int .i64 0, .int .u64 0]) := by kernel_rfl
theorem zr196 : zeroT Tryz.prog 196 = some (.agg (List.replicate 4 (.int .i16 0)).toArray) := by kernel_rfl
theorem zr2 : zeroT Tryz.prog 2 = some (.int .i64 0) := by kernel_rfl
theorem zr217 : zeroT Tryz.prog 217 = some (.agg (List.replicate 256 (.bool false)).toArray) := by kernel_rfl
theorem zr33 : zeroT Tryz.prog 33 = some (.agg #[.int .u64 0, .int .u64 0]) := by kernel_rfl
theorem zr39 : zeroT Tryz.prog 39 = some (.agg #[.string .empty, .int .u64 0, .int .u64 0]) := by kernel_rfl
theorem zr47 : zeroT Tryz.prog 47 = some (.agg #[.int .i16 0, .int .i16 0, .int .i16 0]) := by kernel_rfl
theorem zr54 : zeroT Tryz.prog 54 = some (.slice none 0 0) := by kernel_rfl
theorem zr9 : zeroT Tryz.prog 9 = some (.string .empty) := by kernel_rfl
theorem sb120_0 : Sub (kField : Kd (ByteArray × Int × Int × Int)) 0 Kd.str (fun x => x.1) (fun x y => (y, x.2.1, x.2.2.1, x.2.2.2)) := Sub.fst
theorem sb120_1 : Sub (kField : Kd (ByteArray × Int × Int × Int)) 1 (Kd.int .i8) (fun x => x.2.1) (fun x y => (x.1, y, x.2.2.1, x.2.2.2)) := Sub.snd (Sub.fst)
theorem sb120_2 : Sub (kField : Kd (ByteArray × Int × Int × Int)) 2 (Kd.int .i16) (fun x => x.2.2.1) (fun x y => (x.1, x.2.1, y, x.2.2.2)) := Sub.snd (Sub.snd (Sub.fst))
theorem sb120_3 : Sub (kField : Kd (ByteArray × Int × Int × Int)) 3 (Kd.int .i16) (fun x => x.2.2.2) (fun x y => (x.1, x.2.1, x.2.2.1, y)) := Sub.snd (Sub.snd (Sub.snd (Sub.whole _)))
theorem sb148_0 : Sub ((Kd.pair (Kd.slice (Kd.int .u8)) (Kd.pair (Kd.int .i64) Kd.u64)) : Kd (List (Int) × Int × BitVec 64)) 0 (Kd.slice (Kd.int .u8)) (fun x => x.1) (fun x y => (y, x.2.1, x.2.2)) := Sub.fst
theorem sb148_1 : Sub ((Kd.pair (Kd.slice (Kd.int .u8)) (Kd.pair (Kd.int .i64) Kd.u64)) : Kd (List (Int) × Int × BitVec 64)) 1 (Kd.int .i64) (fun x => x.2.1) (fun x y => (x.1, y, x.2.2)) := Sub.snd (Sub.fst)
theorem sb148_2 : Sub ((Kd.pair (Kd.slice (Kd.int .u8)) (Kd.pair (Kd.int .i64) Kd.u64)) : Kd (List (Int) × Int × BitVec 64)) 2 Kd.u64 (fun x => x.2.2) (fun x y => (x.1, x.2.1, y)) := Sub.snd (Sub.snd (Sub.whole _))
theorem sb39_0 : Sub (kCard : Kd (ByteArray × (BitVec 64 × BitVec 64))) 0 Kd.str (fun x => x.1) (fun x y => (y, x.2)) := Sub.fst
theorem sb39_1 : Sub (kCard : Kd (ByteArray × (BitVec 64 × BitVec 64))) 1 kMask (fun x => x.2) (fun x y => (x.1, y)) := Sub.snd (Sub.whole _)
theorem sb47_0 : Sub (kMix : Kd (Int × Int × Int)) 0 (Kd.int .i16) (fun x => x.1) (fun x y => (y, x.2.1, x.2.2)) := Sub.fst
theorem sb47_1 : Sub (kMix : Kd (Int × Int × Int)) 1 (Kd.int .i16) (fun x => x.2.1) (fun x y => (x.1, y, x.2.2)) := Sub.snd (Sub.fst)
theorem sb47_2 : Sub (kMix : Kd (Int × Int × Int)) 2 (Kd.int .i16) (fun x => x.2.2) (fun x y => (x.1, x.2.1, y)) := Sub.snd (Sub.snd (Sub.whole _))
theorem sx33_0 : Sub (kMask : Kd (BitVec 64 × BitVec 64)) (Int.toNat 0 * 1) Kd.u64 (fun x => x.1) (fun x y => (y, x.2)) := Sub.fst
theorem sx33_1 : Sub (kMask : Kd (BitVec 64 × BitVec 64)) (Int.toNat 1 * 1) Kd.u64 (fun x => x.2) (fun x y => (x.1, y)) := Sub.snd (Sub.whole _)
theorem eq31 : EqT Tryz.prog 31 (Kd.u64 : Kd (BitVec 64)) 1 := EqT.u64 Tryz.underlying31 sz31
theorem eq33 : EqT Tryz.prog 33 (kMask : Kd (BitVec 64 × BitVec 64)) 2 := EqT.two Tryz.underlying33 sz33 (by kernel_rfl) eq31
end Go.Proofs.YtohcpnobmknglaaGreatDoor.VL
