/- Proved here: what the table of types of the program says. Printed by program. -/
import Derived.Test.YtohcpnobmknglaaGreatDoorBpa
import Derived.Test.YtohcpnobmknglaaGreatDoorBvc
import Derived.Test.YtohcpnobmknglaaGreatDoorProg
set_option linter.unusedVariables false
set_option linter.unusedSimpArgs false
set_option maxRecDepth 4000
namespace Go.Proofs.YtohcpnobmknglaaGreatDoor.VL
open Go
theorem fomo : Tryz.prog.follows .mixedOrders = true := by kernel_rfl
theorem ag111 : aggT Tryz.prog 111 = some false := by kernel_rfl
theorem ag113 : aggT Tryz.prog 113 = some true := by kernel_rfl
theorem ag116 : aggT Tryz.prog 116 = some true := by kernel_rfl
theorem ag120 : aggT Tryz.prog 120 = some true := by kernel_rfl
theorem ag127 : aggT Tryz.prog 127 = some true := by kernel_rfl
theorem ag140 : aggT Tryz.prog 140 = some true := by kernel_rfl
theorem ag2 : aggT Tryz.prog 2 = some false := by kernel_rfl
theorem ag217 : aggT Tryz.prog 217 = some true := by kernel_rfl
theorem ag28 : aggT Tryz.prog 28 = some false := by kernel_rfl
theorem ag31 : aggT Tryz.prog 31 = some false := by kernel_rfl
theorem ag32 : aggT Tryz.prog 32 = some true := by kernel_rfl
theorem ag33 : aggT Tryz.prog 33 = some true := by kernel_rfl
theorem ag39 : aggT Tryz.prog 39 = some true := by kernel_rfl
theorem ag4 : aggT Tryz.prog 4 = some false := by kernel_rfl
theorem ag45 : aggT Tryz.prog 45 = some false := by kernel_rfl
theorem ag77 : aggT Tryz.prog 77 = some true := by kernel_rfl
theorem ag9 : aggT Tryz.prog 9 = some false := by kernel_rfl
theorem ar196 : arT Tryz.prog 196 = some (4, 45) := by kernel_rfl
theorem ar217 : arT Tryz.prog 217 = some (256, 4) := by kernel_rfl
theorem ar224 : arT Tryz.prog 224 = some (10, 28) := by kernel_rfl
theorem ar32 : arT Tryz.prog 32 = some (2, 31) := by kernel_rfl
theorem ar33 : arT Tryz.prog 33 = some (2, 31) := by kernel_rfl
theorem by120 : bytesT Tryz.prog 120 = some 24 := by kernel_rfl
theorem by127 : bytesT Tryz.prog 127 = some 16 := by kernel_rfl
theorem by140 : bytesT Tryz.prog 140 = some 24 := by kernel_rfl
theorem by2 : bytesT Tryz.prog 2 = some 8 := by kernel_rfl
theorem by39 : bytesT Tryz.prog 39 = some 32 := by kernel_rfl
theorem eg33 : Program.eqGuardType Tryz.prog (Program.depth Tryz.prog) 33 = false := by kernel_rfl
theorem el24 : elT Tryz.prog 24 = some 120 := by kernel_rfl
theorem el25 : elT Tryz.prog 25 = some 39 := by kernel_rfl
theorem el28 : elT Tryz.prog 28 = some 2 := by kernel_rfl
theorem el56 : elT Tryz.prog 56 = some 113 := by kernel_rfl
theorem el57 : elT Tryz.prog 57 = some 116 := by kernel_rfl
theorem el60 : elT Tryz.prog 60 = some 127 := by kernel_rfl
theorem el81 : elT Tryz.prog 81 = some 140 := by kernel_rfl
theorem fd113_0 : fldT Tryz.prog 113 0 = some (9, 0) := by kernel_rfl
theorem fd113_1 : fldT Tryz.prog 113 1 = some (111, 1) := by kernel_rfl
theorem fd113_2 : fldT Tryz.prog 113 2 = some (45, 2) := by kernel_rfl
theorem fd113_3 : fldT Tryz.prog 113 3 = some (45, 3) := by kernel_rfl
theorem fd116_0 : fldT Tryz.prog 116 0 = some (9, 0) := by kernel_rfl
theorem fd116_1 : fldT Tryz.prog 116 1 = some (32, 1) := by kernel_rfl
theorem fd120_0 : fldT Tryz.prog 120 0 = some (9, 0) := by kernel_rfl
theorem fd120_1 : fldT Tryz.prog 120 1 = some (111, 1) := by kernel_rfl
theorem fd120_2 : fldT Tryz.prog 120 2 = some (45, 2) := by kernel_rfl
theorem fd120_3 : fldT Tryz.prog 120 3 = some (45, 3) := by kernel_rfl
theorem fd127_0 : fldT Tryz.prog 127 0 = some (2, 0) := by kernel_rfl
theorem fd127_1 : fldT Tryz.prog 127 1 = some (2, 1) := by kernel_rfl
theorem fd140_0 : fldT Tryz.prog 140 0 = some (2, 0) := by kernel_rfl
theorem fd140_1 : fldT Tryz.prog 140 1 = some (2, 1) := by kernel_rfl
theorem fd140_2 : fldT Tryz.prog 140 2 = some (2, 2) := by kernel_rfl
theorem fd39_0 : fldT Tryz.prog 39 0 = some (9, 0) := by kernel_rfl
theorem fd39_1 : fldT Tryz.prog 39 1 = some (33, 1) := by kernel_rfl
theorem fd77_0 : fldT Tryz.prog 77 0 = some (2, 0) := by kernel_rfl
theorem fd77_1 : fldT Tryz.prog 77 1 = some (2, 1) := by kernel_rfl
theorem pl127 : plT Tryz.prog 127 = some [(0, 1), (1, 1)] := by kernel_rfl
theorem pl140 : plT Tryz.prog 140 = some [(0, 1), (1, 1), (2, 1)] := by kernel_rfl
theorem pl77 : plT Tryz.prog 77 = some [(0, 1), (1, 1)] := by kernel_rfl
theorem sz111 : sizeT Tryz.prog 111 = some 1 := by kernel_rfl
theorem sz113 : sizeT Tryz.prog 113 = some 4 := by kernel_rfl
theorem sz116 : sizeT Tryz.prog 116 = some 3 := by kernel_rfl
theorem sz120 : sizeT Tryz.prog 120 = some 4 := by kernel_rfl
theorem sz127 : sizeT Tryz.prog 127 = some 2 := by kernel_rfl
theorem sz140 : sizeT Tryz.prog 140 = some 3 := by kernel_rfl
theorem sz196 : sizeT Tryz.prog 196 = some 4 := by kernel_rfl
theorem sz2 : sizeT Tryz.prog 2 = some 1 := by kernel_rfl
theorem sz217 : sizeT Tryz.prog 217 = some 256 := by kernel_rfl
theorem sz28 : sizeT Tryz.prog 28 = some 1 := by kernel_rfl
theorem sz31 : sizeT Tryz.prog 31 = some 1 := by kernel_rfl
theorem sz32 : sizeT Tryz.prog 32 = some 2 := by kernel_rfl
theorem sz33 : sizeT Tryz.prog 33 = some 2 := by kernel_rfl
theorem sz39 : sizeT Tryz.prog 39 = some 3 := by kernel_rfl
theorem sz4 : sizeT Tryz.prog 4 = some 1 := by kernel_rfl
theorem sz45 : sizeT Tryz.prog 45 = some 1 := by kernel_rfl
theorem sz77 : sizeT Tryz.prog 77 = some 2 := by kernel_rfl
theorem sz9 : sizeT Tryz.prog 9 = some 1 := by kernel_rfl
theorem us2 : (Tryz.prog.underlying 2).isSome = true := by kernel_rfl
theorem us31 : (Tryz.prog.underlying 31).isSome = true := by kernel_rfl
theorem us45 : (Tryz.prog.underlying 45).isSome = true := by kernel_rfl
theorem zk120 : ∀ s, (kField : Kd (ByteArray × Int × Int × Int)).rd s (Value.cl (.agg #[.string .empty, .int .i8 0, .int .i16 0, .int .i16 0])) ((.empty, 0, 0, 0)) := fun s => ⟨[.string .empty], [.int .i8 0, .int .i16 0, .int .i16 0], rfl, ⟨rfl, by decide⟩, ⟨[.int .i8 0], [.int .i16 0, .int .i16 0], rfl, ⟨rfl, inRb_of rfl⟩, ⟨[.int .i16 0], [.int .i16 0], rfl, ⟨rfl, inRb_of rfl⟩, ⟨rfl, inRb_of rfl⟩⟩⟩⟩
theorem zk127 : ∀ s, (kShare : Kd (Int × Int)).rd s (Value.cl (.agg #[.int .i64 0, .int .i64 0])) ((0, 0)) := fun s => ⟨[.int .i64 0], [.int .i64 0], rfl, ⟨rfl, inRb_of rfl⟩, ⟨rfl, inRb_of rfl⟩⟩
theorem zk140 : ∀ s, ((Kd.pair (Kd.int .i64) (Kd.pair (Kd.int .i64) (Kd.int .i64))) : Kd (Int × Int × Int)).rd s (Value.cl (.agg #[.int .i64 0, .int .i64 0, .int .i64 0])) ((0, 0, 0)) := fun s => ⟨[.int .i64 0], [.int .i64 0, .int .i64 0], rfl, ⟨rfl, inRb_of rfl⟩, ⟨[.int .i64 0], [.int .i64 0], rfl, ⟨rfl, inRb_of rfl⟩, ⟨rfl, inRb_of rfl⟩⟩⟩
theorem zk196 : ∀ s, ((Kd.arr 4 (Kd.int .i16)) : Kd (List (Int))).rd s (Value.cl (.agg (List.replicate 4 (.int .i16 0)).toArray)) ((List.replicate 4 0)) := zarr 4 (fun s => ⟨rfl, inRb_of rfl⟩)
theorem zk2 : ∀ s, ((Kd.int .i64) : Kd (Int)).rd s (Value.cl (.int .i64 0)) (0) := fun s => ⟨rfl, inRb_of rfl⟩
theorem zk217 : ∀ s, ((Kd.arr 256 Kd.bool) : Kd (List (Bool))).rd s (Value.cl (.agg (List.replicate 256 (.bool false)).toArray)) ((List.replicate 256 false)) := zarr 256 (fun s => rfl)
theorem zk224 : ∀ s, ((Kd.arr 10 (Kd.slice (Kd.int .i64))) : Kd (List (List (Int)))).rd s (Value.cl (.agg (List.replicate 10 (.slice none 0 0)).toArray)) ((List.replicate 10 [])) := zarr 10 (fun s => ⟨none, 0, rfl, Nat.le_refl _, by decide, fun h => absurd h (by decide)⟩)
theorem zk33 : ∀ s, (kMask : Kd (BitVec 64 × BitVec 64)).rd s (Value.cl (.agg #[.int .u64 0, .int .u64 0])) ((0, 0)) := fun s => ⟨[.int .u64 0], [.int .u64 0], rfl, rfl, rfl⟩
theorem zk39 : ∀ s, (kCard : Kd (ByteArray × (BitVec 64 × BitVec 64))).rd s (Value.cl (.agg #[.string .empty, .int .u64 0, .int .u64 0])) ((.empty, (0, 0))) := fun s => ⟨[.string .empty], [.int .u64 0, .int .u64 0], rfl, ⟨rfl, by decide⟩, ⟨[.int .u64 0], [.int .u64 0], rfl, rfl, rfl⟩⟩
theorem zk77 : ∀ s, (kShare : Kd (Int × Int)).rd s (Value.cl (.agg #[.int .i64 0, .int .i64 0])) ((0, 0)) := fun s => ⟨[.int .i64 0], [.int .i64 0], rfl, ⟨rfl, inRb_of rfl⟩, ⟨rfl, inRb_of rfl⟩⟩
theorem zr120 : zeroT Tryz.prog 120 = some (.agg #[.string .empty, .int .i8 0, .int .i16 0, .int .i16 0]) := by kernel_rfl
theorem zr127 : zeroT Tryz.prog 127 = some (.agg #[.int .i64 0, .int .i64 0]) := by kernel_rfl
theorem zr140 : zeroT Tryz.prog 140 = some (.agg #[.int .i64 0, .int .i64 0, .int .i64 0]) := by kernel_rfl
theorem zr196 : zeroT Tryz.prog 196 = some (.agg (List.replicate 4 (.int .i16 0)).toArray) := by kernel_rfl
theorem zr2 : zeroT Tryz.prog 2 = some (.int .i64 0) := by kernel_rfl
theorem zr217 : zeroT Tryz.prog 217 = some (.agg (List.replicate 256 (.bool false)).toArray) := by kernel_rfl
theorem zr224 : zeroT Tryz.prog 224 = some (.agg (List.replicate 10 (.slice none 0 0)).toArray) := by kernel_rfl
theorem zr33 : zeroT Tryz.prog 33 = some (.agg #[.int .u64 0, .int .u64 0]) := by kernel_rfl
theorem zr39 : zeroT Tryz.prog 39 = some (.agg #[.string .empty, .int .u64 0, .int .u64 0]) := by kernel_rfl
theorem zr77 : zeroT Tryz.prog 77 = some (.agg #[.int .i64 0, .int .i64 0]) := by kernel_rfl
theorem sb113_0 : Sub (kField : Kd (ByteArray × Int × Int × Int)) 0 Kd.str (fun x => x.1) (fun x y => (y, x.2.1, x.2.2.1, x.2.2.2)) := Sub.fst
theorem sb113_1 : Sub (kField : Kd (ByteArray × Int × Int × Int)) 1 (Kd.int .i8) (fun x => x.2.1) (fun x y => (x.1, y, x.2.2.1, x.2.2.2)) := Sub.snd (Sub.fst)
theorem sb113_2 : Sub (kField : Kd (ByteArray × Int × Int × Int)) 2 (Kd.int .i16) (fun x => x.2.2.1) (fun x y => (x.1, x.2.1, y, x.2.2.2)) := Sub.snd (Sub.snd (Sub.fst))
theorem sb113_3 : Sub (kField : Kd (ByteArray × Int × Int × Int)) 3 (Kd.int .i16) (fun x => x.2.2.2) (fun x y => (x.1, x.2.1, x.2.2.1, y)) := Sub.snd (Sub.snd (Sub.snd (Sub.whole _)))
theorem sb116_0 : Sub (kCard : Kd (ByteArray × (BitVec 64 × BitVec 64))) 0 Kd.str (fun x => x.1) (fun x y => (y, x.2)) := Sub.fst
theorem sb116_1 : Sub (kCard : Kd (ByteArray × (BitVec 64 × BitVec 64))) 1 kMask (fun x => x.2) (fun x y => (x.1, y)) := Sub.snd (Sub.whole _)
theorem sb120_0 : Sub (kField : Kd (ByteArray × Int × Int × Int)) 0 Kd.str (fun x => x.1) (fun x y => (y, x.2.1, x.2.2.1, x.2.2.2)) := Sub.fst
theorem sb120_1 : Sub (kField : Kd (ByteArray × Int × Int × Int)) 1 (Kd.int .i8) (fun x => x.2.1) (fun x y => (x.1, y, x.2.2.1, x.2.2.2)) := Sub.snd (Sub.fst)
theorem sb120_2 : Sub (kField : Kd (ByteArray × Int × Int × Int)) 2 (Kd.int .i16) (fun x => x.2.2.1) (fun x y => (x.1, x.2.1, y, x.2.2.2)) := Sub.snd (Sub.snd (Sub.fst))
theorem sb120_3 : Sub (kField : Kd (ByteArray × Int × Int × Int)) 3 (Kd.int .i16) (fun x => x.2.2.2) (fun x y => (x.1, x.2.1, x.2.2.1, y)) := Sub.snd (Sub.snd (Sub.snd (Sub.whole _)))
theorem sb127_0 : Sub (kShare : Kd (Int × Int)) 0 (Kd.int .i64) (fun x => x.1) (fun x y => (y, x.2)) := Sub.fst
theorem sb127_1 : Sub (kShare : Kd (Int × Int)) 1 (Kd.int .i64) (fun x => x.2) (fun x y => (x.1, y)) := Sub.snd (Sub.whole _)
theorem sb140_0 : Sub ((Kd.pair (Kd.int .i64) (Kd.pair (Kd.int .i64) (Kd.int .i64))) : Kd (Int × Int × Int)) 0 (Kd.int .i64) (fun x => x.1) (fun x y => (y, x.2.1, x.2.2)) := Sub.fst
theorem sb140_1 : Sub ((Kd.pair (Kd.int .i64) (Kd.pair (Kd.int .i64) (Kd.int .i64))) : Kd (Int × Int × Int)) 1 (Kd.int .i64) (fun x => x.2.1) (fun x y => (x.1, y, x.2.2)) := Sub.snd (Sub.fst)
theorem sb140_2 : Sub ((Kd.pair (Kd.int .i64) (Kd.pair (Kd.int .i64) (Kd.int .i64))) : Kd (Int × Int × Int)) 2 (Kd.int .i64) (fun x => x.2.2) (fun x y => (x.1, x.2.1, y)) := Sub.snd (Sub.snd (Sub.whole _))
theorem sb39_0 : Sub (kCard : Kd (ByteArray × (BitVec 64 × BitVec 64))) 0 Kd.str (fun x => x.1) (fun x y => (y, x.2)) := Sub.fst
theorem sb39_1 : Sub (kCard : Kd (ByteArray × (BitVec 64 × BitVec 64))) 1 kMask (fun x => x.2) (fun x y => (x.1, y)) := Sub.snd (Sub.whole _)
theorem sb77_0 : Sub (kShare : Kd (Int × Int)) 0 (Kd.int .i64) (fun x => x.1) (fun x y => (y, x.2)) := Sub.fst
theorem sb77_1 : Sub (kShare : Kd (Int × Int)) 1 (Kd.int .i64) (fun x => x.2) (fun x y => (x.1, y)) := Sub.snd (Sub.whole _)
theorem sx33_0 : Sub (kMask : Kd (BitVec 64 × BitVec 64)) (Int.toNat 0 * 1) Kd.u64 (fun x => x.1) (fun x y => (y, x.2)) := Sub.fst
theorem sx33_1 : Sub (kMask : Kd (BitVec 64 × BitVec 64)) (Int.toNat 1 * 1) Kd.u64 (fun x => x.2) (fun x y => (x.1, y)) := Sub.snd (Sub.whole _)
theorem eq31 : EqT Tryz.prog 31 (Kd.u64 : Kd (BitVec 64)) 1 := EqT.u64 Tryz.underlying31 sz31
theorem eq33 : EqT Tryz.prog 33 (kMask : Kd (BitVec 64 × BitVec 64)) 2 := EqT.two Tryz.underlying33 sz33 (by kernel_rfl) eq31
end Go.Proofs.YtohcpnobmknglaaGreatDoor.VL
