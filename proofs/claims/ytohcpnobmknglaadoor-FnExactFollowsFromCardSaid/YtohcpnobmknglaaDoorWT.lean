/- Proved here: what the table of types of the program says. Printed by program. -/
import Derived.Test.YtohcpnobmknglaaDoorBpa
import Derived.Test.YtohcpnobmknglaaDoorBvc
import Derived.Test.YtohcpnobmknglaaDoorProg
set_option linter.unusedVariables false
set_option linter.unusedSimpArgs false
set_option maxRecDepth 4000
namespace Go.Proofs.YtohcpnobmknglaaDoor.VL
open Go
theorem fomo : Tryd.prog.follows .mixedOrders = true := by kernel_rfl
theorem ag130 : aggT Tryd.prog 130 = some false := by kernel_rfl
theorem ag132 : aggT Tryd.prog 132 = some true := by kernel_rfl
theorem ag135 : aggT Tryd.prog 135 = some true := by kernel_rfl
theorem ag140 : aggT Tryd.prog 140 = some true := by kernel_rfl
theorem ag141 : aggT Tryd.prog 141 = some true := by kernel_rfl
theorem ag2 : aggT Tryd.prog 2 = some false := by kernel_rfl
theorem ag214 : aggT Tryd.prog 214 = some true := by kernel_rfl
theorem ag28 : aggT Tryd.prog 28 = some false := by kernel_rfl
theorem ag29 : aggT Tryd.prog 29 = some true := by kernel_rfl
theorem ag30 : aggT Tryd.prog 30 = some true := by kernel_rfl
theorem ag34 : aggT Tryd.prog 34 = some false := by kernel_rfl
theorem ag4 : aggT Tryd.prog 4 = some false := by kernel_rfl
theorem ag42 : aggT Tryd.prog 42 = some true := by kernel_rfl
theorem ag68 : aggT Tryd.prog 68 = some false := by kernel_rfl
theorem ag9 : aggT Tryd.prog 9 = some false := by kernel_rfl
theorem ar214 : arT Tryd.prog 214 = some (256, 4) := by kernel_rfl
theorem ar224 : arT Tryd.prog 224 = some (4, 68) := by kernel_rfl
theorem ar236 : arT Tryd.prog 236 = some (10, 34) := by kernel_rfl
theorem ar29 : arT Tryd.prog 29 = some (2, 28) := by kernel_rfl
theorem ar30 : arT Tryd.prog 30 = some (2, 28) := by kernel_rfl
theorem by140 : bytesT Tryd.prog 140 = some 24 := by kernel_rfl
theorem by141 : bytesT Tryd.prog 141 = some 24 := by kernel_rfl
theorem by2 : bytesT Tryd.prog 2 = some 8 := by kernel_rfl
theorem by42 : bytesT Tryd.prog 42 = some 32 := by kernel_rfl
theorem eg30 : Program.eqGuardType Tryd.prog (Program.depth Tryd.prog) 30 = false := by kernel_rfl
theorem el136 : elT Tryd.prog 136 = some 140 := by kernel_rfl
theorem el24 : elT Tryd.prog 24 = some 141 := by kernel_rfl
theorem el26 : elT Tryd.prog 26 = some 42 := by kernel_rfl
theorem el34 : elT Tryd.prog 34 = some 2 := by kernel_rfl
theorem el72 : elT Tryd.prog 72 = some 132 := by kernel_rfl
theorem el73 : elT Tryd.prog 73 = some 135 := by kernel_rfl
theorem fd132_0 : fldT Tryd.prog 132 0 = some (9, 0) := by kernel_rfl
theorem fd132_1 : fldT Tryd.prog 132 1 = some (130, 1) := by kernel_rfl
theorem fd132_2 : fldT Tryd.prog 132 2 = some (68, 2) := by kernel_rfl
theorem fd132_3 : fldT Tryd.prog 132 3 = some (68, 3) := by kernel_rfl
theorem fd135_0 : fldT Tryd.prog 135 0 = some (9, 0) := by kernel_rfl
theorem fd135_1 : fldT Tryd.prog 135 1 = some (29, 1) := by kernel_rfl
theorem fd140_0 : fldT Tryd.prog 140 0 = some (2, 0) := by kernel_rfl
theorem fd140_1 : fldT Tryd.prog 140 1 = some (2, 1) := by kernel_rfl
theorem fd140_2 : fldT Tryd.prog 140 2 = some (2, 2) := by kernel_rfl
theorem fd141_0 : fldT Tryd.prog 141 0 = some (9, 0) := by kernel_rfl
theorem fd141_1 : fldT Tryd.prog 141 1 = some (130, 1) := by kernel_rfl
theorem fd141_2 : fldT Tryd.prog 141 2 = some (68, 2) := by kernel_rfl
theorem fd141_3 : fldT Tryd.prog 141 3 = some (68, 3) := by kernel_rfl
theorem fd42_0 : fldT Tryd.prog 42 0 = some (9, 0) := by kernel_rfl
theorem fd42_1 : fldT Tryd.prog 42 1 = some (30, 1) := by kernel_rfl
theorem pl140 : plT Tryd.prog 140 = some [(0, 1), (1, 1), (2, 1)] := by kernel_rfl
theorem sz130 : sizeT Tryd.prog 130 = some 1 := by kernel_rfl
theorem sz132 : sizeT Tryd.prog 132 = some 4 := by kernel_rfl
theorem sz135 : sizeT Tryd.prog 135 = some 3 := by kernel_rfl
theorem sz140 : sizeT Tryd.prog 140 = some 3 := by kernel_rfl
theorem sz141 : sizeT Tryd.prog 141 = some 4 := by kernel_rfl
theorem sz2 : sizeT Tryd.prog 2 = some 1 := by kernel_rfl
theorem sz214 : sizeT Tryd.prog 214 = some 256 := by kernel_rfl
theorem sz224 : sizeT Tryd.prog 224 = some 4 := by kernel_rfl
theorem sz28 : sizeT Tryd.prog 28 = some 1 := by kernel_rfl
theorem sz29 : sizeT Tryd.prog 29 = some 2 := by kernel_rfl
theorem sz30 : sizeT Tryd.prog 30 = some 2 := by kernel_rfl
theorem sz34 : sizeT Tryd.prog 34 = some 1 := by kernel_rfl
theorem sz4 : sizeT Tryd.prog 4 = some 1 := by kernel_rfl
theorem sz42 : sizeT Tryd.prog 42 = some 3 := by kernel_rfl
theorem sz68 : sizeT Tryd.prog 68 = some 1 := by kernel_rfl
theorem sz9 : sizeT Tryd.prog 9 = some 1 := by kernel_rfl
theorem us2 : (Tryd.prog.underlying 2).isSome = true := by kernel_rfl
theorem us28 : (Tryd.prog.underlying 28).isSome = true := by kernel_rfl
theorem us68 : (Tryd.prog.underlying 68).isSome = true := by kernel_rfl
theorem zk140 : ∀ s, ((Kd.pair (Kd.int .i64) (Kd.pair (Kd.int .i64) (Kd.int .i64))) : Kd (Int × Int × Int)).rd s (Value.cl (.agg #[.int .i64 0, .int .i64 0, .int .i64 0])) ((0, 0, 0)) := fun s => ⟨[.int .i64 0], [.int .i64 0, .int .i64 0], rfl, ⟨rfl, inRb_of rfl⟩, ⟨[.int .i64 0], [.int .i64 0], rfl, ⟨rfl, inRb_of rfl⟩, ⟨rfl, inRb_of rfl⟩⟩⟩
theorem zk141 : ∀ s, (kField : Kd (ByteArray × Int × Int × Int)).rd s (Value.cl (.agg #[.string .empty, .int .i8 0, .int .i16 0, .int .i16 0])) ((.empty, 0, 0, 0)) := fun s => ⟨[.string .empty], [.int .i8 0, .int .i16 0, .int .i16 0], rfl, ⟨rfl, by decide⟩, ⟨[.int .i8 0], [.int .i16 0, .int .i16 0], rfl, ⟨rfl, inRb_of rfl⟩, ⟨[.int .i16 0], [.int .i16 0], rfl, ⟨rfl, inRb_of rfl⟩, ⟨rfl, inRb_of rfl⟩⟩⟩⟩
theorem zk2 : ∀ s, ((Kd.int .i64) : Kd (Int)).rd s (Value.cl (.int .i64 0)) (0) := fun s => ⟨rfl, inRb_of rfl⟩
theorem zk214 : ∀ s, ((Kd.arr 256 Kd.bool) : Kd (List (Bool))).rd s (Value.cl (.agg (List.replicate 256 (.bool false)).toArray)) ((List.replicate 256 false)) := zarr 256 (fun s => rfl)
theorem zk224 : ∀ s, ((Kd.arr 4 (Kd.int .i16)) : Kd (List (Int))).rd s (Value.cl (.agg (List.replicate 4 (.int .i16 0)).toArray)) ((List.replicate 4 0)) := zarr 4 (fun s => ⟨rfl, inRb_of rfl⟩)
theorem zk236 : ∀ s, ((Kd.arr 10 (Kd.slice (Kd.int .i64))) : Kd (List (List (Int)))).rd s (Value.cl (.agg (List.replicate 10 (.slice none 0 0)).toArray)) ((List.replicate 10 [])) := zarr 10 (fun s => ⟨none, 0, rfl, Nat.le_refl _, by decide, fun h => absurd h (by decide)⟩)
theorem zk30 : ∀ s, (kMask : Kd (BitVec 64 × BitVec 64)).rd s (Value.cl (.agg #[.int .u64 0, .int .u64 0])) ((0, 0)) := fun s => ⟨[.int .u64 0], [.int .u64 0], rfl, rfl, rfl⟩
theorem zk42 : ∀ s, (kCard : Kd (ByteArray × (BitVec 64 × BitVec 64))).rd s (Value.cl (.agg #[.string .empty, .int .u64 0, .int .u64 0])) ((.empty, (0, 0))) := fun s => ⟨[.string .empty], [.int .u64 0, .int .u64 0], rfl, ⟨rfl, by decide⟩, ⟨[.int .u64 0], [.int .u64 0], rfl, rfl, rfl⟩⟩
theorem zr140 : zeroT Tryd.prog 140 = some (.agg #[.int .i64 0, .int .i64 0, .int .i64 0]) := by kernel_rfl
theorem zr141 : zeroT Tryd.prog 141 = some (.agg #[.string .empty, .int .i8 0, .int .i16 0, .int .i16 0]) := by kernel_rfl
theorem zr2 : zeroT Tryd.prog 2 = some (.int .i64 0) := by kernel_rfl
theorem zr214 : zeroT Tryd.prog 214 = some (.agg (List.replicate 256 (.bool false)).toArray) := by kernel_rfl
theorem zr224 : zeroT Tryd.prog 224 = some (.agg (List.replicate 4 (.int .i16 0)).toArray) := by kernel_rfl
theorem zr236 : zeroT Tryd.prog 236 = some (.agg (List.replicate 10 (.slice none 0 0)).toArray) := by kernel_rfl
theorem zr30 : zeroT Tryd.prog 30 = some (.agg #[.int .u64 0, .int .u64 0]) := by kernel_rfl
theorem zr42 : zeroT Tryd.prog 42 = some (.agg #[.string .empty, .int .u64 0, .int .u64 0]) := by kernel_rfl
theorem sb132_0 : Sub (kField : Kd (ByteArray × Int × Int × Int)) 0 Kd.str (fun x => x.1) (fun x y => (y, x.2.1, x.2.2.1, x.2.2.2)) := Sub.fst
theorem sb132_1 : Sub (kField : Kd (ByteArray × Int × Int × Int)) 1 (Kd.int .i8) (fun x => x.2.1) (fun x y => (x.1, y, x.2.2.1, x.2.2.2)) := Sub.snd (Sub.fst)
theorem sb132_2 : Sub (kField : Kd (ByteArray × Int × Int × Int)) 2 (Kd.int .i16) (fun x => x.2.2.1) (fun x y => (x.1, x.2.1, y, x.2.2.2)) := Sub.snd (Sub.snd (Sub.fst))
theorem sb132_3 : Sub (kField : Kd (ByteArray × Int × Int × Int)) 3 (Kd.int .i16) (fun x => x.2.2.2) (fun x y => (x.1, x.2.1, x.2.2.1, y)) := Sub.snd (Sub.snd (Sub.snd (Sub.whole _)))
theorem sb135_0 : Sub (kCard : Kd (ByteArray × (BitVec 64 × BitVec 64))) 0 Kd.str (fun x => x.1) (fun x y => (y, x.2)) := Sub.fst
theorem sb135_1 : Sub (kCard : Kd (ByteArray × (BitVec 64 × BitVec 64))) 1 kMask (fun x => x.2) (fun x y => (x.1, y)) := Sub.snd (Sub.whole _)
theorem sb140_0 : Sub ((Kd.pair (Kd.int .i64) (Kd.pair (Kd.int .i64) (Kd.int .i64))) : Kd (Int × Int × Int)) 0 (Kd.int .i64) (fun x => x.1) (fun x y => (y, x.2.1, x.2.2)) := Sub.fst
theorem sb140_1 : Sub ((Kd.pair (Kd.int .i64) (Kd.pair (Kd.int .i64) (Kd.int .i64))) : Kd (Int × Int × Int)) 1 (Kd.int .i64) (fun x => x.2.1) (fun x y => (x.1, y, x.2.2)) := Sub.snd (Sub.fst)
theorem sb140_2 : Sub ((Kd.pair (Kd.int .i64) (Kd.pair (Kd.int .i64) (Kd.int .i64))) : Kd (Int × Int × Int)) 2 (Kd.int .i64) (fun x => x.2.2) (fun x y => (x.1, x.2.1, y)) := Sub.snd (Sub.snd (Sub.whole _))
theorem sb141_0 : Sub (kField : Kd (ByteArray × Int × Int × Int)) 0 Kd.str (fun x => x.1) (fun x y => (y, x.2.1, x.2.2.1, x.2.2.2)) := Sub.fst
theorem sb141_1 : Sub (kField : Kd (ByteArray × Int × Int × Int)) 1 (Kd.int .i8) (fun x => x.2.1) (fun x y => (x.1, y, x.2.2.1, x.2.2.2)) := Sub.snd (Sub.fst)
theorem sb141_2 : Sub (kField : Kd (ByteArray × Int × Int × Int)) 2 (Kd.int .i16) (fun x => x.2.2.1) (fun x y => (x.1, x.2.1, y, x.2.2.2)) := Sub.snd (Sub.snd (Sub.fst))
theorem sb141_3 : Sub (kField : Kd (ByteArray × Int × Int × Int)) 3 (Kd.int .i16) (fun x => x.2.2.2) (fun x y => (x.1, x.2.1, x.2.2.1, y)) := Sub.snd (Sub.snd (Sub.snd (Sub.whole _)))
theorem sb42_0 : Sub (kCard : Kd (ByteArray × (BitVec 64 × BitVec 64))) 0 Kd.str (fun x => x.1) (fun x y => (y, x.2)) := Sub.fst
theorem sb42_1 : Sub (kCard : Kd (ByteArray × (BitVec 64 × BitVec 64))) 1 kMask (fun x => x.2) (fun x y => (x.1, y)) := Sub.snd (Sub.whole _)
theorem sx30_0 : Sub (kMask : Kd (BitVec 64 × BitVec 64)) (Int.toNat 0 * 1) Kd.u64 (fun x => x.1) (fun x y => (y, x.2)) := Sub.fst
theorem sx30_1 : Sub (kMask : Kd (BitVec 64 × BitVec 64)) (Int.toNat 1 * 1) Kd.u64 (fun x => x.2) (fun x y => (x.1, y)) := Sub.snd (Sub.whole _)
theorem eq28 : EqT Tryd.prog 28 (Kd.u64 : Kd (BitVec 64)) 1 := EqT.u64 Tryd.underlying28 sz28
theorem eq30 : EqT Tryd.prog 30 (kMask : Kd (BitVec 64 × BitVec 64)) 2 := EqT.two Tryd.underlying30 sz30 (by kernel_rfl) eq28
end Go.Proofs.YtohcpnobmknglaaDoor.VL
