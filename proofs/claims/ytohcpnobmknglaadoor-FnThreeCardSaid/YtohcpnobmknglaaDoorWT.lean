/- Proved here: what the table of types of the program says. Printed by program. -/
import Derived.Test.YtohcpnobmknglaaDoorBpa
import Derived.Test.YtohcpnobmknglaaDoorBvc
import Derived.Test.YtohcpnobmknglaaDoorProg
set_option linter.unusedVariables false
set_option linter.unusedSimpArgs false
set_option maxRecDepth 4000
namespace Go.Proofs.YtohcpnobmknglaaDoor.VL
open Go
theorem fomo : Tryd.prog.follows .mixedOrders = true := by kernel_rfl
theorem ag102 : aggT Tryd.prog 102 = some true := by kernel_rfl
theorem ag108 : aggT Tryd.prog 108 = some true := by kernel_rfl
theorem ag130 : aggT Tryd.prog 130 = some false := by kernel_rfl
theorem ag141 : aggT Tryd.prog 141 = some true := by kernel_rfl
theorem ag2 : aggT Tryd.prog 2 = some false := by kernel_rfl
theorem ag214 : aggT Tryd.prog 214 = some true := by kernel_rfl
theorem ag22 : aggT Tryd.prog 22 = some false := by kernel_rfl
theorem ag26 : aggT Tryd.prog 26 = some false := by kernel_rfl
theorem ag28 : aggT Tryd.prog 28 = some false := by kernel_rfl
theorem ag3 : aggT Tryd.prog 3 = some false := by kernel_rfl
theorem ag30 : aggT Tryd.prog 30 = some true := by kernel_rfl
theorem ag4 : aggT Tryd.prog 4 = some false := by kernel_rfl
theorem ag42 : aggT Tryd.prog 42 = some true := by kernel_rfl
theorem ag5 : aggT Tryd.prog 5 = some false := by kernel_rfl
theorem ag68 : aggT Tryd.prog 68 = some false := by kernel_rfl
theorem ag9 : aggT Tryd.prog 9 = some false := by kernel_rfl
theorem ar214 : arT Tryd.prog 214 = some (256, 4) := by kernel_rfl
theorem ar30 : arT Tryd.prog 30 = some (2, 28) := by kernel_rfl
theorem by141 : bytesT Tryd.prog 141 = some 24 := by kernel_rfl
theorem by42 : bytesT Tryd.prog 42 = some 32 := by kernel_rfl
theorem by9 : bytesT Tryd.prog 9 = some 16 := by kernel_rfl
theorem eg102 : Program.eqGuardType Tryd.prog (Program.depth Tryd.prog) 102 = false := by kernel_rfl
theorem eg108 : Program.eqGuardType Tryd.prog (Program.depth Tryd.prog) 108 = false := by kernel_rfl
theorem eg42 : Program.eqGuardType Tryd.prog (Program.depth Tryd.prog) 42 = false := by kernel_rfl
theorem el106 : elT Tryd.prog 106 = some 26 := by kernel_rfl
theorem el22 : elT Tryd.prog 22 = some 5 := by kernel_rfl
theorem el24 : elT Tryd.prog 24 = some 141 := by kernel_rfl
theorem el26 : elT Tryd.prog 26 = some 42 := by kernel_rfl
theorem el34 : elT Tryd.prog 34 = some 2 := by kernel_rfl
theorem el45 : elT Tryd.prog 45 = some 9 := by kernel_rfl
theorem fd108_0 : fldT Tryd.prog 108 0 = some (4, 0) := by kernel_rfl
theorem fd108_1 : fldT Tryd.prog 108 1 = some (30, 1) := by kernel_rfl
theorem fd141_1 : fldT Tryd.prog 141 1 = some (130, 1) := by kernel_rfl
theorem fd141_2 : fldT Tryd.prog 141 2 = some (68, 2) := by kernel_rfl
theorem fd141_3 : fldT Tryd.prog 141 3 = some (68, 3) := by kernel_rfl
theorem fd163_0 : fldT Tryd.prog 163 0 = some (22, 0) := by kernel_rfl
theorem fd163_1 : fldT Tryd.prog 163 1 = some (3, 1) := by kernel_rfl
theorem fd163_2 : fldT Tryd.prog 163 2 = some (28, 2) := by kernel_rfl
theorem fd42_0 : fldT Tryd.prog 42 0 = some (9, 0) := by kernel_rfl
theorem fd42_1 : fldT Tryd.prog 42 1 = some (30, 1) := by kernel_rfl
theorem pl102 : plT Tryd.prog 102 = some [(0, 1), (1, 2)] := by kernel_rfl
theorem pl108 : plT Tryd.prog 108 = some [(0, 1), (1, 2)] := by kernel_rfl
theorem pl141 : plT Tryd.prog 141 = some [(0, 1), (1, 1), (2, 1), (3, 1)] := by kernel_rfl
theorem pl163 : plT Tryd.prog 163 = some [(0, 1), (1, 1), (2, 1)] := by kernel_rfl
theorem pl42 : plT Tryd.prog 42 = some [(0, 1), (1, 2)] := by kernel_rfl
theorem sz102 : sizeT Tryd.prog 102 = some 3 := by kernel_rfl
theorem sz108 : sizeT Tryd.prog 108 = some 3 := by kernel_rfl
theorem sz130 : sizeT Tryd.prog 130 = some 1 := by kernel_rfl
theorem sz141 : sizeT Tryd.prog 141 = some 4 := by kernel_rfl
theorem sz2 : sizeT Tryd.prog 2 = some 1 := by kernel_rfl
theorem sz214 : sizeT Tryd.prog 214 = some 256 := by kernel_rfl
theorem sz22 : sizeT Tryd.prog 22 = some 1 := by kernel_rfl
theorem sz26 : sizeT Tryd.prog 26 = some 1 := by kernel_rfl
theorem sz28 : sizeT Tryd.prog 28 = some 1 := by kernel_rfl
theorem sz3 : sizeT Tryd.prog 3 = some 1 := by kernel_rfl
theorem sz30 : sizeT Tryd.prog 30 = some 2 := by kernel_rfl
theorem sz4 : sizeT Tryd.prog 4 = some 1 := by kernel_rfl
theorem sz42 : sizeT Tryd.prog 42 = some 3 := by kernel_rfl
theorem sz5 : sizeT Tryd.prog 5 = some 1 := by kernel_rfl
theorem sz68 : sizeT Tryd.prog 68 = some 1 := by kernel_rfl
theorem sz9 : sizeT Tryd.prog 9 = some 1 := by kernel_rfl
theorem us2 : (Tryd.prog.underlying 2).isSome = true := by kernel_rfl
theorem us28 : (Tryd.prog.underlying 28).isSome = true := by kernel_rfl
theorem us3 : (Tryd.prog.underlying 3).isSome = true := by kernel_rfl
theorem us5 : (Tryd.prog.underlying 5).isSome = true := by kernel_rfl
theorem us68 : (Tryd.prog.underlying 68).isSome = true := by kernel_rfl
theorem zk102 : ∀ s, (kState : Kd (Bool × (BitVec 64 × BitVec 64))).rd s (Value.cl (.agg #[.bool false, .int .u64 0, .int .u64 0])) ((false, (0, 0))) := fun s => ⟨[.bool false], [.int .u64 0, .int .u64 0], rfl, rfl, ⟨[.int .u64 0], [.int .u64 0], rfl, rfl, rfl⟩⟩
theorem zk108 : ∀ s, (kState : Kd (Bool × (BitVec 64 × BitVec 64))).rd s (Value.cl (.agg #[.bool false, .int .u64 0, .int .u64 0])) ((false, (0, 0))) := fun s => ⟨[.bool false], [.int .u64 0, .int .u64 0], rfl, rfl, ⟨[.int .u64 0], [.int .u64 0], rfl, rfl, rfl⟩⟩
theorem zk141 : ∀ s, (kField : Kd (ByteArray × Int × Int × Int)).rd s (Value.cl (.agg #[.string .empty, .int .i8 0, .int .i16 0, .int .i16 0])) ((.empty, 0, 0, 0)) := fun s => ⟨[.string .empty], [.int .i8 0, .int .i16 0, .int .i16 0], rfl, ⟨rfl, by decide⟩, ⟨[.int .i8 0], [.int .i16 0, .int .i16 0], rfl, ⟨rfl, inRb_of rfl⟩, ⟨[.int .i16 0], [.int .i16 0], rfl, ⟨rfl, inRb_of rfl⟩, ⟨rfl, inRb_of rfl⟩⟩⟩⟩
theorem zk163 : ∀ s, ((Kd.pair (Kd.slice (Kd.int .u8)) (Kd.pair (Kd.int .i64) Kd.u64)) : Kd (List (Int) × Int × BitVec 64)).rd s (Value.cl (.agg #[.slice none 0 0, .int .i64 0, .int .u64 0])) (([], 0, 0)) := fun s => ⟨[.slice none 0 0], [.int .i64 0, .int .u64 0], rfl, ⟨none, 0, rfl, Nat.le_refl _, by decide, fun h => absurd h (by decide)⟩, ⟨[.int .i64 0], [.int .u64 0], rfl, ⟨rfl, inRb_of rfl⟩, rfl⟩⟩
theorem zk2 : ∀ s, ((Kd.int .i64) : Kd (Int)).rd s (Value.cl (.int .i64 0)) (0) := fun s => ⟨rfl, inRb_of rfl⟩
theorem zk214 : ∀ s, ((Kd.arr 256 Kd.bool) : Kd (List (Bool))).rd s (Value.cl (.agg (List.replicate 256 (.bool false)).toArray)) ((List.replicate 256 false)) := zarr 256 (fun s => rfl)
theorem zk26 : ∀ s, ((Kd.slice kCard) : Kd (List (ByteArray × (BitVec 64 × BitVec 64)))).rd s (Value.cl (.slice none 0 0)) ([]) := fun s => ⟨none, 0, rfl, Nat.le_refl _, by decide, fun h => absurd h (by decide)⟩
theorem zk30 : ∀ s, (kMask : Kd (BitVec 64 × BitVec 64)).rd s (Value.cl (.agg #[.int .u64 0, .int .u64 0])) ((0, 0)) := fun s => ⟨[.int .u64 0], [.int .u64 0], rfl, rfl, rfl⟩
theorem zk42 : ∀ s, (kCard : Kd (ByteArray × (BitVec 64 × BitVec 64))).rd s (Value.cl (.agg #[.string .empty, .int .u64 0, .int .u64 0])) ((.empty, (0, 0))) := fun s => ⟨[.string .empty], [.int .u64 0, .int .u64 0], rfl, ⟨rfl, by decide⟩, ⟨[.int .u64 0], [.int .u64 0], rfl, rfl, rfl⟩⟩
theorem zk9 : ∀ s, (Kd.str : Kd (ByteArray)).rd s (Value.cl (.string .empty)) (.empty) := fun s => ⟨rfl, by decide⟩
theorem zr102 : zeroT Tryd.prog 102 = some (.agg #[.bool false, .int .u64 0, .int .u64 0]) := by kernel_rfl
theorem zr108 : zeroT Tryd.prog 108 = some (.agg #[.bool false, .int .u64 0, .int .u64 0]) := by kernel_rfl
theorem zr141 : zeroT Tryd.prog 141 = some (.agg #[.string .empty, .int .i8 0, .int .i16 0, .int .i16 0]) := by kernel_rfl
theorem zr163 : zeroT Tryd.prog 163 = some (.agg #[.slice none 0 0, .int .i64 0, .int .u64 0]) := by kernel_rfl
theorem zr2 : zeroT Tryd.prog 2 = some (.int .i64 0) := by kernel_rfl
theorem zr214 : zeroT Tryd.prog 214 = some (.agg (List.replicate 256 (.bool false)).toArray) := by kernel_rfl
theorem zr26 : zeroT Tryd.prog 26 = some (.slice none 0 0) := by kernel_rfl
theorem zr30 : zeroT Tryd.prog 30 = some (.agg #[.int .u64 0, .int .u64 0]) := by kernel_rfl
theorem zr42 : zeroT Tryd.prog 42 = some (.agg #[.string .empty, .int .u64 0, .int .u64 0]) := by kernel_rfl
theorem zr9 : zeroT Tryd.prog 9 = some (.string .empty) := by kernel_rfl
theorem sb102_0 : Sub (kState : Kd (Bool × (BitVec 64 × BitVec 64))) 0 Kd.bool (fun x => x.1) (fun x y => (y, x.2)) := Sub.fst
theorem sb102_1 : Sub (kState : Kd (Bool × (BitVec 64 × BitVec 64))) 1 kMask (fun x => x.2) (fun x y => (x.1, y)) := Sub.snd (Sub.whole _)
theorem sb108_0 : Sub (kState : Kd (Bool × (BitVec 64 × BitVec 64))) 0 Kd.bool (fun x => x.1) (fun x y => (y, x.2)) := Sub.fst
theorem sb108_1 : Sub (kState : Kd (Bool × (BitVec 64 × BitVec 64))) 1 kMask (fun x => x.2) (fun x y => (x.1, y)) := Sub.snd (Sub.whole _)
theorem sb141_0 : Sub (kField : Kd (ByteArray × Int × Int × Int)) 0 Kd.str (fun x => x.1) (fun x y => (y, x.2.1, x.2.2.1, x.2.2.2)) := Sub.fst
theorem sb141_1 : Sub (kField : Kd (ByteArray × Int × Int × Int)) 1 (Kd.int .i8) (fun x => x.2.1) (fun x y => (x.1, y, x.2.2.1, x.2.2.2)) := Sub.snd (Sub.fst)
theorem sb141_2 : Sub (kField : Kd (ByteArray × Int × Int × Int)) 2 (Kd.int .i16) (fun x => x.2.2.1) (fun x y => (x.1, x.2.1, y, x.2.2.2)) := Sub.snd (Sub.snd (Sub.fst))
theorem sb141_3 : Sub (kField : Kd (ByteArray × Int × Int × Int)) 3 (Kd.int .i16) (fun x => x.2.2.2) (fun x y => (x.1, x.2.1, x.2.2.1, y)) := Sub.snd (Sub.snd (Sub.snd (Sub.whole _)))
theorem sb163_0 : Sub ((Kd.pair (Kd.slice (Kd.int .u8)) (Kd.pair (Kd.int .i64) Kd.u64)) : Kd (List (Int) × Int × BitVec 64)) 0 (Kd.slice (Kd.int .u8)) (fun x => x.1) (fun x y => (y, x.2.1, x.2.2)) := Sub.fst
theorem sb163_1 : Sub ((Kd.pair (Kd.slice (Kd.int .u8)) (Kd.pair (Kd.int .i64) Kd.u64)) : Kd (List (Int) × Int × BitVec 64)) 1 (Kd.int .i64) (fun x => x.2.1) (fun x y => (x.1, y, x.2.2)) := Sub.snd (Sub.fst)
theorem sb163_2 : Sub ((Kd.pair (Kd.slice (Kd.int .u8)) (Kd.pair (Kd.int .i64) Kd.u64)) : Kd (List (Int) × Int × BitVec 64)) 2 Kd.u64 (fun x => x.2.2) (fun x y => (x.1, x.2.1, y)) := Sub.snd (Sub.snd (Sub.whole _))
theorem sb42_0 : Sub (kCard : Kd (ByteArray × (BitVec 64 × BitVec 64))) 0 Kd.str (fun x => x.1) (fun x y => (y, x.2)) := Sub.fst
theorem sb42_1 : Sub (kCard : Kd (ByteArray × (BitVec 64 × BitVec 64))) 1 kMask (fun x => x.2) (fun x y => (x.1, y)) := Sub.snd (Sub.whole _)
theorem sx30_0 : Sub (kMask : Kd (BitVec 64 × BitVec 64)) (Int.toNat 0 * 1) Kd.u64 (fun x => x.1) (fun x y => (y, x.2)) := Sub.fst
theorem sx30_1 : Sub (kMask : Kd (BitVec 64 × BitVec 64)) (Int.toNat 1 * 1) Kd.u64 (fun x => x.2) (fun x y => (x.1, y)) := Sub.snd (Sub.whole _)
theorem eq28 : EqT Tryd.prog 28 (Kd.u64 : Kd (BitVec 64)) 1 := EqT.u64 Tryd.underlying28 sz28
theorem eq30 : EqT Tryd.prog 30 (kMask : Kd (BitVec 64 × BitVec 64)) 2 := EqT.two Tryd.underlying30 sz30 (by kernel_rfl) eq28
theorem eq9 : EqT Tryd.prog 9 (Kd.str : Kd (ByteArray)) 1 := EqT.str Tryd.underlying9 sz9
theorem eq42 : EqT Tryd.prog 42 (kCard : Kd (ByteArray × (BitVec 64 × BitVec 64))) 3 := EqT.struct Tryd.underlying42 sz42 (by kernel_rfl) (EqFs.cons (r := 2) rfl rfl eq9 (EqFs.one rfl rfl eq30) rfl rfl)
theorem eq4 : EqT Tryd.prog 4 (Kd.bool : Kd (Bool)) 1 := EqT.bool Tryd.underlying4 sz4
theorem eq102 : EqT Tryd.prog 102 (kState : Kd (Bool × (BitVec 64 × BitVec 64))) 3 := EqT.struct Tryd.underlying102 sz102 (by kernel_rfl) (EqFs.cons (r := 2) rfl rfl eq4 (EqFs.one rfl rfl eq30) rfl rfl)
theorem eq108 : EqT Tryd.prog 108 (kState : Kd (Bool × (BitVec 64 × BitVec 64))) 3 := EqT.struct Tryd.underlying108 sz108 (by kernel_rfl) (EqFs.cons (r := 2) rfl rfl eq4 (EqFs.one rfl rfl eq30) rfl rfl)
end Go.Proofs.YtohcpnobmknglaaDoor.VL
