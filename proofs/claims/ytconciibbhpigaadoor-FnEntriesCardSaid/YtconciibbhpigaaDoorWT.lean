/- Proved here: what the table of types of the program says. Printed by program. -/
import Derived.Test.YtconciibbhpigaaDoorBpa
import Derived.Test.YtconciibbhpigaaDoorBvb
import Derived.Test.YtconciibbhpigaaDoorVLC
import Derived.Test.YtconciibbhpigaaDoorVLD
import Derived.Test.YtconciibbhpigaaDoorProg
set_option linter.unusedVariables false
set_option linter.unusedSimpArgs false
set_option maxRecDepth 4000
namespace Go.Proofs.YtconciibbhpigaaDoor.VL
open Go
theorem fomo : Tryd.prog.follows .mixedOrders = true := by kernel_rfl
theorem ag2 : aggT Tryd.prog 2 = some false := by kernel_rfl
theorem ag22 : aggT Tryd.prog 22 = some false := by kernel_rfl
theorem ag3 : aggT Tryd.prog 3 = some false := by kernel_rfl
theorem ag38 : aggT Tryd.prog 38 = some true := by kernel_rfl
theorem ag4 : aggT Tryd.prog 4 = some false := by kernel_rfl
theorem ag5 : aggT Tryd.prog 5 = some false := by kernel_rfl
theorem ag60 : aggT Tryd.prog 60 = some false := by kernel_rfl
theorem ag83 : aggT Tryd.prog 83 = some true := by kernel_rfl
theorem ag9 : aggT Tryd.prog 9 = some false := by kernel_rfl
theorem ar83 : arT Tryd.prog 83 = some (256, 4) := by kernel_rfl
theorem by2 : bytesT Tryd.prog 2 = some 8 := by kernel_rfl
theorem by38 : bytesT Tryd.prog 38 = some 32 := by kernel_rfl
theorem by9 : bytesT Tryd.prog 9 = some 16 := by kernel_rfl
theorem eg38 : Program.eqGuardType Tryd.prog (Program.depth Tryd.prog) 38 = false := by kernel_rfl
theorem el22 : elT Tryd.prog 22 = some 5 := by kernel_rfl
theorem el24 : elT Tryd.prog 24 = some 38 := by kernel_rfl
theorem el32 : elT Tryd.prog 32 = some 2 := by kernel_rfl
theorem el47 : elT Tryd.prog 47 = some 9 := by kernel_rfl
theorem fd38_0 : fldT Tryd.prog 38 0 = some (9, 0) := by kernel_rfl
theorem fd38_1 : fldT Tryd.prog 38 1 = some (2, 1) := by kernel_rfl
theorem fd38_2 : fldT Tryd.prog 38 2 = some (2, 2) := by kernel_rfl
theorem fd62_0 : fldT Tryd.prog 62 0 = some (22, 0) := by kernel_rfl
theorem fd62_1 : fldT Tryd.prog 62 1 = some (3, 1) := by kernel_rfl
theorem fd62_2 : fldT Tryd.prog 62 2 = some (60, 2) := by kernel_rfl
theorem pl38 : plT Tryd.prog 38 = some [(0, 1), (1, 1), (2, 1)] := by kernel_rfl
theorem pl62 : plT Tryd.prog 62 = some [(0, 1), (1, 1), (2, 1)] := by kernel_rfl
theorem sz2 : sizeT Tryd.prog 2 = some 1 := by kernel_rfl
theorem sz22 : sizeT Tryd.prog 22 = some 1 := by kernel_rfl
theorem sz3 : sizeT Tryd.prog 3 = some 1 := by kernel_rfl
theorem sz38 : sizeT Tryd.prog 38 = some 3 := by kernel_rfl
theorem sz4 : sizeT Tryd.prog 4 = some 1 := by kernel_rfl
theorem sz5 : sizeT Tryd.prog 5 = some 1 := by kernel_rfl
theorem sz60 : sizeT Tryd.prog 60 = some 1 := by kernel_rfl
theorem sz83 : sizeT Tryd.prog 83 = some 256 := by kernel_rfl
theorem sz9 : sizeT Tryd.prog 9 = some 1 := by kernel_rfl
theorem us3 : (Tryd.prog.underlying 3).isSome = true := by kernel_rfl
theorem us5 : (Tryd.prog.underlying 5).isSome = true := by kernel_rfl
theorem us60 : (Tryd.prog.underlying 60).isSome = true := by kernel_rfl
theorem zk2 : ∀ s, ((Kd.int .i64) : Kd (Int)).rd s (Value.cl (.int .i64 0)) (0) := fun s => ⟨rfl, inRb_of rfl⟩
theorem zk38 : ∀ s, (kEnt : Kd (ByteArray × Int × Int)).rd s (Value.cl (.agg #[.string .empty, .int .i64 0, .int .i64 0])) ((.empty, 0, 0)) := fun s => ⟨[.string .empty], [.int .i64 0, .int .i64 0], rfl, ⟨rfl, by decide⟩, ⟨[.int .i64 0], [.int .i64 0], rfl, ⟨rfl, inRb_of rfl⟩, ⟨rfl, inRb_of rfl⟩⟩⟩
theorem zk62 : ∀ s, ((Kd.pair (Kd.slice (Kd.int .u8)) (Kd.pair (Kd.int .i64) Kd.u64)) : Kd (List (Int) × Int × BitVec 64)).rd s (Value.cl (.agg #[.slice none 0 0, .int .i64 0, .int .u64 0])) (([], 0, 0)) := fun s => ⟨[.slice none 0 0], [.int .i64 0, .int .u64 0], rfl, ⟨none, 0, rfl, Nat.le_refl _, by decide, fun h => absurd h (by decide)⟩, ⟨[.int .i64 0], [.int .u64 0], rfl, ⟨rfl, inRb_of rfl⟩, rfl⟩⟩
theorem zk83 : ∀ s, ((Kd.arr 256 Kd.bool) : Kd (List (Bool))).rd s (Value.cl (.agg (List.replicate 256 (.bool false)).toArray)) ((List.replicate 256 false)) := zarr 256 (fun s => rfl)
theorem zk9 : ∀ s, (Kd.str : Kd (ByteArray)).rd s (Value.cl (.string .empty)) (.empty) := fun s => ⟨rfl, by decide⟩
theorem zr2 : zeroT Tryd.prog 2 = some (.int .i64 0) := by kernel_rfl
theorem zr38 : zeroT Tryd.prog 38 = some (.agg #[.string .empty, .int .i64 0, .int .i64 0]) := by kernel_rfl
theorem zr62 : zeroT Tryd.prog 62 = some (.agg #[.slice none 0 0, .int .i64 0, .int .u64 0]) := by kernel_rfl
theorem zr83 : zeroT Tryd.prog 83 = some (.agg (List.replicate 256 (.bool false)).toArray) := by kernel_rfl
theorem zr9 : zeroT Tryd.prog 9 = some (.string .empty) := by kernel_rfl
theorem sb38_0 : Sub (kEnt : Kd (ByteArray × Int × Int)) 0 Kd.str (fun x => x.1) (fun x y => (y, x.2.1, x.2.2)) := Sub.fst
theorem sb38_1 : Sub (kEnt : Kd (ByteArray × Int × Int)) 1 (Kd.int .i64) (fun x => x.2.1) (fun x y => (x.1, y, x.2.2)) := Sub.snd (Sub.fst)
theorem sb38_2 : Sub (kEnt : Kd (ByteArray × Int × Int)) 2 (Kd.int .i64) (fun x => x.2.2) (fun x y => (x.1, x.2.1, y)) := Sub.snd (Sub.snd (Sub.whole _))
theorem sb62_0 : Sub ((Kd.pair (Kd.slice (Kd.int .u8)) (Kd.pair (Kd.int .i64) Kd.u64)) : Kd (List (Int) × Int × BitVec 64)) 0 (Kd.slice (Kd.int .u8)) (fun x => x.1) (fun x y => (y, x.2.1, x.2.2)) := Sub.fst
theorem sb62_1 : Sub ((Kd.pair (Kd.slice (Kd.int .u8)) (Kd.pair (Kd.int .i64) Kd.u64)) : Kd (List (Int) × Int × BitVec 64)) 1 (Kd.int .i64) (fun x => x.2.1) (fun x y => (x.1, y, x.2.2)) := Sub.snd (Sub.fst)
theorem sb62_2 : Sub ((Kd.pair (Kd.slice (Kd.int .u8)) (Kd.pair (Kd.int .i64) Kd.u64)) : Kd (List (Int) × Int × BitVec 64)) 2 Kd.u64 (fun x => x.2.2) (fun x y => (x.1, x.2.1, y)) := Sub.snd (Sub.snd (Sub.whole _))
theorem eq2 : EqT Tryd.prog 2 ((Kd.int .i64) : Kd (Int)) 1 := EqT.int Tryd.underlying2 sz2
theorem eq9 : EqT Tryd.prog 9 (Kd.str : Kd (ByteArray)) 1 := EqT.str Tryd.underlying9 sz9
theorem eq38 : EqT Tryd.prog 38 (kEnt : Kd (ByteArray × Int × Int)) 2 := EqT.struct Tryd.underlying38 sz38 (by kernel_rfl) (EqFs.cons (r := 1) rfl rfl eq9 (EqFs.cons (r := 1) rfl rfl eq2 (EqFs.one rfl rfl eq2) rfl rfl) rfl rfl)
end Go.Proofs.YtconciibbhpigaaDoor.VL
