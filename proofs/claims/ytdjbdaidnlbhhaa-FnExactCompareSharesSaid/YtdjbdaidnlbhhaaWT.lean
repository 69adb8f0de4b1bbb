/- Proved here: what the table of types of the program says. Printed by program. -/
import Derived.Test.YtdjbdaidnlbhhaaPB
import Derived.Test.YtdjbdaidnlbhhaaVP
import Derived.Test.YtdjbdaidnlbhhaaProg
set_option linter.unusedVariables false
set_option linter.unusedSimpArgs false
set_option maxRecDepth 4000
namespace Go.Proofs.Ytdjbdaidnlbhhaa.VL
open Go
theorem fomo : Try.prog.follows .mixedOrders = true := by kernel_rfl
theorem fd35_1 : fldT Try.prog 35 1 = some (31, 1) := by kernel_rfl
theorem sz31 : sizeT Try.prog 31 = some 1 := by kernel_rfl
theorem ag31 : aggT Try.prog 31 = some false := by kernel_rfl
theorem us31 : (Try.prog.underlying 31).isSome = true := by kernel_rfl
theorem fd35_2 : fldT Try.prog 35 2 = some (31, 2) := by kernel_rfl
theorem fd35_0 : fldT Try.prog 35 0 = some (31, 0) := by kernel_rfl
theorem zr35 : zeroT Try.prog 35 = some (.agg #[.int .i16 0, .int .i16 0, .int .i16 0]) := by kernel_rfl
theorem zk35 : ∀ s, (kMix : Kd (Int × Int × Int)).rd s (Value.cl (.agg #[.int .i16 0, .int .i16 0, .int .i16 0])) ((0, 0, 0)) := fun s => ⟨[.int .i16 0], [.int .i16 0, .int .i16 0], rfl, ⟨rfl, inRb_of rfl⟩, ⟨[.int .i16 0], [.int .i16 0], rfl, ⟨rfl, inRb_of rfl⟩, ⟨rfl, inRb_of rfl⟩⟩⟩
theorem fd33_0 : fldT Try.prog 33 0 = some (31, 0) := by kernel_rfl
theorem fd33_1 : fldT Try.prog 33 1 = some (31, 1) := by kernel_rfl
theorem fd33_2 : fldT Try.prog 33 2 = some (31, 2) := by kernel_rfl
theorem sz35 : sizeT Try.prog 35 = some 3 := by kernel_rfl
theorem ag35 : aggT Try.prog 35 = some true := by kernel_rfl
theorem sz33 : sizeT Try.prog 33 = some 3 := by kernel_rfl
theorem ag33 : aggT Try.prog 33 = some true := by kernel_rfl
theorem zr41 : zeroT Try.prog 41 = some (.agg #[.int .u64 0, .int .u64 0]) := by kernel_rfl
theorem zk41 : ∀ s, (kMask : Kd (BitVec 64 × BitVec 64)).rd s (Value.cl (.agg #[.int .u64 0, .int .u64 0])) ((0, 0)) := fun s => ⟨[.int .u64 0], [.int .u64 0], rfl, rfl, rfl⟩
theorem ar39 : arT Try.prog 39 = some (2, 38) := by kernel_rfl
theorem sz38 : sizeT Try.prog 38 = some 1 := by kernel_rfl
theorem ag38 : aggT Try.prog 38 = some false := by kernel_rfl
theorem ar41 : arT Try.prog 41 = some (2, 38) := by kernel_rfl
theorem sz41 : sizeT Try.prog 41 = some 2 := by kernel_rfl
theorem ag41 : aggT Try.prog 41 = some true := by kernel_rfl
theorem us38 : (Try.prog.underlying 38).isSome = true := by kernel_rfl
theorem sz39 : sizeT Try.prog 39 = some 2 := by kernel_rfl
theorem ag39 : aggT Try.prog 39 = some true := by kernel_rfl
theorem zr23 : zeroT Try.prog 23 = some (.agg #[.int .i64 0, .int .i64 0]) := by kernel_rfl
theorem zk23 : ∀ s, (kShare : Kd (Int × Int)).rd s (Value.cl (.agg #[.int .i64 0, .int .i64 0])) ((0, 0)) := fun s => ⟨[.int .i64 0], [.int .i64 0], rfl, ⟨rfl, inRb_of rfl⟩, ⟨rfl, inRb_of rfl⟩⟩
theorem fd44_0 : fldT Try.prog 44 0 = some (2, 0) := by kernel_rfl
theorem sz2 : sizeT Try.prog 2 = some 1 := by kernel_rfl
theorem ag2 : aggT Try.prog 2 = some false := by kernel_rfl
theorem fd23_0 : fldT Try.prog 23 0 = some (2, 0) := by kernel_rfl
theorem fd44_1 : fldT Try.prog 44 1 = some (2, 1) := by kernel_rfl
theorem fd23_1 : fldT Try.prog 23 1 = some (2, 1) := by kernel_rfl
theorem sz23 : sizeT Try.prog 23 = some 2 := by kernel_rfl
theorem ag23 : aggT Try.prog 23 = some true := by kernel_rfl
theorem sz44 : sizeT Try.prog 44 = some 2 := by kernel_rfl
theorem ag44 : aggT Try.prog 44 = some true := by kernel_rfl
theorem sb35_1 : Sub (kMix : Kd (Int × Int × Int)) 1 (Kd.int .i16) (fun x => x.2.1) (fun x y => (x.1, y, x.2.2)) := Sub.snd (Sub.fst)
theorem sb35_2 : Sub (kMix : Kd (Int × Int × Int)) 2 (Kd.int .i16) (fun x => x.2.2) (fun x y => (x.1, x.2.1, y)) := Sub.snd (Sub.snd (Sub.whole _))
theorem sb35_0 : Sub (kMix : Kd (Int × Int × Int)) 0 (Kd.int .i16) (fun x => x.1) (fun x y => (y, x.2.1, x.2.2)) := Sub.fst
theorem sb33_0 : Sub (kMix : Kd (Int × Int × Int)) 0 (Kd.int .i16) (fun x => x.1) (fun x y => (y, x.2.1, x.2.2)) := Sub.fst
theorem sb33_1 : Sub (kMix : Kd (Int × Int × Int)) 1 (Kd.int .i16) (fun x => x.2.1) (fun x y => (x.1, y, x.2.2)) := Sub.snd (Sub.fst)
theorem sb33_2 : Sub (kMix : Kd (Int × Int × Int)) 2 (Kd.int .i16) (fun x => x.2.2) (fun x y => (x.1, x.2.1, y)) := Sub.snd (Sub.snd (Sub.whole _))
theorem sx41_1 : Sub (kMask : Kd (BitVec 64 × BitVec 64)) (Int.toNat 1 * 1) Kd.u64 (fun x => x.2) (fun x y => (x.1, y)) := Sub.snd (Sub.whole _)
theorem sx41_0 : Sub (kMask : Kd (BitVec 64 × BitVec 64)) (Int.toNat 0 * 1) Kd.u64 (fun x => x.1) (fun x y => (y, x.2)) := Sub.fst
theorem sb44_0 : Sub (kShare : Kd (Int × Int)) 0 (Kd.int .i64) (fun x => x.1) (fun x y => (y, x.2)) := Sub.fst
theorem sb23_0 : Sub (kShare : Kd (Int × Int)) 0 (Kd.int .i64) (fun x => x.1) (fun x y => (y, x.2)) := Sub.fst
theorem sb44_1 : Sub (kShare : Kd (Int × Int)) 1 (Kd.int .i64) (fun x => x.2) (fun x y => (x.1, y)) := Sub.snd (Sub.whole _)
theorem sb23_1 : Sub (kShare : Kd (Int × Int)) 1 (Kd.int .i64) (fun x => x.2) (fun x y => (x.1, y)) := Sub.snd (Sub.whole _)
end Go.Proofs.Ytdjbdaidnlbhhaa.VL
