/- Proved here: what the table of types of the program says. Printed by program. -/
import Derived.Test.YtdjbdaidnlbhhaaPD
import Derived.Test.YtdjbdaidnlbhhaaVQ
import Derived.Test.YtdjbdaidnlbhhaaProg
set_option linter.unusedVariables false
set_option linter.unusedSimpArgs false
set_option maxRecDepth 4000
namespace Go.Proofs.Ytdjbdaidnlbhhaa.VL
open Go
theorem fomo : Try.prog.follows .mixedOrders = true := by kernel_rfl
theorem fd35_1 : fldT Try.prog 35 1 = some (31, 1) := by kernel_rfl
theorem sz31 : sizeT Try.prog 31 = some 1 := by kernel_rfl
theorem ag31 : aggT Try.prog 31 = some false := by kernel_rfl
theorem us31 : (Try.prog.underlying 31).isSome = true := by kernel_rfl
theorem fd35_2 : fldT Try.prog 35 2 = some (31, 2) := by kernel_rfl
theorem fd35_0 : fldT Try.prog 35 0 = some (31, 0) := by kernel_rfl
theorem zr35 : zeroT Try.prog 35 = some (.agg #[.int .i16 0, .int .i16 0, .int .i16 0]) := by kernel_rfl
theorem zk35 : ∀ s, (kMix : Kd (Int × Int × Int)).rd s (Value.cl (.agg #[.int .i16 0, .int .i16 0, .int .i16 0])) ((0, 0, 0)) := fun s => ⟨[.int .i16 0], [.int .i16 0, .int .i16 0], rfl, ⟨rfl, inRb_of rfl⟩, ⟨[.int .i16 0], [.int .i16 0], rfl, ⟨rfl, inRb_of rfl⟩, ⟨rfl, inRb_of rfl⟩⟩⟩
theorem fd33_0 : fldT Try.prog 33 0 = some (31, 0) := by kernel_rfl
theorem fd33_1 : fldT Try.prog 33 1 = some (31, 1) := by kernel_rfl
theorem fd33_2 : fldT Try.prog 33 2 = some (31, 2) := by kernel_rfl
theorem sz35 : sizeT Try.prog 35 = some 3 := by kernel_rfl
theorem ag35 : aggT Try.prog 35 = some true := by kernel_rfl
theorem sz33 : sizeT Try.prog 33 = some 3 := by kernel_rfl
theorem ag33 : aggT Try.prog 33 = some true := by kernel_rfl
theorem zr41 : zeroT Try.prog 41 = some (.agg #[.int .u64 0, .int .u64 0]) := by kernel_rfl
theorem zk41 : ∀ s, (kMask : Kd (BitVec 64 × BitVec 64)).rd s (Value.cl (.agg #[.int .u64 0, .int .u64 0])) ((0, 0)) := fun s => ⟨[.int .u64 0], [.int .u64 0], rfl, rfl, rfl⟩
theorem ar39 : arT Try.prog 39 = some (2, 38) := by kernel_rfl
theorem sz38 : sizeT Try.prog 38 = some 1 := by kernel_rfl
theorem ag38 : aggT Try.prog 38 = some false := by kernel_rfl
theorem ar41 : arT Try.prog 41 = some (2, 38) := by kernel_rfl
theorem sz41 : sizeT Try.prog 41 = some 2 := by kernel_rfl
theorem ag41 : aggT Try.prog 41 = some true := by kernel_rfl
theorem us38 : (Try.prog.underlying 38).isSome = true := by kernel_rfl
theorem sz39 : sizeT Try.prog 39 = some 2 := by kernel_rfl
theorem ag39 : aggT Try.prog 39 = some true := by kernel_rfl
theorem zr23 : zeroT Try.prog 23 = some (.agg #[.int .i64 0, .int .i64 0]) := by kernel_rfl
theorem zk23 : ∀ s, (kShare : Kd (Int × Int)).rd s (Value.cl (.agg #[.int .i64 0, .int .i64 0])) ((0, 0)) := fun s => ⟨[.int .i64 0], [.int .i64 0], rfl, ⟨rfl, inRb_of rfl⟩, ⟨rfl, inRb_of rfl⟩⟩
theorem fd44_0 : fldT Try.prog 44 0 = some (2, 0) := by kernel_rfl
theorem sz2 : sizeT Try.prog 2 = some 1 := by kernel_rfl
theorem ag2 : aggT Try.prog 2 = some false := by kernel_rfl
theorem fd23_0 : fldT Try.prog 23 0 = some (2, 0) := by kernel_rfl
theorem fd44_1 : fldT Try.prog 44 1 = some (2, 1) := by kernel_rfl
theorem fd23_1 : fldT Try.prog 23 1 = some (2, 1) := by kernel_rfl
theorem sz23 : sizeT Try.prog 23 = some 2 := by kernel_rfl
theorem ag23 : aggT Try.prog 23 = some true := by kernel_rfl
theorem sz44 : sizeT Try.prog 44 = some 2 := by kernel_rfl
theorem ag44 : aggT Try.prog 44 = some true := by kernel_rfl
theorem el50 : elT Try.prog 50 = some 2 := by kernel_rfl
theorem el51 : elT Try.prog 51 = some 121 := by kernel_rfl
theorem el58 : elT Try.prog 58 = some 98 := by kernel_rfl
theorem sz98 : sizeT Try.prog 98 = some 2 := by kernel_rfl
theorem ag98 : aggT Try.prog 98 = some true := by kernel_rfl
theorem eg98 : Program.eqGuardType Try.prog (Program.depth Try.prog) 98 = false := by kernel_rfl
theorem fd98_0 : fldT Try.prog 98 0 = some (2, 0) := by kernel_rfl
theorem fd98_1 : fldT Try.prog 98 1 = some (31, 1) := by kernel_rfl
theorem zr2 : zeroT Try.prog 2 = some (.int .i64 0) := by kernel_rfl
theorem zk2 : ∀ s, ((Kd.int .i64) : Kd (Int)).rd s (Value.cl (.int .i64 0)) (0) := fun s => ⟨rfl, inRb_of rfl⟩
theorem by2 : bytesT Try.prog 2 = some 8 := by kernel_rfl
theorem zr98 : zeroT Try.prog 98 = some (.agg #[.int .i64 0, .int .i16 0]) := by kernel_rfl
theorem zk98 : ∀ s, (kWit : Kd (Int × Int)).rd s (Value.cl (.agg #[.int .i64 0, .int .i16 0])) ((0, 0)) := fun s => ⟨[.int .i64 0], [.int .i16 0], rfl, ⟨rfl, inRb_of rfl⟩, ⟨rfl, inRb_of rfl⟩⟩
theorem fd121_0 : fldT Try.prog 121 0 = some (2, 0) := by kernel_rfl
theorem fd121_1 : fldT Try.prog 121 1 = some (31, 1) := by kernel_rfl
theorem by98 : bytesT Try.prog 98 = some 16 := by kernel_rfl
theorem sz121 : sizeT Try.prog 121 = some 2 := by kernel_rfl
theorem ag121 : aggT Try.prog 121 = some true := by kernel_rfl
theorem fd57_0 : fldT Try.prog 57 0 = some (41, 0) := by kernel_rfl
theorem fd57_1 : fldT Try.prog 57 1 = some (41, 2) := by kernel_rfl
theorem fd60_0 : fldT Try.prog 60 0 = some (57, 0) := by kernel_rfl
theorem sz57 : sizeT Try.prog 57 = some 4 := by kernel_rfl
theorem ag57 : aggT Try.prog 57 = some true := by kernel_rfl
theorem fd60_1 : fldT Try.prog 60 1 = some (50, 4) := by kernel_rfl
theorem sz50 : sizeT Try.prog 50 = some 1 := by kernel_rfl
theorem ag50 : aggT Try.prog 50 = some false := by kernel_rfl
theorem fd60_2 : fldT Try.prog 60 2 = some (58, 5) := by kernel_rfl
theorem sz58 : sizeT Try.prog 58 = some 1 := by kernel_rfl
theorem ag58 : aggT Try.prog 58 = some false := by kernel_rfl
theorem eg57 : Program.eqGuardType Try.prog (Program.depth Try.prog) 57 = false := by kernel_rfl
theorem zr57 : zeroT Try.prog 57 = some (.agg #[.int .u64 0, .int .u64 0, .int .u64 0, .int .u64 0]) := by kernel_rfl
theorem zk57 : ∀ s, (kQuery : Kd ((BitVec 64 × BitVec 64) × (BitVec 64 × BitVec 64))).rd s (Value.cl (.agg #[.int .u64 0, .int .u64 0, .int .u64 0, .int .u64 0])) (((0, 0), (0, 0))) := fun s => ⟨[.int .u64 0, .int .u64 0], [.int .u64 0, .int .u64 0], rfl, ⟨[.int .u64 0], [.int .u64 0], rfl, rfl, rfl⟩, ⟨[.int .u64 0], [.int .u64 0], rfl, rfl, rfl⟩⟩
theorem fd49_0 : fldT Try.prog 49 0 = some (39, 0) := by kernel_rfl
theorem fd49_1 : fldT Try.prog 49 1 = some (39, 2) := by kernel_rfl
theorem zr60 : zeroT Try.prog 60 = some (.agg #[.int .u64 0, .int .u64 0, .int .u64 0, .int .u64 0, .slice none 0 0, .slice none 0 0]) := by kernel_rfl
theorem zk60 : ∀ s, (kAns : Kd (((BitVec 64 × BitVec 64) × (BitVec 64 × BitVec 64)) × List (Int) × List (Int × Int))).rd s (Value.cl (.agg #[.int .u64 0, .int .u64 0, .int .u64 0, .int .u64 0, .slice none 0 0, .slice none 0 0])) ((((0, 0), (0, 0)), [], [])) := fun s => ⟨[.int .u64 0, .int .u64 0, .int .u64 0, .int .u64 0], [.slice none 0 0, .slice none 0 0], rfl, ⟨[.int .u64 0, .int .u64 0], [.int .u64 0, .int .u64 0], rfl, ⟨[.int .u64 0], [.int .u64 0], rfl, rfl, rfl⟩, ⟨[.int .u64 0], [.int .u64 0], rfl, rfl, rfl⟩⟩, ⟨[.slice none 0 0], [.slice none 0 0], rfl, ⟨none, 0, rfl, Nat.le_refl _, by decide, fun h => absurd h (by decide)⟩, ⟨none, 0, rfl, Nat.le_refl _, by decide, fun h => absurd h (by decide)⟩⟩⟩
theorem fd53_0 : fldT Try.prog 53 0 = some (49, 0) := by kernel_rfl
theorem sz49 : sizeT Try.prog 49 = some 4 := by kernel_rfl
theorem ag49 : aggT Try.prog 49 = some true := by kernel_rfl
theorem fd53_1 : fldT Try.prog 53 1 = some (50, 4) := by kernel_rfl
theorem fd53_2 : fldT Try.prog 53 2 = some (51, 5) := by kernel_rfl
theorem sz51 : sizeT Try.prog 51 = some 1 := by kernel_rfl
theorem ag51 : aggT Try.prog 51 = some false := by kernel_rfl
theorem sz60 : sizeT Try.prog 60 = some 6 := by kernel_rfl
theorem ag60 : aggT Try.prog 60 = some true := by kernel_rfl
theorem sz53 : sizeT Try.prog 53 = some 6 := by kernel_rfl
theorem ag53 : aggT Try.prog 53 = some true := by kernel_rfl
theorem el101 : elT Try.prog 101 = some 31 := by kernel_rfl
theorem zr31 : zeroT Try.prog 31 = some (.int .i16 0) := by kernel_rfl
theorem zk31 : ∀ s, ((Kd.int .i16) : Kd (Int)).rd s (Value.cl (.int .i16 0)) (0) := fun s => ⟨rfl, inRb_of rfl⟩
theorem by31 : bytesT Try.prog 31 = some 2 := by kernel_rfl
theorem zr106 : zeroT Try.prog 106 = some (.agg #[.int .i16 0, .slice none 0 0, .slice none 0 0, .slice none 0 0]) := by kernel_rfl
theorem zk106 : ∀ s, (kKnot : Kd (Int × List (Int) × List (Int) × List (Int))).rd s (Value.cl (.agg #[.int .i16 0, .slice none 0 0, .slice none 0 0, .slice none 0 0])) ((0, [], [], [])) := fun s => ⟨[.int .i16 0], [.slice none 0 0, .slice none 0 0, .slice none 0 0], rfl, ⟨rfl, inRb_of rfl⟩, ⟨[.slice none 0 0], [.slice none 0 0, .slice none 0 0], rfl, ⟨none, 0, rfl, Nat.le_refl _, by decide, fun h => absurd h (by decide)⟩, ⟨[.slice none 0 0], [.slice none 0 0], rfl, ⟨none, 0, rfl, Nat.le_refl _, by decide, fun h => absurd h (by decide)⟩, ⟨none, 0, rfl, Nat.le_refl _, by decide, fun h => absurd h (by decide)⟩⟩⟩⟩
theorem fd103_0 : fldT Try.prog 103 0 = some (31, 0) := by kernel_rfl
theorem fd106_0 : fldT Try.prog 106 0 = some (31, 0) := by kernel_rfl
theorem fd103_1 : fldT Try.prog 103 1 = some (50, 1) := by kernel_rfl
theorem fd106_1 : fldT Try.prog 106 1 = some (50, 1) := by kernel_rfl
theorem fd103_2 : fldT Try.prog 103 2 = some (101, 2) := by kernel_rfl
theorem sz101 : sizeT Try.prog 101 = some 1 := by kernel_rfl
theorem ag101 : aggT Try.prog 101 = some false := by kernel_rfl
theorem fd106_2 : fldT Try.prog 106 2 = some (101, 2) := by kernel_rfl
theorem fd103_3 : fldT Try.prog 103 3 = some (50, 3) := by kernel_rfl
theorem fd106_3 : fldT Try.prog 106 3 = some (50, 3) := by kernel_rfl
theorem sz106 : sizeT Try.prog 106 = some 4 := by kernel_rfl
theorem ag106 : aggT Try.prog 106 = some true := by kernel_rfl
theorem el63 : elT Try.prog 63 = some 103 := by kernel_rfl
theorem el66 : elT Try.prog 66 = some 106 := by kernel_rfl
theorem by106 : bytesT Try.prog 106 = some 80 := by kernel_rfl
theorem sz103 : sizeT Try.prog 103 = some 4 := by kernel_rfl
theorem ag103 : aggT Try.prog 103 = some true := by kernel_rfl
theorem sb35_1 : Sub (kMix : Kd (Int × Int × Int)) 1 (Kd.int .i16) (fun x => x.2.1) (fun x y => (x.1, y, x.2.2)) := Sub.snd (Sub.fst)
theorem sb35_2 : Sub (kMix : Kd (Int × Int × Int)) 2 (Kd.int .i16) (fun x => x.2.2) (fun x y => (x.1, x.2.1, y)) := Sub.snd (Sub.snd (Sub.whole _))
theorem sb35_0 : Sub (kMix : Kd (Int × Int × Int)) 0 (Kd.int .i16) (fun x => x.1) (fun x y => (y, x.2.1, x.2.2)) := Sub.fst
theorem sb33_0 : Sub (kMix : Kd (Int × Int × Int)) 0 (Kd.int .i16) (fun x => x.1) (fun x y => (y, x.2.1, x.2.2)) := Sub.fst
theorem sb33_1 : Sub (kMix : Kd (Int × Int × Int)) 1 (Kd.int .i16) (fun x => x.2.1) (fun x y => (x.1, y, x.2.2)) := Sub.snd (Sub.fst)
theorem sb33_2 : Sub (kMix : Kd (Int × Int × Int)) 2 (Kd.int .i16) (fun x => x.2.2) (fun x y => (x.1, x.2.1, y)) := Sub.snd (Sub.snd (Sub.whole _))
theorem sx41_1 : Sub (kMask : Kd (BitVec 64 × BitVec 64)) (Int.toNat 1 * 1) Kd.u64 (fun x => x.2) (fun x y => (x.1, y)) := Sub.snd (Sub.whole _)
theorem sx41_0 : Sub (kMask : Kd (BitVec 64 × BitVec 64)) (Int.toNat 0 * 1) Kd.u64 (fun x => x.1) (fun x y => (y, x.2)) := Sub.fst
theorem sb44_0 : Sub (kShare : Kd (Int × Int)) 0 (Kd.int .i64) (fun x => x.1) (fun x y => (y, x.2)) := Sub.fst
theorem sb23_0 : Sub (kShare : Kd (Int × Int)) 0 (Kd.int .i64) (fun x => x.1) (fun x y => (y, x.2)) := Sub.fst
theorem sb44_1 : Sub (kShare : Kd (Int × Int)) 1 (Kd.int .i64) (fun x => x.2) (fun x y => (x.1, y)) := Sub.snd (Sub.whole _)
theorem sb23_1 : Sub (kShare : Kd (Int × Int)) 1 (Kd.int .i64) (fun x => x.2) (fun x y => (x.1, y)) := Sub.snd (Sub.whole _)
theorem sb98_0 : Sub (kWit : Kd (Int × Int)) 0 (Kd.int .i64) (fun x => x.1) (fun x y => (y, x.2)) := Sub.fst
theorem sb98_1 : Sub (kWit : Kd (Int × Int)) 1 (Kd.int .i16) (fun x => x.2) (fun x y => (x.1, y)) := Sub.snd (Sub.whole _)
theorem sb121_0 : Sub (kWit : Kd (Int × Int)) 0 (Kd.int .i64) (fun x => x.1) (fun x y => (y, x.2)) := Sub.fst
theorem sb121_1 : Sub (kWit : Kd (Int × Int)) 1 (Kd.int .i16) (fun x => x.2) (fun x y => (x.1, y)) := Sub.snd (Sub.whole _)
theorem sb57_0 : Sub (kQuery : Kd ((BitVec 64 × BitVec 64) × (BitVec 64 × BitVec 64))) 0 kMask (fun x => x.1) (fun x y => (y, x.2)) := Sub.fst
theorem sb57_1 : Sub (kQuery : Kd ((BitVec 64 × BitVec 64) × (BitVec 64 × BitVec 64))) 2 kMask (fun x => x.2) (fun x y => (x.1, y)) := Sub.snd (Sub.whole _)
theorem sb60_0 : Sub (kAns : Kd (((BitVec 64 × BitVec 64) × (BitVec 64 × BitVec 64)) × List (Int) × List (Int × Int))) 0 kQuery (fun x => x.1) (fun x y => (y, x.2.1, x.2.2)) := Sub.fst
theorem sb60_1 : Sub (kAns : Kd (((BitVec 64 × BitVec 64) × (BitVec 64 × BitVec 64)) × List (Int) × List (Int × Int))) 4 (Kd.slice (Kd.int .i64)) (fun x => x.2.1) (fun x y => (x.1, y, x.2.2)) := Sub.snd (Sub.fst)
theorem sb60_2 : Sub (kAns : Kd (((BitVec 64 × BitVec 64) × (BitVec 64 × BitVec 64)) × List (Int) × List (Int × Int))) 5 (Kd.slice kWit) (fun x => x.2.2) (fun x y => (x.1, x.2.1, y)) := Sub.snd (Sub.snd (Sub.whole _))
theorem sb49_0 : Sub (kQuery : Kd ((BitVec 64 × BitVec 64) × (BitVec 64 × BitVec 64))) 0 kMask (fun x => x.1) (fun x y => (y, x.2)) := Sub.fst
theorem sb49_1 : Sub (kQuery : Kd ((BitVec 64 × BitVec 64) × (BitVec 64 × BitVec 64))) 2 kMask (fun x => x.2) (fun x y => (x.1, y)) := Sub.snd (Sub.whole _)
theorem sb53_0 : Sub (kAns : Kd (((BitVec 64 × BitVec 64) × (BitVec 64 × BitVec 64)) × List (Int) × List (Int × Int))) 0 kQuery (fun x => x.1) (fun x y => (y, x.2.1, x.2.2)) := Sub.fst
theorem sb53_1 : Sub (kAns : Kd (((BitVec 64 × BitVec 64) × (BitVec 64 × BitVec 64)) × List (Int) × List (Int × Int))) 4 (Kd.slice (Kd.int .i64)) (fun x => x.2.1) (fun x y => (x.1, y, x.2.2)) := Sub.snd (Sub.fst)
theorem sb53_2 : Sub (kAns : Kd (((BitVec 64 × BitVec 64) × (BitVec 64 × BitVec 64)) × List (Int) × List (Int × Int))) 5 (Kd.slice kWit) (fun x => x.2.2) (fun x y => (x.1, x.2.1, y)) := Sub.snd (Sub.snd (Sub.whole _))
theorem sb103_0 : Sub (kKnot : Kd (Int × List (Int) × List (Int) × List (Int))) 0 (Kd.int .i16) (fun x => x.1) (fun x y => (y, x.2.1, x.2.2.1, x.2.2.2)) := Sub.fst
theorem sb106_0 : Sub (kKnot : Kd (Int × List (Int) × List (Int) × List (Int))) 0 (Kd.int .i16) (fun x => x.1) (fun x y => (y, x.2.1, x.2.2.1, x.2.2.2)) := Sub.fst
theorem sb103_1 : Sub (kKnot : Kd (Int × List (Int) × List (Int) × List (Int))) 1 (Kd.slice (Kd.int .i64)) (fun x => x.2.1) (fun x y => (x.1, y, x.2.2.1, x.2.2.2)) := Sub.snd (Sub.fst)
theorem sb106_1 : Sub (kKnot : Kd (Int × List (Int) × List (Int) × List (Int))) 1 (Kd.slice (Kd.int .i64)) (fun x => x.2.1) (fun x y => (x.1, y, x.2.2.1, x.2.2.2)) := Sub.snd (Sub.fst)
theorem sb103_2 : Sub (kKnot : Kd (Int × List (Int) × List (Int) × List (Int))) 2 (Kd.slice (Kd.int .i16)) (fun x => x.2.2.1) (fun x y => (x.1, x.2.1, y, x.2.2.2)) := Sub.snd (Sub.snd (Sub.fst))
theorem sb106_2 : Sub (kKnot : Kd (Int × List (Int) × List (Int) × List (Int))) 2 (Kd.slice (Kd.int .i16)) (fun x => x.2.2.1) (fun x y => (x.1, x.2.1, y, x.2.2.2)) := Sub.snd (Sub.snd (Sub.fst))
theorem sb103_3 : Sub (kKnot : Kd (Int × List (Int) × List (Int) × List (Int))) 3 (Kd.slice (Kd.int .i64)) (fun x => x.2.2.2) (fun x y => (x.1, x.2.1, x.2.2.1, y)) := Sub.snd (Sub.snd (Sub.snd (Sub.whole _)))
theorem sb106_3 : Sub (kKnot : Kd (Int × List (Int) × List (Int) × List (Int))) 3 (Kd.slice (Kd.int .i64)) (fun x => x.2.2.2) (fun x y => (x.1, x.2.1, x.2.2.1, y)) := Sub.snd (Sub.snd (Sub.snd (Sub.whole _)))
theorem eq31 : EqT Try.prog 31 ((Kd.int .i16) : Kd (Int)) 1 := EqT.int Try.underlying31 sz31
theorem eq2 : EqT Try.prog 2 ((Kd.int .i64) : Kd (Int)) 1 := EqT.int Try.underlying2 sz2
theorem eq98 : EqT Try.prog 98 (kWit : Kd (Int × Int)) 2 := EqT.struct Try.underlying98 sz98 (by kernel_rfl) (EqFs.cons rfl rfl eq2 (EqFs.one rfl rfl eq31) rfl rfl)
theorem eq38 : EqT Try.prog 38 (Kd.u64 : Kd (BitVec 64)) 1 := EqT.u64 Try.underlying38 sz38
theorem eq41 : EqT Try.prog 41 (kMask : Kd (BitVec 64 × BitVec 64)) 2 := EqT.two Try.underlying41 sz41 (by kernel_rfl) eq38
theorem eq57 : EqT Try.prog 57 (kQuery : Kd ((BitVec 64 × BitVec 64) × (BitVec 64 × BitVec 64))) 3 := EqT.struct Try.underlying57 sz57 (by kernel_rfl) (EqFs.cons rfl rfl eq41 (EqFs.one rfl rfl eq41) rfl rfl)
end Go.Proofs.Ytdjbdaidnlbhhaa.VL
