/- Proved here: what the table of types of the program says. Printed by program. -/
import Derived.Test.YtfnkphllkbkfaaaDoorBpa
import Derived.Test.YtfnkphllkbkfaaaDoorBvc
import Derived.Test.YtfnkphllkbkfaaaDoorProg
set_option linter.unusedVariables false
set_option linter.unusedSimpArgs false
set_option maxRecDepth 4000
namespace Go.Proofs.YtfnkphllkbkfaaaDoor.VL
open Go
theorem fomo : Tryd.prog.follows .mixedOrders = true := by kernel_rfl
theorem ag124 : aggT Tryd.prog 124 = some false := by kernel_rfl
theorem ag126 : aggT Tryd.prog 126 = some true := by kernel_rfl
theorem ag128 : aggT Tryd.prog 128 = some true := by kernel_rfl
theorem ag2 : aggT Tryd.prog 2 = some false := by kernel_rfl
theorem ag3 : aggT Tryd.prog 3 = some false := by kernel_rfl
theorem ag48 : aggT Tryd.prog 48 = some false := by kernel_rfl
theorem ag75 : aggT Tryd.prog 75 = some false := by kernel_rfl
theorem by128 : bytesT Tryd.prog 128 = some 80 := by kernel_rfl
theorem by2 : bytesT Tryd.prog 2 = some 8 := by kernel_rfl
theorem by3 : bytesT Tryd.prog 3 = some 8 := by kernel_rfl
theorem by48 : bytesT Tryd.prog 48 = some 2 := by kernel_rfl
theorem by9 : bytesT Tryd.prog 9 = some 16 := by kernel_rfl
theorem el124 : elT Tryd.prog 124 = some 48 := by kernel_rfl
theorem el146 : elT Tryd.prog 146 = some 5 := by kernel_rfl
theorem el172 : elT Tryd.prog 172 = some 3 := by kernel_rfl
theorem el33 : elT Tryd.prog 33 = some 9 := by kernel_rfl
theorem el64 : elT Tryd.prog 64 = some 126 := by kernel_rfl
theorem el67 : elT Tryd.prog 67 = some 128 := by kernel_rfl
theorem el75 : elT Tryd.prog 75 = some 2 := by kernel_rfl
theorem fd126_0 : fldT Tryd.prog 126 0 = some (48, 0) := by kernel_rfl
theorem fd126_1 : fldT Tryd.prog 126 1 = some (75, 1) := by kernel_rfl
theorem fd126_2 : fldT Tryd.prog 126 2 = some (124, 2) := by kernel_rfl
theorem fd126_3 : fldT Tryd.prog 126 3 = some (75, 3) := by kernel_rfl
theorem fd128_0 : fldT Tryd.prog 128 0 = some (48, 0) := by kernel_rfl
theorem fd128_1 : fldT Tryd.prog 128 1 = some (75, 1) := by kernel_rfl
theorem fd128_2 : fldT Tryd.prog 128 2 = some (124, 2) := by kernel_rfl
theorem fd128_3 : fldT Tryd.prog 128 3 = some (75, 3) := by kernel_rfl
theorem sz124 : sizeT Tryd.prog 124 = some 1 := by kernel_rfl
theorem sz126 : sizeT Tryd.prog 126 = some 4 := by kernel_rfl
theorem sz128 : sizeT Tryd.prog 128 = some 4 := by kernel_rfl
theorem sz2 : sizeT Tryd.prog 2 = some 1 := by kernel_rfl
theorem sz3 : sizeT Tryd.prog 3 = some 1 := by kernel_rfl
theorem sz48 : sizeT Tryd.prog 48 = some 1 := by kernel_rfl
theorem sz5 : sizeT Tryd.prog 5 = some 1 := by kernel_rfl
theorem sz75 : sizeT Tryd.prog 75 = some 1 := by kernel_rfl
theorem sz9 : sizeT Tryd.prog 9 = some 1 := by kernel_rfl
theorem us2 : (Tryd.prog.underlying 2).isSome = true := by kernel_rfl
theorem us48 : (Tryd.prog.underlying 48).isSome = true := by kernel_rfl
theorem zk128 : ∀ s, (kKnot : Kd (Int × List (Int) × List (Int) × List (Int))).rd s (Value.cl (.agg #[.int .i16 0, .slice none 0 0, .slice none 0 0, .slice none 0 0])) ((0, [], [], [])) := fun s => ⟨[.int .i16 0], [.slice none 0 0, .slice none 0 0, .slice none 0 0], rfl, ⟨rfl, inRb_of rfl⟩, ⟨[.slice none 0 0], [.slice none 0 0, .slice none 0 0], rfl, ⟨none, 0, rfl, Nat.le_refl _, by decide, fun h => absurd h (by decide)⟩, ⟨[.slice none 0 0], [.slice none 0 0], rfl, ⟨none, 0, rfl, Nat.le_refl _, by decide, fun h => absurd h (by decide)⟩, ⟨none, 0, rfl, Nat.le_refl _, by decide, fun h => absurd h (by decide)⟩⟩⟩⟩
theorem zk2 : ∀ s, ((Kd.int .i64) : Kd (Int)).rd s (Value.cl (.int .i64 0)) (0) := fun s => ⟨rfl, inRb_of rfl⟩
theorem zk3 : ∀ s, ((Kd.int .i64) : Kd (Int)).rd s (Value.cl (.int .i64 0)) (0) := fun s => ⟨rfl, inRb_of rfl⟩
theorem zk48 : ∀ s, ((Kd.int .i16) : Kd (Int)).rd s (Value.cl (.int .i16 0)) (0) := fun s => ⟨rfl, inRb_of rfl⟩
theorem zk5 : ∀ s, ((Kd.int .u8) : Kd (Int)).rd s (Value.cl (.int .u8 0)) (0) := fun s => ⟨rfl, inRb_of rfl⟩
theorem zk9 : ∀ s, (Kd.str : Kd (ByteArray)).rd s (Value.cl (.string .empty)) (.empty) := fun s => ⟨rfl, by decide⟩
theorem zkr128 : ∀ s, ((Kd.pair (Kd.int .i16) (Kd.pair Kd.raw (Kd.pair Kd.raw Kd.raw))) : Kd (Int × Value × Value × Value)).rd s (Value.cl (.agg #[.int .i16 0, .slice none 0 0, .slice none 0 0, .slice none 0 0])) ((0, (Value.slice none 0 0), (Value.slice none 0 0), (Value.slice none 0 0))) := fun s => ⟨[.int .i16 0], [.slice none 0 0, .slice none 0 0, .slice none 0 0], rfl, ⟨rfl, inRb_of rfl⟩, ⟨[.slice none 0 0], [.slice none 0 0, .slice none 0 0], rfl, ⟨rfl, rfl⟩, ⟨[.slice none 0 0], [.slice none 0 0], rfl, ⟨rfl, rfl⟩, ⟨rfl, rfl⟩⟩⟩⟩
theorem zr128 : zeroT Tryd.prog 128 = some (.agg #[.int .i16 0, .slice none 0 0, .slice none 0 0, .slice none 0 0]) := by kernel_rfl
theorem zr2 : zeroT Tryd.prog 2 = some (.int .i64 0) := by kernel_rfl
theorem zr3 : zeroT Tryd.prog 3 = some (.int .i64 0) := by kernel_rfl
theorem zr48 : zeroT Tryd.prog 48 = some (.int .i16 0) := by kernel_rfl
theorem zr5 : zeroT Tryd.prog 5 = some (.int .u8 0) := by kernel_rfl
theorem zr9 : zeroT Tryd.prog 9 = some (.string .empty) := by kernel_rfl
theorem sb126_0 : Sub (kKnot : Kd (Int × List (Int) × List (Int) × List (Int))) 0 (Kd.int .i16) (fun x => x.1) (fun x y => (y, x.2.1, x.2.2.1, x.2.2.2)) := Sub.fst
theorem sb126_1 : Sub (kKnot : Kd (Int × List (Int) × List (Int) × List (Int))) 1 (Kd.slice (Kd.int .i64)) (fun x => x.2.1) (fun x y => (x.1, y, x.2.2.1, x.2.2.2)) := Sub.snd (Sub.fst)
theorem sb126_2 : Sub (kKnot : Kd (Int × List (Int) × List (Int) × List (Int))) 2 (Kd.slice (Kd.int .i16)) (fun x => x.2.2.1) (fun x y => (x.1, x.2.1, y, x.2.2.2)) := Sub.snd (Sub.snd (Sub.fst))
theorem sb126_3 : Sub (kKnot : Kd (Int × List (Int) × List (Int) × List (Int))) 3 (Kd.slice (Kd.int .i64)) (fun x => x.2.2.2) (fun x y => (x.1, x.2.1, x.2.2.1, y)) := Sub.snd (Sub.snd (Sub.snd (Sub.whole _)))
theorem sb128_0 : Sub (kKnot : Kd (Int × List (Int) × List (Int) × List (Int))) 0 (Kd.int .i16) (fun x => x.1) (fun x y => (y, x.2.1, x.2.2.1, x.2.2.2)) := Sub.fst
theorem sb128_1 : Sub (kKnot : Kd (Int × List (Int) × List (Int) × List (Int))) 1 (Kd.slice (Kd.int .i64)) (fun x => x.2.1) (fun x y => (x.1, y, x.2.2.1, x.2.2.2)) := Sub.snd (Sub.fst)
theorem sb128_2 : Sub (kKnot : Kd (Int × List (Int) × List (Int) × List (Int))) 2 (Kd.slice (Kd.int .i16)) (fun x => x.2.2.1) (fun x y => (x.1, x.2.1, y, x.2.2.2)) := Sub.snd (Sub.snd (Sub.fst))
theorem sb128_3 : Sub (kKnot : Kd (Int × List (Int) × List (Int) × List (Int))) 3 (Kd.slice (Kd.int .i64)) (fun x => x.2.2.2) (fun x y => (x.1, x.2.1, x.2.2.1, y)) := Sub.snd (Sub.snd (Sub.snd (Sub.whole _)))
theorem sbr128_0 : Sub ((Kd.pair (Kd.int .i16) (Kd.pair Kd.raw (Kd.pair Kd.raw Kd.raw))) : Kd (Int × Value × Value × Value)) 0 (Kd.int .i16) (fun x => x.1) (fun x y => (y, x.2.1, x.2.2.1, x.2.2.2)) := Sub.fst
theorem sbr128_1 : Sub ((Kd.pair (Kd.int .i16) (Kd.pair Kd.raw (Kd.pair Kd.raw Kd.raw))) : Kd (Int × Value × Value × Value)) 1 Kd.raw (fun x => x.2.1) (fun x y => (x.1, y, x.2.2.1, x.2.2.2)) := Sub.snd (Sub.fst)
theorem sbr128_2 : Sub ((Kd.pair (Kd.int .i16) (Kd.pair Kd.raw (Kd.pair Kd.raw Kd.raw))) : Kd (Int × Value × Value × Value)) 2 Kd.raw (fun x => x.2.2.1) (fun x y => (x.1, x.2.1, y, x.2.2.2)) := Sub.snd (Sub.snd (Sub.fst))
theorem sbr128_3 : Sub ((Kd.pair (Kd.int .i16) (Kd.pair Kd.raw (Kd.pair Kd.raw Kd.raw))) : Kd (Int × Value × Value × Value)) 3 Kd.raw (fun x => x.2.2.2) (fun x y => (x.1, x.2.1, x.2.2.1, y)) := Sub.snd (Sub.snd (Sub.snd (Sub.whole _)))
end Go.Proofs.YtfnkphllkbkfaaaDoor.VL
