/- Proved here: what the table of types of the program says. Printed by program. -/
import Derived.Test.YtfnkphllkbkfaaaBpa
import Derived.Test.YtfnkphllkbkfaaaBvb
import Derived.Test.YtfnkphllkbkfaaaProg
set_option linter.unusedVariables false
set_option linter.unusedSimpArgs false
set_option maxRecDepth 4000
namespace Go.Proofs.Ytfnkphllkbkfaaa.VL
open Go
theorem fomo : Try.prog.follows .mixedOrders = true := by kernel_rfl
theorem ag2 : aggT Try.prog 2 = some false := by kernel_rfl
theorem ag23 : aggT Try.prog 23 = some false := by kernel_rfl
theorem ag3 : aggT Try.prog 3 = some false := by kernel_rfl
theorem ag36 : aggT Try.prog 36 = some false := by kernel_rfl
theorem ag37 : aggT Try.prog 37 = some false := by kernel_rfl
theorem ag39 : aggT Try.prog 39 = some true := by kernel_rfl
theorem ag43 : aggT Try.prog 43 = some true := by kernel_rfl
theorem by2 : bytesT Try.prog 2 = some 8 := by kernel_rfl
theorem by3 : bytesT Try.prog 3 = some 8 := by kernel_rfl
theorem by36 : bytesT Try.prog 36 = some 2 := by kernel_rfl
theorem by43 : bytesT Try.prog 43 = some 80 := by kernel_rfl
theorem el22 : elT Try.prog 22 = some 39 := by kernel_rfl
theorem el23 : elT Try.prog 23 = some 2 := by kernel_rfl
theorem el27 : elT Try.prog 27 = some 43 := by kernel_rfl
theorem el37 : elT Try.prog 37 = some 36 := by kernel_rfl
theorem el53 : elT Try.prog 53 = some 3 := by kernel_rfl
theorem fd39_0 : fldT Try.prog 39 0 = some (36, 0) := by kernel_rfl
theorem fd39_1 : fldT Try.prog 39 1 = some (23, 1) := by kernel_rfl
theorem fd39_2 : fldT Try.prog 39 2 = some (37, 2) := by kernel_rfl
theorem fd39_3 : fldT Try.prog 39 3 = some (23, 3) := by kernel_rfl
theorem fd43_0 : fldT Try.prog 43 0 = some (36, 0) := by kernel_rfl
theorem fd43_1 : fldT Try.prog 43 1 = some (23, 1) := by kernel_rfl
theorem fd43_2 : fldT Try.prog 43 2 = some (37, 2) := by kernel_rfl
theorem fd43_3 : fldT Try.prog 43 3 = some (23, 3) := by kernel_rfl
theorem sz2 : sizeT Try.prog 2 = some 1 := by kernel_rfl
theorem sz23 : sizeT Try.prog 23 = some 1 := by kernel_rfl
theorem sz3 : sizeT Try.prog 3 = some 1 := by kernel_rfl
theorem sz36 : sizeT Try.prog 36 = some 1 := by kernel_rfl
theorem sz37 : sizeT Try.prog 37 = some 1 := by kernel_rfl
theorem sz39 : sizeT Try.prog 39 = some 4 := by kernel_rfl
theorem sz43 : sizeT Try.prog 43 = some 4 := by kernel_rfl
theorem us3 : (Try.prog.underlying 3).isSome = true := by kernel_rfl
theorem us36 : (Try.prog.underlying 36).isSome = true := by kernel_rfl
theorem zk2 : ∀ s, ((Kd.int .i64) : Kd (Int)).rd s (Value.cl (.int .i64 0)) (0) := fun s => ⟨rfl, inRb_of rfl⟩
theorem zk3 : ∀ s, ((Kd.int .i64) : Kd (Int)).rd s (Value.cl (.int .i64 0)) (0) := fun s => ⟨rfl, inRb_of rfl⟩
theorem zk36 : ∀ s, ((Kd.int .i16) : Kd (Int)).rd s (Value.cl (.int .i16 0)) (0) := fun s => ⟨rfl, inRb_of rfl⟩
theorem zk43 : ∀ s, (kKnot : Kd (Int × List (Int) × List (Int) × List (Int))).rd s (Value.cl (.agg #[.int .i16 0, .slice none 0 0, .slice none 0 0, .slice none 0 0])) ((0, [], [], [])) := fun s => ⟨[.int .i16 0], [.slice none 0 0, .slice none 0 0, .slice none 0 0], rfl, ⟨rfl, inRb_of rfl⟩, ⟨[.slice none 0 0], [.slice none 0 0, .slice none 0 0], rfl, ⟨none, 0, rfl, Nat.le_refl _, by decide, fun h => absurd h (by decide)⟩, ⟨[.slice none 0 0], [.slice none 0 0], rfl, ⟨none, 0, rfl, Nat.le_refl _, by decide, fun h => absurd h (by decide)⟩, ⟨none, 0, rfl, Nat.le_refl _, by decide, fun h => absurd h (by decide)⟩⟩⟩⟩
theorem zkr43 : ∀ s, ((Kd.pair (Kd.int .i16) (Kd.pair Kd.raw (Kd.pair Kd.raw Kd.raw))) : Kd (Int × Value × Value × Value)).rd s (Value.cl (.agg #[.int .i16 0, .slice none 0 0, .slice none 0 0, .slice none 0 0])) ((0, (Value.slice none 0 0), (Value.slice none 0 0), (Value.slice none 0 0))) := fun s => ⟨[.int .i16 0], [.slice none 0 0, .slice none 0 0, .slice none 0 0], rfl, ⟨rfl, inRb_of rfl⟩, ⟨[.slice none 0 0], [.slice none 0 0, .slice none 0 0], rfl, ⟨rfl, rfl⟩, ⟨[.slice none 0 0], [.slice none 0 0], rfl, ⟨rfl, rfl⟩, ⟨rfl, rfl⟩⟩⟩⟩
theorem zr2 : zeroT Try.prog 2 = some (.int .i64 0) := by kernel_rfl
theorem zr3 : zeroT Try.prog 3 = some (.int .i64 0) := by kernel_rfl
theorem zr36 : zeroT Try.prog 36 = some (.int .i16 0) := by kernel_rfl
theorem zr43 : zeroT Try.prog 43 = some (.agg #[.int .i16 0, .slice none 0 0, .slice none 0 0, .slice none 0 0]) := by kernel_rfl
theorem sb39_0 : Sub (kKnot : Kd (Int × List (Int) × List (Int) × List (Int))) 0 (Kd.int .i16) (fun x => x.1) (fun x y => (y, x.2.1, x.2.2.1, x.2.2.2)) := Sub.fst
theorem sb39_1 : Sub (kKnot : Kd (Int × List (Int) × List (Int) × List (Int))) 1 (Kd.slice (Kd.int .i64)) (fun x => x.2.1) (fun x y => (x.1, y, x.2.2.1, x.2.2.2)) := Sub.snd (Sub.fst)
theorem sb39_2 : Sub (kKnot : Kd (Int × List (Int) × List (Int) × List (Int))) 2 (Kd.slice (Kd.int .i16)) (fun x => x.2.2.1) (fun x y => (x.1, x.2.1, y, x.2.2.2)) := Sub.snd (Sub.snd (Sub.fst))
theorem sb39_3 : Sub (kKnot : Kd (Int × List (Int) × List (Int) × List (Int))) 3 (Kd.slice (Kd.int .i64)) (fun x => x.2.2.2) (fun x y => (x.1, x.2.1, x.2.2.1, y)) := Sub.snd (Sub.snd (Sub.snd (Sub.whole _)))
theorem sb43_0 : Sub (kKnot : Kd (Int × List (Int) × List (Int) × List (Int))) 0 (Kd.int .i16) (fun x => x.1) (fun x y => (y, x.2.1, x.2.2.1, x.2.2.2)) := Sub.fst
theorem sb43_1 : Sub (kKnot : Kd (Int × List (Int) × List (Int) × List (Int))) 1 (Kd.slice (Kd.int .i64)) (fun x => x.2.1) (fun x y => (x.1, y, x.2.2.1, x.2.2.2)) := Sub.snd (Sub.fst)
theorem sb43_2 : Sub (kKnot : Kd (Int × List (Int) × List (Int) × List (Int))) 2 (Kd.slice (Kd.int .i16)) (fun x => x.2.2.1) (fun x y => (x.1, x.2.1, y, x.2.2.2)) := Sub.snd (Sub.snd (Sub.fst))
theorem sb43_3 : Sub (kKnot : Kd (Int × List (Int) × List (Int) × List (Int))) 3 (Kd.slice (Kd.int .i64)) (fun x => x.2.2.2) (fun x y => (x.1, x.2.1, x.2.2.1, y)) := Sub.snd (Sub.snd (Sub.snd (Sub.whole _)))
theorem sbr43_0 : Sub ((Kd.pair (Kd.int .i16) (Kd.pair Kd.raw (Kd.pair Kd.raw Kd.raw))) : Kd (Int × Value × Value × Value)) 0 (Kd.int .i16) (fun x => x.1) (fun x y => (y, x.2.1, x.2.2.1, x.2.2.2)) := Sub.fst
theorem sbr43_1 : Sub ((Kd.pair (Kd.int .i16) (Kd.pair Kd.raw (Kd.pair Kd.raw Kd.raw))) : Kd (Int × Value × Value × Value)) 1 Kd.raw (fun x => x.2.1) (fun x y => (x.1, y, x.2.2.1, x.2.2.2)) := Sub.snd (Sub.fst)
theorem sbr43_2 : Sub ((Kd.pair (Kd.int .i16) (Kd.pair Kd.raw (Kd.pair Kd.raw Kd.raw))) : Kd (Int × Value × Value × Value)) 2 Kd.raw (fun x => x.2.2.1) (fun x y => (x.1, x.2.1, y, x.2.2.2)) := Sub.snd (Sub.snd (Sub.fst))
theorem sbr43_3 : Sub ((Kd.pair (Kd.int .i16) (Kd.pair Kd.raw (Kd.pair Kd.raw Kd.raw))) : Kd (Int × Value × Value × Value)) 3 Kd.raw (fun x => x.2.2.2) (fun x y => (x.1, x.2.1, x.2.2.1, y)) := Sub.snd (Sub.snd (Sub.snd (Sub.whole _)))
end Go.Proofs.Ytfnkphllkbkfaaa.VL
