/- Proved here: decks that are sorted by passes; cards that are made of values; queries for a value. Plain Lean. -/
import Derived.Test.YtmmjcpiikdcldaaGreatDoorPZE
import Derived.Test.YtmmjcpiikdcldaaGreatDoorPZR
import Derived.Test.YtmmjcpiikdcldaaGreatDoorPZQ
import Derived.Test.YtmmjcpiikdcldaaGreatDoorPZP
import Derived.Test.YtmmjcpiikdcldaaGreatDoorBpa
set_option linter.unusedVariables false
set_option linter.unusedSimpArgs false
namespace Go.Proofs.YtmmjcpiikdcldaaGreatDoor.VL
open Go
/-! ### Passes -/
def stayM (x : List DCard) (h : Int) : List DCard := x.filter fun c => !(hasM c.2 h)
def dropM (x : List DCard) (h : Int) : List DCard := x.filter fun c => hasM c.2 h
def passM (x : List DCard) (h : Int) : List DCard := stayM x h ++ dropM x h
def manyP (x : List DCard) (l : List Int) : List DCard := l.foldl passM x
section
variable {x : List DCard} {h : Int} {z : Nat} {c : DCard} {l : List Int}
theorem stay_yes (hc : x[Int.toNat ((z : Nat) : Int)]? = some c) (hh : hasM c.2 h = false) : stayM (x.take z) h ++ [c] = stayM (x.take (z + 1)) h := filter_yes hc (by rw [hh]; rfl)
theorem stay_no (hc : x[Int.toNat ((z : Nat) : Int)]? = some c) (hh : hasM c.2 h = true) : stayM (x.take z) h = stayM (x.take (z + 1)) h := filter_no hc (by rw [hh]; rfl)
theorem drop_yes (hc : x[Int.toNat ((z : Nat) : Int)]? = some c) (hh : hasM c.2 h = true) : dropM (x.take z) h ++ [c] = dropM (x.take (z + 1)) h := filter_yes hc hh
theorem drop_no (hc : x[Int.toNat ((z : Nat) : Int)]? = some c) (hh : hasM c.2 h = false) : dropM (x.take z) h = dropM (x.take (z + 1)) h := filter_no hc hh
theorem stay_len (x : List DCard) (h : Int) : (stayM x h).length ≤ x.length := List.length_filter_le _ _
theorem drop_len (x : List DCard) (h : Int) : (dropM x h).length ≤ x.length := List.length_filter_le _ _
theorem pass_perm (h : Int) : ∀ x : List DCard, (passM x h).Perm x
  | [] => List.Perm.refl _
  | c :: x => by
    have ih := pass_perm h x
    unfold passM stayM dropM at ih ⊢
    rw [List.filter_cons, List.filter_cons]
    cases hasM c.2 h with
    | true => simpa using List.perm_middle.trans (ih.cons c)
    | false => simpa using ih.cons c
theorem many_perm : ∀ (l : List Int) (x : List DCard), (manyP x l).Perm x
  | [], x => List.Perm.refl _
  | h :: l, x => (many_perm l (passM x h)).trans (pass_perm h x)
theorem pass_len (x : List DCard) (h : Int) : (passM x h).length = x.length := (pass_perm h x).length_eq
theorem manyP_len (x : List DCard) (l : List Int) : (manyP x l).length = x.length := (many_perm l x).length_eq
theorem many_pass (hh : l[Int.toNat ((z : Nat) : Int)]? = some h) : passM (manyP x (l.take z)) h = manyP x (l.take (z + 1)) := foldl_next (f := passM) hh
theorem split_len (x : List DCard) (h : Int) : (stayM x h).length + (dropM x h).length = x.length := by
  have := pass_len x h
  rwa [passM, List.length_append] at this
theorem perm_deck {x y : List DCard} (hx : deckOK x) (h : y.Perm x) : deckOK y := deck_of (by rw [h.length_eq]; exact hx.1) (fun c hc => deck_card hx (h.mem_iff.1 hc)) ((h.map _).nodup_iff.2 (deck_names hx))
theorem perm_same {x y : List DCard} (hx : deckOK x) (h : y.Perm x) : sameC y x = (true, 0) := same_mem (perm_deck hx h) hx fun c => h.mem_iff
end
/-! ### Keys -/
section
variable {f : DField} {m : DMask} {l : List Int} {z : Nat} {x : List DCard}
end
section
variable {x : List DCard} {f : DField} {m : DMask} {s : ByteArray} {v : Int}
end
/-! ### Cards of values -/
section
variable {s : List DField} {n : ByteArray} {vs : List Int} {z : Nat} {f : DField} {v : Int} {m : DMask} {c : DCard}
end
/-! ### Walks of sorting -/
section
variable {f : DField} {z : Nat} {m : DMask}
end
end Go.Proofs.YtmmjcpiikdcldaaGreatDoor.VL
