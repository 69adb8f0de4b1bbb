/- Proved here: what a law says of repairs. Plain Lean. -/
import Derived.Test.YtlhfmcbmlmhgaaaGreatDoorPZR
set_option linter.unusedVariables false
set_option linter.unusedSimpArgs false
namespace Go.Proofs.YtlhfmcbmlmhgaaaGreatDoor.VL
open Go
section
variable {s : List DField} {f g : DField} {m n c : DMask} {x : List DMask} {v : Int} {k : Nat}
theorem jp_has {l : List DField} {i : Nat} : bitB (jp l) i = l.any fun f => bitB (partF f) i := by
  rw [jp, bit_jp, bit_zM, Bool.false_or]
theorem apart (hs : schemeOK s) {j : Nat} (hjk : j < k) (hj : s[j]? = some f) (hk : s[k]? = some g) : meetM (partF f) (partF g) = zM := by
  obtain ⟨g', h1, _, h3, _⟩ := hs.2 k (List.getElem?_eq_some_iff.1 hk).1
  rw [hk] at h1
  obtain rfl := Option.some.inj h1
  refine mask_ext fun i hi => ?_
  have h4 := congrArg (fun m => bitB m i) h3
  rw [bit_meet, bit_zM, jp_has, Bool.and_eq_false_iff] at h4
  rw [bit_meet, bit_zM, Bool.and_eq_false_iff]
  rcases h4 with h4 | h4
  · left
    rw [List.any_eq_false] at h4
    have := h4 f (List.mem_of_getElem? (i := j) (by rw [List.getElem?_take_of_lt hjk]; exact hj))
    simpa using this
  · exact .inr h4
theorem meet_comm (a b : DMask) : meetM a b = meetM b a := mask_ext fun i hi => by rw [bit_meet, bit_meet, Bool.and_comm]
theorem apart' (hs : schemeOK s) {j : Nat} (hjk : j ≠ k) (hj : s[j]? = some f) (hk : s[k]? = some g) : meetM (partF f) (partF g) = zM := by
  rcases Nat.lt_or_gt_of_ne hjk with h | h
  · exact apart hs h hj hk
  · rw [meet_comm]; exact apart hs h hk hj
theorem sch_at (hs : schemeOK s) (hk : s[k]? = some f) : fieldOK f := by
  obtain ⟨g, h1, h2⟩ := schemeF hs (List.getElem?_eq_some_iff.1 hk).1
  rw [hk] at h1
  obtain rfl := Option.some.inj h1
  exact h2
end
end Go.Proofs.YtlhfmcbmlmhgaaaGreatDoor.VL
