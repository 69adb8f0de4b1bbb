/- Proved here: bytes and texts. General: over every program. -/
import Derived.Test.YtfnkphllkbkfaaaDoorVT
import Derived.Laws.BytesString
import Derived.Laws.Strings2
import Derived.Laws.IdiomStrings
set_option linter.unusedVariables false
set_option linter.unusedSimpArgs false
namespace Go.Proofs.YtfnkphllkbkfaaaDoor.VL
open Go
/-- The text of bytes. -/
def bOf (l : List Int) : ByteArray := ⟨(l.map fun n => UInt8.ofNat n.toNat).toArray⟩
theorem bOf_size (l : List Int) : (bOf l).size = l.length := by
  show ((l.map fun n => UInt8.ofNat n.toNat).toArray).size = _
  simp
theorem RdL_ints {kk : IntKind} {s : Hp} : ∀ {ys : List Int} {cells : List Value}, RdL (Kd.int kk) s cells ys → cells = ys.map (Value.int kk) ∧ ∀ n ∈ ys, inR kk n
  | [], cells, h => by simp only [RdL] at h; subst h; exact ⟨rfl, fun n hn => by cases hn⟩
  | y :: ys, cells, h => by
    obtain ⟨c, d, rfl, h1, h2⟩ := h
    obtain ⟨h3, h4⟩ := RdL_ints h2
    have h5 : c = [.int kk y] := h1.1
    subst h5
    refine ⟨by rw [h3]; rfl, fun n hn => ?_⟩
    rcases List.mem_cons.1 hn with rfl | hn
    · exact h1.2
    · exact h4 n hn
section
variable {C : Cx} {env : Env} {o : Oper} {p q r : Operand} {d t : Nat} {T T' S E : TypeId}
theorem OpT.convBS {ys : List Int} (hH : Hd C o (.convert T T' p) d) (hT : elT C.P T = some E) (hE : C.P.underlying E = some (.int .u8)) (hT' : C.P.underlying T' = some .string) (hq : Src C env p (Kd.int .u8) ys) (hl : ys.length ≤ 9223372036854775807) : OpT C o env (upd env d (.cel Kd.str (bOf ys))) :=
  OpT.pure hH.2.1 hH.2.2 fun s F a w hr => by
    have hu : C.P.underlying T = some (.slice E) := by
      unfold elT at hT
      split at hT
      · simp only [Option.some.injEq] at hT; subst hT; assumption
      · cases hT
    obtain ⟨A, m, he, hA, cells, hrd, hc⟩ := hq s F a w hr
    obtain ⟨hcs, hin⟩ := RdL_ints hrd
    refine ⟨.string (bOf ys), ?_, ⟨rfl, by rw [bOf_size]; exact hl⟩, fun b hb => hb⟩
    have key : (convert T T' (.slice A ys.length m)).run C.P w = .ok (.string (bOf ys)) w := by
      cases A with
      | none =>
        have := hA rfl
        subst this
        rw [run_convert_bytes_string w T T' E none _ m hu hE hT']
        simp [Conv.bytesToString, bOf]
        rfl
      | some ad =>
        have h1 := run_convert_bytes_back (P := C.P) w T T' E ad m (ys.map fun n => UInt8.ofNat n.toNat) hu hE hT' (fun j hj => by
          have hj' : j < ys.length := by simpa using hj
          have h2 := hin ys[j] (List.getElem_mem hj')
          have h3 : 0 ≤ ys[j] ∧ ys[j] ≤ 255 := h2
          rw [hc ad rfl j (.int .u8 ys[j]) (by rw [hcs, List.getElem?_map, List.getElem?_eq_getElem hj']; rfl)]
          congr 2
          rw [List.getElem_map]
          show ys[j] = ((UInt8.ofNat ys[j].toNat).toNat : Int)
          rw [UInt8.toNat_ofNat']
          omega)
        rw [List.length_map] at h1
        exact h1
    simp [execOp, hH.1, he, key]
end
end Go.Proofs.YtfnkphllkbkfaaaDoor.VL
