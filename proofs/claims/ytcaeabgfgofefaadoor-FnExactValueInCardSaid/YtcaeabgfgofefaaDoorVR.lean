/- Proved here: rules for function values that have caught variables. With the words of VA..VQ. General: over every program. -/
import Derived.Test.YtcaeabgfgofefaaDoorVQ
set_option linter.unusedVariables false
set_option linter.unusedSimpArgs false
namespace Go.Proofs.YtcaeabgfgofefaaDoor.VL
open Go
section
variable {C : Cx} {env : Env} {o : Oper} {d : Nat} {A B : As} {f : FuncId} {p q : Operand} {α β : Type} {k : Kd α} {k' : Kd β}
theorem Abx {α : Type} {E : TypeId} {k : Kd α} {y : α} {xs : List Operand} {ins outs : List As} {ms : List Mode} {x : Operand} {t : Nat} (h : Root C env x t) (h0 : env t = .box E k y) (r : Args C env xs ins outs ms) : Args C env (x :: xs) (.cel (Kd.ptr k) y :: ins) (.any :: outs) (.bor t :: ms) :=
  Args.cons ⟨h, by rw [h0]; exact Bor.box E k y, rfl⟩ r
theorem ArgsA.one {a : Act} {w : World} {x : α} {u : Value} (h : ∀ s F, Rel C.N C.w0 C.hd C.pn C.s0 env s F a w → k.rd s [u] x) : ArgsA C env a w [.const u] [.cel k x] [.any] [.flat] :=
  .cons ⟨fun s F hr => ⟨h s F hr, fun b hb => hb⟩, rfl, rfl, rfl⟩ .nil
/-- What a function value hands on of what it has caught. -/
def CloArgs {α : Type} (k : Kd α) (x : α) (cs : List As) : Prop := (k.sz = 0 ∧ cs = []) ∨ (k.sz = 1 ∧ cs = [.cel k x])
theorem CloArgs.ptr {α : Type} (k : Kd α) (x : α) : CloArgs (Kd.ptr k) x [.cel (Kd.ptr k) x] := .inr ⟨rfl, rfl⟩
end
/-! ### Texts and arrays -/
section
variable {C : Cx} {env : Env} {o : Oper} {T : TypeId} {p q r : Operand} {d : Nat} {α : Type} {k : Kd α}
theorem extract_size (s : ByteArray) (i j : Nat) : (s.extract i j).size ≤ s.size := by
  rw [ByteArray.size_extract]; omega
theorem OpT.cutSL {x : ByteArray} {kk : IntKind} {i : Int} (hH : Hd C o (.slice T p (some q) none none) d) (hp : Opd C env p (.cel Kd.str x)) (hq : Opd C env q (.cel (Kd.int kk) i))
    (hT : C.P.underlying T = some .string) (h0 : 0 ≤ i ∧ i ≤ x.size) : OpT C o env (upd env d (.cel Kd.str (x.extract i.toNat x.size))) :=
  OpT.pure hH.2.1 hH.2.2 fun s F a w hr => ⟨.string (x.extract i.toNat x.size), by
    simp [execOp, hH.1, (hp.gets hr).1, (hq.geti hr).1, run_sliceAt_string w T _ _ _ _ hT, run_slice_string_l w T x hT kk i h0.1 h0.2],
    ⟨rfl, Nat.le_trans (extract_size _ _ _) (hp.gets hr).2⟩, fun b hb => hb⟩
theorem OpT.cutSH {x : ByteArray} {kk : IntKind} {i : Int} (hH : Hd C o (.slice T p none (some q) none) d) (hp : Opd C env p (.cel Kd.str x)) (hq : Opd C env q (.cel (Kd.int kk) i))
    (hT : C.P.underlying T = some .string) (h0 : 0 ≤ i ∧ i ≤ x.size) : OpT C o env (upd env d (.cel Kd.str (x.extract 0 i.toNat))) :=
  OpT.pure hH.2.1 hH.2.2 fun s F a w hr => ⟨.string (x.extract 0 i.toNat), by
    simp [execOp, hH.1, (hp.gets hr).1, (hq.geti hr).1, run_sliceAt_string w T _ _ _ _ hT, run_slice_string_h w T x hT kk i h0.1 h0.2],
    ⟨rfl, Nat.le_trans (extract_size _ _ _) (hp.gets hr).2⟩, fun b hb => hb⟩
theorem zarr {v : Value} {x : α} (n : Nat) (h : ∀ s, k.rd s [v] x) : ∀ s, (Kd.arr n k).rd s (Value.cl (.agg (List.replicate n v).toArray)) (List.replicate n x) := fun s => by
  refine ⟨?_, List.length_replicate⟩
  have h1 := RdL_made (h s) n
  rw [List.flatten_replicate_singleton] at h1
  exact h1
end
/-- An unsigned number as a count of places. -/
theorem Opd.asInt {C : Cx} {env : Env} {p : Operand} {n : BitVec 64} (h : Opd C env p (.cel Kd.u64 n)) : Opd C env p (.cel (Kd.int .u64) (n.toNat : Int)) := fun s F a w hr => by
  have h1 := h s F a w hr
  refine ⟨⟨h1.1, ?_⟩, h1.2⟩
  have := n.isLt
  show inR .u64 _
  simp [inR, IntKind.min, IntKind.max, IntKind.signed, IntKind.bits]
  omega
end Go.Proofs.YtcaeabgfgofefaaDoor.VL
