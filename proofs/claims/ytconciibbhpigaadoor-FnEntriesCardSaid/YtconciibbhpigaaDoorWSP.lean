/- Proved here: what some functions of the program take and give: walks with the words of VA..VQ. Printed by program. -/
import Derived.Test.YtconciibbhpigaaDoorWT
import Derived.Test.YtconciibbhpigaaDoorPXS
import Derived.Test.YtconciibbhpigaaDoorVLF
import Derived.Test.YtconciibbhpigaaDoorLSP
set_option linter.unusedVariables false
set_option linter.unusedSimpArgs false
set_option maxRecDepth 4000
namespace Go.Proofs.YtconciibbhpigaaDoor.VL
open Go
theorem c_strings_Count (x : ByteArray) (c : UInt8) : AC Tryd.prog 65 [.cel Kd.str x, .cel Kd.str ⟨#[c]⟩] [.cel (Kd.int .i64) (cnB c x : Int)] [] := AC.count Tryd.cntL rfl x c Tryd.func65 rfl
theorem c_strings_Index (x : ByteArray) (c : UInt8) : AC Tryd.prog 66 [.cel Kd.str x, .cel Kd.str ⟨#[c]⟩] [.cel (Kd.int .i64) (ixB c x)] [] := AC.index Tryd.idxL rfl x c Tryd.func66 rfl
theorem c_internal_stringslite_Index (x : ByteArray) (c : UInt8) : AC Tryd.prog 59 [.cel Kd.str x, .cel Kd.str ⟨#[c]⟩] [.cel (Kd.int .i64) (ixB c x)] [] := AC.indexl Tryd.idlL rfl x c Tryd.func59 rfl




/-- strings.genSplit -/
theorem c_strings_genSplit_o (x : ByteArray) (c : UInt8) (hx : x.size ≤ 1000000000) : AC Tryd.prog 58 [.cel Kd.str x, .cel Kd.str ⟨#[c]⟩, .cel (Kd.int .i64) (0 : Int), .cel (Kd.int .i64) (-1 : Int)] [.own 9 Kd.str (splB c x)] [] := by
 refine acI (N := 66) Tryd.func58 (Nat.le_of_ble_eq_true rfl) rfl fun w0 hd s0 ar => ?_
 refine AW.to (kc4 0 1 2 3 rfl <| Kn) ?_
 have hc1s : (⟨#[c]⟩ : ByteArray).size = 1 := rfl
 have hrx := ixB_range c x
 have hcn := cnB_le c x
 refine sr ?_
 refine st (nilO (E := 9) Kd.str rfl (.inl rfl)) rfl ?_
 refine ng ?_
 refine AW.seq ?_
 refine sr ?_
 refine st (mvT rfl) rfl ?_
 refine st (OpT.eql (H rfl) (T1 rfl) (I rfl)) rfl ?_
 refine ng ?_
 refine cd rfl (fun hc1 => ?_) fun hc1 => ?_
 ·
  obtain ⟨hc1, hc1'⟩ := pT hc1
  exact (show False from (by simp at hc1)).elim
 ·
  obtain ⟨hc1, hc1'⟩ := pF hc1
  refine AW.skip ?_
  refine AX.go ?_
  refine AW.seq ?_
  refine sr ?_
  refine st (mvT rfl) rfl ?_
  refine st (OpT.seqv (H rfl) (T1 rfl) (Opd.str (by decide))) rfl ?_
  refine ng ?_
  refine cd rfl (fun hc2 => ?_) fun hc2 => ?_
  ·
   obtain ⟨hc2, hc2'⟩ := pT hc2
   exact (show False from (Nat.one_ne_zero (congrArg ByteArray.size (eqv_iff.1 hc2)))).elim
  ·
   obtain ⟨hc2, hc2'⟩ := pF hc2
   refine AW.skip ?_
   refine AX.go ?_
   refine AW.seq ?_
   refine sr ?_
   refine st (mvT rfl) rfl ?_
   refine st (OpT.lss (H rfl) (T1 rfl) (I rfl)) rfl ?_
   refine ng ?_
   refine cd rfl (fun hc3 => ?_) fun hc3 => ?_
   ·
    obtain ⟨hc3, hc3'⟩ := pT hc3
    refine AW.region ?_
    refine st (mvT rfl) rfl ?_
    refine st (mvT rfl) rfl ?_
    refine st (OpT.c1 (ms := [.flat, .flat]) (c_strings_Count x c) (H rfl) (Af (T1 rfl) rfl rfl <| Af (T1 rfl) rfl rfl <| An) rfl rfl) rfl ?_
    refine st (OpT.add (H rfl) (T1 rfl) (I rfl) (nw (by omega))) rfl ?_
    refine st (asT rfl) rfl ?_
    refine AWl.to (kc 3 rfl <| ko 8 rfl <| kc3 0 1 2 rfl <| Kn) ?_
    refine ng ?_
    refine sr ?_
    refine st (mvT rfl) rfl ?_
    refine st (mvT rfl) rfl ?_
    refine st (OpT.lenS (H rfl) (T1 rfl) Tryd.underlying9) rfl ?_
    refine st (OpT.add (H rfl) (T1 rfl) (I rfl) (nw (by omega))) rfl ?_
    refine st (OpT.min (H rfl) (T1 rfl) (T1 rfl) (if_neg (by omega))) rfl ?_
    refine st (asT rfl) rfl ?_
    refine ng ?_
    refine sr ?_
    refine st (mvT rfl) rfl ?_
    refine AWl.to (Kc 30 _ (Kv rfl (show _ = ((cnB c x + 1 : Nat) : Int) from by omega)) <| (kc4 3 29 28 27 rfl <| kc2 26 25 rfl <| ko 8 rfl <| kc3 0 1 2 rfl <| Kn)) ?_
    refine st (OpT.make (H rfl) (T1 rfl) (T1 rfl) el47 zr9 sz9 by9 (by decide) zk9 (by omega) (by omega)) rfl ?_
    refine sg (OpT.take (.inl rfl) rfl (ok' rfl) (Root.self (by decide)) rfl rfl (by decide)) (ko 9 rfl <| kc4 30 3 29 28 rfl <| kc3 27 26 25 rfl <| ko 8 rfl <| kc3 0 1 2 rfl <| Kn) rfl ?_
    refine ng ?_
    refine sr ?_
    refine st (mvT rfl) rfl ?_
    refine st (OpT.sub (H rfl) (T1 rfl) (I rfl) (nw (by omega))) rfl ?_
    refine st (asT rfl) rfl ?_
    refine ng ?_
    refine sr ?_
    refine st (asI rfl) rfl ?_
    refine ng ?_
    refine AW.seq ?_
    refine AW.block ?_
    refine AW.loop (fun z : Nat => z ≤ cnB c x) (fun z : Nat => keep [(0, .cel Kd.str (rstB c x z)), (1, .cel Kd.str ⟨#[c]⟩), (2, .cel (Kd.int .i64) (0 : Int)), (3, .cel (Kd.int .i64) (cnB c x : Int)), (9, .own 9 Kd.str (splR c x z)), (10, .cel (Kd.int .i64) (z : Int))]) (fun z : Nat => cnB c x - z) (0) (Nat.zero_le _) (Kc 0 _ (Kv rfl rfl) <| Kc 1 _ (Kv rfl rfl) <| Kc 2 _ (Kv rfl rfl) <| Kc 3 _ (Kv rfl (by omega)) <| Kc 9 _ (Ko rfl (splR_zero c x)) <| Kc 10 _ (Kv rfl rfl) <| Kn) ?_
    intro z hI
    refine AW.seq ?_
    refine sr ?_
    refine st (mvT rfl) rfl ?_
    refine st (mvT rfl) rfl ?_
    refine st (OpT.lss (H rfl) (T1 rfl) (T1 rfl)) rfl ?_
    refine ng ?_
    refine cd rfl (fun hc4 => ?_) fun hc4 => ?_
    ·
     obtain ⟨hc4, hc4'⟩ := pT hc4
     have hgs := splR_get (c := c) (x := x) (z := z) hI
     have hzc := rst_cn (c := c) (x := x) (z := z) (by omega)
     have hok := ix_ok (c := c) (x := rstB c x z) (by omega)
     have hrl := rst_le c x z
     refine AW.skip ?_
     refine AX.go ?_
     refine AW.block ?_
     refine sr ?_
     refine st (mvT rfl) rfl ?_
     refine st (mvT rfl) rfl ?_
     refine st (OpT.c1 (ms := [.flat, .flat]) (c_strings_Index (rstB c x z) c) (H rfl) (Af (T1 rfl) rfl rfl <| Af (T1 rfl) rfl rfl <| An) rfl rfl) rfl ?_
     refine st (asT rfl) rfl ?_
     refine ng ?_
     refine AW.seq ?_
     refine sr ?_
     refine st (mvT rfl) rfl ?_
     refine st (OpT.lss (H rfl) (T1 rfl) (I rfl)) rfl ?_
     refine ng ?_
     refine cd rfl (fun hc5 => ?_) fun hc5 => ?_
     ·
      obtain ⟨hc5, hc5'⟩ := pT hc5
      exact (show False from (by omega)).elim
     ·
      obtain ⟨hc5, hc5'⟩ := pF hc5
      refine AW.skip ?_
      refine AX.go ?_
      refine sr ?_
      refine st (OpT.alias (H rfl) (by decide) (by decide)) rfl ?_
      refine st (mvT rfl) rfl ?_
      refine st (mvT rfl) rfl ?_
      refine st (mvT rfl) rfl ?_
      refine st (mvT rfl) rfl ?_
      refine st (OpT.add (H rfl) (T1 rfl) (T1 rfl) (nw (by omega))) rfl ?_
      refine st (OpT.cutSH (H rfl) (T1 rfl) (T1 rfl) Tryd.underlying9 (by omega)) rfl ?_
      refine st (OpT.indexAddrO (H rfl) (Root.ali rfl (by decide) (by decide)) rfl (by decide) (T1 rfl) el47 sz9 (by omega) (by assumption)) rfl ?_
      refine sk (OpT.storeO rfl rfl (T1 rfl) rfl (by assumption) sz9 rfl (T1 rfl)) rfl ?_
      refine ng ?_
      refine sr ?_
      refine st (mvT rfl) rfl ?_
      refine st (mvT rfl) rfl ?_
      refine st (mvT rfl) rfl ?_
      refine st (OpT.lenS (H rfl) (T1 rfl) Tryd.underlying9) rfl ?_
      refine st (OpT.add (H rfl) (T1 rfl) (T1 rfl) (nw (by omega))) rfl ?_
      refine st (OpT.cutSL (H rfl) (T1 rfl) (T1 rfl) Tryd.underlying9 (by omega)) rfl ?_
      refine st (asT rfl) rfl ?_
      refine ng ?_
      refine AW.region ?_
      refine st (mvT rfl) rfl ?_
      refine st (OpT.add (H rfl) (T1 rfl) (I rfl) (nw (by omega))) rfl ?_
      refine st (asT rfl) rfl ?_
      refine nn ?_
      refine AX.normal_block ?_
      exact AX.again (z + 1) (by omega) (by omega) (Kc 0 _ (Kv rfl rfl) <| Kc 1 _ (Kv rfl rfl) <| Kc 2 _ (Kv rfl rfl) <| Kc 3 _ (Kv rfl rfl) <| Kc 9 _ (Ko rfl (by rw [Int.add_zero]; exact splR_set (by omega))) <| Kc 10 _ (Kv rfl (by omega)) <| Kn)
    ·
     obtain ⟨hc4, hc4'⟩ := pF hc4
     have hgs := splR_get (c := c) (x := x) (z := z) hI
     have hze : z = cnB c x := by omega
     have hsl := splR_len (c := c) (x := x) (z := z) (by omega)
     refine AW.exit ?_
     refine xT <| xT <| AX.exit_hit ?_
     refine AX.go ?_
     refine sr ?_
     refine st (OpT.alias (H rfl) (by decide) (by decide)) rfl ?_
     refine st (mvT rfl) rfl ?_
     refine st (mvT rfl) rfl ?_
     refine st (OpT.indexAddrO (H rfl) (Root.ali rfl (by decide) (by decide)) rfl (by decide) (T1 rfl) el47 sz9 (by omega) (by assumption)) rfl ?_
     refine sk (OpT.storeO rfl rfl (T1 rfl) rfl (by assumption) sz9 rfl (T1 rfl)) rfl ?_
     refine AWl.to (ko 9 rfl <| kc 10 rfl <| Kn) ?_
     refine ng ?_
     refine sr ?_
     refine st (OpT.alias (H rfl) (by decide) (by decide)) rfl ?_
     refine st (mvT rfl) rfl ?_
     refine st (OpT.add (H rfl) (T1 rfl) (I rfl) (nw (by omega))) rfl ?_
     refine st (OpT.vwH (H rfl) (Root.ali rfl (by decide) (by decide)) rfl (T1 rfl) el47 sz9 (by rw [List.length_set]; omega) (by decide)) rfl ?_
     refine sg (OpT.takeV (.inl rfl) rfl (ok' rfl) (T1 rfl) rfl (by rw [List.length_set]; omega)) (ko 8 rfl <| kc3 64 63 10 rfl <| Kn) rfl ?_
     refine ng ?_
     refine AW.ret ?_
     exact AX.rt (rs := [.tmp 8]) (ts := [some 8]) (.inl rfl) rfl (ROs.cons (RO.tmp (At.self (by decide)) (Ko rfl (splR_fin hze)) rfl) <| ROs.nil) (by decide) OutsOK.nil
   ·
    obtain ⟨hc3, hc3'⟩ := pF hc3
    exact (show False from (by simp at hc3)).elim
/-- strings.Split -/
theorem c_strings_Split_o (x : ByteArray) (c : UInt8) (hx : x.size ≤ 1000000000) : AC Tryd.prog 48 [.cel Kd.str x, .cel Kd.str ⟨#[c]⟩] [.own 9 Kd.str (splB c x)] [] := by
 refine acI (N := 8) Tryd.func48 (Nat.le_of_ble_eq_true rfl) rfl fun w0 hd s0 ar => ?_
 refine AW.to (kc2 0 1 rfl <| Kn) ?_
 refine sr ?_
 refine st (nilO (E := 9) Kd.str rfl (.inl rfl)) rfl ?_
 refine ng ?_
 refine sr ?_
 refine st (mvT rfl) rfl ?_
 refine st (mvT rfl) rfl ?_
 refine st (OpT.c1 (ms := [.flat, .flat, .flat, .flat]) (c_strings_genSplit_o x c hx) (H rfl) (Af (T1 rfl) rfl rfl <| Af (T1 rfl) rfl rfl <| Af (I rfl) rfl rfl <| Af (I rfl) rfl rfl <| An) rfl rfl) rfl ?_
 refine sg (OpT.take (.inl rfl) rfl (ok' rfl) (Root.self (by decide)) rfl rfl (by decide)) (ko 4 rfl <| kc4 6 5 0 1 rfl <| Kn) rfl ?_
 refine ng ?_
 refine AW.ret ?_
 exact AX.rt (rs := [.tmp 4]) (ts := [some 4]) (.inl rfl) rfl (ROs.cons (RO.tmp (At.self (by decide)) (Ko rfl rfl) rfl) <| ROs.nil) (by decide) OutsOK.nil
theorem c_strings_Split (x : ByteArray) (c : UInt8) (hx : x.size ≤ 1000000000) : AC Tryd.prog 48 [.cel Kd.str x, .cel Kd.str ⟨#[c]⟩] [.cel (Kd.slice Kd.str) (splB c x)] [] := (c_strings_Split_o x c hx).frz rfl

/-- stringslite.HasSuffix -/
theorem c_internal_stringslite_HasSuffix (x : ByteArray) (c : UInt8) : AC Tryd.prog 63 [.cel Kd.str x, .cel Kd.str ⟨#[c]⟩] [.cel Kd.bool (endB c x)] [] := by
 refine acI (N := 21) Tryd.func63 (Nat.le_of_ble_eq_true rfl) rfl fun w0 hd s0 ar => ?_
 refine AW.to (kc2 0 1 rfl <| Kn) ?_
 have hc1s : (⟨#[c]⟩ : ByteArray).size = 1 := rfl
 have hrx := ixB_range c x
 refine AW.fact (fun a w hr => ok_str (R_ok (t := 0) rfl hr)) (fun hs0 => ?_)
 refine sr ?_
 refine st (asB rfl) rfl ?_
 refine ng ?_
 refine sr ?_
 refine st (mvT rfl) rfl ?_
 refine st (OpT.lenS (H rfl) (T1 rfl) Tryd.underlying9) rfl ?_
 refine st (mvT rfl) rfl ?_
 refine st (OpT.lenS (H rfl) (T1 rfl) Tryd.underlying9) rfl ?_
 refine st (OpT.geq (H rfl) (T1 rfl) (T1 rfl)) rfl ?_
 refine st (mvT rfl) rfl ?_
 apply AWl.and (d := 20) (t := 10) rfl
 ·
  intro hb1 Q1 k1
  have hb1' := lT hb1
  refine rs hb1 (mvT rfl) rfl ?_
  refine rs hb1 (mvT rfl) rfl ?_
  refine rs hb1 (OpT.lenS (H rfl) (T1 rfl) Tryd.underlying9) rfl ?_
  refine rs hb1 (mvT rfl) rfl ?_
  refine rs hb1 (OpT.lenS (H rfl) (T1 rfl) Tryd.underlying9) rfl ?_
  refine rs hb1 (OpT.sub (H rfl) (T1 rfl) (T1 rfl) (nw (by omega))) rfl ?_
  refine rs hb1 (OpT.cutSL (H rfl) (T1 rfl) (T1 rfl) Tryd.underlying9 (by omega)) rfl ?_
  refine rs hb1 (mvT rfl) rfl ?_
  refine rs hb1 (OpT.seqv (H rfl) (T1 rfl) (T1 rfl)) rfl ?_
  refine st (OpT.pickT (A := .cel _ _) (H rfl) (T1 rfl) hb1 (T1 rfl) rfl) rfl ?_
  exact AWl.to (junk 9 rfl) k1
 ·
  intro hb1 Q1 k1
  refine ps hb1 rfl ?_
  refine ps hb1 rfl ?_
  refine ps hb1 rfl ?_
  refine ps hb1 rfl ?_
  refine ps hb1 rfl ?_
  refine ps hb1 rfl ?_
  refine ps hb1 rfl ?_
  refine ps hb1 rfl ?_
  refine ps hb1 rfl ?_
  refine st (OpT.pickF (A := .cel _ _) (H rfl) (T1 rfl) hb1 Opd.bool rfl) rfl ?_
  exact k1
 refine st (asT rfl) rfl ?_
 refine ng ?_
 refine AW.ret ?_
 exact rt1 rfl (.inl rfl) (end_go c x)

/-- stringslite.CutSuffix -/
theorem c_internal_stringslite_CutSuffix (x : ByteArray) (c : UInt8) : AC Tryd.prog 57 [.cel Kd.str x, .cel Kd.str ⟨#[c]⟩] [.cel Kd.str (cutB c x), .cel Kd.bool (endB c x)] [] := by
 refine acI (N := 18) Tryd.func57 (Nat.le_of_ble_eq_true rfl) rfl fun w0 hd s0 ar => ?_
 refine AW.to (kc2 0 1 rfl <| Kn) ?_
 have hc1s : (⟨#[c]⟩ : ByteArray).size = 1 := rfl
 have hrx := ixB_range c x
 refine AW.fact (fun a w hr => ok_str (R_ok (t := 0) rfl hr)) (fun hs0 => ?_)
 refine sr ?_
 refine st (OpT.move (A := .cel _ _) (.inr rfl) rfl (ok' rfl) (Opd.str (by decide)) rfl) rfl ?_
 refine st (asB rfl) rfl ?_
 refine ng ?_
 refine AW.seq ?_
 refine sr ?_
 refine st (mvT rfl) rfl ?_
 refine st (mvT rfl) rfl ?_
 refine st (OpT.c1 (ms := [.flat, .flat]) (c_internal_stringslite_HasSuffix _ _) (H rfl) (Af (T1 rfl) rfl rfl <| Af (T1 rfl) rfl rfl <| An) rfl rfl) rfl ?_
 refine st (OpT.not (H rfl) (T1 rfl)) rfl ?_
 refine ng ?_
 refine cd rfl (fun hc1 => ?_) fun hc1 => ?_
 ·
  obtain ⟨hc1, hc1'⟩ := pT hc1
  have he := cut_no hc1
  refine sr ?_
  refine st (mvT rfl) rfl ?_
  refine st (asT rfl) rfl ?_
  refine st (asB rfl) rfl ?_
  refine ng ?_
  refine AW.ret ?_
  refine rT ?_
  exact rt2 rfl (.inl rfl) (by first | exact he.1 | rfl) (by first | exact he.2 | exact he.2.1 | rfl)
 ·
  obtain ⟨hc1, hc1'⟩ := pF hc1
  have he := cut_go hc1
  refine AW.skip ?_
  refine AX.go ?_
  refine sr ?_
  refine st (mvT rfl) rfl ?_
  refine st (mvT rfl) rfl ?_
  refine st (OpT.lenS (H rfl) (T1 rfl) Tryd.underlying9) rfl ?_
  refine st (mvT rfl) rfl ?_
  refine st (OpT.lenS (H rfl) (T1 rfl) Tryd.underlying9) rfl ?_
  refine st (OpT.sub (H rfl) (T1 rfl) (T1 rfl) (nw (by omega))) rfl ?_
  refine st (OpT.cutSH (H rfl) (T1 rfl) (T1 rfl) Tryd.underlying9 (by omega)) rfl ?_
  refine st (asT rfl) rfl ?_
  refine st (asB rfl) rfl ?_
  refine AWl.to (kc2 5 4 rfl <| Kn) ?_
  refine ng ?_
  refine AW.ret ?_
  exact rt2 rfl (.inl rfl) (by first | exact he.1 | rfl) (by first | exact he.2 | exact he.2.1 | rfl)

/-- strings.CutSuffix -/
theorem c_strings_CutSuffix (x : ByteArray) (c : UInt8) : AC Tryd.prog 47 [.cel Kd.str x, .cel Kd.str ⟨#[c]⟩] [.cel Kd.str (cutB c x), .cel Kd.bool (endB c x)] [] := by
 refine acI (N := 11) Tryd.func47 (Nat.le_of_ble_eq_true rfl) rfl fun w0 hd s0 ar => ?_
 refine AW.to (kc2 0 1 rfl <| Kn) ?_
 refine sr ?_
 refine st (OpT.move (A := .cel _ _) (.inr rfl) rfl (ok' rfl) (Opd.str (by decide)) rfl) rfl ?_
 refine st (asB rfl) rfl ?_
 refine ng ?_
 refine sr ?_
 refine st (mvT rfl) rfl ?_
 refine st (mvT rfl) rfl ?_
 refine s2 (OpT.c2 (ms := [.flat, .flat]) (c_internal_stringslite_CutSuffix _ _) (H rfl) (Af (T1 rfl) rfl rfl <| Af (T1 rfl) rfl rfl <| An) rfl rfl rfl) rfl ?_
 refine st (OpT.extract (m := 10008) (H rfl) (by decide) rfl rfl rfl rfl) rfl ?_
 refine st (OpT.extract (m := 20008) (H rfl) (by decide) rfl rfl rfl rfl) rfl ?_
 refine st (asT rfl) rfl ?_
 refine st (asT rfl) rfl ?_
 refine ng ?_
 refine AW.ret ?_
 exact rt2 rfl (.inl rfl) rfl rfl

/-- impl.linesOf -/
theorem c_impl_linesOf (x : ByteArray) (hx : x.size ≤ 1000000000) : AC Tryd.prog 27 [.cel Kd.str x] [.cel (Kd.slice Kd.str) (linS x).1, .cel Kd.bool (linS x).2] [] := by
 refine acI (N := 16) Tryd.func27 (Nat.le_of_ble_eq_true rfl) rfl fun w0 hd s0 ar => ?_
 refine AW.to (kc 0 rfl <| Kn) ?_
 refine sr ?_
 refine st (OpT.move (A := .cel _ _) (.inr rfl) rfl (ok' rfl) (Opd.nilslice Kd.str) rfl) rfl ?_
 refine st (asB rfl) rfl ?_
 refine ng ?_
 refine AW.seq ?_
 refine sr ?_
 refine st (mvT rfl) rfl ?_
 refine st (OpT.seqv (H rfl) (T1 rfl) (Opd.str (by decide))) rfl ?_
 refine ng ?_
 refine cd rfl (fun hc1 => ?_) fun hc1 => ?_
 ·
  obtain ⟨hc1, hc1'⟩ := pT hc1
  have he := eqv_iff.1 hc1
  refine sr ?_
  refine st (OpT.move (A := .cel _ _) (.inr rfl) rfl (ok' rfl) (Opd.nilslice Kd.str) rfl) rfl ?_
  refine st (asB rfl) rfl ?_
  refine ng ?_
  refine AW.ret ?_
  refine rT ?_
  exact rt2 rfl (.inl rfl) (by first | (rw [lin_nil he]; done) | (rw [lin_yes he]; done)) (by first | (rw [lin_nil he]; done) | (rw [lin_yes he]; done))
 ·
  obtain ⟨hc1, hc1'⟩ := pF hc1
  have he := eqv_false_iff.1 hc1
  have hcl := cut_le 10 x
  refine AW.skip ?_
  refine AX.go ?_
  refine sr ?_
  refine st (mvT rfl) rfl ?_
  refine s2 (OpT.c2 (ms := [.flat, .flat]) (c_strings_CutSuffix x 10) (H rfl) (Af (T1 rfl) rfl rfl <| Af (Opd.str (by decide)) rfl rfl <| An) rfl rfl rfl) rfl ?_
  refine st (OpT.alias (H rfl) (by decide) (by decide)) rfl ?_
  refine st (OpT.extractV (m := 10010) (H rfl) rfl rfl rfl rfl rfl rfl rfl) rfl ?_
  refine st (OpT.extractV (m := 20010) (H rfl) rfl rfl rfl rfl rfl rfl rfl) rfl ?_
  refine st (asT rfl) rfl ?_
  refine st (asT rfl) rfl ?_
  refine ng ?_
  refine sr ?_
  refine st (mvT rfl) rfl ?_
  refine st (OpT.c1 (ms := [.flat, .flat]) (c_strings_Split (cutB 10 x) 10 (by omega)) (H rfl) (Af (T1 rfl) rfl rfl <| Af (Opd.str (by decide)) rfl rfl <| An) rfl rfl) rfl ?_
  refine st (mvT rfl) rfl ?_
  refine st (asT rfl) rfl ?_
  refine st (asT rfl) rfl ?_
  refine AWl.to (kc2 3 2 rfl <| Kn) ?_
  refine ng ?_
  refine AW.ret ?_
  exact rt2 rfl (.inl rfl) (by first | (rw [lin_nil he]; done) | (rw [lin_yes he]; done)) (by first | (rw [lin_nil he]; done) | (rw [lin_yes he]; done))
end Go.Proofs.YtconciibbhpigaaDoor.VL
