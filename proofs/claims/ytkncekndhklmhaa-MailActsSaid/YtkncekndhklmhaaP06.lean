import Derived.Test.YtkncekndhklmhaaP05
import Derived.Test.YtkncekndhklmhaaP04
import Derived.WalkKit
import Derived.ProofKit
import Derived.OpenShut
/- A part of the proof of a law: steps of the program on plain data, and plain facts about them; no condition. -/
set_option linter.unusedVariables false
set_option linter.unusedSimpArgs false
section
open Go Go.Ax
namespace Go.Proofs.S
set_option linter.unusedSimpArgs false
set_option linter.unusedVariables false
set_option maxRecDepth 4000
attribute [local simp] Ax.isX Ax.evalX Ax.evalOp0 Ax.builtinX Ax.capX Ax.copyA Ax.clearA Ax.appendZ Ax.sliceBig Ax.capM Ax.capR Ax.rowsK Ax.intAt Ax.nilCmp Ax.nilEq Ax.overX Ax.overlapA Ax.lenS Ax.isEmptyLit Ax.isSv Ax.sameTys Ax.sym Ax.symN Ax.More Ax.ops1 Ax.ops2 Ax.stepG Ax.doG Ax.skipG Ax.step1 Ax.evalOp Ax.evalO Ax.constAV Ax.one Ax.tget Ax.tset Ax.putD Ax.M.lift pure bind Ax.M.pure Ax.M.bind Ax.M.need Ax.M.fail Ax.hputs Ax.hget Ax.hset Ax.evals Ax.evalParts Ax.builtinA Ax.sliceTy Ax.elemOf Ax.look Ax.binA Ax.binV Ax.asInt64 Ax.optInt Ax.loadA Ax.storeA Ax.takeN Ax.asOne Ax.exitTo Ax.AV.cells Ax.splice Ax.fills Ax.placeOf Ax.TK.agg Ax.guardOf mkE_T mkE_S mkE_eqs mkE_N mkE_cap mkE_ovl lookF Ax.callM Ax.normArgs Ax.AV.norm Ax.AV.norm1 Ax.normAs Ax.norm_sl Ax.norm_int Ax.norm_bool Ax.norm_nil0 Ax.norm_nilp Ax.norm_some Ax.normD Ax.freezeArgs Ax.freezeArg Ax.freezeArg.freezeCells Ax.cellD Ax.cellsD Ax.collect Ax.refsL Ax.AV.refs Ax.AObj.refs Ax.mapRefs Ax.AV.mapRef Ax.AObj.mapRef Ax.locRef Ax.backRef Ax.backObjs Ax.inIds Ax.AV.known Ax.AV.cell Ax.allCell Ax.partsD Ax.fillRows Ax.indexArr Ax.spliceD Ax.appendA Ax.bounds Ax.convA Ax.maxs Ax.mins T ints_norm bools_norm intss_norm boolss_norm ids_norm noteL_norm msgs_norm instrs_norm watches_norm handlers_norm actorL_norm locs_norm wlds_norm evs_norm founds_norm acts_norm ID.enc Note.enc Msg.enc Instr.enc Handler.enc Actor.enc Prg.enc Loc.enc Bud.enc Wld.enc Ev.enc Lim.enc Found.enc NRes.enc VRes.enc Act.enc ID.eta Note.eta Msg.eta Instr.eta Handler.eta Actor.eta Prg.eta Loc.eta Bud.eta Wld.eta Ev.eta Lim.eta Found.eta NRes.eta VRes.eta Act.eta take_len_map indexS_sv indexS_sl sliceA_sv sliceA_sl sliceA_nil rowsOf_sl rowsOf_nil rowsOf_sv lenA_sl lenA_lit lenA_sv ints_len bools_len intss_len boolss_len watches_len ints_idx ints_sli ints_rows bools_idx bools_sli bools_rows intss_idx intss_sli intss_rows boolss_idx boolss_sli boolss_rows ids_len ids_idx ids_sli ids_rows noteL_len noteL_idx noteL_sli noteL_rows msgs_len msgs_idx msgs_sli msgs_rows instrs_len instrs_idx instrs_sli instrs_rows watches_idx watches_sli watches_rows handlers_len handlers_idx handlers_sli handlers_rows actorL_len actorL_idx actorL_sli actorL_rows locs_len locs_idx locs_sli locs_rows wlds_len wlds_idx wlds_sli wlds_rows evs_len evs_idx evs_sli evs_rows founds_len founds_idx founds_sli founds_rows acts_len acts_idx acts_sli acts_rows Ax.fin Ax.resVals Ax.resVal Ax.passedL Ax.cvOk Ax.expRef Ax.expObjs Ax.oneOf Ax.normRes Ax.ASt.can Ax.canTm Ax.canHp Ax.canRef Ax.newName Ax.verOf Ax.ASt.erase Ax.eraseTm Ax.eraseHp Ax.keepRef Ax.initSt Ax.argTm Ax.mkHeap Ax.zeroVer

theorem ov75 : OvOk Try.prog 75 where
  func := ⟨_, Try.func75, rfl, rfl, rfl, ⟨_, rfl⟩, _, _, _, rfl, Try.underlying24, tok31⟩

/-- the environment of one call: the capacity is known -/
def mkC (n c : Nat) (fns : List (Nat × Ax.Fn)) (ov : Nat) : Env := ⟨T, lookF fns, eqs, n, fun j => if j = 0 then some c else none, fun f => decide (f = ov)⟩
theorem mkC_ok {en : Ent} {n c ov : Nat} {fns : List (Nat × Ax.Fn)} (h : ∀ p ∈ fns, FnOk Try.prog p.1 p.2) (ho : OvOk Try.prog ov) (hc : CapIs en c) : EOkM Try.prog (mkC n c fns ov) en :=
  ⟨⟨⟨tok, (mkE_nil (n := n) (en := en)).eq⟩, fun f fn hf => h (f, fn) (lookF_mem _ _ _ hf), by
    intro j d hd
    simp only [mkC] at hd
    split at hd
    · rename_i e; cases hd; subst e; exact hc
    · simp at hd, by intro f hf; simp [mkC] at hf; subst hf; exact ho⟩, Checked.mixed Try.checked⟩

theorem ins_end {α : Type} (L : List α) (i : Nat) (x : α) (h : i < L.length) :
    List.take (L.length + 1) (List.take i (List.take (i + 1) L ++ (List.take (L.length - i) (List.drop i L) ++ List.drop (i + 1 + (L.length - i)) L)) ++ x :: (List.take (L.length - i) (List.drop i L) ++ List.drop (i + 1 + (L.length - i)) L)) = List.take i L ++ x :: List.drop i L := by
  have h1 : List.take (L.length - i) (List.drop i L) = List.drop i L := List.take_of_length_le (by simp)
  have h2 : List.drop (i + 1 + (L.length - i)) L = [] := List.drop_of_length_le (by omega)
  have h3 : List.take i (List.take (i + 1) L ++ List.drop i L) = List.take i L := by
    rw [List.take_append_of_le_length (by simp; omega), List.take_take, Nat.min_eq_left (by omega)]
  rw [h1, h2, List.append_nil, h3]
  exact List.take_of_length_le (by simp; omega)
theorem ins_end2 {α : Type} (L : List α) (i : Nat) (x : α) (h : i < L.length) (z : α) :
    List.take (L.length + 1) (List.take (i + 1) (List.take i L ++ x :: List.drop (i + 1) (List.take i L ++ List.replicate (L.length + 1 - i) z)) ++ List.take (L.length - i) (List.drop i L)) = List.take i L ++ x :: List.drop i L := by
  have h1 : List.take (L.length - i) (List.drop i L) = List.drop i L := List.take_of_length_le (by simp)
  have h2 : List.take (i + 1) (List.take i L ++ x :: List.drop (i + 1) (List.take i L ++ List.replicate (L.length + 1 - i) z)) = List.take i L ++ [x] := by
    rw [List.take_append, List.take_take, List.length_take, Nat.min_eq_right (by omega), Nat.min_eq_left (by omega), show i + 1 - i = 1 by omega]
    rfl
  rw [h1, h2, List.append_assoc]
  exact List.take_of_length_le (by simp; omega)
theorem ins_take {α : Type} (A B R : List α) (n : Nat) (h : A.length + B.length = n) : List.take n (A ++ (B ++ R)) = A ++ B := by
  rw [← List.append_assoc, List.take_append_of_le_length (by simp; omega), List.take_of_length_le (by simp; omega)]
def insAtN (l : List Msg) (i : Nat) (m : Msg) : List Msg := l.take i ++ m :: l.drop i
abbrev insertJ : (List Msg) × Nat × Msg → Prop := fun x => match x with | (l, i, m) => i ≤ l.length ∧ l.length < 16777216
abbrev insertI : (List Msg) × Nat × Msg → List AV × List AObj := fun x => match x with | (l, i, m) => ([.sv 0 0 6 0 l.length, .int i, .d (.sl 6 [[.int m.id.a, .int m.id.b, .int m.id.c, .int m.note.to, .int m.note.h, ints m.note.args]])], [.arr 6 (l.map Msg.enc)])
abbrev insertO : (List Msg) × Nat × Msg → AV × List (Nat × AObj) := fun x => match x with | (l, i, m) => (.d (msgs (insAtN l i m)), [(1, .dead)])
noncomputable def insertF : Fun := mkF insertJ insertI insertO
theorem insert_at (l : List Msg) (i : Nat) (m_id_a : Int) (m_id_b : Int) (m_id_c : Int) (m_note_to : Int) (m_note_h : Int) (m_note_args : List Int) (hpre : i ≤ l.length ∧ l.length < 16777216) : insertF [.sv 0 0 6 0 l.length, .int i, .d (.sl 6 [[.int m_id_a, .int m_id_b, .int m_id_c, .int m_note_to, .int m_note_h, ints m_note_args]])] [.arr 6 (l.map Msg.enc)] = some (.d (msgs (insAtN l i (⟨⟨m_id_a, m_id_b, m_id_c⟩, ⟨m_note_to, m_note_h, m_note_args⟩⟩ : Msg))), [(1, .dead)]) := by
  exact mkF_at (J := insertJ) (inp := insertI) (out := insertO) (by
    rintro ⟨l, i, ⟨⟨m_id_a, m_id_b, m_id_c⟩, ⟨m_note_to, m_note_h, m_note_args⟩⟩⟩ ⟨l1, i1, ⟨⟨m_id_a1, m_id_b1, m_id_c1⟩, ⟨m_note_to1, m_note_h1, m_note_args1⟩⟩⟩ h
    simp [insertI, ints_iff, bools_iff, intss_iff, boolss_iff, Int.natCast_inj, ids_map, ids_iff, noteL_map, noteL_iff, msgs_map, msgs_iff, instrs_map, instrs_iff, watches_iff, handlers_map, handlers_iff, actorL_map, actorL_iff, locs_map, locs_iff, wlds_map, wlds_iff, evs_map, evs_iff, founds_map, founds_iff, acts_map, acts_iff] at h
    simp [insertO, h]) (l, i, ⟨⟨m_id_a, m_id_b, m_id_c⟩, ⟨m_note_to, m_note_h, m_note_args⟩⟩) hpre
set_option maxHeartbeats 2000000 in
theorem insert_spec : Ax.Spec Try.prog 47 insertF := by
  refine spec_mkC Try.func47 rfl (fun x hl en hs hcap => ?_)
  obtain ⟨l, i, m⟩ := x
  obtain ⟨h1, h2⟩ : i ≤ l.length ∧ l.length < 16777216 := hl
  show ∃ E : Env, EOkM Try.prog E en ∧ _ ∧ 3 ≤ _ ∧ Ex Try.prog E en _ (initSt [.sv 0 0 6 0 l.length, .int i, .d (.sl 6 [[.int m.id.a, .int m.id.b, .int m.id.c, .int m.note.to, .int m.note.h, ints m.note.args]])] [.arr 6 (l.map Msg.enc)]) (Done _ _ 1 (.d (msgs (insAtN l i m)), [(1, .dead)]))
  by_cases hi : i = l.length
  · subst hi
    have hE : ∀ en, EOkM Try.prog (mkE 95 []) en := fun en => mkE_nil
    refine ⟨mkE 95 [], hE _, Try.ntmps47, by simp [mkE], ?_⟩
    refine Ex.ofW ?_
    have hsum : l.length + 1 ≤ sumLen := by simp [sumLen]; omega
    refine Ex.of_symN (hE _) 400 _ _ ?_
    simp [Try.f47, msgs, insAtN, hsum]
    refine doneW (weak_take 6 0 1 6 0 (l.length + 1) (l.map Msg.enc ++ [m.enc]) rfl rfl (by simp)) ?_
    refine ⟨[1], [], [], rfl, ?_⟩
    simp [Try.f47, tset, Ax.tset]
    exact List.take_of_length_le (by simp)
  · have hne : l.length ≠ 0 := by omega
    obtain ⟨c, hc1, hc2⟩ := hcap 6 l.length _ _ _ rfl rfl (by decide) hne
    refine ⟨mkC 95 c [] 75, mkC_ok (by simp) ov75 hc2, Try.ntmps47, by simp [mkC], ?_⟩
    have hE : ∀ en, CapIs en c → EOkM Try.prog (mkC 95 c [] 75) en := fun en h => mkC_ok (by simp) ov75 h
    refine Ex.ofW ?_
    by_cases hb : l.length + 1 ≤ c
    · refine Ex.of_symN (hE _ hc2) 400 _ _ ?_
      have a1 : ¬ ((i : Int) = l.length) := by omega
      have a2 : (i : Int) ≤ l.length := by omega
      have a3 : IntKind.i64.wrap ((l.length : Int) + 1) = (l.length : Int) + 1 := wrap64 (by omega) (by omega)
      have a4 : ¬ ((c : Int) < (l.length : Int) + 1) := by omega
      have a5 : ¬ ((l.length : Int) + 1 ≤ l.length) := by omega
      have a6 : (0 : Int) ≤ (l.length : Int) + 1 := by omega
      have a7 : (l.length : Int) + 1 ≤ c := by omega
      have a8 : ((l.length : Int) + 1).toNat = l.length + 1 := by omega
      have a9 : IntKind.i64.wrap ((i : Int) + 1) = (i : Int) + 1 := wrap64 (by omega) (by omega)
      have b1 : (i : Int) + 1 ≤ (l.length : Int) + 1 := by omega
      have b2 : ((i : Int) + 1).toNat = i + 1 := by omega
      have b3 : (0 : Int) ≤ (i : Int) + 1 := by omega
      have b4 : (i : Int) ≤ (l.length : Int) + 1 := by omega
      have b5 : ¬ (l.length - i = 0) := by omega
      have b6 : min (l.length + 1 - i) (l.length - i) = l.length - i := by omega
      have b7 : i + (l.length - i) ≤ l.length := by omega
      have b8 : i + 1 ≤ l.length := by omega
      have b9 : ¬ (l.length + 1 - i = 0) := by omega
      have d1 : min 1 (l.length + 1 - i) = 1 := by omega
      have d2 : i ≤ i + 1 + (l.length - i + (l.length - (i + 1 + (l.length - i)))) := by omega
      simp [Try.f47, msgs, mkC, a1, a2, a3, a4, a5, a6, a7, a8, a9, b1, b2, b3, b4, b5, b6, b7, b8, b9, d1, d2]
      refine ⟨by decide, ?_⟩
      refine doneW (weak_take 6 0 0 6 0 (l.length + 1) _ rfl rfl (by simp; omega)) ?_
      refine ⟨[1], [], [], rfl, ?_⟩
      simp [Try.f47, tset, Ax.tset]
      have := ins_end (l.map Msg.enc) i m.enc (by simp; omega)
      simpa [insAtN, Msg.enc] using this
    · refine Ex.of_symN (hE _ hc2) 400 _ _ ?_
      have a1 : ¬ ((i : Int) = l.length) := by omega
      have a2 : (i : Int) ≤ l.length := by omega
      have a3 : IntKind.i64.wrap ((l.length : Int) + 1) = (l.length : Int) + 1 := wrap64 (by omega) (by omega)
      have a4 : (c : Int) < (l.length : Int) + 1 := by omega
      have a5 : IntKind.i64.wrap ((l.length : Int) + 1 - i) = (l.length : Int) + 1 - i := wrap64 (by omega) (by omega)
      have a6 : ((l.length : Int) + 1 - i).toNat = l.length + 1 - i := by omega
      have a7 : (0 : Int) ≤ (l.length : Int) + 1 - i := by omega
      have a9 : IntKind.i64.wrap ((i : Int) + 1) = (i : Int) + 1 := wrap64 (by omega) (by omega)
      have b2 : ((i : Int) + 1).toNat = i + 1 := by omega
      have b3 : (0 : Int) ≤ (i : Int) + 1 := by omega
      have b4 : (i : Int) + 1 ≤ (l.length : Int) + 1 := by omega
      have b5 : c < i + (l.length + 1 - i) := by omega
      have b6 : i + (l.length + 1 - i) ≤ sumLen := by simp [sumLen]; omega
      have b7 : i + (l.length + 1 - i) = l.length + 1 := by omega
      have b8 : (i : Int) ≤ (l.length : Int) + 1 := by omega
      have b9 : c < l.length + 1 := by omega
      have b10 : l.length + 1 ≤ sumLen := by simp [sumLen]; omega
      have d1 : min 1 (l.length + 1 - i) = 1 := by omega
      have d3 : ¬ (l.length + 1 - i = 0) := by omega
      have d4 : i ≤ l.length + 1 := by omega
      have d5 : i + (l.length - i) ≤ l.length := by omega
      have d6 : ¬ (l.length - i = 0) := by omega
      simp [d3, d4, d5, d6, Try.f47, msgs, mkC, a1, a2, a3, a4, a5, a6, a7, a9, b2, b3, b4, b5, b6, b7, b8, b9, b10, d1, h1]
      refine ⟨by decide, ?_⟩
      refine doneW ((weak_take 6 929 0 6 0 (l.length + 1) _ rfl rfl (by simp; omega)).trans (weak_kill 0 0 _ rfl)) ?_
      refine ⟨[1], [], [], rfl, ?_⟩
      simp [Try.f47, tset, Ax.tset]
      rw [ins_take _ _ _ _ (by simp; omega)]
      have := ins_end2 (l.map Msg.enc) i m.enc (by simp; omega) [D.int 0, D.int 0, D.int 0, D.int 0, D.int 0, D.sl 1 []]
      rw [List.take_of_length_le (by simp; omega)] at this
      simpa [insAtN, Msg.enc] using this
theorem insert_ok : FnOk Try.prog 47 ⟨[true, false, false], insertF⟩ := ⟨⟨_, Try.func47, rfl, rfl⟩, insert_spec⟩
end Go.Proofs.S
end
section
open Go Go.Ax
namespace Go.Proofs.S
set_option linter.unusedSimpArgs false
set_option linter.unusedVariables false
set_option maxRecDepth 4000
attribute [local simp] Ax.isX Ax.evalX Ax.evalOp0 Ax.builtinX Ax.capX Ax.copyA Ax.clearA Ax.appendZ Ax.sliceBig Ax.capM Ax.capR Ax.rowsK Ax.intAt Ax.nilCmp Ax.nilEq Ax.overX Ax.overlapA Ax.lenS Ax.isEmptyLit Ax.isSv Ax.sameTys Ax.sym Ax.symN Ax.More Ax.ops1 Ax.ops2 Ax.stepG Ax.doG Ax.skipG Ax.step1 Ax.evalOp Ax.evalO Ax.constAV Ax.one Ax.tget Ax.tset Ax.putD Ax.M.lift pure bind Ax.M.pure Ax.M.bind Ax.M.need Ax.M.fail Ax.hputs Ax.hget Ax.hset Ax.evals Ax.evalParts Ax.builtinA Ax.sliceTy Ax.elemOf Ax.look Ax.binA Ax.binV Ax.asInt64 Ax.optInt Ax.loadA Ax.storeA Ax.takeN Ax.asOne Ax.exitTo Ax.AV.cells Ax.splice Ax.fills Ax.placeOf Ax.TK.agg Ax.guardOf mkE_T mkE_S mkE_eqs mkE_N mkE_cap mkE_ovl lookF Ax.callM Ax.normArgs Ax.AV.norm Ax.AV.norm1 Ax.normAs Ax.norm_sl Ax.norm_int Ax.norm_bool Ax.norm_nil0 Ax.norm_nilp Ax.norm_some Ax.normD Ax.freezeArgs Ax.freezeArg Ax.freezeArg.freezeCells Ax.cellD Ax.cellsD Ax.collect Ax.refsL Ax.AV.refs Ax.AObj.refs Ax.mapRefs Ax.AV.mapRef Ax.AObj.mapRef Ax.locRef Ax.backRef Ax.backObjs Ax.inIds Ax.AV.known Ax.AV.cell Ax.allCell Ax.partsD Ax.fillRows Ax.indexArr Ax.spliceD Ax.appendA Ax.bounds Ax.convA Ax.maxs Ax.mins T ints_norm bools_norm intss_norm boolss_norm ids_norm noteL_norm msgs_norm instrs_norm watches_norm handlers_norm actorL_norm locs_norm wlds_norm evs_norm founds_norm acts_norm ID.enc Note.enc Msg.enc Instr.enc Handler.enc Actor.enc Prg.enc Loc.enc Bud.enc Wld.enc Ev.enc Lim.enc Found.enc NRes.enc VRes.enc Act.enc ID.eta Note.eta Msg.eta Instr.eta Handler.eta Actor.eta Prg.eta Loc.eta Bud.eta Wld.eta Ev.eta Lim.eta Found.eta NRes.eta VRes.eta Act.eta take_len_map indexS_sv indexS_sl sliceA_sv sliceA_sl sliceA_nil rowsOf_sl rowsOf_nil rowsOf_sv lenA_sl lenA_lit lenA_sv ints_len bools_len intss_len boolss_len watches_len ints_idx ints_sli ints_rows bools_idx bools_sli bools_rows intss_idx intss_sli intss_rows boolss_idx boolss_sli boolss_rows ids_len ids_idx ids_sli ids_rows noteL_len noteL_idx noteL_sli noteL_rows msgs_len msgs_idx msgs_sli msgs_rows instrs_len instrs_idx instrs_sli instrs_rows watches_idx watches_sli watches_rows handlers_len handlers_idx handlers_sli handlers_rows actorL_len actorL_idx actorL_sli actorL_rows locs_len locs_idx locs_sli locs_rows wlds_len wlds_idx wlds_sli wlds_rows evs_len evs_idx evs_sli evs_rows founds_len founds_idx founds_sli founds_rows acts_len acts_idx acts_sli acts_rows Ax.fin Ax.resVals Ax.resVal Ax.passedL Ax.cvOk Ax.expRef Ax.expObjs Ax.oneOf Ax.normRes Ax.ASt.can Ax.canTm Ax.canHp Ax.canRef Ax.newName Ax.verOf Ax.ASt.erase Ax.eraseTm Ax.eraseHp Ax.keepRef Ax.initSt Ax.argTm Ax.mkHeap Ax.zeroVer

theorem idxFrom_spec {α : Type} (p : α → Bool) : ∀ (l : List α) (k : Nat), (idxFrom p k l = -1 ∧ ∀ x ∈ l, p x = false) ∨ ∃ i, ∃ h : i < l.length, idxFrom p k l = ((k + i : Nat) : Int) ∧ p l[i] = true ∧ ∀ j, ∀ hj : j < i, p (l[j]'(by omega)) = false
  | [], k => .inl ⟨rfl, by simp⟩
  | x :: r, k => by
    by_cases hx : p x = true
    · exact .inr ⟨0, by simp, by simp [idxFrom, hx], by simpa using hx, by intro j hj; omega⟩
    · have hx' : p x = false := by simpa using hx
      rcases idxFrom_spec p r (k + 1) with ⟨h1, h2⟩ | ⟨i, h, h1, h2, h3⟩
      · refine .inl ⟨by simp [idxFrom, hx', h1], ?_⟩
        intro y hy
        rcases List.mem_cons.1 hy with rfl | hy
        · exact hx'
        · exact h2 y hy
      · refine .inr ⟨i + 1, by simpa using h, ?_, by simpa using h2, ?_⟩
        · simp only [idxFrom, hx']
          rw [show k + (i + 1) = k + 1 + i by omega]
          simpa using h1
        · intro j hj
          cases j with
          | zero => simpa using hx'
          | succ j => simpa using h3 j (by omega)

theorem findM_cases (l : List Msg) (id : ID) : (findM l id = -1 ∧ ∀ m ∈ l, m.id ≠ id) ∨ ∃ i, ∃ h : i < l.length, findM l id = (i : Int) ∧ l[i].id = id ∧ ∀ j, ∀ hj : j < i, (l[j]'(by omega)).id ≠ id := by
  rcases idxFrom_spec (fun m : Msg => m.id.is id) l 0 with ⟨h1, h2⟩ | ⟨i, h, h1, h2, h3⟩
  · exact .inl ⟨h1, fun m hm => by simpa [ID.is_dec] using h2 m hm⟩
  · exact .inr ⟨i, h, by simpa [findM] using h1, by simpa [ID.is_dec] using h2, fun j hj => by simpa [ID.is_dec] using h3 j hj⟩
theorem placeM_cases (l : List Msg) (m : Msg) : (placeM l m = -1 ∧ ∀ x ∈ l, less x.id m.id = true) ∨ ∃ i, ∃ h : i < l.length, placeM l m = (i : Int) ∧ less l[i].id m.id = false ∧ ∀ j, ∀ hj : j < i, less (l[j]'(by omega)).id m.id = true := by
  rcases idxFrom_spec (fun x : Msg => !less x.id m.id) l 0 with ⟨h1, h2⟩ | ⟨i, h, h1, h2, h3⟩
  · exact .inl ⟨h1, fun m hm => by simpa using h2 m hm⟩
  · exact .inr ⟨i, h, by simpa [placeM] using h1, by simpa using h2, fun j hj => by simpa using h3 j hj⟩

abbrev indexPutJ : (List Msg) × Msg → Prop := fun x => match x with | (l, m) => l.length < 9223372036854775808
abbrev indexPutI : (List Msg) × Msg → List AV × List AObj := fun x => match x with | (l, m) => ([.d (msgs l), .clo 45 [.ptr 0 0 0 0]], [.box [.int m.id.a, .int m.id.b, .int m.id.c, .int m.note.to, .int m.note.h, .d (ints m.note.args)]])
abbrev indexPutO : (List Msg) × Msg → AV × List (Nat × AObj) := fun x => match x with | (l, m) => (.int (placeM l m), [(0, .box [.int m.id.a, .int m.id.b, .int m.id.c, .int m.note.to, .int m.note.h, .d (ints m.note.args)])])
noncomputable def indexPutF : Fun := mkF indexPutJ indexPutI indexPutO
theorem indexPut_at (l : List Msg) (m_id_a : Int) (m_id_b : Int) (m_id_c : Int) (m_note_to : Int) (m_note_h : Int) (m_note_args : List Int) (hpre : l.length < 9223372036854775808) : indexPutF [.d (msgs l), .clo 45 [.ptr 0 0 0 0]] [.box [.int m_id_a, .int m_id_b, .int m_id_c, .int m_note_to, .int m_note_h, .d (ints m_note_args)]] = some (.int (placeM l (⟨⟨m_id_a, m_id_b, m_id_c⟩, ⟨m_note_to, m_note_h, m_note_args⟩⟩ : Msg)), [(0, .box [.int m_id_a, .int m_id_b, .int m_id_c, .int m_note_to, .int m_note_h, .d (ints m_note_args)])]) := by
  exact mkF_at (J := indexPutJ) (inp := indexPutI) (out := indexPutO) (by
    rintro ⟨l, ⟨⟨m_id_a, m_id_b, m_id_c⟩, ⟨m_note_to, m_note_h, m_note_args⟩⟩⟩ ⟨l1, ⟨⟨m_id_a1, m_id_b1, m_id_c1⟩, ⟨m_note_to1, m_note_h1, m_note_args1⟩⟩⟩ h
    simp [indexPutI, ints_iff, bools_iff, intss_iff, boolss_iff, Int.natCast_inj, ids_map, ids_iff, noteL_map, noteL_iff, msgs_map, msgs_iff, instrs_map, instrs_iff, watches_iff, handlers_map, handlers_iff, actorL_map, actorL_iff, locs_map, locs_iff, wlds_map, wlds_iff, evs_map, evs_iff, founds_map, founds_iff, acts_map, acts_iff] at h
    simp [indexPutO, h]) (l, ⟨⟨m_id_a, m_id_b, m_id_c⟩, ⟨m_note_to, m_note_h, m_note_args⟩⟩) hpre
theorem indexPut_spec : Ax.Spec Try.prog 44 indexPutF := by
  have hE : ∀ en, EOkM Try.prog (mkE 19 [(45, ⟨[], put1F⟩)]) en := fun en => mkE_ok (by simp [put1_ok])
  refine spec_mk hE Try.func44 rfl Try.ntmps44 (fun x hl en hs => ⟨by simp [mkE], ?_⟩)
  obtain ⟨l, m⟩ := x
  replace hl : l.length < 9223372036854775808 := hl
  show Ex _ _ _ _ (initSt [.d (msgs l), .clo 45 [.ptr 0 0 0 0]] [.box [.int m.id.a, .int m.id.b, .int m.id.c, .int m.note.to, .int m.note.h, .d (ints m.note.args)]]) (Done _ _ 1 (.int (placeM l m), [(0, .box [.int m.id.a, .int m.id.b, .int m.id.c, .int m.note.to, .int m.note.h, .d (ints m.note.args)])]))
  refine Ex.of_symN (hE _) 400 _ _ ?_
  simp [Try.f44, msgs]
  refine Ex.erase hs [0, 1, 7, 8] 1 (by simp) ?_
  refine Ex.range l.length (fun k => placeM l m = idxFrom (fun x : Msg => !less x.id m.id) k (l.drop k)) (fun k => ⟨[(0, .d (msgs l)), (1, .clo 45 [.ptr 0 0 0 0]), (7, .int l.length), (8, .int k)], [(0, 0, .box [.int m.id.a, .int m.id.b, .int m.id.c, .int m.note.to, .int m.note.h, .d (ints m.note.args)])], 1⟩) (by simp [placeM]) ?_ ?_
  · intro k hlt hq ih
    have hk' : (k : Int) < l.length := by omega
    have hg : l[k]? = some l[k] := List.getElem?_eq_getElem hlt
    have hd := List.drop_eq_getElem_cons hlt
    refine Ex.of_symN (hE _) 400 _ _ ?_
    simp [hk', hg, put1_at]
    split
    · rename_i h0
      rw [wrap64 (n := (k : Int) + 1) (by omega) (by omega)]
      refine Ex.erase_to hs [0, 1, 7, 8] 1 (by simp) (ih (by rw [hq, hd, idxFrom, if_neg (by simp [h0])])) ?_
      simp [msgs]
    · rename_i h0
      refine done [0] [] [] rfl ?_
      simp [Try.f44]
      rw [hq, hd, idxFrom, if_pos (by simpa using h0)]
  · intro hq
    refine Ex.of_symN (hE _) 400 _ _ ?_
    simp [msgs]
    refine done [0] [] [] rfl ?_
    simp [Try.f44, idxFrom, hq]
theorem indexPut_ok : FnOk Try.prog 44 ⟨[], indexPutF⟩ := ⟨⟨_, Try.func44, rfl, rfl⟩, indexPut_spec⟩

def Small1 (l : List Msg) : Prop := l.length ≤ 16777216 ∧ ∀ m ∈ l, m.note.args.length ≤ 16777216
abbrev copyJ : (List Msg) → Prop := fun l => Small1 l
abbrev copyI : (List Msg) → List AV × List AObj := fun l => ([.d (msgs l)], [])
abbrev copyO : (List Msg) → AV × List (Nat × AObj) := fun l => (.sv 0 0 6 0 l.length, [(0, .arr 6 (l.map Msg.enc))])
noncomputable def copyF : Fun := mkF copyJ copyI copyO
theorem copy_at (l : List Msg) (hpre : Small1 l) : copyF [.d (msgs l)] [] = some (.sv 0 0 6 0 l.length, [(0, .arr 6 (l.map Msg.enc))]) := by
  exact mkF_at (J := copyJ) (inp := copyI) (out := copyO) (by
    rintro l l1 h
    simp [copyI, ints_iff, bools_iff, intss_iff, boolss_iff, Int.natCast_inj, ids_map, ids_iff, noteL_map, noteL_iff, msgs_map, msgs_iff, instrs_map, instrs_iff, watches_iff, handlers_map, handlers_iff, actorL_map, actorL_iff, locs_map, locs_iff, wlds_map, wlds_iff, evs_map, evs_iff, founds_map, founds_iff, acts_map, acts_iff] at h
    simp [copyO, h]) (l : List Msg) hpre
theorem copy_spec : Ax.Spec Try.prog 16 copyF := by
  have hE : ∀ en, EOkM Try.prog (mkE 18 [(43, ⟨[], ownF⟩)]) en := fun en => mkE_ok (by simp [own_ok])
  refine spec_mk hE Try.func16 rfl Try.ntmps16 (fun l hl en hs => ⟨by simp [mkE], ?_⟩)
  replace hl : Small1 l := hl
  show Ex _ _ _ _ (initSt [.d (msgs l)] []) (Done _ _ 0 (.sv 0 0 6 0 l.length, [(0, .arr 6 (l.map Msg.enc))]))
  obtain ⟨h1, h2⟩ := hl
  refine Ex.of_symN (hE _) 400 _ _ ?_
  simp [Try.f16, msgs]
  refine Ex.erase hs [0, 2, 5, 6, 7] 0 (by simp) ?_
  simp
  refine Ex.adopt 2 6 rfl ?_
  refine Ex.range l.length (fun _ => True) (fun k => ⟨[(0, .d (msgs l)), (2, .sv 0 k 6 0 k), (5, .d (msgs l)), (6, .int l.length), (7, .int k)], [(0, k, .arr 6 ((l.take k).map Msg.enc))], 1⟩) trivial ?_ ?_
  · intro k hlt _ ih
    have hk' : (k : Int) < l.length := by omega
    have hg : l[k]? = some l[k] := List.getElem?_eq_getElem hlt
    have ho := own_at l[k].id.a l[k].id.b l[k].id.c l[k].note.to l[k].note.h l[k].note.args (h2 _ (List.getElem_mem hlt))
    have hm : min k l.length = k := by omega
    have hsum : k + 1 ≤ sumLen := by simp [sumLen]; omega
    refine Ex.of_symN (hE _) 400 _ _ ?_
    simp [hk', hg, ho, hm, hsum]
    rw [wrap64 (n := (k : Int) + 1) (by omega) (by omega)]
    have e := map_take_succ Msg.enc hlt
    refine Ex.erase_to hs [0, 2, 5, 6, 7] 1 (by simp) (ih trivial) ?_
    rw [e]
    simp [msgs, Msg.enc]
  · intro _
    refine Ex.of_symN (hE _) 400 _ _ ?_
    simp [msgs]
    refine done [] [true] [] rfl ?_
    simp [Try.f16]
theorem copy_ok : FnOk Try.prog 16 ⟨[], copyF⟩ := ⟨⟨_, Try.func16, rfl, rfl⟩, copy_spec⟩

abbrev putJ : (List Msg) × Msg → Prop := fun x => match x with | (l, m) => l.length < 16777216 ∧ (∀ x ∈ l, x.note.args.length ≤ 16777216) ∧ m.note.args.length ≤ 16777216
abbrev putI : (List Msg) × Msg → List AV × List AObj := fun x => match x with | (l, m) => ([.d (msgs l), .agg [.int m.id.a, .int m.id.b, .int m.id.c, .int m.note.to, .int m.note.h, .d (ints m.note.args)]], [])
abbrev putO : (List Msg) × Msg → AV × List (Nat × AObj) := fun x => match x with | (l, m) => (.tup [.d (msgs ((putM l m).getD [])), .int (if (putM l m).isSome then 0 else 1)], [])
noncomputable def putF : Fun := mkF putJ putI putO
theorem put_at (l : List Msg) (m_id_a : Int) (m_id_b : Int) (m_id_c : Int) (m_note_to : Int) (m_note_h : Int) (m_note_args : List Int) (hpre : l.length < 16777216 ∧ (∀ x ∈ l, x.note.args.length ≤ 16777216) ∧ (⟨⟨m_id_a, m_id_b, m_id_c⟩, ⟨m_note_to, m_note_h, m_note_args⟩⟩ : Msg).note.args.length ≤ 16777216) : putF [.d (msgs l), .agg [.int m_id_a, .int m_id_b, .int m_id_c, .int m_note_to, .int m_note_h, .d (ints m_note_args)]] [] = some (.tup [.d (msgs ((putM l (⟨⟨m_id_a, m_id_b, m_id_c⟩, ⟨m_note_to, m_note_h, m_note_args⟩⟩ : Msg)).getD [])), .int (if (putM l (⟨⟨m_id_a, m_id_b, m_id_c⟩, ⟨m_note_to, m_note_h, m_note_args⟩⟩ : Msg)).isSome then 0 else 1)], []) := by
  exact mkF_at (J := putJ) (inp := putI) (out := putO) (by
    rintro ⟨l, ⟨⟨m_id_a, m_id_b, m_id_c⟩, ⟨m_note_to, m_note_h, m_note_args⟩⟩⟩ ⟨l1, ⟨⟨m_id_a1, m_id_b1, m_id_c1⟩, ⟨m_note_to1, m_note_h1, m_note_args1⟩⟩⟩ h
    simp [putI, ints_iff, bools_iff, intss_iff, boolss_iff, Int.natCast_inj, ids_map, ids_iff, noteL_map, noteL_iff, msgs_map, msgs_iff, instrs_map, instrs_iff, watches_iff, handlers_map, handlers_iff, actorL_map, actorL_iff, locs_map, locs_iff, wlds_map, wlds_iff, evs_map, evs_iff, founds_map, founds_iff, acts_map, acts_iff] at h
    simp [putO, h]) (l, ⟨⟨m_id_a, m_id_b, m_id_c⟩, ⟨m_note_to, m_note_h, m_note_args⟩⟩) hpre
set_option maxHeartbeats 1000000 in
theorem put_spec : Ax.Spec Try.prog 17 putF := by
  have hE : ∀ en, EOkM Try.prog (mkE 26 [(22, ⟨[], findF⟩), (44, ⟨[], indexPutF⟩), (16, ⟨[], copyF⟩), (43, ⟨[], ownF⟩), (47, ⟨[true, false, false], insertF⟩)]) en := fun en => mkE_ok (by simp [find_ok, indexPut_ok, copy_ok, own_ok, insert_ok])
  refine spec_mk hE Try.func17 rfl Try.ntmps17 (fun x hl en hs => ⟨by simp [mkE], ?_⟩)
  obtain ⟨l, m⟩ := x
  replace hl : l.length < 16777216 ∧ (∀ x ∈ l, x.note.args.length ≤ 16777216) ∧ m.note.args.length ≤ 16777216 := hl
  show Ex _ _ _ _ (initSt [.d (msgs l), .agg [.int m.id.a, .int m.id.b, .int m.id.c, .int m.note.to, .int m.note.h, .d (ints m.note.args)]] []) (Done _ _ 0 (.tup [.d (msgs ((putM l m).getD [])), .int (if (putM l m).isSome then 0 else 1)], []))
  obtain ⟨h1, h2, h3⟩ := hl
  have hf := find_at l m.id.a m.id.b m.id.c (by omega)
  have hp := indexPut_at l m.id.a m.id.b m.id.c m.note.to m.note.h m.note.args (by omega)
  have hc := copy_at l ⟨by omega, h2⟩
  have ho := own_at m.id.a m.id.b m.id.c m.note.to m.note.h m.note.args h3
  rcases findM_cases l m.id with ⟨e, _⟩ | ⟨i, hi, e, _⟩
  · rcases placeM_cases l m with ⟨e2, _⟩ | ⟨j, hj, e2, _⟩
    · have hin := insert_at l l.length m.id.a m.id.b m.id.c m.note.to m.note.h m.note.args ⟨by omega, h1⟩
      have e3 : putM l m = some (insAtN l l.length m) := by simp [putM, e, insAt, e2, insAtN]
      refine Ex.of_symN (hE _) 400 _ _ ?_
      simp [Try.f17, hf, hp, hc, ho, e, e2, hin, e3]
      refine ⟨by decide, ?_⟩
      (refine done [] [] [] rfl ?_; simp [Try.f17])
    · have hin := insert_at l j m.id.a m.id.b m.id.c m.note.to m.note.h m.note.args ⟨by omega, h1⟩
      have hj0 : ¬ ((j : Int) < 0) := by omega
      have e3 : putM l m = some (insAtN l j m) := by simp [putM, e, insAt, e2, insAtN, hj0]
      refine Ex.of_symN (hE _) 400 _ _ ?_
      simp [Try.f17, hf, hp, hc, ho, e, e2, hin, e3, hj0]
      refine ⟨by decide, ?_⟩
      (refine done [] [] [] rfl ?_; simp [Try.f17])
  · have e3 : putM l m = none := by simp [putM, e]
    refine Ex.of_symN (hE _) 400 _ _ ?_
    simp [Try.f17, hf, e, e3]
    (refine done [] [] [[6], []] rfl ?_; simp [Try.f17, msgs])
theorem put_ok : FnOk Try.prog 17 ⟨[], putF⟩ := ⟨⟨_, Try.func17, rfl, rfl⟩, put_spec⟩
end Go.Proofs.S
end
section
open Go Go.Ax
namespace Go.Proofs.S
set_option linter.unusedSimpArgs false
set_option linter.unusedVariables false
set_option maxRecDepth 4000
attribute [local simp] Ax.isX Ax.evalX Ax.evalOp0 Ax.builtinX Ax.capX Ax.copyA Ax.clearA Ax.appendZ Ax.sliceBig Ax.capM Ax.capR Ax.rowsK Ax.intAt Ax.nilCmp Ax.nilEq Ax.overX Ax.overlapA Ax.lenS Ax.isEmptyLit Ax.isSv Ax.sameTys Ax.sym Ax.symN Ax.More Ax.ops1 Ax.ops2 Ax.stepG Ax.doG Ax.skipG Ax.step1 Ax.evalOp Ax.evalO Ax.constAV Ax.one Ax.tget Ax.tset Ax.putD Ax.M.lift pure bind Ax.M.pure Ax.M.bind Ax.M.need Ax.M.fail Ax.hputs Ax.hget Ax.hset Ax.evals Ax.evalParts Ax.builtinA Ax.sliceTy Ax.elemOf Ax.look Ax.binA Ax.binV Ax.asInt64 Ax.optInt Ax.loadA Ax.storeA Ax.takeN Ax.asOne Ax.exitTo Ax.AV.cells Ax.splice Ax.fills Ax.placeOf Ax.TK.agg Ax.guardOf mkE_T mkE_S mkE_eqs mkE_N mkE_cap mkE_ovl lookF Ax.callM Ax.normArgs Ax.AV.norm Ax.AV.norm1 Ax.normAs Ax.norm_sl Ax.norm_int Ax.norm_bool Ax.norm_nil0 Ax.norm_nilp Ax.norm_some Ax.normD Ax.freezeArgs Ax.freezeArg Ax.freezeArg.freezeCells Ax.cellD Ax.cellsD Ax.collect Ax.refsL Ax.AV.refs Ax.AObj.refs Ax.mapRefs Ax.AV.mapRef Ax.AObj.mapRef Ax.locRef Ax.backRef Ax.backObjs Ax.inIds Ax.AV.known Ax.AV.cell Ax.allCell Ax.partsD Ax.fillRows Ax.indexArr Ax.spliceD Ax.appendA Ax.bounds Ax.convA Ax.maxs Ax.mins T ints_norm bools_norm intss_norm boolss_norm ids_norm noteL_norm msgs_norm instrs_norm watches_norm handlers_norm actorL_norm locs_norm wlds_norm evs_norm founds_norm acts_norm ID.enc Note.enc Msg.enc Instr.enc Handler.enc Actor.enc Prg.enc Loc.enc Bud.enc Wld.enc Ev.enc Lim.enc Found.enc NRes.enc VRes.enc Act.enc ID.eta Note.eta Msg.eta Instr.eta Handler.eta Actor.eta Prg.eta Loc.eta Bud.eta Wld.eta Ev.eta Lim.eta Found.eta NRes.eta VRes.eta Act.eta take_len_map indexS_sv indexS_sl sliceA_sv sliceA_sl sliceA_nil rowsOf_sl rowsOf_nil rowsOf_sv lenA_sl lenA_lit lenA_sv ints_len bools_len intss_len boolss_len watches_len ints_idx ints_sli ints_rows bools_idx bools_sli bools_rows intss_idx intss_sli intss_rows boolss_idx boolss_sli boolss_rows ids_len ids_idx ids_sli ids_rows noteL_len noteL_idx noteL_sli noteL_rows msgs_len msgs_idx msgs_sli msgs_rows instrs_len instrs_idx instrs_sli instrs_rows watches_idx watches_sli watches_rows handlers_len handlers_idx handlers_sli handlers_rows actorL_len actorL_idx actorL_sli actorL_rows locs_len locs_idx locs_sli locs_rows wlds_len wlds_idx wlds_sli wlds_rows evs_len evs_idx evs_sli evs_rows founds_len founds_idx founds_sli founds_rows acts_len acts_idx acts_sli acts_rows Ax.fin Ax.resVals Ax.resVal Ax.passedL Ax.cvOk Ax.expRef Ax.expObjs Ax.oneOf Ax.normRes Ax.ASt.can Ax.canTm Ax.canHp Ax.canRef Ax.newName Ax.verOf Ax.ASt.erase Ax.eraseTm Ax.eraseHp Ax.keepRef Ax.initSt Ax.argTm Ax.mkHeap Ax.zeroVer

def zeroMsg : List D := [.int 0, .int 0, .int 0, .int 0, .int 0, .sl 1 []]
abbrev deleteJ : (List Msg) × Nat → Prop := fun x => match x with | (l, i) => i < l.length ∧ l.length ≤ 16777216
abbrev deleteI : (List Msg) × Nat → List AV × List AObj := fun x => match x with | (l, i) => ([.sv 0 0 6 0 l.length, .int i, .int ((i : Int) + 1)], [.arr 6 (l.map Msg.enc)])
abbrev deleteO : (List Msg) × Nat → AV × List (Nat × AObj) := fun x => match x with | (l, i) => (.sv 0 0 6 0 (l.length - 1), [(0, .arr 6 ((l.take i ++ l.drop (i + 1)).map Msg.enc ++ [zeroMsg]))])
noncomputable def deleteF : Fun := mkF deleteJ deleteI deleteO
theorem delete_at (l : List Msg) (i : Nat) (hpre : i < l.length ∧ l.length ≤ 16777216) : deleteF [.sv 0 0 6 0 l.length, .int i, .int ((i : Int) + 1)] [.arr 6 (l.map Msg.enc)] = some (.sv 0 0 6 0 (l.length - 1), [(0, .arr 6 ((l.take i ++ l.drop (i + 1)).map Msg.enc ++ [zeroMsg]))]) := by
  exact mkF_at (J := deleteJ) (inp := deleteI) (out := deleteO) (by
    rintro ⟨l, i⟩ ⟨l1, i1⟩ h
    simp [deleteI, ints_iff, bools_iff, intss_iff, boolss_iff, Int.natCast_inj, ids_map, ids_iff, noteL_map, noteL_iff, msgs_map, msgs_iff, instrs_map, instrs_iff, watches_iff, handlers_map, handlers_iff, actorL_map, actorL_iff, locs_map, locs_iff, wlds_map, wlds_iff, evs_map, evs_iff, founds_map, founds_iff, acts_map, acts_iff] at h
    simp [deleteO, h]) (l, i) hpre
theorem delete_spec : Ax.Spec Try.prog 51 deleteF := by
  have hE : ∀ en, EOkM Try.prog (mkE 33 []) en := fun en => mkE_nil
  refine spec_mk hE Try.func51 rfl Try.ntmps51 (fun x hl en hs => ⟨by simp [mkE], ?_⟩)
  obtain ⟨l, i⟩ := x
  replace hl : i < l.length ∧ l.length ≤ 16777216 := hl
  show Ex _ _ _ _ (initSt [.sv 0 0 6 0 l.length, .int i, .int ((i : Int) + 1)] [.arr 6 (l.map Msg.enc)]) (Done _ _ 1 (.sv 0 0 6 0 (l.length - 1), [(0, .arr 6 ((l.take i ++ l.drop (i + 1)).map Msg.enc ++ [zeroMsg]))]))
  obtain ⟨h1, h2⟩ := hl
  have a1 : (i : Int) + 1 ≤ l.length := by omega
  have a2 : ¬ ((i : Int) = i + 1) := by omega
  have a3 : (i : Int) ≤ l.length := by omega
  have a4 : (0 : Int) ≤ (i : Int) + 1 := by omega
  have a5 : (i : Int) ≤ i + 1 := by omega
  have a6 : ((i : Int) + 1).toNat = i + 1 := by omega
  have a7 : i ≠ l.length := by omega
  have a8 : i + (l.length - (i + 1)) ≤ l.length := by omega
  have a9 : i + 1 + (l.length - (i + 1)) ≤ l.length := by omega
  have b1 : List.take (l.length - (i + 1)) (List.drop (i + 1) (l.map Msg.enc)) = List.drop (i + 1) (l.map Msg.enc) := List.take_of_length_le (by simp)
  have b2 : i + (l.length - (i + 1)) = l.length - 1 := by omega
  have b3 : l.length - 1 ≤ l.length := by omega
  have c1 : ¬ (l.length ≤ l.length - 1) := by omega
  have c2 : ((l.length : Int) - ((l.length - 1 : Nat) : Int)).toNat = 1 := by omega
  have c3 : l.length - 1 + 1 = l.length := by omega
  have c4 : ((l.length - 1 : Nat) : Int) ≤ l.length := by omega
  have c5 : (l.length : Int) ≤ ((min i l.length : Nat) : Int) + (((l.length - (i + 1) : Nat) : Int) + ((l.length - (l.length - 1) : Nat) : Int)) := by omega
  have c6 : l.length - 1 + 1 ≤ min i l.length + (l.length - (i + 1) + (l.length - (l.length - 1))) := by omega
  have c7 : l.length ≤ min i l.length + (l.length - (i + 1) + (l.length - (l.length - 1))) := by omega
  refine Ex.of_symN (hE _) 400 _ _ ?_
  simp [Try.f51, Ax.capM, c5, c6, c7, Ax.capR, c1, c2, c3, c4, a9, b1, b2, b3, a1, a2, a3, a4, a5, a6, a7, a8]
  refine ⟨by decide, done [0] [true] [] rfl ?_⟩
  have d1 : (List.take i (l.map Msg.enc) ++ List.drop (i + 1) (l.map Msg.enc)).length = l.length - 1 := by simp; omega
  have d2 : List.take (l.length - 1) (List.take i (l.map Msg.enc) ++ (List.drop (i + 1) (l.map Msg.enc) ++ List.drop (l.length - 1) (l.map Msg.enc))) = List.take i (l.map Msg.enc) ++ List.drop (i + 1) (l.map Msg.enc) := by
    rw [← List.append_assoc, List.take_append_of_le_length (by omega), List.take_of_length_le (by omega)]
  have d3 : List.drop l.length (List.take i (l.map Msg.enc) ++ (List.drop (i + 1) (l.map Msg.enc) ++ List.drop (l.length - 1) (l.map Msg.enc))) = [] := List.drop_of_length_le (by simp; omega)
  simp [Try.f51, d2, d3, zeroMsg, List.map_take, List.map_drop]
theorem delete_ok : FnOk Try.prog 51 ⟨[true, false, false], deleteF⟩ := ⟨⟨_, Try.func51, rfl, rfl⟩, delete_spec⟩

theorem takeM_some {l : List Msg} {id : ID} {i : Nat} (h : i < l.length) (e : findM l id = (i : Int)) : takeM l id = some (l.take i ++ l.drop (i + 1), l[i]) := by
  have : ¬ ((i : Int) < 0) := by omega
  simp [takeM, e, h, this]
theorem takeM_none {l : List Msg} {id : ID} (e : findM l id = -1) : takeM l id = none := by
  simp [takeM, e]
  split <;> rfl
def noMsg : Msg := ⟨⟨0, 0, 0⟩, ⟨0, 0, []⟩⟩
def takeML (l : List Msg) (id : ID) : List Msg := match takeM l id with | some (r, _) => r | none => []
def takeMM (l : List Msg) (id : ID) : Msg := match takeM l id with | some (_, m) => m | none => noMsg
abbrev takeJ : (List Msg) × ID → Prop := fun x => match x with | (l, id) => l.length < 16777216 ∧ (∀ x ∈ l, x.note.args.length ≤ 16777216)
abbrev takeI : (List Msg) × ID → List AV × List AObj := fun x => match x with | (l, id) => ([.d (msgs l), .agg [.int id.a, .int id.b, .int id.c]], [])
abbrev takeO : (List Msg) × ID → AV × List (Nat × AObj) := fun x => match x with | (l, id) => (.tup [.d (msgs (takeML l id)), (takeMM l id).av, .int (if (takeM l id).isSome then 0 else 8)], [])
noncomputable def takeF : Fun := mkF takeJ takeI takeO
theorem take_at (l : List Msg) (id_a : Int) (id_b : Int) (id_c : Int) (hpre : l.length < 16777216 ∧ (∀ x ∈ l, x.note.args.length ≤ 16777216)) : takeF [.d (msgs l), .agg [.int id_a, .int id_b, .int id_c]] [] = some (.tup [.d (msgs (takeML l (⟨id_a, id_b, id_c⟩ : ID))), (takeMM l (⟨id_a, id_b, id_c⟩ : ID)).av, .int (if (takeM l (⟨id_a, id_b, id_c⟩ : ID)).isSome then 0 else 8)], []) := by
  exact mkF_at (J := takeJ) (inp := takeI) (out := takeO) (by
    rintro ⟨l, ⟨id_a, id_b, id_c⟩⟩ ⟨l1, ⟨id_a1, id_b1, id_c1⟩⟩ h
    simp [takeI, ints_iff, bools_iff, intss_iff, boolss_iff, Int.natCast_inj, ids_map, ids_iff, noteL_map, noteL_iff, msgs_map, msgs_iff, instrs_map, instrs_iff, watches_iff, handlers_map, handlers_iff, actorL_map, actorL_iff, locs_map, locs_iff, wlds_map, wlds_iff, evs_map, evs_iff, founds_map, founds_iff, acts_map, acts_iff] at h
    simp [takeO, h]) (l, ⟨id_a, id_b, id_c⟩) hpre
set_option maxHeartbeats 1000000 in
theorem take_spec : Ax.Spec Try.prog 19 takeF := by
  have hE : ∀ en, EOkM Try.prog (mkE 25 [(22, ⟨[], findF⟩), (16, ⟨[], copyF⟩), (43, ⟨[], ownF⟩), (51, ⟨[true, false, false], deleteF⟩)]) en := fun en => mkE_ok (by simp [find_ok, copy_ok, own_ok, delete_ok])
  refine spec_mk hE Try.func19 rfl Try.ntmps19 (fun x hl en hs => ⟨by simp [mkE], ?_⟩)
  obtain ⟨l, id⟩ := x
  replace hl : l.length < 16777216 ∧ (∀ x ∈ l, x.note.args.length ≤ 16777216) := hl
  show Ex _ _ _ _ (initSt [.d (msgs l), .agg [.int id.a, .int id.b, .int id.c]] []) (Done _ _ 0 (.tup [.d (msgs (takeML l id)), (takeMM l id).av, .int (if (takeM l id).isSome then 0 else 8)], []))
  obtain ⟨h1, h2⟩ := hl
  have hf := find_at l id.a id.b id.c (by omega)
  have hc := copy_at l ⟨by omega, h2⟩
  rcases findM_cases l id with ⟨e, _⟩ | ⟨i, hi, e, _⟩
  · have e3 := takeM_none e
    simp only [takeML, takeMM, e3]
    refine Ex.of_symN (hE _) 400 _ _ ?_
    simp [Try.f19, hf, e, noMsg]
    (refine done [] [] [[6], [0, 0, 0, 0, 0, 1], []] rfl ?_; simp [Try.f19, msgs, ints])
  · have e3 := takeM_some hi e
    have ho := own_at l[i].id.a l[i].id.b l[i].id.c l[i].note.to l[i].note.h l[i].note.args (h2 _ (List.getElem_mem hi))
    have hd := delete_at l i ⟨hi, by omega⟩
    have hi0 : ¬ ((i : Int) < 0) := by omega
    have w : IntKind.i64.wrap ((i : Int) + 1) = i + 1 := wrap64 (by omega) (by omega)
    have hg : l[i]? = some l[i] := List.getElem?_eq_getElem hi
    simp only [takeML, takeMM, e3]
    refine Ex.of_symN (hE _) 400 _ _ ?_
    simp [Try.f19, hf, hc, e, hi0, ho, hd, w, hg]
    refine ⟨by decide, ?_⟩
    have d9 : l.length ≤ min i l.length + (l.length - (i + 1) + 1) + 1 := by omega
    have d10 : List.take (l.length - 1) (List.take i (List.map Msg.enc l) ++ (List.drop (i + 1) (List.map Msg.enc l) ++ [zeroMsg])) = List.take i (List.map Msg.enc l) ++ List.drop (i + 1) (List.map Msg.enc l) := by
      rw [← List.append_assoc, List.take_append_of_le_length (by simp; omega), List.take_of_length_le (by simp; omega)]
    (refine done [] [] [] rfl ?_; simp [Try.f19, d9, d10, msgs])
theorem take_ok : FnOk Try.prog 19 ⟨[], takeF⟩ := ⟨⟨_, Try.func19, rfl, rfl⟩, take_spec⟩
end Go.Proofs.S
end
section
open Go Go.Ax
namespace Go.Proofs.S
set_option linter.unusedSimpArgs false
set_option linter.unusedVariables false
set_option maxRecDepth 4000
attribute [local simp] Ax.isX Ax.evalX Ax.evalOp0 Ax.builtinX Ax.capX Ax.copyA Ax.clearA Ax.appendZ Ax.sliceBig Ax.capM Ax.capR Ax.rowsK Ax.intAt Ax.nilCmp Ax.nilEq Ax.overX Ax.overlapA Ax.lenS Ax.isEmptyLit Ax.isSv Ax.sameTys Ax.sym Ax.symN Ax.More Ax.ops1 Ax.ops2 Ax.stepG Ax.doG Ax.skipG Ax.step1 Ax.evalOp Ax.evalO Ax.constAV Ax.one Ax.tget Ax.tset Ax.putD Ax.M.lift pure bind Ax.M.pure Ax.M.bind Ax.M.need Ax.M.fail Ax.hputs Ax.hget Ax.hset Ax.evals Ax.evalParts Ax.builtinA Ax.sliceTy Ax.elemOf Ax.look Ax.binA Ax.binV Ax.asInt64 Ax.optInt Ax.loadA Ax.storeA Ax.takeN Ax.asOne Ax.exitTo Ax.AV.cells Ax.splice Ax.fills Ax.placeOf Ax.TK.agg Ax.guardOf mkE_T mkE_S mkE_eqs mkE_N mkE_cap mkE_ovl lookF Ax.callM Ax.normArgs Ax.AV.norm Ax.AV.norm1 Ax.normAs Ax.norm_sl Ax.norm_int Ax.norm_bool Ax.norm_nil0 Ax.norm_nilp Ax.norm_some Ax.normD Ax.freezeArgs Ax.freezeArg Ax.freezeArg.freezeCells Ax.cellD Ax.cellsD Ax.collect Ax.refsL Ax.AV.refs Ax.AObj.refs Ax.mapRefs Ax.AV.mapRef Ax.AObj.mapRef Ax.locRef Ax.backRef Ax.backObjs Ax.inIds Ax.AV.known Ax.AV.cell Ax.allCell Ax.partsD Ax.fillRows Ax.indexArr Ax.spliceD Ax.appendA Ax.bounds Ax.convA Ax.maxs Ax.mins T ints_norm bools_norm intss_norm boolss_norm ids_norm noteL_norm msgs_norm instrs_norm watches_norm handlers_norm actorL_norm locs_norm wlds_norm evs_norm founds_norm acts_norm ID.enc Note.enc Msg.enc Instr.enc Handler.enc Actor.enc Prg.enc Loc.enc Bud.enc Wld.enc Ev.enc Lim.enc Found.enc NRes.enc VRes.enc Act.enc ID.eta Note.eta Msg.eta Instr.eta Handler.eta Actor.eta Prg.eta Loc.eta Bud.eta Wld.eta Ev.eta Lim.eta Found.eta NRes.eta VRes.eta Act.eta take_len_map indexS_sv indexS_sl sliceA_sv sliceA_sl sliceA_nil rowsOf_sl rowsOf_nil rowsOf_sv lenA_sl lenA_lit lenA_sv ints_len bools_len intss_len boolss_len watches_len ints_idx ints_sli ints_rows bools_idx bools_sli bools_rows intss_idx intss_sli intss_rows boolss_idx boolss_sli boolss_rows ids_len ids_idx ids_sli ids_rows noteL_len noteL_idx noteL_sli noteL_rows msgs_len msgs_idx msgs_sli msgs_rows instrs_len instrs_idx instrs_sli instrs_rows watches_idx watches_sli watches_rows handlers_len handlers_idx handlers_sli handlers_rows actorL_len actorL_idx actorL_sli actorL_rows locs_len locs_idx locs_sli locs_rows wlds_len wlds_idx wlds_sli wlds_rows evs_len evs_idx evs_sli evs_rows founds_len founds_idx founds_sli founds_rows acts_len acts_idx acts_sli acts_rows Ax.fin Ax.resVals Ax.resVal Ax.passedL Ax.cvOk Ax.expRef Ax.expObjs Ax.oneOf Ax.normRes Ax.ASt.can Ax.canTm Ax.canHp Ax.canRef Ax.newName Ax.verOf Ax.ASt.erase Ax.eraseTm Ax.eraseHp Ax.keepRef Ax.initSt Ax.argTm Ax.mkHeap Ax.zeroVer

def message (n : Int) : Msg := ⟨⟨n % 3, n / 3, 0⟩, ⟨n % 2, 0, [n]⟩⟩
abbrev messageJ : Int → Prop := fun n => 0 ≤ n ∧ n ≤ 1000
abbrev messageI : Int → List AV × List AObj := fun n => ([.int n], [])
abbrev messageO : Int → AV × List (Nat × AObj) := fun n => ((message n).av, [])
noncomputable def messageF : Fun := mkF messageJ messageI messageO
theorem message_at (n : Int) (hpre : 0 ≤ n ∧ n ≤ 1000) : messageF [.int n] [] = some ((message n).av, []) := by
  exact mkF_at (J := messageJ) (inp := messageI) (out := messageO) (by
    rintro n n1 h
    simp [messageI, ints_iff, bools_iff, intss_iff, boolss_iff, Int.natCast_inj, ids_map, ids_iff, noteL_map, noteL_iff, msgs_map, msgs_iff, instrs_map, instrs_iff, watches_iff, handlers_map, handlers_iff, actorL_map, actorL_iff, locs_map, locs_iff, wlds_map, wlds_iff, evs_map, evs_iff, founds_map, founds_iff, acts_map, acts_iff] at h
    simp [messageO, h]) (n : Int) hpre
theorem message_spec : Ax.Spec Try.prog 24 messageF := by
  have hE : ∀ en, EOkM Try.prog (mkE 14 []) en := fun en => mkE_nil
  refine spec_mk hE Try.func24 rfl Try.ntmps24 (fun n hl en hs => ⟨by simp [mkE], ?_⟩)
  replace hl : 0 ≤ n ∧ n ≤ 1000 := hl
  show Ex _ _ _ _ (initSt [.int n] []) (Done _ _ 0 ((message n).av, []))
  obtain ⟨h1, h2⟩ := hl
  refine Ex.of_symN (hE _) 400 _ _ ?_
  simp [Try.f24]
  refine done [] [] [] rfl ?_
  simp [Try.f24, message, ints]
  refine ⟨Int.tmod_eq_emod_of_nonneg h1, ?_, Int.tmod_eq_emod_of_nonneg h1⟩
  rw [Int.tdiv_eq_ediv_of_nonneg h1]
  exact wrap64 (by omega) (by omega)
theorem message_ok : FnOk Try.prog 24 ⟨[], messageF⟩ := ⟨⟨_, Try.func24, rfl, rfl⟩, message_spec⟩

abbrev awake8J : Unit → Prop := fun _ => True
abbrev awake8I : Unit → List AV × List AObj := fun _ => ([], [])
abbrev awake8O : Unit → AV × List (Nat × AObj) := fun _ => (.bool true, [])
noncomputable def awake8F : Fun := mkF awake8J awake8I awake8O
theorem awake8_at  (hpre : True) : awake8F [] [] = some (.bool true, []) := by
  exact mkF_at (J := awake8J) (inp := awake8I) (out := awake8O) (fun _ _ _ => rfl) () hpre
set_option maxHeartbeats 2000000 in
theorem awake8_spec : Ax.Spec Try.prog 14 awake8F := by
  have hE : ∀ en, EOkM Try.prog (mkE 103 [(24, ⟨[], messageF⟩), (17, ⟨[], putF⟩), (19, ⟨[], takeF⟩), (18, ⟨[], sameF⟩), (22, ⟨[], findF⟩), (25, ⟨[], toF⟩), (21, ⟨[], sortedF⟩)]) en := fun en => mkE_ok (by simp [message_ok, put_ok, take_ok, same_ok, find_ok, to_ok, sorted_ok])
  refine spec_mk hE Try.func14 rfl Try.ntmps14 (fun x hl en hs => ⟨by simp [mkE], ?_⟩)
  replace hl : True := hl
  show Ex _ _ _ _ (initSt [] []) (Done _ _ 0 (.bool true, []))
  have m4 := message_at 4 (by decide)
  have m1 := message_at 1 (by decide)
  have P (l : List Msg) (m : Msg) (h1 : l.length < 16777216) (h2 : ∀ x ∈ l, x.note.args.length ≤ 16777216) (h3 : m.note.args.length ≤ 16777216) := put_at l m.id.a m.id.b m.id.c m.note.to m.note.h m.note.args ⟨h1, h2, h3⟩
  have p1 := P [] (message 4) (by decide) (by decide) (by decide)
  have p2 := P [message 4] (message 1) (by decide) (by decide) (by decide)
  have p3 := P [message 1, message 4] (message 4) (by decide) (by decide) (by decide)
  have q1 := take_at [message 1, message 4] (message 1).id.a (message 1).id.b (message 1).id.c ⟨by decide, by decide⟩
  have q2 := take_at [message 4] (message 1).id.a (message 1).id.b (message 1).id.c ⟨by decide, by decide⟩
  have e1 : putM [] (message 4) = some [message 4] := by decide
  have e2 : putM [message 4] (message 1) = some [message 1, message 4] := by decide
  have e3 : putM [message 1, message 4] (message 4) = none := by decide
  have e4 : takeM [message 1, message 4] (message 1).id = some ([message 4], message 1) := by decide
  have e5 : takeM [message 4] (message 1).id = none := by decide
  have e4a : takeML [message 1, message 4] (message 1).id = [message 4] := by decide
  have e4b : takeMM [message 1, message 4] (message 1).id = message 1 := by decide
  have f1 := find_at [message 1, message 4] (message 4).id.a (message 4).id.b (message 4).id.c (by decide)
  have f2 := find_at [message 4] (message 1).id.a (message 1).id.b (message 1).id.c (by decide)
  have g1 : findM [message 1, message 4] (message 4).id = 1 := by decide
  have g2 : findM [message 4] (message 1).id = -1 := by decide
  have s1 := sorted_at [message 1, message 4] (by decide)
  have s2 : sortedM [message 1, message 4] = true := by decide
  have s3 := same_at [message 4] [message 4] ⟨by decide, by decide⟩
  have t1 := to_at [message 1, message 4] 0 (by decide)
  have t2 : toN [message 1, message 4] 0 = 1 := by decide
  have n1 : (message 1).note.to = 1 := by decide
  have p1' : putF [.d (.sl 6 []), .agg [.int (message 4).id.a, .int (message 4).id.b, .int (message 4).id.c, .int (message 4).note.to, .int (message 4).note.h, .d (ints (message 4).note.args)]] [] = _ := p1
  simp [e1, ID.eta, Note.eta, Msg.eta] at p1'
  simp [e2, ID.eta, Note.eta, Msg.eta] at p2
  simp [e3, ID.eta, Note.eta, Msg.eta] at p3
  simp [e4, e4a, e4b, ID.eta, Note.eta, Msg.eta] at q1
  simp [e5, ID.eta, Note.eta, Msg.eta] at q2
  simp [g1, ID.eta] at f1
  simp [g2, ID.eta] at f2
  refine Ex.of_symN (hE _) 12 _ _ ?_
  simp [Try.f14, m4, m1, p1', p2, p3, q1, q2, f1, f2, s1, s2, s3, t1, t2]
  refine Ex.can hs [1, 2, 3, 4, 6, 7, 8, 9, 12] [(1024, 0, 0)] 1 (by simp) (by simp [Ax.namesOk]) (by simp [Ax.versOk, Ax.verOf, Ax.hget]) ?_
  simp
  refine Ex.of_symN (hE _) 400 _ _ ?_
  simp [m4, m1, p1', p2, p3, q1, q2, f1, f2, s1, s2, s3, t1, t2, n1]
  (refine done [] [] [] rfl ?_; simp [Try.f14])
theorem awake8_ok : FnOk Try.prog 14 ⟨[], awake8F⟩ := ⟨⟨_, Try.func14, rfl, rfl⟩, awake8_spec⟩
end Go.Proofs.S
end
section
open Go Go.Ax
namespace Go.Proofs.S
set_option linter.unusedSimpArgs false
set_option linter.unusedVariables false
set_option maxRecDepth 4000
attribute [local simp] Ax.isX Ax.evalX Ax.evalOp0 Ax.builtinX Ax.capX Ax.copyA Ax.clearA Ax.appendZ Ax.sliceBig Ax.capM Ax.capR Ax.rowsK Ax.intAt Ax.nilCmp Ax.nilEq Ax.overX Ax.overlapA Ax.lenS Ax.isEmptyLit Ax.isSv Ax.sameTys Ax.sym Ax.symN Ax.More Ax.ops1 Ax.ops2 Ax.stepG Ax.doG Ax.skipG Ax.step1 Ax.evalOp Ax.evalO Ax.constAV Ax.one Ax.tget Ax.tset Ax.putD Ax.M.lift pure bind Ax.M.pure Ax.M.bind Ax.M.need Ax.M.fail Ax.hputs Ax.hget Ax.hset Ax.evals Ax.evalParts Ax.builtinA Ax.sliceTy Ax.elemOf Ax.look Ax.binA Ax.binV Ax.asInt64 Ax.optInt Ax.loadA Ax.storeA Ax.takeN Ax.asOne Ax.exitTo Ax.AV.cells Ax.splice Ax.fills Ax.placeOf Ax.TK.agg Ax.guardOf mkE_T mkE_S mkE_eqs mkE_N mkE_cap mkE_ovl lookF Ax.callM Ax.normArgs Ax.AV.norm Ax.AV.norm1 Ax.normAs Ax.norm_sl Ax.norm_int Ax.norm_bool Ax.norm_nil0 Ax.norm_nilp Ax.norm_some Ax.normD Ax.freezeArgs Ax.freezeArg Ax.freezeArg.freezeCells Ax.cellD Ax.cellsD Ax.collect Ax.refsL Ax.AV.refs Ax.AObj.refs Ax.mapRefs Ax.AV.mapRef Ax.AObj.mapRef Ax.locRef Ax.backRef Ax.backObjs Ax.inIds Ax.AV.known Ax.AV.cell Ax.allCell Ax.partsD Ax.fillRows Ax.indexArr Ax.spliceD Ax.appendA Ax.bounds Ax.convA Ax.maxs Ax.mins T ints_norm bools_norm intss_norm boolss_norm ids_norm noteL_norm msgs_norm instrs_norm watches_norm handlers_norm actorL_norm locs_norm wlds_norm evs_norm founds_norm acts_norm ID.enc Note.enc Msg.enc Instr.enc Handler.enc Actor.enc Prg.enc Loc.enc Bud.enc Wld.enc Ev.enc Lim.enc Found.enc NRes.enc VRes.enc Act.enc ID.eta Note.eta Msg.eta Instr.eta Handler.eta Actor.eta Prg.eta Loc.eta Bud.eta Wld.eta Ev.eta Lim.eta Found.eta NRes.eta VRes.eta Act.eta take_len_map indexS_sv indexS_sl sliceA_sv sliceA_sl sliceA_nil rowsOf_sl rowsOf_nil rowsOf_sv lenA_sl lenA_lit lenA_sv ints_len bools_len intss_len boolss_len watches_len ints_idx ints_sli ints_rows bools_idx bools_sli bools_rows intss_idx intss_sli intss_rows boolss_idx boolss_sli boolss_rows ids_len ids_idx ids_sli ids_rows noteL_len noteL_idx noteL_sli noteL_rows msgs_len msgs_idx msgs_sli msgs_rows instrs_len instrs_idx instrs_sli instrs_rows watches_idx watches_sli watches_rows handlers_len handlers_idx handlers_sli handlers_rows actorL_len actorL_idx actorL_sli actorL_rows locs_len locs_idx locs_sli locs_rows wlds_len wlds_idx wlds_sli wlds_rows evs_len evs_idx evs_sli evs_rows founds_len founds_idx founds_sli founds_rows acts_len acts_idx acts_sli acts_rows Ax.fin Ax.resVals Ax.resVal Ax.passedL Ax.cvOk Ax.expRef Ax.expObjs Ax.oneOf Ax.normRes Ax.ASt.can Ax.canTm Ax.canHp Ax.canRef Ax.newName Ax.verOf Ax.ASt.erase Ax.eraseTm Ax.eraseHp Ax.keepRef Ax.initSt Ax.argTm Ax.mkHeap Ax.zeroVer

theorem message_inj {i j : Int} (h : (message i).id = (message j).id) : i = j := by
  simp [message] at h; omega
structure SortInv (l : List Msg) (inb : List Bool) (k : Nat) : Prop where
  srt : Srt l
  len : inb.length = 30
  mem : ∀ m ∈ l, ∃ j : Nat, j < 30 ∧ m = message j ∧ inb[j]? = some true
  all : ∀ j : Nat, inb[j]? = some true → message j ∈ l
  le : l.length ≤ k
theorem SortInv.args {l inb k} (h : SortInv l inb k) : ∀ m ∈ l, m.note.args.length ≤ 16777216 := by
  intro m hm
  obtain ⟨j, _, rfl, _⟩ := h.mem m hm
  simp [message]
theorem SortInv.put_none {l inb k} (h : SortInv l inb k) (j : Nat) (hj : inb[j]? = some true) : putM l (message j) = none :=
  (putM_none _ _).2 ⟨_, h.all j hj, rfl⟩
theorem SortInv.put_some {l inb k} (h : SortInv l inb k) (j : Nat) (hj : inb[j]? = some false) : ∃ l', putM l (message j) = some l' ∧ SortInv l' (inb.set j true) (k + 1) := by
  have hlt : j < inb.length := (List.getElem?_eq_some_iff.1 hj).1
  cases hp : putM l (message j) with
  | none =>
    obtain ⟨x, hx, e⟩ := (putM_none _ _).1 hp
    obtain ⟨i, _, rfl, hi⟩ := h.mem x hx
    have := message_inj e
    have e2 : i = j := by omega
    subst e2
    rw [hj] at hi; cases hi
  | some l' =>
    refine ⟨l', rfl, putM_srt hp h.srt, by simpa using h.len, ?_, ?_, by rw [putM_len hp]; have := h.le; omega⟩
    · intro m hm
      rcases (putM_mem hp m).1 hm with rfl | hm
      · exact ⟨j, by have := h.len; omega, rfl, by simp [hlt]⟩
      · obtain ⟨i, h1, h2, h3⟩ := h.mem m hm
        refine ⟨i, h1, h2, ?_⟩
        have : j ≠ i := by intro e; subst e; rw [hj] at h3; cases h3
        rw [List.getElem?_set_ne this]; exact h3
    · intro i hi
      by_cases e : j = i
      · subst e
        exact (putM_mem hp _).2 (.inl rfl)
      · rw [List.getElem?_set_ne e] at hi
        exact (putM_mem hp _).2 (.inr (h.all i hi))
/-- what is left when those from k on have been taken -/
structure TakeInv (l : List Msg) (inb : List Bool) (k : Int) : Prop where
  srt : Srt l
  len : inb.length = 30
  mem : ∀ m ∈ l, ∃ j : Nat, (j : Int) ≤ k ∧ m = message j ∧ inb[j]? = some true
  all : ∀ j : Nat, (j : Int) ≤ k → inb[j]? = some true → message j ∈ l
  le : l.length ≤ 30
theorem TakeInv.args {l inb k} (h : TakeInv l inb k) : ∀ m ∈ l, m.note.args.length ≤ 16777216 := by
  intro m hm
  obtain ⟨j, _, rfl, _⟩ := h.mem m hm
  simp [message]
theorem TakeInv.none {l inb} {k : Nat} (h : TakeInv l inb k) (hk : inb[k]? = some false) : takeM l (message k).id = none ∧ TakeInv l inb (k - 1) := by
  refine ⟨(takeM_none' _ _).2 ?_, h.srt, h.len, ?_, fun j hj => h.all j (by omega), h.le⟩
  · intro m hm e
    obtain ⟨j, _, rfl, hj⟩ := h.mem m hm
    have := message_inj e
    have e2 : j = k := by omega
    subst e2
    rw [hk] at hj; cases hj
  · intro m hm
    obtain ⟨j, h1, h2, h3⟩ := h.mem m hm
    refine ⟨j, ?_, h2, h3⟩
    have : j ≠ k := by intro e; subst e; rw [hk] at h3; cases h3
    omega
theorem TakeInv.some {l inb} {k : Nat} (h : TakeInv l inb k) (hk : inb[k]? = some true) : ∃ l', takeM l (message k).id = some (l', message k) ∧ l'.length + 1 = l.length ∧ TakeInv l' inb (k - 1) := by
  have hmem := h.all k (by omega) hk
  cases ht : takeM l (message k).id with
  | none => exact absurd rfl ((takeM_none' _ _).1 ht _ hmem)
  | some x =>
    obtain ⟨l', m⟩ := x
    obtain ⟨a, b, h1, h2, h3⟩ := takeM_some' ht
    have hm : m = message k := srt_id h.srt (by rw [h1]; simp) hmem h3
    subst hm
    refine ⟨l', rfl, takeM_len ht, takeM_srt ht h.srt, h.len, ?_, ?_, by have := takeM_len ht; have := h.le; omega⟩
    · intro m hm
      obtain ⟨h4, h5⟩ := (takeM_mem ht h.srt m).1 hm
      obtain ⟨j, k1, k2, k3⟩ := h.mem m h4
      refine ⟨j, ?_, k2, k3⟩
      have : j ≠ k := by intro e; subst e; exact h5 (by rw [k2])
      omega
    · intro j hj hin
      refine (takeM_mem ht h.srt _).2 ⟨h.all j (by omega) hin, fun e => ?_⟩
      have := message_inj e
      omega
theorem SortInv.to_sum {l inb k} (h : SortInv l inb k) : toN l 0 + toN l 1 = l.length := by
  have hm := h.mem
  clear h
  induction l with
  | nil => rfl
  | cons a r ih =>
    have ih := ih (fun m hm' => hm m (List.mem_cons_of_mem _ hm'))
    obtain ⟨j, _, e, _⟩ := hm a (by simp)
    have e2 : a.note.to = (j : Int) % 2 := by rw [e]; rfl
    simp only [toN, List.countP_cons, List.length_cons] at ih ⊢
    rcases (show (j : Int) % 2 = 0 ∨ (j : Int) % 2 = 1 by omega) with e3 | e3
    · rw [e2, e3]; simp; omega
    · rw [e2, e3]; simp; omega

abbrev mailSortedJ : (List Int) → Prop := fun ord => ord.length < 9223372036854775808
abbrev mailSortedI : (List Int) → List AV × List AObj := fun ord => ([.d (ints ord)], [])
abbrev mailSortedO : (List Int) → AV × List (Nat × AObj) := fun ord => (.bool true, [])
noncomputable def mailSortedF : Fun := mkF mailSortedJ mailSortedI mailSortedO
theorem mailSorted_at (ord : List Int) (hpre : ord.length < 9223372036854775808) : mailSortedF [.d (ints ord)] [] = some (.bool true, []) := by
  exact mkF_at (J := mailSortedJ) (inp := mailSortedI) (out := mailSortedO) (by
    rintro ord ord1 h
    simp [mailSortedI, ints_iff, bools_iff, intss_iff, boolss_iff, Int.natCast_inj, ids_map, ids_iff, noteL_map, noteL_iff, msgs_map, msgs_iff, instrs_map, instrs_iff, watches_iff, handlers_map, handlers_iff, actorL_map, actorL_iff, locs_map, locs_iff, wlds_map, wlds_iff, evs_map, evs_iff, founds_map, founds_iff, acts_map, acts_iff] at h
    simp [mailSortedO, h]) (ord : List Int) hpre
set_option maxHeartbeats 4000000 in
theorem mailSorted_spec : Ax.Spec Try.prog 4 mailSortedF := by
  have hE : ∀ en, EOkM Try.prog (mkE 115 [(14, ⟨[], awake8F⟩), (23, ⟨[], roundF⟩), (24, ⟨[], messageF⟩), (17, ⟨[], putF⟩), (19, ⟨[], takeF⟩), (18, ⟨[], sameF⟩), (25, ⟨[], toF⟩), (21, ⟨[], sortedF⟩)]) en := fun en => mkE_ok (by simp [awake8_ok, round_ok, message_ok, put_ok, take_ok, same_ok, to_ok, sorted_ok])
  refine spec_mk hE Try.func4 rfl Try.ntmps4 (fun ord hl en hs => ⟨by simp [mkE], ?_⟩)
  replace hl : ord.length < 9223372036854775808 := hl
  show Ex _ _ _ _ (initSt [.d (ints ord)] []) (Done _ _ 0 (.bool true, []))
  have aw := awake8_at trivial
  by_cases hlen : 30 < ord.length
  · have hlen' : (30 : Int) < ord.length := by omega
    refine Ex.of_symN (hE _) 400 _ _ ?_
    simp [Try.f4, aw, hlen, hlen']
    (refine done [] [] [] rfl ?_; simp [Try.f4])
  have hlen' : ¬ ((30 : Int) < ord.length) := by omega
  refine Ex.of_symN (hE _) 400 _ _ ?_
  simp [Try.f4, hlen, hlen']
  refine Ex.can hs [0, 3, 4, 5, 6] [(160, 0, 0)] 1 (by simp) (by simp [Ax.namesOk]) (by simp [Ax.versOk, Ax.verOf, Ax.hget]) ?_
  simp
  refine Ex.nil 3 5 rfl ?_
  refine Ex.loop (X := Nat × List Msg × List Bool) (fun x => x.1 ≤ ord.length ∧ SortInv x.2.1 x.2.2 x.1) (fun x => ⟨[(0, .d (ints ord)), (3, .d (msgs x.2.1)), (4, .sv 0 0 1 0 30), (5, .int x.2.1.length), (6, .int x.1)], [(0, 0, .arr 1 (x.2.2.map fun b => [.bool b]))], 1⟩) (fun x => ord.length - x.1) ?_ (0, [], List.replicate 30 false) ⟨by simp, ?_⟩
  · rintro ⟨k, l, inb⟩ ⟨hk, inv⟩ ih
    simp only at hk inv ih
    by_cases hlt : k < ord.length
    · have hk' : (k : Int) < ord.length := by omega
      have hg : ord[k]? = some ord[k] := List.getElem?_eq_getElem hlt
      generalize ord[k] = x at hg
      have hr := round_at x 30 (by decide)
      obtain ⟨j, hj⟩ : ∃ j : Nat, (j : Int) = x % 30 := ⟨(x % 30).toNat, by omega⟩
      have hj30 : j < 30 := by omega
      have hj30' : (j : Int) < 30 := by omega
      rw [← hj] at hr
      have hm := message_at j (by omega)
      have hp := put_at l (message j).id.a (message j).id.b (message j).id.c (message j).note.to (message j).note.h (message j).note.args ⟨by have := inv.le; omega, inv.args, by simp [message]⟩
      have hw : IntKind.i64.wrap ((k : Int) + 1) = (k : Int) + 1 := wrap64 (by omega) (by omega)
      have hin : inb[j]? = some (inb[j]'(by have := inv.len; omega)) := List.getElem?_eq_getElem _
      cases hb : inb[j]'(by have := inv.len; omega) with
      | true =>
        rw [hb] at hin
        have e := inv.put_none j hin
        have hp' : putF [.d (msgs l), (message j).av] [] = some (.tup [.d (msgs []), .int 1], []) := by rw [hp]; simp [ID.eta, Note.eta, Msg.eta, e]
        refine Ex.of_symN (hE _) 400 _ _ ?_
        simp [hk', hg, hr, hm, hp', hj30', hin, hw]
        refine Ex.can_to hs [0, 3, 4, 5, 6] [(0, 0, 0)] 1 (by simp) (by simp [Ax.namesOk]) (by simp [Ax.versOk, Ax.verOf, Ax.hget]) (ih (k + 1, l, inb) ⟨by simp; omega, inv.srt, inv.len, inv.mem, inv.all, by have := inv.le; simp; omega⟩ (by simp; omega)) ?_
        simp
      | false =>
        rw [hb] at hin
        obtain ⟨l', e, inv'⟩ := inv.put_some j hin
        have hp' : putF [.d (msgs l), (message j).av] [] = some (.tup [.d (msgs l'), .int 0], []) := by rw [hp]; simp [ID.eta, Note.eta, Msg.eta, e]
        have hlen := putM_len e
        have hw2 : IntKind.i64.wrap ((l.length : Int) + 1) = (l.length : Int) + 1 := wrap64 (by omega) (by have := inv.le; omega)
        have hjl : j < inb.length := by have := inv.len; omega
        refine Ex.of_symN (hE _) 400 _ _ ?_
        simp [hk', hg, hr, hm, hp', hj30', hin, hw, hw2, hjl, hb]
        refine Ex.can_to hs [0, 3, 4, 5, 6] [(0, 0, 0)] 1 (by simp) (by simp [Ax.namesOk]) (by simp [Ax.versOk, Ax.verOf, Ax.hget]) (ih (k + 1, l', inb.set j true) ⟨by simp; omega, inv'⟩ (by simp; omega)) ?_
        simp [hlen, List.map_set]
    · have e : k = ord.length := by omega
      subst e
      have hsum := inv.to_sum
      have hso := sorted_at l (by have := inv.le; omega)
      have hsm := (sortedM_srt l).2 inv.srt
      have ht0 := to_at l 0 (by have := inv.le; omega)
      have ht1 := to_at l 1 (by have := inv.le; omega)
      have hsi : (toN l 0 : Int) + toN l 1 = l.length := by omega
      have hw : IntKind.i64.wrap ((toN l 0 : Int) + toN l 1) = (l.length : Int) := by rw [hsi]; exact wrap64 (by omega) (by have := inv.le; omega)
      refine Ex.of_symN (hE _) 400 _ _ ?_
      simp [hso, hsm, ht0, ht1, hw]
      have inv2 : TakeInv l inb 29 := ⟨inv.srt, inv.len, fun m hm => by obtain ⟨j, h1, h2, h3⟩ := inv.mem m hm; exact ⟨j, by omega, h2, h3⟩, fun j _ => inv.all j, by have := inv.le; omega⟩
      clear hsum hso hsm ht0 ht1 hsi hw ih inv
      refine Ex.can_to (st' := ⟨[(3, .d (msgs l)), (4, .sv 0 0 1 0 30), (10, .int ((30 : Nat) - 1 : Int))], [(0, 0, .arr 1 (inb.map fun b => [.bool b]))], 1⟩) hs [3, 4, 10] [(0, 0, 0)] 1 (by simp) (by simp [Ax.namesOk]) (by simp [Ax.versOk, Ax.verOf, Ax.hget]) ?_ (by simp)
      refine Ex.loop (X := Nat × List Msg) (fun x => x.1 ≤ 30 ∧ TakeInv x.2 inb (x.1 - 1)) (fun x => ⟨[(3, .d (msgs x.2)), (4, .sv 0 0 1 0 30), (10, .int ((x.1 : Int) - 1))], [(0, 0, .arr 1 (inb.map fun b => [.bool b]))], 1⟩) (fun x => x.1) ?_ (30, l) ⟨by simp, inv2⟩
      clear inv2 l
      rintro ⟨n, l⟩ ⟨hn, inv⟩ ih
      simp only at hn inv ih
      cases n with
      | zero =>
        have hl0 : l = [] := by
          cases l with
          | nil => rfl
          | cons a r =>
            obtain ⟨j, h1, _⟩ := inv.mem a (by simp)
            simp at h1
            omega
        subst hl0
        refine Ex.of_symN (hE _) 400 _ _ ?_
        simp [aw]
        (refine done [] [] [] rfl ?_; simp [Try.f4])
      | succ k =>
        have hk0 : ((k + 1 : Nat) : Int) - 1 = k := by omega
        rw [hk0] at inv ⊢
        have hk30 : (k : Int) < 30 := by omega
        have hm := message_at k (by omega)
        have ht := take_at l (message k).id.a (message k).id.b (message k).id.c ⟨by have := inv.le; omega, inv.args⟩
        have hin : inb[k]? = some (inb[k]'(by have := inv.len; omega)) := List.getElem?_eq_getElem _
        have hw : IntKind.i64.wrap ((k : Int) - 1) = (k : Int) - 1 := wrap64 (by omega) (by omega)
        cases hb : inb[k]'(by have := inv.len; omega) with
        | false =>
          rw [hb] at hin
          obtain ⟨e, inv'⟩ := inv.none hin
          have ht' : takeF [.d (msgs l), (message k).id.av] [] = some (.tup [.d (msgs []), noMsg.av, .int 8], []) := by rw [ht]; simp [ID.eta, takeML, takeMM, e]
          simp [noMsg] at ht'
          refine Ex.of_symN (hE _) 400 _ _ ?_
          simp [hm, ht', hk30, hin, hw]
          refine Ex.can_to hs [3, 4, 10] [(0, 0, 0)] 1 (by simp) (by simp [Ax.namesOk]) (by simp [Ax.versOk, Ax.verOf, Ax.hget]) (ih (k, l) ⟨by simp; omega, inv'⟩ (by simp)) ?_
          simp
        | true =>
          rw [hb] at hin
          obtain ⟨l', e, hlen, inv'⟩ := inv.some hin
          have ht' : takeF [.d (msgs l), (message k).id.av] [] = some (.tup [.d (msgs l'), (message k).av, .int 0], []) := by rw [ht]; simp [ID.eta, takeML, takeMM, e]
          have hs1 := same_at [message k] [message k] ⟨by simp, by simp [message]⟩
          simp [msgs, Msg.enc] at hs1
          have hw2 : IntKind.i64.wrap ((l.length : Int) - 1) = l'.length := by rw [wrap64 (by omega) (by have := inv.le; omega)]; omega
          refine Ex.of_symN (hE _) 400 _ _ ?_
          simp [hm, ht', hk30, hin, hw, hw2, hs1]
          refine ⟨by decide, ?_⟩
          refine Ex.can_to hs [3, 4, 10] [(0, 0, 0)] 1 (by simp) (by simp [Ax.namesOk]) (by simp [Ax.versOk, Ax.verOf, Ax.hget]) (ih (k, l') ⟨by simp; omega, inv'⟩ (by simp)) ?_
          simp
  · exact ⟨by simp [Srt], by simp, by simp, by intro j hj; simp only [List.getElem?_replicate] at hj; split at hj <;> simp at hj, by simp⟩
theorem mailSorted_ok : FnOk Try.prog 4 ⟨[], mailSortedF⟩ := ⟨⟨_, Try.func4, rfl, rfl⟩, mailSorted_spec⟩
end Go.Proofs.S
end
section
open Go Go.Ax
namespace Go.Proofs.S
set_option linter.unusedSimpArgs false
set_option linter.unusedVariables false
set_option maxRecDepth 4000
attribute [local simp] Ax.isX Ax.evalX Ax.evalOp0 Ax.builtinX Ax.capX Ax.copyA Ax.clearA Ax.appendZ Ax.sliceBig Ax.capM Ax.capR Ax.rowsK Ax.intAt Ax.nilCmp Ax.nilEq Ax.overX Ax.overlapA Ax.lenS Ax.isEmptyLit Ax.isSv Ax.sameTys Ax.sym Ax.symN Ax.More Ax.ops1 Ax.ops2 Ax.stepG Ax.doG Ax.skipG Ax.step1 Ax.evalOp Ax.evalO Ax.constAV Ax.one Ax.tget Ax.tset Ax.putD Ax.M.lift pure bind Ax.M.pure Ax.M.bind Ax.M.need Ax.M.fail Ax.hputs Ax.hget Ax.hset Ax.evals Ax.evalParts Ax.builtinA Ax.sliceTy Ax.elemOf Ax.look Ax.binA Ax.binV Ax.asInt64 Ax.optInt Ax.loadA Ax.storeA Ax.takeN Ax.asOne Ax.exitTo Ax.AV.cells Ax.splice Ax.fills Ax.placeOf Ax.TK.agg Ax.guardOf mkE_T mkE_S mkE_eqs mkE_N mkE_cap mkE_ovl lookF Ax.callM Ax.normArgs Ax.AV.norm Ax.AV.norm1 Ax.normAs Ax.norm_sl Ax.norm_int Ax.norm_bool Ax.norm_nil0 Ax.norm_nilp Ax.norm_some Ax.normD Ax.freezeArgs Ax.freezeArg Ax.freezeArg.freezeCells Ax.cellD Ax.cellsD Ax.collect Ax.refsL Ax.AV.refs Ax.AObj.refs Ax.mapRefs Ax.AV.mapRef Ax.AObj.mapRef Ax.locRef Ax.backRef Ax.backObjs Ax.inIds Ax.AV.known Ax.AV.cell Ax.allCell Ax.partsD Ax.fillRows Ax.indexArr Ax.spliceD Ax.appendA Ax.bounds Ax.convA Ax.maxs Ax.mins T ints_norm bools_norm intss_norm boolss_norm ids_norm noteL_norm msgs_norm instrs_norm watches_norm handlers_norm actorL_norm locs_norm wlds_norm evs_norm founds_norm acts_norm ID.enc Note.enc Msg.enc Instr.enc Handler.enc Actor.enc Prg.enc Loc.enc Bud.enc Wld.enc Ev.enc Lim.enc Found.enc NRes.enc VRes.enc Act.enc ID.eta Note.eta Msg.eta Instr.eta Handler.eta Actor.eta Prg.eta Loc.eta Bud.eta Wld.eta Ev.eta Lim.eta Found.eta NRes.eta VRes.eta Act.eta take_len_map indexS_sv indexS_sl sliceA_sv sliceA_sl sliceA_nil rowsOf_sl rowsOf_nil rowsOf_sv lenA_sl lenA_lit lenA_sv ints_len bools_len intss_len boolss_len watches_len ints_idx ints_sli ints_rows bools_idx bools_sli bools_rows intss_idx intss_sli intss_rows boolss_idx boolss_sli boolss_rows ids_len ids_idx ids_sli ids_rows noteL_len noteL_idx noteL_sli noteL_rows msgs_len msgs_idx msgs_sli msgs_rows instrs_len instrs_idx instrs_sli instrs_rows watches_idx watches_sli watches_rows handlers_len handlers_idx handlers_sli handlers_rows actorL_len actorL_idx actorL_sli actorL_rows locs_len locs_idx locs_sli locs_rows wlds_len wlds_idx wlds_sli wlds_rows evs_len evs_idx evs_sli evs_rows founds_len founds_idx founds_sli founds_rows acts_len acts_idx acts_sli acts_rows Ax.fin Ax.resVals Ax.resVal Ax.passedL Ax.cvOk Ax.expRef Ax.expObjs Ax.oneOf Ax.normRes Ax.ASt.can Ax.canTm Ax.canHp Ax.canRef Ax.newName Ax.verOf Ax.ASt.erase Ax.eraseTm Ax.eraseHp Ax.keepRef Ax.initSt Ax.argTm Ax.mkHeap Ax.zeroVer

theorem split_at {α : Type} {l : List α} {i : Nat} (hi : i < l.length) : l = l.take i ++ l[i] :: l.drop (i + 1) :=
  (List.take_append_drop i l).symm.trans (by rw [List.drop_eq_getElem_cons hi])
structure ActsInv (now inn : List Msg) (k : Nat) : Prop where
  srt : Srt now
  mem : ∀ x, x ∈ now ↔ x ∈ inn
  len : now.length = inn.length
  dis : inn.Pairwise fun a b => a.id ≠ b.id
  args : ∀ x ∈ inn, x.note.args.length ≤ 6
  le : inn.length ≤ k
theorem ActsInv.nargs {now inn k} (h : ActsInv now inn k) : ∀ x ∈ now, x.note.args.length ≤ 16777216 := fun x hx => by
  have := h.args x ((h.mem x).1 hx); omega
theorem ActsInv.put_none {now inn k} (h : ActsInv now inn k) (m : Msg) (hf : ¬ findM inn m.id < 0) : putM now m = none := by
  refine (putM_none _ _).2 ?_
  have : ¬ ∀ x ∈ inn, x.id ≠ m.id := fun e => hf ((findM_neg _ _).2 e)
  simp at this
  obtain ⟨x, hx, e⟩ := this
  exact ⟨x, (h.mem x).2 hx, e⟩
theorem ActsInv.put_some {now inn k} (h : ActsInv now inn k) (m : Msg) (hf : findM inn m.id < 0) (ha : m.note.args.length ≤ 6) : ∃ now', putM now m = some now' ∧ ActsInv now' (inn ++ [m]) (k + 1) := by
  have hne := (findM_neg _ _).1 hf
  cases hp : putM now m with
  | none =>
    obtain ⟨x, hx, e⟩ := (putM_none _ _).1 hp
    exact absurd e (hne x ((h.mem x).1 hx))
  | some now' =>
    refine ⟨now', rfl, putM_srt hp h.srt, fun x => ?_, by rw [putM_len hp, h.len]; simp, ?_, ?_, by simp; exact h.le⟩
    · rw [putM_mem hp, h.mem]; simp [or_comm]
    · refine List.pairwise_append.2 ⟨h.dis, by simp, fun a ha2 b hb => ?_⟩
      simp at hb; subst hb
      exact hne a ha2
    · intro x hx
      rcases List.mem_append.1 hx with hx | hx
      · exact h.args x hx
      · simp at hx; subst hx; exact ha
theorem ActsInv.take_none {now inn k} (h : ActsInv now inn k) (id : ID) (hf : findM inn id < 0) : takeM now id = none :=
  (takeM_none' _ _).2 (fun m hm => (findM_neg _ _).1 hf m ((h.mem m).1 hm))
theorem dis_at {inn : List Msg} (h : inn.Pairwise fun a b => a.id ≠ b.id) {i : Nat} (hi : i < inn.length) (x : Msg) : x ∈ inn.take i ++ inn.drop (i + 1) ↔ x ∈ inn ∧ x.id ≠ inn[i].id := by
  have e : inn = inn.take i ++ inn[i] :: inn.drop (i + 1) := split_at hi
  have hp : (inn.take i ++ inn[i] :: inn.drop (i + 1)).Pairwise fun a b => a.id ≠ b.id := e ▸ h
  obtain ⟨h1, h2, h3⟩ := List.pairwise_append.1 hp
  constructor
  · intro hx
    rcases List.mem_append.1 hx with hx | hx
    · exact ⟨List.mem_of_mem_take hx, h3 x hx _ List.mem_cons_self⟩
    · exact ⟨List.mem_of_mem_drop hx, fun e2 => (List.pairwise_cons.1 h2).1 x hx e2.symm⟩
  · rintro ⟨hx, hn⟩
    have hx2 : x ∈ inn.take i ++ inn[i] :: inn.drop (i + 1) := e ▸ hx
    rcases List.mem_append.1 hx2 with hx | hx
    · exact List.mem_append.2 (.inl hx)
    · rcases List.mem_cons.1 hx with rfl | hx
      · exact absurd rfl hn
      · exact List.mem_append.2 (.inr hx)
theorem dis_id {inn : List Msg} (h : inn.Pairwise fun a b => a.id ≠ b.id) {x y : Msg} (hx : x ∈ inn) (hy : y ∈ inn) (e : x.id = y.id) : x = y := by
  induction inn with
  | nil => simp at hx
  | cons a r ih =>
    obtain ⟨h1, h2⟩ := List.pairwise_cons.1 h
    rcases List.mem_cons.1 hx with e1 | hx
    · rcases List.mem_cons.1 hy with e2 | hy
      · rw [e1, e2]
      · exact absurd (by rw [← e1, e]) (h1 y hy)
    · rcases List.mem_cons.1 hy with e2 | hy
      · exact absurd (by rw [← e2, ← e]) (h1 x hx)
      · exact ih h2 hx hy
theorem ActsInv.take_some {now inn k} (h : ActsInv now inn k) {i : Nat} (hi : i < inn.length) : ∃ now', takeM now inn[i].id = some (now', inn[i]) ∧ ActsInv now' (inn.take i ++ inn.drop (i + 1)) (k + 1) := by
  have hmem : inn[i] ∈ now := (h.mem _).2 (List.getElem_mem hi)
  cases ht : takeM now inn[i].id with
  | none => exact absurd rfl ((takeM_none' _ _).1 ht _ hmem)
  | some x =>
    obtain ⟨now', m⟩ := x
    obtain ⟨a, b, h1, h2, h3⟩ := takeM_some' ht
    have hm : m = inn[i] := dis_id h.dis ((h.mem m).1 (by rw [h1]; simp)) (List.getElem_mem hi) h3
    subst hm
    refine ⟨now', rfl, takeM_srt ht h.srt, fun x => ?_, ?_, ?_, ?_, ?_⟩
    · rw [takeM_mem ht h.srt, dis_at h.dis hi, h.mem]
    · have := takeM_len ht; have := h.len; simp; omega
    · exact h.dis.sublist (by
        have e : inn = inn.take i ++ inn[i] :: inn.drop (i + 1) := split_at hi
        conv => rhs; rw [e]
        exact List.Sublist.append (List.Sublist.refl _) (List.sublist_cons_self _ _))
    · intro x hx; exact h.args x ((dis_at h.dis hi x).1 hx).1
    · have := h.le; simp; omega
theorem ActsInv.there {now inn k} (h : ActsInv now inn k) {i : Nat} (hi : i < inn.length) : ∃ j, ∃ hj : j < now.length, findM now inn[i].id = (j : Int) ∧ now[j] = inn[i] := by
  have hmem : inn[i] ∈ now := (h.mem _).2 (List.getElem_mem hi)
  rcases findM_cases now inn[i].id with ⟨h1, h2⟩ | ⟨j, hj, h1, h2, _⟩
  · exact absurd rfl (h2 _ hmem)
  · exact ⟨j, hj, h1, dis_id h.dis ((h.mem _).1 (List.getElem_mem hj)) (List.getElem_mem hi) h2⟩

noncomputable def findIDbF : Fun := borrowF findIDF
theorem findIDb_ok : FnOk Try.prog 15 ⟨[true, false], findIDbF⟩ := ⟨findID_ok.func, findID_spec.borrow⟩
theorem findIDb_at (l : List Msg) (a b c : Int) (h : l.length < 9223372036854775808) : findIDbF [.sv 0 0 6 0 l.length, .agg [.int a, .int b, .int c]] [.arr 6 (l.map Msg.enc)] = some (.int (findM l ⟨a, b, c⟩), [(0, .arr 6 (l.map Msg.enc))]) := by
  have e := findID_at l a b c h
  simp only [msgs] at e
  simp [findIDbF, borrowF, e, litR]

abbrev mailActsJ : (List Act) → Prop := fun l => l.length < 9223372036854775808 ∧ ∀ a ∈ l, a.m.note.args.length < 9223372036854775808
abbrev mailActsI : (List Act) → List AV × List AObj := fun l => ([.d (acts l)], [])
abbrev mailActsO : (List Act) → AV × List (Nat × AObj) := fun l => (.bool true, [])
noncomputable def mailActsF : Fun := mkF mailActsJ mailActsI mailActsO
theorem mailActs_at (l : List Act) (hpre : l.length < 9223372036854775808 ∧ ∀ a ∈ l, a.m.note.args.length < 9223372036854775808) : mailActsF [.d (acts l)] [] = some (.bool true, []) := by
  exact mkF_at (J := mailActsJ) (inp := mailActsI) (out := mailActsO) (by
    rintro l l1 h
    simp [mailActsI, ints_iff, bools_iff, intss_iff, boolss_iff, Int.natCast_inj, ids_map, ids_iff, noteL_map, noteL_iff, msgs_map, msgs_iff, instrs_map, instrs_iff, watches_iff, handlers_map, handlers_iff, actorL_map, actorL_iff, locs_map, locs_iff, wlds_map, wlds_iff, evs_map, evs_iff, founds_map, founds_iff, acts_map, acts_iff] at h
    simp [mailActsO, h]) (l : List Act) hpre
set_option maxHeartbeats 8000000 in
theorem mailActs_spec : Ax.Spec Try.prog 3 mailActsF := by
  have hE : ∀ en, EOkM Try.prog (mkE 160 [(14, ⟨[], awake8F⟩), (15, ⟨[true, false], findIDbF⟩), (16, ⟨[], copyF⟩), (17, ⟨[], putF⟩), (18, ⟨[], sameF⟩), (19, ⟨[], takeF⟩), (20, ⟨[], rSameMailF⟩), (21, ⟨[], sortedF⟩), (22, ⟨[], findF⟩)]) en := fun en => mkE_ok (by simp [awake8_ok, findIDb_ok, copy_ok, put_ok, same_ok, take_ok, rSameMail_ok, sorted_ok, find_ok])
  refine spec_mk hE Try.func3 rfl Try.ntmps3 (fun l hl en hs => ⟨by simp [mkE], ?_⟩)
  replace hl : l.length < 9223372036854775808 ∧ ∀ a ∈ l, a.m.note.args.length < 9223372036854775808 := hl
  show Ex _ _ _ _ (initSt [.d (acts l)] []) (Done _ _ 0 (.bool true, []))
  obtain ⟨hl, hla⟩ := hl
  have aw := awake8_at trivial
  by_cases hlen : 40 < l.length
  · have hlen' : (40 : Int) < l.length := by omega
    refine Ex.of_symN (hE _) 400 _ _ ?_
    simp [Try.f3, aw, hlen, hlen']
    (refine done [] [] [] rfl ?_; simp [Try.f3])
  have hlen' : ¬ ((40 : Int) < l.length) := by omega
  refine Ex.of_symN (hE _) 400 _ _ ?_
  simp [Try.f3, hlen, hlen']
  refine Ex.can_to (st' := ⟨[(0, .d (acts l)), (3, .d (.lit (.slice none 0 0))), (4, .d (.lit (.slice none 0 0))), (5, .int 0)], [], 0⟩) hs [0, 3, 4, 5] [] 0 (by simp) (by simp [Ax.namesOk]) (by simp [Ax.versOk]) ?_ (by simp)
  refine Ex.nil 3 5 rfl ?_
  refine Ex.adopt 4 6 rfl ?_
  refine Ex.loop (X := Nat × List Msg × List Msg) (fun x => x.1 ≤ l.length ∧ ActsInv x.2.1 x.2.2 x.1) (fun x => ⟨[(0, .d (acts l)), (3, .d (msgs x.2.1)), (4, .sv 0 0 6 0 x.2.2.length), (5, .int x.1)], [(0, 0, .arr 6 (x.2.2.map Msg.enc))], 1⟩) (fun x => l.length - x.1) ?_ (0, [], []) ⟨by simp, by simp [Srt], by simp, rfl, by simp, by simp, by simp⟩
  rintro ⟨k, now, inn⟩ ⟨hk, inv⟩ ih
  simp only at hk inv ih
  by_cases hlt : k < l.length
  · have hk' : (k : Int) < l.length := by omega
    have hg : l[k]? = some l[k] := List.getElem?_eq_getElem hlt
    have hxa := hla _ (List.getElem_mem hlt)
    generalize l[k] = x at hg hxa
    by_cases ha : 6 < x.m.note.args.length
    · have ha' : (6 : Int) < x.m.note.args.length := by omega
      refine Ex.of_symN (hE _) 400 _ _ ?_
      simp [hk', hg, ha, ha', aw]
      (refine done [] [] [] rfl ?_; simp [Try.f3])
    have ha' : ¬ (6 : Int) < x.m.note.args.length := by omega
    have hle := inv.le
    have hln := inv.len
    have hf := findIDb_at inn x.m.id.a x.m.id.b x.m.id.c (by omega)
    have hc := copy_at now ⟨by omega, inv.nargs⟩
    have hsame := same_at now now ⟨by omega, fun m hm => by have := inv.nargs m hm; omega⟩
    simp only [decide_true] at hsame
    have hsame' : sameF [.d (msgs now), .d (.sl 6 (now.map Msg.enc))] [] = some (.bool true, []) := hsame
    have hw : IntKind.i64.wrap ((k : Int) + 1) = (k : Int) + 1 := wrap64 (by omega) (by omega)
    by_cases hkind : x.kind = 1
    · have hp := put_at now x.m.id.a x.m.id.b x.m.id.c x.m.note.to x.m.note.h x.m.note.args ⟨by omega, inv.nargs, (show x.m.note.args.length ≤ 16777216 by omega)⟩
      by_cases hneg : findM inn x.m.id < 0
      · obtain ⟨now', e, inv'⟩ := inv.put_some x.m hneg (by omega)
        have hp' : putF [.d (msgs now), x.m.av] [] = some (.tup [.d (msgs now'), .int 0], []) := by rw [hp]; simp [ID.eta, Note.eta, Msg.eta, e]
        have hl1 := putM_len e
        have hso := sorted_at now' (by omega)
        have hsm := (sortedM_srt now').2 inv'.srt
        have hl2 : (now'.length : Int) = inn.length + 1 := by omega
        have hsum : inn.length + 1 ≤ sumLen := by simp [sumLen]; omega
        refine Ex.of_symN (hE _) 400 _ _ ?_
        simp [hk', hg, ha, ha', hf, hc, hsame', hkind, hneg, hp', hso, hsm, hl2, hw, hsum]
        refine Ex.can_to hs [0, 3, 4, 5] [(0, 0, 0)] 1 (by simp) (by simp [Ax.namesOk]) (by simp [Ax.versOk, Ax.verOf, Ax.hget]) (ih (k + 1, now', inn ++ [x.m]) ⟨by simp; omega, inv'⟩ (by simp; omega)) ?_
        simp [Msg.enc]
      · have e := inv.put_none x.m hneg
        have hp' : putF [.d (msgs now), x.m.av] [] = some (.tup [.d (msgs []), .int 1], []) := by rw [hp]; simp [ID.eta, Note.eta, Msg.eta, e]
        have hso := sorted_at now (by omega)
        have hsm := (sortedM_srt now).2 inv.srt
        have hl2 : (now.length : Int) = inn.length := by omega
        refine Ex.of_symN (hE _) 400 _ _ ?_
        simp [hk', hg, ha, ha', hf, hc, hsame', hkind, hneg, hp', hso, hsm, hl2, hw]
        refine Ex.can_to hs [0, 3, 4, 5] [(0, 0, 0)] 1 (by simp) (by simp [Ax.namesOk]) (by simp [Ax.versOk, Ax.verOf, Ax.hget]) (ih (k + 1, now, inn) ⟨by simp; omega, inv.srt, inv.mem, inv.len, inv.dis, inv.args, by simp; omega⟩ (by simp; omega)) ?_
        simp
    · have hkind' : (x.kind == 1) = false := by simpa using hkind
      have ht := take_at now x.m.id.a x.m.id.b x.m.id.c ⟨by omega, inv.nargs⟩
      rcases findM_cases inn x.m.id with ⟨hneg, _⟩ | ⟨i, hi, hpos, hid, _⟩
      · have e := inv.take_none x.m.id (by omega)
        have ht' : takeF [.d (msgs now), x.m.id.av] [] = some (.tup [.d (msgs []), noMsg.av, .int 8], []) := by rw [ht]; simp [ID.eta, takeML, takeMM, e]
        simp [noMsg] at ht'
        have hso := sorted_at now (by omega)
        have hsm := (sortedM_srt now).2 inv.srt
        have hl2 : (now.length : Int) = inn.length := by omega
        refine Ex.of_symN (hE _) 400 _ _ ?_
        simp [hk', hg, ha, ha', hf, hc, hsame', hkind', hneg, ht', hso, hsm, hl2, hw]
        refine Ex.can_to hs [0, 3, 4, 5] [(0, 0, 0)] 1 (by simp) (by simp [Ax.namesOk]) (by simp [Ax.versOk, Ax.verOf, Ax.hget]) (ih (k + 1, now, inn) ⟨by simp; omega, inv.srt, inv.mem, inv.len, inv.dis, inv.args, by simp; omega⟩ (by simp; omega)) ?_
        simp
      · obtain ⟨now', e, inv'⟩ := inv.take_some hi
        rw [hid] at e
        have ht' : takeF [.d (msgs now), x.m.id.av] [] = some (.tup [.d (msgs now'), inn[i].av, .int 0], []) := by rw [ht]; simp [ID.eta, takeML, takeMM, e]
        have hso := sorted_at now' (by have := takeM_len e; omega)
        have hsm := (sortedM_srt now').2 inv'.srt
        have hl2 : (now'.length : Int) = (inn.length : Int) - 1 := by have := takeM_len e; omega
        have hg2 : inn[i]? = some inn[i] := List.getElem?_eq_getElem hi
        have hr := rSameMail_at [inn[i]] [inn[i]] ⟨by simp, by simp; have := inv.args _ (List.getElem_mem hi); omega⟩
        simp [msgs, Msg.enc] at hr
        have hi0 : ¬ ((i : Int) < 0) := by omega
        have w2 : IntKind.i64.wrap ((i : Int) + 1) = (i : Int) + 1 := wrap64 (by omega) (by omega)
        have i1 : i ≤ inn.length := by omega
        have i2 : (i : Int) + 1 ≤ inn.length := by omega
        have i3 : ((i : Int) + 1).toNat = i + 1 := by omega
        have i4 : (0 : Int) ≤ (i : Int) + 1 := by omega
        have i5 : i ≤ sumLen := by simp [sumLen]; omega
        have i9 : (inn.length : Int) - 1 = (i : Int) + ((inn.length - (i + 1) : Nat) : Int) := by omega
        have i7 : i + 1 + (inn.length - (i + 1)) ≤ inn.length := by omega
        have i8 : List.take (inn.length - (i + 1)) (List.drop (i + 1) (List.map Msg.enc inn)) = List.drop (i + 1) (List.map Msg.enc inn) := List.take_of_length_le (by simp)
        have i6 : i + (inn.length - (i + 1)) ≤ sumLen := by simp [sumLen]; omega
        refine Ex.of_symN (hE _) 400 _ _ ?_
        simp [hk', hg, ha, ha', hf, hc, hsame', hkind', hpos, hi0, ht', hso, hsm, hl2, hw, hi, hg2, hr, w2, i1, i2, i3, i4, i5, i6, i7, i8, eq_true i9]
        refine ⟨by decide, ?_⟩
        refine ⟨by decide, ?_⟩
        refine Ex.can_to hs [0, 3, 4, 5] [(2113, 0, 0)] 1 (by simp) (by simp [Ax.namesOk]) (by simp [Ax.versOk, Ax.verOf, Ax.hget]) (ih (k + 1, now', inn.take i ++ inn.drop (i + 1)) ⟨by simp; omega, inv'⟩ (by simp; omega)) ?_
        have hm : min i inn.length = i := by omega
        simp [hm, List.map_take, List.map_drop]
  · have e : k = l.length := by omega
    subst e
    refine Ex.of_symN (hE _) 400 _ _ ?_
    simp
    have hle := inv.le
    have hln := inv.len
    refine Ex.can_to (st' := ⟨[(3, .d (msgs now)), (4, .sv 0 0 6 0 inn.length), (14, .int (0 : Nat))], [(0, 0, .arr 6 (inn.map Msg.enc))], 1⟩) hs [3, 4, 14] [(0, 0, 0)] 1 (by simp) (by simp [Ax.namesOk]) (by simp [Ax.versOk, Ax.verOf, Ax.hget]) ?_ (by simp)
    refine Ex.range inn.length (fun _ => True) (fun i => ⟨[(3, .d (msgs now)), (4, .sv 0 0 6 0 inn.length), (14, .int i)], [(0, 0, .arr 6 (inn.map Msg.enc))], 1⟩) trivial ?_ ?_
    · intro i hi _ ih2
      clear ih
      obtain ⟨j, hj, hf, he⟩ := inv.there hi
      have hfa := find_at now inn[i].id.a inn[i].id.b inn[i].id.c (by omega)
      have hg2 : inn[i]? = some inn[i] := List.getElem?_eq_getElem hi
      have hgn : now[j]? = some inn[i] := by rw [List.getElem?_eq_getElem hj, he]
      have hr := rSameMail_at [inn[i]] [inn[i]] ⟨by simp, by simp; have := inv.args _ (List.getElem_mem hi); omega⟩
      simp [msgs, Msg.enc] at hr
      have hi' : (i : Int) < inn.length := by omega
      have hj0 : ¬ ((j : Int) < 0) := by omega
      have hj1 : ¬ ((now.length : Int) ≤ j) := by omega
      have hj2 : ¬ (now.length ≤ j) := by omega
      have hw : IntKind.i64.wrap ((i : Int) + 1) = (i : Int) + 1 := wrap64 (by omega) (by omega)
      refine Ex.of_symN (hE _) 400 _ _ ?_
      simp [hfa, hf, hg2, hgn, hr, hi', hi, hj0, hj1, hj2, hw]
      refine ⟨by decide, ?_⟩
      refine Ex.can_to hs [3, 4, 14] [(0, 0, 0)] 1 (by simp) (by simp [Ax.namesOk]) (by simp [Ax.versOk, Ax.verOf, Ax.hget]) (ih2 trivial) ?_
      simp
    · intro _
      refine Ex.of_symN (hE _) 400 _ _ ?_
      simp [aw]
      (refine done [] [] [] rfl ?_; simp [Try.f3])
theorem mailActs_ok : FnOk Try.prog 3 ⟨[], mailActsF⟩ := ⟨⟨_, Try.func3, rfl, rfl⟩, mailActs_spec⟩
end Go.Proofs.S
end
section
namespace Go.Ax
open Go.ChangeShapes Go.WideShapes Go.ChangeAt Go.RowKit
set_option linter.unusedSimpArgs false
set_option linter.unusedVariables false

section
variable {H : Type} {enc : TypeId × Value → H} {P : Program}

theorem trodAll_stays (hl : laidOutB P = true) {W W' : World} {sp : Nat → Bool} : ∀ (ts : List TypeId) (vs : List Value) (ds : List (DataW H)) (ps : List MemPlace),
    (∀ t ∈ ts, P.readableRec t = true ∧ t < P.types.size) → DataW.TrodAll enc P W 0 (fun _ => true) true ts vs ds ps → (∀ p ∈ ps, W.sameAt W' p) → (∀ p ∈ ps, sp p.block = true) →
    DataW.TrodAll enc P W' 0 sp true ts vs ds ps
  | [], [], [], ps, _, h, _, _ => h
  | t :: ts, v :: vs, d :: ds, ps, hr, ⟨p, q, h1, h2, he⟩, hs, hp => by
    subst he
    exact ⟨p, q, WideElems.Trod_stays hl (hr t (by simp)).1 (hr t (by simp)).2 h1 (fun x hx => hs x (by simp [hx])) (fun x hx => hp x (by simp [hx])),
      trodAll_stays hl ts vs ds q (fun t ht => hr t (by simp [ht])) h2 (fun x hx => hs x (by simp [hx])) (fun x hx => hp x (by simp [hx])), rfl⟩
  | [], _ :: _, _, _, _, h, _, _ => by simp [DataW.TrodAll] at h
  | [], [], _ :: _, _, _, h, _, _ => by simp [DataW.TrodAll] at h
  | _ :: _, [], _, _, _, h, _, _ => by simp [DataW.TrodAll] at h
  | _ :: _, _ :: _, [], _, _, h, _, _ => by simp [DataW.TrodAll] at h

/-- What a law's row asks, from what was there being as it was. -/
theorem post_kept {f : Func} {s : ChangeSpec} {apart fresh handsOn again : Bool} {W W' : World} {args : Array Value} {v : Value} {ds gs : List (DataW H)} {before : List MemPlace}
    (hl : laidOutB P = true) (hrd : ∀ t ∈ f.params.toList, P.readableRec t = true ∧ t < P.types.size) (hvs : s.vars = [])
    (hW : DataW.Whole enc P f.params.toList s.vars apart W args.toList ds gs before)
    (hout : W'.output = W.output ∧ W'.os = W.os) (hblk : ∀ b, b < W.heap.size → W'.heap[b]? = W.heap[b]?)
    (hfn : (s.fn H ds).args = ds ∧ (s.fn H ds).vars = [])
    (hres : ∀ (b : Nat) (sp : Nat → Bool) (hd : Bool), DataW.TrodAll enc P W' b sp hd f.resultTypes.toList (v.resultList f.resultTypes.size) (s.fn H ds).results [])
    (hok : ∀ (j : Nat) (t : TypeId) (r : Value), f.resultTypes[j]? = some t → (v.resultList f.resultTypes.size)[j]? = some r → Value.okWide P W' .any 0 t r) :
    s.post enc P f apart fresh handsOn again W args v W' := by
  have hlt : ∀ p ∈ before, p.block < W.heap.size := fun p hp => hW.lt p hp
  have hW' := hW
  obtain ⟨p, q, hA, hV, he, hz, hn⟩ := hW'
  have hgs : gs = [] ∧ q = [] := by
    rw [hvs] at hV
    cases gs with
    | nil => exact ⟨rfl, hV⟩
    | cons => simp [DataW.TrodVars] at hV
  obtain ⟨rfl, rfl⟩ := hgs
  simp only [List.append_nil] at he
  subst he
  have hsame : ∀ x ∈ before, W.sameAt W' x := fun x hx => by
    cases x with
    | cell b o => exact World.cell?_of_block (w := W) (hblk b (hlt _ hx))
    | map b => exact hblk b (hlt _ hx)
  have hargs : ∀ sp : Nat → Bool, (∀ p ∈ before, sp p.block = true) → DataW.TrodAll enc P W' 0 sp true f.params.toList args.toList (s.fn H (ds ++ [])).args before := fun sp hsp => by
    rw [List.append_nil, hfn.1]
    exact trodAll_stays hl _ _ _ _ hrd hA hsame hsp
  have hvars : ∀ sp : Nat → Bool, DataW.TrodVars enc P W' sp s.vars (s.fn H (ds ++ [])).vars [] := fun sp => by
    rw [List.append_nil, hfn.2, hvs]; rfl
  have hk : W.keptBut W' (· ∈ before) := by
    refine ⟨hout.2, hout.1, fun i hi => ?_⟩
    rw [hblk i hi]
    split <;> simp_all
  have hres' : ∀ (b : Nat) (sp : Nat → Bool) (hd : Bool), DataW.TrodAll enc P W' b sp hd f.resultTypes.toList (v.resultList f.resultTypes.size) (s.fn H (ds ++ [])).results [] := by rw [List.append_nil]; exact hres
  have hold : ∀ p ∈ before, (fun b => decide (b < W.heap.size)) p.block = true := fun p hp => by simpa using hlt p hp
  refine ⟨ds, [], before, [], before, [], hW, hres' _ _ _, hargs _ hold, hvars _, World.keptBut_mono (fun p hp => ⟨hp, Or.inr (Or.inl hp)⟩) hk, fun _ => ?_⟩
  · refine ⟨hok, _, _, ([] ++ before) ++ [], ⟨[] ++ before, [], trodAll_append (hargs _ (fun _ _ => rfl)) (hres' _ _ _), hvars _, rfl, ?_, ?_⟩, ?_⟩
    · intro b off hp
      have hp' : MemPlace.cell b off ∈ before := by simpa using hp
      rw [World.frozen?_of_block (w := W) (hblk b (hlt _ hp'))]
      exact hz b off hp'
    · intro ha
      simpa using hn ha
    · intro p hp _
      simpa using hp

/-- all that is there when a call begins -/
def allS (W : World) : CellSet := fun b _ => b < W.heap.size

theorem contract_of {f : FuncId} {fn : Func} {s : ChangeSpec} {apart fresh handsOn again : Bool} {F : Fun} (hF : Spec P f F)
    (hl : laidOutB P = true) (hrd : ∀ t ∈ fn.params.toList, P.readableRec t = true ∧ t < P.types.size) (hvs : s.vars = [])
    {tb : TypeId} (htb : P.underlying tb = some .bool) (hrt : fn.resultTypes = #[tb])
    {W : World} {args : Array Value} {ds gs : List (DataW H)} {before : List MemPlace}
    (hW : DataW.Whole enc P fn.params.toList s.vars apart W args.toList ds gs before)
    (hfn : (s.fn H ds).args = ds ∧ (s.fn H ds).vars = [] ∧ (s.fn H ds).results = [.lit (.bool true)])
    {avs : List AV} (ha : ARs (fun _ _ => none) W (allS W) args.toList avs) (hres : F avs [] = some (.bool true, [])) :
    Calls P f args W fun e W' => ∃ v, e = .returned v ∧ s.post enc P fn apart fresh handsOn again W args v W' := by
  have hHR : HR (fun _ _ => none) W (allS W) (mkHeap 0 (zeroVer [])) (fun id => ([] : List AObj).length ≤ id) := by
    refine ⟨?_, ?_, ?_, ?_, ?_, fun b k h => h⟩
    · intro id ver o h; simp [mkHeap, zeroVer, hget] at h
    · intro id _; exact ⟨by simp [mkHeap, zeroVer, hget], fun _ => rfl⟩
    · intro id ver o h; simp [mkHeap, zeroVer, hget] at h
    · intro id ver o p h; simp [mkHeap, zeroVer, hget] at h
    · intro id ver o p id' ver' o' p' h; simp [mkHeap, zeroVer, hget] at h
  have hc := hF avs [] (.bool true) [] hres W (allS W) (fun _ _ => none) args.toList ha hHR
  have hc' : Calls P f args W fun e w' => ∃ β' S' v, e = .returned v ∧ AR β' w' S' v (.bool true) ∧
      Hv (entOf W (allS W) (fun _ _ => none) []) (fun id => ([] : List (Nat × AObj)).length ≤ id) β' S' w' (mkHeap 0 []) := by
    simpa using hc
  refine hc'.mono fun e W' ⟨β', S', v, he, hv, hh⟩ => ⟨v, he, ?_⟩
  have hvb : v = .bool true := hv.lit_inv
  subst hvb
  refine post_kept hl hrd hvs hW hh.fr.out (fun b hb => hh.fr.blocks b hb ?_) ⟨hfn.1, hfn.2.1⟩ ?_ (ok_one hrt rfl (okWide_bool_mk htb true))
  · rintro ⟨j, o, p, h, _⟩
    simp at h
  · intro b sp hd
    rw [hrt, hfn.2.2]
    exact trodAll_cons_mk (shut_bool htb _) trodAll_mk0
end
end Go.Ax
end
section
namespace Go.Ax
open Go.ChangeShapes Go.WideShapes Go.ChangeAt Go.RowKit
set_option linter.unusedSimpArgs false
set_option linter.unusedVariables false

/-! ### what an argument reads as, as data -/
def sizeT (T : Nat → Option TI) (t : Nat) : Nat := match T t with | some ti => ti.size | none => 0

def GoodL (G : Nat → List D → Prop) : List Nat → List D → Prop
  | [], ds => ds = []
  | t :: ts, ds => ∃ p q, ds = p ++ q ∧ G t p ∧ GoodL G ts q

def Good (T : Nat → Option TI) : Nat → Nat → List D → Prop
  | 0, _, _ => False
  | n + 1, t, ds => match T t with
    | none => False
    | some ti => match ti.kind with
      | .int k => ∃ m, ds = [.lit (.int k m)] ∧ (Lit.int k m).wf = true
      | .bool => ∃ b, ds = [.lit (.bool b)]
      | .slice e => ∃ rows, ds = [.sl (sizeT T e) rows] ∧ rows.length ≤ 9223372036854775807 ∧ ∀ r ∈ rows, Good T n e r
      | .struct fs => GoodL (Good T n) (fs.map (·.1)) ds
      | .array m e => GoodL (Good T n) (List.replicate m e) ds
      | _ => False

/-- the fields lie one behind the other -/
def tiles (T : Nat → Option TI) : Nat → List (Nat × Nat) → Nat → Bool
  | o, [], n => decide (o = n)
  | o, (t, off) :: r, n => decide (off = o) && tiles T (o + sizeT T t) r n

def Cov (T : Nat → Option TI) : Nat → Nat → Bool
  | 0, _ => false
  | n + 1, t => match T t with
    | none => false
    | some ti => match ti.kind with
      | .int _ => true
      | .bool => true
      | .slice e => decide (sizeT T e ≠ 0) && Cov T n e
      | .struct fs => tiles T 0 fs ti.size && fs.all fun x => Cov T n x.1
      | .array m e => decide (ti.size = m * sizeT T e) && Cov T n e
      | _ => false

theorem build_list {α : Type} {Q : Nat → α → Prop} : ∀ n, (∀ i, i < n → ∃ r, Q i r) → ∃ l : List α, l.length = n ∧ ∀ i r, l[i]? = some r → Q i r
  | 0, _ => ⟨[], rfl, by simp⟩
  | n + 1, h => by
    obtain ⟨l, h1, h2⟩ := build_list n (fun i hi => h i (by omega))
    obtain ⟨r, hr⟩ := h n (by omega)
    refine ⟨l ++ [r], by simp [h1], fun i x hx => ?_⟩
    by_cases hi : i < n
    · rw [List.getElem?_append_left (by omega)] at hx
      exact h2 i x hx
    · rw [List.getElem?_append_right (by omega)] at hx
      have : i - l.length = 0 := by
        cases hk : i - l.length with
        | zero => rfl
        | succ k => rw [hk] at hx; simp at hx
      have hin : i = n := by omega
      rw [this] at hx
      simp at hx
      subst hx; subst hin
      exact hr

section
variable {H : Type} {enc : TypeId × Value → H} {P : Program} {T : Nat → Option TI} {W : World} {sp : Nat → Bool} {held : Bool}

theorem FRs.append {S : CellSet} {vs us : List Value} {ds es : List D} (h1 : FRs W S vs ds) (h2 : FRs W S us es) : FRs W S (vs ++ us) (ds ++ es) := by
  refine ⟨by simp [h1.1, h2.1], fun i v c hv hc => ?_⟩
  by_cases hi : i < vs.length
  · rw [List.getElem?_append_left hi] at hv
    rw [List.getElem?_append_left (by rw [← h1.1]; exact hi)] at hc
    exact h1.2 i v c hv hc
  · rw [List.getElem?_append_right (by omega)] at hv
    rw [List.getElem?_append_right (by rw [← h1.1]; omega)] at hc
    exact h2.2 _ v c hv (by rw [h1.1]; exact hc)

theorem cellsOf_size (hT : ∀ t ti, T t = some ti → TOk P t ti) {t : Nat} {ti : TI} (h : T t = some ti) : P.cellsOf t = sizeT T t := by
  obtain ⟨i, z, h1, h2, _⟩ := (hT t ti h).info
  simp [Program.cellsOf, h1, h2, sizeT, h]

theorem cells?_spec {a : Addr} {n : Nat} {cs : List Value} (h : W.cells? 0 a n = some cs) : cs.length = n ∧ ∀ j, j < n → W.cell? (a.add j) = cs[j]? := by
  unfold World.cells? at h
  rw [if_pos (Nat.zero_le _)] at h
  refine ⟨by simpa using mapM_some_length h, fun j hj => mapM_some_get h j j (by simp [hj])⟩

theorem cell?_spot {a : Addr} {v : Value} (h : W.cell? a = some v) : a = at_ a.block a.off ∧ a.block < W.heap.size := by
  obtain ⟨b, o, s⟩ := a
  unfold World.cell? at h
  cases s with
  | none =>
    refine ⟨rfl, ?_⟩
    split at h
    · rename_i e
      have := (Array.getElem?_eq_some_iff.1 e).1
      exact this
    · simp at h
  | some s => split at h <;> simp at h

theorem trod_D (hT : ∀ t ti, T t = some ti → TOk P t ti) : ∀ (d n : Nat) (t : Nat) (cs : List Value) (x : DataW H × List MemPlace), Cov T d t = true →
    DataW.trod enc P W 0 sp held n t cs = some x → ∃ ds, FRs W (allS W) cs ds ∧ Good T d t ds
  | 0, n, t, cs, x, hc, h => by simp [Cov] at hc
  | d + 1, n, t, cs, x, hc, h => by
    simp only [Cov] at hc
    split at hc
    · simp at hc
    · rename_i ti hti
      obtain ⟨kd, hu, hk⟩ := (hT t ti hti).und
      split at hc
      · rename_i k hkind
        rw [hkind] at hk
        simp only [KOk] at hk
        subst hk
        obtain ⟨m, rfl, _, hw⟩ := DataW.trod_int hu h
        refine ⟨[.lit (.int k m)], ⟨rfl, fun i v c hv hc => ?_⟩, by simp only [Good, hti, hkind]; exact ⟨m, rfl, hw⟩⟩
        cases i with
        | zero => simp at hv hc; subst hv; subst hc; exact .lit _ rfl
        | succ i => simp at hv
      · rename_i hkind
        rw [hkind] at hk
        simp only [KOk] at hk
        subst hk
        obtain ⟨b, rfl, _⟩ := DataW.trod_bool hu h
        refine ⟨[.lit (.bool b)], ⟨rfl, fun i v c hv hc => ?_⟩, by simp only [Good, hti, hkind]; exact ⟨b, rfl⟩⟩
        cases i with
        | zero => simp at hv hc; subst hv; subst hc; exact .lit _ rfl
        | succ i => simp at hv
      · rename_i e hkind
        rw [hkind] at hk
        simp only [KOk] at hk
        subst hk
        simp only [Bool.and_eq_true, decide_eq_true_eq] at hc
        obtain ⟨hsz, hce⟩ := hc
        have hge : ∀ rows, rows.length ≤ 9223372036854775807 → (∀ r ∈ rows, Good T d e r) → Good T (d + 1) t [.sl (sizeT T e) rows] := by
          intro rows h1 h2
          simp only [Good, hti, hkind]
          exact ⟨rows, rfl, h1, h2⟩
        have hes : P.cellsOf e = sizeT T e := by
          cases he : T e with
          | none => simp [sizeT, he] at hsz
          | some ei => exact cellsOf_size hT he
        rcases DataW.trod_slice hu h with ⟨rfl, _⟩ | ⟨a, len, cap, elems, rest, m, _, rfl, _, _, hlc, hcap, hlen, helem, _, _⟩
        · refine ⟨[.sl (sizeT T e) []], ⟨rfl, fun i v c hv hc => ?_⟩, hge [] (by simp) (by simp)⟩
          cases i with
          | zero => simp at hv hc; subst hv; subst hc; exact .nil _
          | succ i => simp at hv
        · have hrow : ∀ i, i < len → ∃ r : List D, ∃ ci, W.cells? 0 (a.add (i * P.cellsOf e)) (P.cellsOf e) = some ci ∧ FRs W (allS W) ci r ∧ Good T d e r := by
            intro i hi
            have h1 := helem i hi
            rw [List.getElem?_eq_getElem (by omega)] at h1
            simp only [Option.bind_eq_some_iff] at h1
            obtain ⟨ci, h2, h3⟩ := h1
            obtain ⟨r, h4, h5⟩ := trod_D hT d m e ci _ hce h3
            exact ⟨r, ci, h2, h4, h5⟩
          obtain ⟨rows, hl, hrows⟩ := build_list len hrow
          have hat : rows ≠ [] → a = at_ a.block a.off := by
            intro hne
            have h0 : 0 < len := by
              rw [← hl]
              cases rows with
              | nil => exact absurd rfl hne
              | cons => simp
            obtain ⟨r, ci, h2, _⟩ := hrow 0 h0
            obtain ⟨h3, h4⟩ := cells?_spec h2
            have h5 := h4 0 (by omega)
            rw [List.getElem?_eq_getElem (by omega)] at h5
            have := (cell?_spot h5).1
            simpa [Addr.add] using this
          refine ⟨[.sl (sizeT T e) rows], ⟨rfl, fun i v c hv hc => ?_⟩, hge rows (by rw [hl]; simp [maxLen] at hcap; omega) (fun r hr => ?_)⟩
          · cases i with
            | succ i => simp at hv
            | zero =>
              simp at hv hc; subst hv; subst hc
              have hcellAt : ∀ i j r d', rows[i]? = some r → r[j]? = some d' → ∃ v, W.cell? (at_ a.block (a.off + (i * sizeT T e + j))) = some v ∧ FR W (allS W) v d' := by
                intro i j r d' hr hd
                obtain ⟨ci, h2, h3, h4⟩ := hrows i r hr
                obtain ⟨h5, h6⟩ := cells?_spec h2
                have hj : j < r.length := (List.getElem?_eq_some_iff.1 hd).1
                have hjc : j < ci.length := by rw [h3.1]; exact hj
                have h7 := h6 j (by omega)
                rw [List.getElem?_eq_getElem hjc] at h7
                have hne : rows ≠ [] := by intro e; rw [e] at hr; simp at hr
                rw [hat hne, at_add, at_add, hes, Nat.add_assoc] at h7
                exact ⟨_, h7, h3.2 j _ _ (List.getElem?_eq_getElem hjc) hd⟩
              refine FR.sl a len cap (sizeT T e) rows (fun i j => (W.cell? (at_ a.block (a.off + (i * sizeT T e + j)))).getD undef) hl.symm hlc hat ?_ ?_ ?_
              · intro r hr
                obtain ⟨i, hi⟩ := List.mem_iff_getElem?.1 hr
                obtain ⟨ci, h2, h3, _⟩ := hrows i r hi
                rw [← h3.1, (cells?_spec h2).1, hes]
              · intro i j r d' hr hd
                obtain ⟨v, h1, _⟩ := hcellAt i j r d' hr hd
                exact ⟨(cell?_spot h1).2, by simp [h1]⟩
              · intro i j r d' hr hd
                obtain ⟨v, h1, h2⟩ := hcellAt i j r d' hr hd
                simpa [h1] using h2
          · obtain ⟨i, hi⟩ := List.mem_iff_getElem?.1 hr
            exact (hrows i r hi).choose_spec.2.2
      · rename_i fs hkind
        rw [hkind] at hk
        obtain ⟨fields, rfl, hfs⟩ := hk
        simp only [Bool.and_eq_true, List.all_eq_true] at hc
        obtain ⟨htl, hall⟩ := hc
        obtain ⟨xs, m, _, _, hlen, hxl, hf⟩ := DataW.trod_struct hu h
        have hsz : cs.length = ti.size := by rw [hlen, cellsOf_size hT hti]; simp [sizeT, hti]
        have key : ∀ (l : List (Nat × Nat)) (o : Nat), (∀ y ∈ l, Cov T d y.1 = true ∧ ∃ z, DataW.trod enc P W 0 sp held m y.1 ((cs.drop y.2).take (P.cellsOf y.1)) = some z) → tiles T o l ti.size = true → o ≤ ti.size →
            ∃ ds, FRs W (allS W) (cs.drop o) ds ∧ GoodL (Good T d) (l.map (·.1)) ds := by
          intro l
          induction l with
          | nil =>
            intro o _ ht _
            simp [tiles] at ht
            refine ⟨[], ⟨by simp; omega, fun i v c hv hc => by simp at hc⟩, rfl⟩
          | cons y l ih =>
            obtain ⟨ft, off⟩ := y
            intro o hy ht ho
            simp only [tiles, Bool.and_eq_true, decide_eq_true_eq] at ht
            obtain ⟨rfl, ht⟩ := ht
            obtain ⟨hcv, z, hz⟩ := hy (ft, off) (by simp)
            obtain ⟨p, hp1, hp2⟩ := trod_D hT d m ft _ z hcv hz
            have hcf : P.cellsOf ft = sizeT T ft := by
              cases d with
              | zero => simp [Cov] at hcv
              | succ d =>
                cases he : T ft with
                | none => simp [Cov, he] at hcv
                | some ei => exact cellsOf_size hT he
            have hle : off + sizeT T ft ≤ ti.size := by
              have tl : ∀ (l : List (Nat × Nat)) o, tiles T o l ti.size = true → o ≤ ti.size := by
                intro l
                induction l with
                | nil => intro o h; simp [tiles] at h; omega
                | cons y l ih =>
                  obtain ⟨ft, of⟩ := y
                  intro o h
                  simp [tiles] at h
                  have := ih _ h.2
                  omega
              exact tl _ _ ht
            obtain ⟨q, hq1, hq2⟩ := ih (off + sizeT T ft) (fun y hy' => hy y (by simp [hy'])) ht hle
            refine ⟨p ++ q, ?_, p, q, rfl, hp2, hq2⟩
            have hsplit : cs.drop off = (cs.drop off).take (P.cellsOf ft) ++ cs.drop (off + sizeT T ft) := by
              rw [hcf, ← List.drop_drop]
              exact (List.take_append_drop _ _).symm
            rw [hsplit]
            exact hp1.append hq1
        have hfields : ∀ y ∈ fs, Cov T d y.1 = true ∧ ∃ z, DataW.trod enc P W 0 sp held m y.1 ((cs.drop y.2).take (P.cellsOf y.1)) = some z := by
          intro y hy
          refine ⟨hall y hy, ?_⟩
          rw [← hfs] at hy
          obtain ⟨f, hf1, rfl⟩ := List.mem_map.1 hy
          obtain ⟨i, hi⟩ := List.mem_iff_getElem?.1 hf1
          have hi' : fields[i]? = some f := by simpa using hi
          have := hf i f hi'
          have hlt : i < xs.length := by rw [hxl]; exact (Array.getElem?_eq_some_iff.1 hi').1
          rw [List.getElem?_eq_getElem hlt] at this
          exact ⟨_, this⟩
        obtain ⟨ds, h1, h2⟩ := key fs 0 hfields htl (Nat.zero_le _)
        refine ⟨ds, by simpa using h1, ?_⟩
        simp only [Good, hti, hkind]
        exact h2
      · rename_i m0 e hkind
        rw [hkind] at hk
        simp only [KOk] at hk
        subst hk
        simp only [Bool.and_eq_true, decide_eq_true_eq] at hc
        obtain ⟨hsz0, hce⟩ := hc
        obtain ⟨xs, m, _, _, hlen, hxl, hf⟩ := DataW.trod_array hu h
        have hsz : cs.length = ti.size := by rw [hlen, cellsOf_size hT hti]; simp [sizeT, hti]
        have hcf : P.cellsOf e = sizeT T e := by
          cases d with
          | zero => simp [Cov] at hce
          | succ d =>
            cases he : T e with
            | none => simp [Cov, he] at hce
            | some ei => exact cellsOf_size hT he
        have key : ∀ k, k ≤ m0 → ∃ ds, FRs W (allS W) (cs.drop ((m0 - k) * sizeT T e)) ds ∧ GoodL (Good T d) (List.replicate k e) ds := by
          intro k
          induction k with
          | zero => intro _; exact ⟨[], ⟨by simp; rw [hsz, hsz0]; omega, fun i v c hv hc => by simp at hc⟩, rfl⟩
          | succ k ih =>
            intro hk
            obtain ⟨q, hq1, hq2⟩ := ih (by omega)
            have hi := hf (m0 - (k + 1)) (by omega)
            rw [List.getElem?_eq_getElem (by omega)] at hi
            obtain ⟨p, hp1, hp2⟩ := trod_D hT d m e _ _ hce hi
            refine ⟨p ++ q, ?_, p, q, rfl, hp2, hq2⟩
            have hsplit : cs.drop ((m0 - (k + 1)) * sizeT T e) = (cs.drop ((m0 - (k + 1)) * P.cellsOf e)).take (P.cellsOf e) ++ cs.drop ((m0 - k) * sizeT T e) := by
              rw [hcf, show (m0 - k) * sizeT T e = (m0 - (k + 1)) * sizeT T e + sizeT T e by rw [show m0 - k = (m0 - (k + 1)) + 1 by omega, Nat.add_mul, Nat.one_mul], ← List.drop_drop]
              exact (List.take_append_drop _ _).symm
            rw [hsplit]
            exact hp1.append hq1
        obtain ⟨ds, h1, h2⟩ := key m0 (Nat.le_refl _)
        refine ⟨ds, by simpa using h1, ?_⟩
        simp only [Good, hti, hkind]
        exact h2
      · simp at hc
end
end Go.Ax
end
section
namespace Go.Ax
open Go.ChangeShapes Go.WideShapes Go.ChangeAt Go.RowKit
set_option linter.unusedSimpArgs false
set_option linter.unusedVariables false

def avK (agg : Bool) (ds : List D) : AV :=
  match agg with
  | true => .agg (ds.map .d)
  | false => match ds with | [x] => .d x | _ => .top
def avOf (T : Nat → Option TI) (t : Nat) (ds : List D) : AV :=
  match T t with
  | some ti => avK ti.kind.agg ds
  | none => .top
def avsOf (T : Nat → Option TI) : List Nat → List (List D) → List AV
  | t :: ts, ds :: dss => avOf T t ds :: avsOf T ts dss
  | _, _ => []
def GoodA (T : Nat → Option TI) (d : Nat) : List Nat → List (List D) → Prop
  | [], [] => True
  | t :: ts, ds :: dss => Good T d t ds ∧ GoodA T d ts dss
  | _, _ => False

section
variable {H : Type} {enc : TypeId × Value → H} {P : Program} {T : Nat → Option TI} {W : World} {sp : Nat → Bool} {held : Bool}

theorem arg_AR (hT : ∀ t ti, T t = some ti → TOk P t ti) {base d : Nat} {t : Nat} {v : Value} {x : DataW H} {ps : List MemPlace} (hc : Cov T d t = true)
    (hval : Value.okWide P W .any base t v) (h : DataW.Trod enc P W 0 sp held t v x ps) : ∃ ds, Good T d t ds ∧ AR (fun _ _ => none) W (allS W) v (avOf T t ds) := by
  obtain ⟨n, hn⟩ := h
  obtain ⟨ds, h1, h2⟩ := trod_D hT d n t _ _ hc hn
  refine ⟨ds, h2, ?_⟩
  cases d with
  | zero => simp [Cov] at hc
  | succ d =>
  cases hti : T t with
  | none => simp [Cov, hti] at hc
  | some ti =>
    obtain ⟨kd, hu, hk⟩ := (hT t ti hti).und
    have hav : avOf T t ds = avK ti.kind.agg ds := by unfold avOf; rw [hti]
    rw [hav]
    have plain : ti.kind.agg = false → (∃ u, v.cells.toList = [u] ∧ v = u) → AR (fun _ _ => none) W (allS W) v (avK ti.kind.agg ds) := by
      intro hag ⟨u, hu, he⟩
      subst he
      rw [hu] at h1
      rw [hag]
      obtain ⟨hl, hx⟩ := h1
      clear h2 hav
      match ds, hl with
      | [y], _ => exact .d _ _ (hx 0 _ _ rfl rfl)
    have aggd : ti.kind.agg = true → (∃ cs, v = .agg cs) → AR (fun _ _ => none) W (allS W) v (avK ti.kind.agg ds) := by
      intro hag ⟨cs, he⟩
      subst he
      rw [hag]
      simp only [Value.cells] at h1
      refine .agg _ _ (by simpa using h1.1) (fun i v c hv hc => ?_)
      simp at hc
      obtain ⟨dd, hd, rfl⟩ := hc
      exact .d _ _ (h1.2 i v dd (by simpa using hv) hd)
    simp only [Cov, hti] at hc
    cases hkk : ti.kind with
    | int k =>
      rw [hkk] at hk plain; simp only [KOk] at hk; subst hk
      obtain ⟨m, rfl⟩ := okWide_int hu hval
      exact plain rfl ⟨_, rfl, rfl⟩
    | bool =>
      rw [hkk] at hk plain; simp only [KOk] at hk; subst hk
      obtain ⟨m, rfl⟩ := okWide_bool hu hval
      exact plain rfl ⟨_, rfl, rfl⟩
    | slice e =>
      rw [hkk] at hk plain; simp only [KOk] at hk; subst hk
      have : ∃ a n c, v = .slice a n c := by
        unfold Value.okWide at hval
        rw [hu] at hval
        simp only [Cell.okWide, hu] at hval
        cases v <;> simp_all [Cell.ok]
      obtain ⟨a, n, c, rfl⟩ := this
      exact plain rfl ⟨_, rfl, rfl⟩
    | struct fs =>
      rw [hkk] at hk aggd
      obtain ⟨fields, rfl, _⟩ := hk
      unfold Value.okWide at hval
      rw [hu] at hval
      obtain ⟨cs, rfl, _⟩ := hval
      exact aggd rfl ⟨cs, rfl⟩
    | array m e =>
      rw [hkk] at hk aggd; simp only [KOk] at hk; subst hk
      unfold Value.okWide at hval
      rw [hu] at hval
      obtain ⟨cs, rfl, _⟩ := hval
      exact aggd rfl ⟨cs, rfl⟩
    | str => simp [hkk] at hc
    | ptr e => simp [hkk] at hc
    | other => simp [hkk] at hc

theorem args_AR (hT : ∀ t ti, T t = some ti → TOk P t ti) {base d : Nat} : ∀ (ts : List TypeId) (vs : List Value) (xs : List (DataW H)) (ps : List MemPlace), (∀ t ∈ ts, Cov T d t = true) →
    (∀ (j : Nat) t v, ts[j]? = some t → vs[j]? = some v → Value.okWide P W .any base t v) → DataW.TrodAll enc P W 0 sp held ts vs xs ps →
    ∃ dss, GoodA T d ts dss ∧ ARs (fun _ _ => none) W (allS W) vs (avsOf T ts dss)
  | [], [], [], ps, _, _, _ => ⟨[], trivial, ARs.nil⟩
  | t :: ts, v :: vs, x :: xs, ps, hc, hv, ⟨p, q, h1, h2, he⟩ => by
    obtain ⟨ds, g1, g2⟩ := arg_AR hT (hc t (by simp)) (hv 0 t v rfl rfl) h1
    obtain ⟨dss, g3, g4⟩ := args_AR hT ts vs xs q (fun t ht => hc t (by simp [ht])) (fun j t v h1 h2 => hv (j + 1) t v (by simpa using h1) (by simpa using h2)) h2
    exact ⟨ds :: dss, ⟨g1, g3⟩, ARs.cons_iff.2 ⟨g2, g4⟩⟩
  | [], _ :: _, _, _, _, _, h => by simp [DataW.TrodAll] at h
  | [], [], _ :: _, _, _, _, h => by simp [DataW.TrodAll] at h
  | _ :: _, [], _, _, _, _, h => by simp [DataW.TrodAll] at h
  | _ :: _, _ :: _, [], _, _, _, h => by simp [DataW.TrodAll] at h

/-- THE ROW's CONTRACT from a function's promise and a plain law on what it reads. -/
theorem contract_law (hT : ∀ t ti, T t = some ti → TOk P t ti) {f : FuncId} {fn : Func} {s : ChangeSpec} {apart fresh handsOn again : Bool} {F : Fun} (hF : Spec P f F)
    (hl : laidOutB P = true) (hrd : ∀ t ∈ fn.params.toList, P.readableRec t = true ∧ t < P.types.size) (hvs : s.vars = [])
    {tb : TypeId} (htb : P.underlying tb = some .bool) (hrt : fn.resultTypes = #[tb]) {d : Nat} (hcov : ∀ t ∈ fn.params.toList, Cov T d t = true)
    (hlen : ∀ (W : World) (args : Array Value) (ds : List (DataW H)) (p : List MemPlace), DataW.TrodAll enc P W 0 (fun _ => true) true fn.params.toList args.toList ds p →
      (s.fn H ds).args = ds ∧ (s.fn H ds).vars = [] ∧ (s.fn H ds).results = [.lit (.bool true)])
    (law : ∀ dss, GoodA T d fn.params.toList dss → F (avsOf T fn.params.toList dss) [] = some (.bool true, []))
    {W : World} {base : Nat} {args : Array Value} {ds gs : List (DataW H)} {before : List MemPlace}
    (hval : ∀ (j : Nat) t v, fn.params[j]? = some t → args[j]? = some v → Value.okWide P W .any base t v)
    (hW : DataW.Whole enc P fn.params.toList s.vars apart W args.toList ds gs before) :
    Calls P f args W fun e W' => ∃ v, e = .returned v ∧ s.post enc P fn apart fresh handsOn again W args v W' := by
  have hW' := hW
  obtain ⟨p, q, hA, _⟩ := hW'
  obtain ⟨dss, h1, h2⟩ := args_AR hT (base := base) fn.params.toList args.toList ds p hcov (fun j t v h1 h2 => hval j t v (by simpa using h1) (by simpa using h2)) hA
  exact contract_of hF hl hrd hvs htb hrt hW (hlen W args ds p hA) h2 (law dss h1)
end
end Go.Ax
end
section
open Go Go.Ax
namespace Go.Proofs.S
set_option linter.unusedSimpArgs false
set_option linter.unusedVariables false

/-! ### what a law reads, as plain data -/
def i64 (m : Int) : Prop := -9223372036854775808 ≤ m ∧ m < 9223372036854775808
theorem wf_i64 {m : Int} (h : (Lit.int .i64 m).wf = true) : i64 m := by
  simp [Lit.wf, IntKind.min, IntKind.max, IntKind.signed, IntKind.bits] at h
  unfold i64
  omega
theorem good_list {α : Type} {n e : Nat} (enc : α → List D) (R : α → Prop) (he : ∀ r, Ax.Good T n e r → ∃ a, r = enc a ∧ R a) : ∀ (rows : List (List D)), (∀ r ∈ rows, Ax.Good T n e r) → ∃ l : List α, rows = l.map enc ∧ ∀ a ∈ l, R a
  | [], _ => ⟨[], rfl, by simp⟩
  | r :: rows, h => by
    obtain ⟨a, rfl, ha⟩ := he r (h r (by simp))
    obtain ⟨l, rfl, hl⟩ := good_list enc R he rows (fun r hr => h r (List.mem_cons_of_mem _ hr))
    exact ⟨a :: l, rfl, by simpa using ⟨ha, hl⟩⟩
theorem good_int {n : Nat} {ds : List D} (h : Ax.Good T (n + 1) 3 ds) : ∃ m, ds = [.int m] ∧ i64 m := by
  obtain ⟨m, rfl, hw⟩ := h
  exact ⟨m, rfl, wf_i64 hw⟩
theorem good_bool {n : Nat} {ds : List D} (h : Ax.Good T (n + 1) 4 ds) : ∃ m, ds = [.bool m] := h
abbrev small63 {α : Type} (l : List α) : Prop := l.length < 9223372036854775808
theorem good_ints {n : Nat} {ds : List D} (h : Ax.Good T (n + 2) 27 ds) : ∃ l, ds = [ints l] ∧ small63 l ∧ ∀ m ∈ l, i64 m := by
  obtain ⟨rows, rfl, hl, hr⟩ := h
  obtain ⟨l, rfl, h2⟩ := good_list (e := 3) (fun m : Int => [.int m]) i64 (fun r hr => good_int hr) rows hr
  exact ⟨l, rfl, by simp at hl; unfold small63; omega, h2⟩
theorem good_id {n : Nat} {ds : List D} (h : Ax.Good T (n + 2) 26 ds) : ∃ x : ID, ds = x.enc ∧ i64 x.a ∧ i64 x.b ∧ i64 x.c := by
  obtain ⟨p1, q1, rfl, h1, p2, q2, rfl, h2, p3, q3, rfl, h3, rfl⟩ := h
  obtain ⟨a, rfl, ha⟩ := good_int h1
  obtain ⟨b, rfl, hb⟩ := good_int h2
  obtain ⟨c, rfl, hc⟩ := good_int h3
  exact ⟨⟨a, b, c⟩, rfl, ha, hb, hc⟩
theorem good_note {n : Nat} {ds : List D} (h : Ax.Good T (n + 3) 29 ds) : ∃ x : Note, ds = x.enc ∧ i64 x.to ∧ i64 x.h ∧ small63 x.args ∧ ∀ m ∈ x.args, i64 m := by
  obtain ⟨p1, q1, rfl, h1, p2, q2, rfl, h2, p3, q3, rfl, h3, rfl⟩ := h
  obtain ⟨a, rfl, ha⟩ := good_int h1
  obtain ⟨b, rfl, hb⟩ := good_int h2
  obtain ⟨c, rfl, hc, hd⟩ := good_ints h3
  exact ⟨⟨a, b, c⟩, rfl, ha, hb, hc, hd⟩
theorem good_msg {n : Nat} {ds : List D} (h : Ax.Good T (n + 4) 31 ds) : ∃ x : Msg, ds = x.enc ∧ (i64 x.id.a ∧ i64 x.id.b ∧ i64 x.id.c) ∧ i64 x.note.to ∧ i64 x.note.h ∧ small63 x.note.args ∧ ∀ m ∈ x.note.args, i64 m := by
  obtain ⟨p1, q1, rfl, h1, p2, q2, rfl, h2, rfl⟩ := h
  obtain ⟨a, rfl, ha⟩ := good_id h1
  obtain ⟨b, rfl, hb⟩ := good_note h2
  exact ⟨⟨a, b⟩, rfl, ha, hb⟩
theorem good_act {n : Nat} {ds : List D} (h : Ax.Good T (n + 5) 33 ds) : ∃ x : Act, ds = x.enc ∧ small63 x.m.note.args := by
  obtain ⟨p1, q1, rfl, h1, p2, q2, rfl, h2, rfl⟩ := h
  obtain ⟨a, rfl, ha⟩ := good_int h1
  obtain ⟨b, rfl, hb⟩ := good_msg h2
  exact ⟨⟨a, b⟩, rfl, hb.2.2.2.1⟩
theorem good_acts {n : Nat} {ds : List D} (h : Ax.Good T (n + 6) 22 ds) : ∃ l, ds = [acts l] ∧ small63 l ∧ ∀ m ∈ l, small63 m.m.note.args := by
  obtain ⟨rows, rfl, hl, hr⟩ := h
  obtain ⟨l, rfl, h2⟩ := good_list (e := 33) Act.enc (fun x => small63 x.m.note.args) (fun r hr => good_act hr) rows hr
  exact ⟨l, rfl, by simp at hl; unfold small63; omega, h2⟩
end Go.Proofs.S
end
