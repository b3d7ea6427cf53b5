import Derived.Test.YtkncekndhklmhaaP02
import Derived.Orders
/- A part of the proof of a law: steps of the program on plain data, and plain facts about them; no condition. -/
set_option linter.unusedVariables false
set_option linter.unusedSimpArgs false
section
namespace Go.Ax
set_option linter.unusedSimpArgs false
set_option linter.unusedVariables false

/-- what is read is what is touched -/
def Loc {α : Type} (m : M α) : Prop := ∀ h h' a l, m h = some (a, l) → (∀ id ∈ l, h id = h' id) → m h' = some (a, l)

theorem Loc.pure {α : Type} (a : α) : Loc (pure a : M α) := fun h h' a' l e _ => e
theorem Loc.fail {α : Type} : Loc (M.fail : M α) := fun h h' a l e _ => by simp [M.fail] at e
theorem Loc.lift {α : Type} (o : Option α) : Loc (M.lift o) := fun h h' a l e _ => e
theorem Loc.need (b : Bool) : Loc (M.need b) := fun h h' a l e _ => e
theorem Loc.look (id : Nat) : Loc (look id) := by
  intro h h' a l e hl
  rw [look_some] at e ⊢
  obtain ⟨h1, h2⟩ := e
  exact ⟨by rw [← hl id (by rw [show l = [id] from h2]; simp)]; exact h1, h2⟩
theorem Loc.bind {α β : Type} {m : M α} {f : α → M β} (hm : Loc m) (hf : ∀ a, Loc (f a)) : Loc (m >>= f) := by
  intro h h' b l e hl
  rw [M.bind_some] at e ⊢
  obtain ⟨a, l1, b', l2, h1, h2, h3⟩ := e
  simp only [Prod.mk.injEq] at h3
  obtain ⟨rfl, rfl⟩ := h3
  exact ⟨a, l1, b, l2, hm h h' a l1 h1 (fun id hid => hl id (by simp [hid])), hf a h h' b l2 h2 (fun id hid => hl id (by simp [hid])), rfl⟩

theorem loc_cellD (c : AV) : Loc (cellD c) := by
  unfold cellD
  split
  · exact Loc.pure _
  · refine Loc.bind (Loc.look _) (fun x => ?_)
    refine Loc.bind (Loc.need _) (fun _ => ?_)
    split
    · exact Loc.bind (Loc.need _) (fun _ => Loc.pure _)
    · exact Loc.bind (Loc.need _) (fun _ => Loc.pure _)
    · exact Loc.fail
  · exact Loc.fail

theorem loc_cellsD : ∀ (cs : List AV), Loc (cellsD cs)
  | [] => Loc.pure _
  | c :: cs => by
    unfold cellsD
    exact Loc.bind (loc_cellD c) (fun x => Loc.bind (loc_cellsD cs) (fun y => Loc.pure _))

theorem loc_freezeCells : ∀ (cs : List AV), Loc (freezeArg.freezeCells cs)
  | [] => Loc.pure _
  | c :: cs => by
    unfold freezeArg.freezeCells
    split
    · exact Loc.pure _
    · exact Loc.bind (loc_cellD _) (fun x => Loc.bind (loc_freezeCells _) (fun y => Loc.pure _))
    · exact Loc.bind (loc_freezeCells _) (fun y => Loc.pure _)
  termination_by cs => cs.length
  decreasing_by all_goals (simp_all <;> omega)

theorem loc_freezeArg (c : AV) : Loc (freezeArg c) := by
  unfold freezeArg
  split
  · exact Loc.bind (loc_cellD _) (fun x => Loc.pure _)
  · exact Loc.bind (loc_freezeCells _) (fun x => Loc.pure _)
  · exact Loc.pure _

theorem loc_freezeArgs : ∀ (bs : List Bool) (cs : List AV), Loc (freezeArgs bs cs)
  | bs, [] => by unfold freezeArgs; exact Loc.pure _
  | true :: bs, c :: cs => by
    unfold freezeArgs
    exact Loc.bind (loc_freezeArgs bs cs) (fun x => Loc.pure _)
  | [], c :: cs => by
    unfold freezeArgs
    exact Loc.bind (loc_freezeArg c) (fun x => Loc.bind (loc_freezeArgs [] cs) (fun x => Loc.pure _))
  | false :: bs, c :: cs => by
    unfold freezeArgs
    exact Loc.bind (loc_freezeArg c) (fun x => Loc.bind (loc_freezeArgs bs cs) (fun x => Loc.pure _))

theorem loc_collect : ∀ (n : Nat) (todo : List (Nat × Nat)) (acc : Heap), Loc (collect n todo acc)
  | n, [], acc => by cases n <;> exact Loc.pure _
  | 0, _ :: _, acc => Loc.fail
  | n + 1, (id, ver) :: todo, acc => by
    unfold collect
    split
    · exact loc_collect n todo acc
    · refine Loc.bind (Loc.look _) (fun x => ?_)
      obtain ⟨v, o⟩ := x
      simp only
      split
      · exact loc_collect n _ _
      · exact loc_collect n _ _

theorem loc_callM (E : Env) (base : Nat) (f : FuncId) (args : List AV) : Loc (callM E base f args) := by
  unfold callM
  refine Loc.bind (Loc.lift _) (fun fn => ?_)
  refine Loc.bind (loc_freezeArgs _ _) (fun x => ?_)
  refine Loc.bind (loc_collect _ _ _) (fun L => ?_)
  refine Loc.bind (Loc.lift _) (fun r => ?_)
  exact Loc.bind (Loc.need _) (fun _ => Loc.bind (Loc.need _) (fun _ => Loc.pure _))

theorem loc_loadA (ti : TI) (a : AV) : Loc (loadA ti a) := by
  unfold loadA
  split
  · refine Loc.bind (Loc.look _) (fun x => ?_)
    refine Loc.bind (Loc.need _) (fun _ => ?_)
    split
    · exact Loc.bind (Loc.need _) (fun _ => Loc.bind (Loc.lift _) (fun _ => Loc.lift _))
    · exact Loc.bind (Loc.lift _) (fun _ => Loc.bind (Loc.lift _) (fun _ => Loc.lift _))
    · exact Loc.bind (Loc.lift _) (fun _ => Loc.bind (Loc.lift _) (fun _ => Loc.lift _))
    · exact Loc.fail
  · exact Loc.bind (Loc.lift _) (fun _ => Loc.lift _)
  · exact Loc.fail

theorem loc_storeA (ti : TI) (x a : AV) : Loc (storeA ti x a) := by
  unfold storeA
  split
  · refine Loc.bind (Loc.look _) (fun x => ?_)
    refine Loc.bind (Loc.need _) (fun _ => ?_)
    refine Loc.bind (Loc.need _) (fun _ => ?_)
    refine Loc.bind (Loc.need _) (fun _ => ?_)
    split
    · exact Loc.bind (Loc.need _) (fun _ => Loc.bind (Loc.lift _) (fun _ => Loc.pure _))
    · refine Loc.bind (loc_cellsD _) (fun x => ?_)
      exact Loc.bind (Loc.need _) (fun _ => Loc.bind (Loc.lift _) (fun _ => Loc.bind (Loc.lift _) (fun _ => Loc.pure _)))
    · exact Loc.fail
  · exact Loc.fail

theorem loc_rowsOf (sz : Nat) (a : AV) : Loc (rowsOf sz a) := by
  unfold rowsOf
  split
  · exact Loc.bind (Loc.need _) (fun _ => Loc.pure _)
  · exact Loc.pure _
  · refine Loc.bind (Loc.need _) (fun _ => ?_)
    refine Loc.bind (Loc.look _) (fun x => ?_)
    refine Loc.bind (Loc.need _) (fun _ => ?_)
    split
    · exact Loc.bind (Loc.need _) (fun _ => Loc.pure _)
    · exact Loc.bind (Loc.need _) (fun _ => Loc.pure _)
    · exact Loc.fail
  · exact Loc.fail

theorem loc_appendA (ti : TI) (base : Nat) (s x : AV) : Loc (appendA ti base s x) := by
  unfold appendA
  refine Loc.bind (loc_rowsOf _ _) (fun rows => ?_)
  refine Loc.bind (Loc.need _) (fun _ => ?_)
  split
  · split
    · exact Loc.pure _
    · exact Loc.bind (Loc.need _) (fun _ => Loc.pure _)
  · refine Loc.bind (Loc.need _) (fun _ => ?_)
    refine Loc.bind (Loc.look _) (fun x => ?_)
    refine Loc.bind (Loc.need _) (fun _ => ?_)
    split
    · split
      · exact Loc.bind (Loc.need _) (fun _ => Loc.pure _)
      · exact Loc.bind (Loc.need _) (fun _ => Loc.pure _)
    · exact Loc.fail
  · exact Loc.fail

theorem loc_partsD (sz : Nat) (ns : List Nat) : ∀ (ps : List (Nat × AV)), Loc (partsD sz ns ps)
  | [] => Loc.pure _
  | (i, v) :: ps => by
    unfold partsD
    exact Loc.bind (loc_cellsD _) (fun x => Loc.bind (Loc.need _) (fun _ => Loc.bind (loc_partsD sz ns ps) (fun y => Loc.pure _)))

theorem loc_builtinA (E : Env) (base : Nat) (b : Builtin) (tys : List Nat) (args : List AV) : Loc (builtinA E base b tys args) := by
  unfold builtinA
  split
  · exact Loc.bind (Loc.lift _) (fun _ => Loc.bind (Loc.lift _) (fun _ => Loc.pure _))
  · exact Loc.bind (Loc.lift _) (fun _ => Loc.pure _)
  · exact Loc.bind (Loc.lift _) (fun _ => Loc.pure _)
  · exact Loc.bind (Loc.lift _) (fun _ => Loc.bind (Loc.need _) (fun _ => loc_appendA _ _ _ _))
  · exact Loc.fail

theorem loc_evalOp0 (E : Env) (base : Nat) (ρ : Operand → Option AV) (o : Op) : Loc (evalOp0 E base ρ o) := by
  unfold evalOp0
  split
  · exact Loc.bind (Loc.lift _) (fun _ => Loc.pure _)
  · exact Loc.bind (Loc.lift _) (fun _ => Loc.pure _)
  · refine Loc.bind (Loc.lift _) (fun _ => ?_)
    split
    · exact Loc.bind (Loc.lift _) (fun _ => Loc.pure _)
    · exact Loc.bind (Loc.lift _) (fun _ => Loc.pure _)
    · exact Loc.fail
  · exact Loc.bind (Loc.lift _) (fun _ => Loc.pure _)
  · exact Loc.bind (Loc.lift _) (fun _ => Loc.bind (Loc.need _) (fun _ => Loc.pure _))
  · refine Loc.bind (Loc.lift _) (fun ti => Loc.bind (Loc.lift _) (fun _ => Loc.bind (Loc.need _) (fun _ => ?_)))
    split
    · exact Loc.bind (Loc.need _) (fun _ => Loc.bind (Loc.lift _) (fun _ => Loc.pure _))
    · exact Loc.bind (Loc.lift _) (fun _ => Loc.bind (Loc.lift _) (fun _ => Loc.pure _))
    · exact Loc.fail
  · refine Loc.bind (Loc.lift _) (fun ti => Loc.bind (Loc.need _) (fun _ => Loc.bind (Loc.lift _) (fun _ => Loc.bind (Loc.need _) (fun _ => ?_))))
    exact Loc.bind (loc_partsD _ _ _) (fun x => Loc.bind (Loc.lift _) (fun _ => Loc.pure _))
  · exact Loc.bind (Loc.lift _) (fun _ => Loc.bind (Loc.lift _) (fun _ => Loc.bind (loc_loadA _ _) (fun _ => Loc.pure _)))
  · exact Loc.bind (Loc.lift _) (fun _ => Loc.bind (Loc.lift _) (fun _ => Loc.bind (Loc.lift _) (fun _ => Loc.bind (loc_storeA _ _ _) (fun _ => Loc.pure _))))
  · refine Loc.bind (Loc.lift _) (fun _ => ?_)
    split
    · exact Loc.pure _
    · exact Loc.pure _
    · exact Loc.fail
  · exact Loc.bind (Loc.lift _) (fun _ => Loc.bind (Loc.lift _) (fun _ => Loc.bind (Loc.lift _) (fun _ => Loc.pure _)))
  · refine Loc.bind (Loc.lift _) (fun _ => ?_)
    split
    · exact Loc.pure _
    · exact Loc.pure _
    · exact Loc.fail
  · exact Loc.bind (Loc.lift _) (fun _ => Loc.bind (Loc.lift _) (fun _ => Loc.bind (Loc.lift _) (fun _ => Loc.bind (Loc.lift _) (fun _ => Loc.pure _))))
  · refine Loc.bind (Loc.lift _) (fun _ => ?_)
    split
    · exact Loc.pure _
    · exact Loc.fail
  · refine Loc.bind (Loc.lift _) (fun _ => Loc.bind (Loc.lift _) (fun _ => Loc.bind (Loc.lift _) (fun _ => Loc.bind (Loc.lift _) (fun _ => Loc.bind (Loc.lift _) (fun _ => ?_)))))
    exact Loc.bind (Loc.need _) (fun _ => Loc.bind (Loc.need _) (fun _ => Loc.pure _))
  · refine Loc.bind (Loc.lift _) (fun _ => Loc.bind (Loc.lift _) (fun _ => Loc.bind (Loc.lift _) (fun _ => Loc.bind (Loc.lift _) (fun _ => ?_))))
    split
    · exact Loc.bind (Loc.lift _) (fun _ => Loc.pure _)
    · exact Loc.fail
  · refine Loc.bind (Loc.lift _) (fun _ => Loc.bind (Loc.lift _) (fun _ => ?_))
    split
    · refine Loc.bind (Loc.lift _) (fun _ => Loc.bind (Loc.lift _) (fun _ => Loc.bind (Loc.need _) (fun _ => ?_)))
      split
      · exact Loc.pure _
      · exact Loc.pure _
      · exact Loc.fail
    · exact Loc.fail
  · refine Loc.bind (Loc.lift _) (fun _ => Loc.bind (Loc.lift _) (fun _ => ?_))
    split
    · exact Loc.bind (Loc.lift _) (fun _ => Loc.bind (Loc.lift _) (fun _ => Loc.bind (Loc.lift _) (fun _ => Loc.bind (Loc.lift _) (fun _ => Loc.pure _))))
    · exact Loc.fail
  · refine Loc.bind (Loc.lift _) (fun _ => Loc.bind (Loc.lift _) (fun _ => Loc.bind (Loc.lift _) (fun _ => Loc.bind (Loc.lift _) (fun _ => ?_))))
    split
    · exact Loc.bind (Loc.lift _) (fun _ => Loc.bind (Loc.lift _) (fun _ => Loc.pure _))
    · exact Loc.bind (Loc.lift _) (fun _ => Loc.bind (Loc.lift _) (fun _ => Loc.pure _))
    · exact Loc.fail
  · refine Loc.bind (Loc.lift _) (fun _ => ?_)
    split
    · exact Loc.bind (Loc.lift _) (fun _ => Loc.pure _)
    · exact Loc.fail
  · refine Loc.bind (Loc.lift _) (fun _ => ?_)
    split
    · exact loc_builtinA _ _ _ _ _
    · refine Loc.bind (Loc.lift _) (fun _ => ?_)
      split
      · exact loc_callM _ _ _ _
      · exact Loc.fail
    · exact Loc.fail
  · exact Loc.fail

/-! operands alone are asked for -/
theorem evals_congr {ρ ρ' : Operand → Option AV} : ∀ (l : List Operand), (∀ x ∈ l, ρ x = ρ' x) → evals ρ l = evals ρ' l
  | [], _ => rfl
  | x :: l, h => by
    simp only [evals]
    rw [h x (by simp), evals_congr l (fun y hy => h y (by simp [hy]))]
theorem evalParts_congr {ρ ρ' : Operand → Option AV} : ∀ (l : List (Nat × Operand)), (∀ x ∈ l, ρ x.2 = ρ' x.2) → evalParts ρ l = evalParts ρ' l
  | [], _ => rfl
  | (i, x) :: l, h => by
    simp only [evalParts]
    rw [h (i, x) (by simp), evalParts_congr l (fun y hy => h y (by simp [hy]))]

theorem evalOp0_congr (E : Env) (base : Nat) {ρ ρ' : Operand → Option AV} (o : Op) (h : ∀ x ∈ o.operands, ρ x = ρ' x) : evalOp0 E base ρ o = evalOp0 E base ρ' o := by
  cases o with
  | build t parts =>
    simp only [evalOp0]
    rw [evalParts_congr parts.toList (fun x hx => h x.2 (by simp [Op.operands]; exact ⟨x.1, by simpa using hx⟩))]
  | buildSlice t n parts =>
    simp only [evalOp0]
    rw [evalParts_congr parts.toList (fun x hx => h x.2 (by simp [Op.operands]; exact ⟨x.1, by simpa using hx⟩))]
  | makeFunc fn f c =>
    simp only [evalOp0]
    rw [evals_congr c.toList (fun x hx => h x (by simp [Op.operands]; right; simpa using hx))]
  | slice t x lo hi mx =>
    simp only [evalOp0]
    rw [h x (by simp [Op.operands])]
    cases lo with
    | none => cases hi with
      | none => rfl
      | some b => simp only []; rw [h b (by simp [Op.operands])]
    | some a =>
      simp only []
      rw [h a (by simp [Op.operands])]
      cases hi with
      | none => rfl
      | some b => simp only []; rw [h b (by simp [Op.operands])]
  | call c =>
    simp only [evalOp0]
    rw [evals_congr c.args.toList (fun x hx => h x (by simp [Op.operands, Call.operands]; right; simpa using hx))]
    cases hc : c.callee with
    | value f =>
      simp only []
      rw [h f (by simp [Op.operands, Call.operands, hc])]
    | builtin b => rfl
    | invoke r m => rfl
  | pick a b c =>
    simp only [evalOp0]
    rw [h a (by simp [Op.operands]), h b (by simp [Op.operands]), h c (by simp [Op.operands])]
  | store t a b => simp only [evalOp0]; rw [h a (by simp [Op.operands]), h b (by simp [Op.operands])]
  | binOp op t a b t2 => simp only [evalOp0]; rw [h a (by simp [Op.operands]), h b (by simp [Op.operands])]
  | makeSlice t a b => simp only [evalOp0]; rw [h a (by simp [Op.operands]), h b (by simp [Op.operands])]
  | indexAddr t a b => simp only [evalOp0]; rw [h a (by simp [Op.operands]), h b (by simp [Op.operands])]
  | move x => simp only [evalOp0]; rw [h x (by simp [Op.operands])]
  | assign x => simp only [evalOp0]; rw [h x (by simp [Op.operands])]
  | box t x => simp only [evalOp0]; rw [h x (by simp [Op.operands])]
  | load t x => simp only [evalOp0]; rw [h x (by simp [Op.operands])]
  | nilCheck x => simp only [evalOp0]; rw [h x (by simp [Op.operands])]
  | unOp op t x => simp only [evalOp0]; rw [h x (by simp [Op.operands])]
  | convert s t x => simp only [evalOp0]; rw [h x (by simp [Op.operands])]
  | fieldAddr t x f => simp only [evalOp0]; rw [h x (by simp [Op.operands])]
  | field t x f => simp only [evalOp0]; rw [h x (by simp [Op.operands])]
  | extract x i => simp only [evalOp0]; rw [h x (by simp [Op.operands])]
  | _ => rfl

theorem evalOp0_same (E : Env) (base : Nat) {ρ ρ' : Operand → Option AV} (o : Op) {h h' : Lk} {r : AV × Heap} {l : List Nat} (he : evalOp0 E base ρ o h = some (r, l))
    (hρ : ∀ x ∈ o.operands, ρ x = ρ' x) (hl : ∀ id ∈ l, h id = h' id) : evalOp0 E base ρ' o h' = some (r, l) := by
  rw [← evalOp0_congr E base o hρ]
  exact loc_evalOp0 E base ρ o h h' r l he hl

/-! ### the further operations -/
theorem loc_rowsK (sz k : Nat) (a : AV) : Loc (rowsK sz k a) := by
  unfold rowsK
  split
  · exact Loc.bind (Loc.need _) (fun _ => Loc.pure _)
  · refine Loc.bind (Loc.need _) (fun _ => ?_)
    refine Loc.bind (Loc.look _) (fun x => ?_)
    refine Loc.bind (Loc.need _) (fun _ => ?_)
    split
    · exact Loc.bind (Loc.need _) (fun _ => Loc.pure _)
    · exact Loc.bind (Loc.need _) (fun _ => Loc.pure _)
    · exact Loc.fail
  · exact Loc.fail
theorem loc_overlapA (x y : AV) : Loc (overlapA x y) := by
  unfold overlapA
  split
  · refine Loc.bind (Loc.need _) (fun _ => ?_)
    refine Loc.bind (Loc.look _) (fun x => ?_)
    refine Loc.bind (Loc.need _) (fun _ => ?_)
    split
    · exact Loc.pure _
    · exact Loc.fail
  · exact Loc.fail
theorem loc_clearA (ei : TI) (x : AV) : Loc (clearA ei x) := by
  unfold clearA
  split
  · refine Loc.bind (Loc.need _) (fun _ => ?_)
    refine Loc.bind (Loc.look _) (fun x => ?_)
    refine Loc.bind (Loc.need _) (fun _ => ?_)
    split
    · exact Loc.bind (Loc.need _) (fun _ => Loc.pure _)
    · exact Loc.fail
  · exact Loc.fail
theorem loc_copyA (ei : TI) (x y : AV) : Loc (copyA ei x y) := by
  unfold copyA
  split
  · refine Loc.bind (Loc.lift _) (fun _ => ?_)
    refine Loc.bind (Loc.need _) (fun _ => ?_)
    refine Loc.bind (loc_rowsK _ _ _) (fun _ => ?_)
    refine Loc.bind (Loc.need _) (fun _ => ?_)
    refine Loc.bind (Loc.look _) (fun x => ?_)
    refine Loc.bind (Loc.need _) (fun _ => ?_)
    split
    · exact Loc.bind (Loc.need _) (fun _ => Loc.pure _)
    · exact Loc.fail
  · exact Loc.fail
theorem loc_appendZ (E : Env) (ei : TI) (base : Nat) (x y : AV) : Loc (appendZ E ei base x y) := by
  unfold appendZ
  split
  · refine Loc.bind (Loc.need _) (fun _ => ?_)
    refine Loc.bind (Loc.lift _) (fun _ => ?_)
    refine Loc.bind (Loc.look _) (fun x => ?_)
    refine Loc.bind (Loc.need _) (fun _ => ?_)
    split
    · exact Loc.bind (Loc.need _) (fun _ => Loc.pure _)
    · exact Loc.fail
  · exact Loc.fail
theorem loc_capR (id ver : Nat) : Loc (capR id ver) := by
  unfold capR
  refine Loc.bind (Loc.look _) (fun x => ?_)
  refine Loc.bind (Loc.need _) (fun _ => ?_)
  split
  · exact Loc.pure _
  · exact Loc.fail
theorem loc_capM (E : Env) (id ver : Nat) : Loc (capM E id ver) := by
  unfold capM
  cases E.cap0 id with
  | none => exact loc_capR _ _
  | some c =>
    by_cases hv : ver = 0
    · simp only [hv, if_true]; exact Loc.pure _
    · simp only [hv, if_false]; exact loc_capR _ _
theorem loc_sliceBig (E : Env) (size : Nat) (x : AV) (lo hi : Option Int) : Loc (sliceBig E size x lo hi) := by
  unfold sliceBig
  split
  · refine Loc.bind (Loc.need _) (fun _ => ?_)
    refine Loc.bind (Loc.need _) (fun _ => ?_)
    refine Loc.bind (loc_capM _ _ _) (fun _ => ?_)
    exact Loc.bind (Loc.need _) (fun _ => Loc.pure _)
  · exact Loc.fail
theorem loc_capX (E : Env) (x : AV) : Loc (capX E x) := by
  unfold capX
  split
  · exact Loc.bind (Loc.lift _) (fun _ => Loc.bind (Loc.need _) (fun _ => Loc.pure _))
  · exact Loc.fail
theorem loc_builtinX (E : Env) (base : Nat) (b : Builtin) (tys : List Nat) (args : List AV) : Loc (builtinX E base b tys args) := by
  unfold builtinX
  split
  · exact Loc.bind (Loc.lift _) (fun _ => Loc.bind (Loc.need _) (fun _ => loc_capX _ _))
  · exact Loc.bind (Loc.lift _) (fun _ => Loc.bind (Loc.need _) (fun _ => loc_copyA _ _ _))
  · exact Loc.bind (Loc.lift _) (fun _ => Loc.bind (Loc.need _) (fun _ => loc_clearA _ _))
  · refine Loc.bind (Loc.lift _) (fun x => ?_)
    obtain ⟨_, ei⟩ := x
    simp only
    split
    · exact Loc.bind (Loc.need _) (fun _ => Loc.pure _)
    · refine Loc.bind (Loc.need _) (fun _ => Loc.bind (Loc.lift _) (fun _ => ?_))
      split
      · exact loc_appendZ _ _ _ _ _
      · exact Loc.fail
  · exact Loc.fail
theorem loc_overX (E : Env) (f : Operand) (args : List AV) : Loc (overX E f args) := by
  unfold overX
  split
  · split
    · exact Loc.bind (Loc.need _) (fun _ => loc_overlapA _ _)
    · exact Loc.fail
  · exact Loc.fail
theorem loc_evalX (E : Env) (base : Nat) (ρ : Operand → Option AV) (o : Op) : Loc (evalX E base ρ o) := by
  cases o with
  | slice t x lo hi mx =>
    cases mx with
    | some mx =>
      simp only [evalX]
      refine Loc.bind (Loc.lift _) (fun _ => Loc.bind (Loc.lift _) (fun _ => Loc.bind (Loc.lift _) (fun l => Loc.bind (Loc.lift _) (fun h => Loc.bind (Loc.lift _) (fun m => Loc.bind (Loc.lift _) (fun n => ?_))))))
      cases l <;> cases h <;> cases m <;> first | exact Loc.fail | exact Loc.bind (Loc.need _) (fun _ => Loc.pure _)
    | none =>
      simp only [evalX]
      refine Loc.bind (Loc.lift _) (fun x => Loc.bind (Loc.lift _) (fun v => Loc.bind (Loc.lift _) (fun l => Loc.bind (Loc.lift _) (fun h => ?_))))
      cases sliceA x.2.size v l h with
      | some r => exact Loc.pure _
      | none => exact loc_sliceBig _ _ _ _ _
  | binOp op t a b t2 =>
    simp only [evalX]
    exact Loc.bind (Loc.lift _) (fun _ => Loc.bind (Loc.lift _) (fun _ => Loc.bind (Loc.lift _) (fun _ => Loc.bind (Loc.lift _) (fun _ => Loc.pure _))))
  | call c =>
    simp only [evalX]
    refine Loc.bind (Loc.lift _) (fun _ => ?_)
    cases c.callee with
    | builtin b => exact loc_builtinX _ _ _ _ _
    | value f => exact loc_overX _ _ _
    | invoke r m => exact Loc.fail
  | _ => exact Loc.fail
theorem loc_evalOp (E : Env) (base : Nat) (ρ : Operand → Option AV) (o : Op) : Loc (evalOp E base ρ o) := by
  unfold evalOp
  cases isX E ρ o with
  | true => exact loc_evalX _ _ _ _
  | false => exact loc_evalOp0 _ _ _ _

theorem intAt_congr {ρ ρ' : Operand → Option AV} (q : Option Operand) (h : ∀ x ∈ q.toArray, ρ x = ρ' x) : intAt ρ q = intAt ρ' q := by
  cases q with
  | none => rfl
  | some y => simp only [intAt]; rw [h y (by simp)]
theorem isX_congr (E : Env) {ρ ρ' : Operand → Option AV} (o : Op) (h : ∀ x ∈ o.operands, ρ x = ρ' x) : isX E ρ o = isX E ρ' o := by
  cases o with
  | slice t x lo hi mx =>
    cases mx with
    | some mx => rfl
    | none => simp only [isX]; rw [h x (by simp [Op.operands])]
  | binOp op t a b t2 => simp only [isX]; rw [h b (by simp [Op.operands])]
  | call c =>
    have hm : c.args.toList.map ρ = c.args.toList.map ρ' := List.map_congr_left (fun x hx => h x (by simp [Op.operands, Call.operands]; right; simpa using hx))
    simp only [isX]
    rw [hm]
  | _ => rfl
theorem evalX_congr (E : Env) (base : Nat) {ρ ρ' : Operand → Option AV} (o : Op) (h : ∀ x ∈ o.operands, ρ x = ρ' x) : evalX E base ρ o = evalX E base ρ' o := by
  cases o with
  | slice t x lo hi mx =>
    have h1 := intAt_congr (ρ := ρ) (ρ' := ρ') lo (fun y hy => h y (by simp [Op.operands]; simp at hy; simp [hy]))
    have h2 := intAt_congr (ρ := ρ) (ρ' := ρ') hi (fun y hy => h y (by simp [Op.operands]; simp at hy; simp [hy]))
    cases mx with
    | some mx =>
      have h3 := intAt_congr (ρ := ρ) (ρ' := ρ') (some mx) (fun y hy => h y (by simp [Op.operands]; simp at hy; simp [hy]))
      simp only [evalX]
      rw [h x (by simp [Op.operands]), h1, h2, h3]
    | none =>
      simp only [evalX]
      rw [h x (by simp [Op.operands]), h1, h2]
  | binOp op t a b t2 => simp only [evalX]; rw [h a (by simp [Op.operands]), h b (by simp [Op.operands])]
  | call c =>
    simp only [evalX]
    rw [evals_congr c.args.toList (fun x hx => h x (by simp [Op.operands, Call.operands]; right; simpa using hx))]
  | _ => rfl
theorem evalOp_congr (E : Env) (base : Nat) {ρ ρ' : Operand → Option AV} (o : Op) (h : ∀ x ∈ o.operands, ρ x = ρ' x) : evalOp E base ρ o = evalOp E base ρ' o := by
  unfold evalOp
  rw [isX_congr E o h, evalX_congr E base o h, evalOp0_congr E base o h]
theorem evalOp_same (E : Env) (base : Nat) {ρ ρ' : Operand → Option AV} (o : Op) {h h' : Lk} {r : AV × Heap} {l : List Nat} (he : evalOp E base ρ o h = some (r, l))
    (hρ : ∀ x ∈ o.operands, ρ x = ρ' x) (hl : ∀ id ∈ l, h id = h' id) : evalOp E base ρ' o h' = some (r, l) := by
  rw [← evalOp_congr E base o hρ]
  exact loc_evalOp E base ρ o h h' r l he hl

end Go.Ax
end
section
namespace Go.Ax
set_option linter.unusedSimpArgs false
set_option linter.unusedVariables false

/-! ### a region whose order is drawn -/

/-- what an operation came to in the order of the text; none: it was skipped. -/
abbrev UU := Option (AV × Heap × List Nat)

def wfind : Heap → Nat → Option (Nat × AObj)
  | [], _ => none
  | (i, v, o) :: r, id => match wfind r id with
    | some x => some x
    | none => if i = id then some (v, o) else none

theorem hget_hputs : ∀ (wr hp : Heap) (id : Nat), hget (hputs wr hp) id = match wfind wr id with | some x => some x | none => hget hp id
  | [], hp, id => rfl
  | (i, v, o) :: r, hp, id => by
    simp only [hputs, wfind]
    rw [hget_hputs r _ id]
    cases h : wfind r id with
    | some x => rfl
    | none =>
      simp only [hget_hset]
      by_cases e : i = id
      · subst e; simp
      · rw [if_neg e, if_neg (fun h => e h.symm)]

theorem wfind_none : ∀ {wr : Heap} {id : Nat}, id ∉ wr.map (·.1) → wfind wr id = none
  | [], id, h => rfl
  | (i, v, o) :: r, id, h => by
    simp at h
    simp only [wfind]
    rw [wfind_none (wr := r) (by simpa using h.2), if_neg (fun e => h.1 e.symm)]

def uval : UU → AV
  | none => .top
  | some (v, _, _) => v
def uwr : UU → Heap
  | none => []
  | some (_, wr, _) => wr
def utouch : UU → List Nat
  | none => []
  | some (_, _, l) => l

def tvD (ds : Nat → Option Tmp) (us : Nat → UU) (D : Nat → Bool) (tm0 : Tm) : Nat → Nat → Option AV
  | 0, t => tget tm0 t
  | n + 1, t => if D n = true ∧ ds n = some t then some (uval (us n)) else tvD ds us D tm0 n t
def hvD (us : Nat → UU) (D : Nat → Bool) (hp0 : Heap) : Nat → Nat → Option (Nat × AObj)
  | 0, id => hget hp0 id
  | n + 1, id => match (if D n = true then wfind (uwr (us n)) id else none) with
    | some x => some x
    | none => hvD us D hp0 n id

section sets
variable {ds : Nat → Option Tmp} {us : Nat → UU} {tm0 : Tm} {hp0 : Heap}

theorem tvD_agree {D1 D2 : Nat → Bool} {t : Nat} : ∀ n, (∀ i, i < n → D1 i ≠ D2 i → ds i ≠ some t) → tvD ds us D1 tm0 n t = tvD ds us D2 tm0 n t
  | 0, _ => rfl
  | n + 1, h => by
    simp only [tvD]
    rw [tvD_agree n (fun i hi => h i (by omega))]
    by_cases e : D1 n = D2 n
    · rw [e]
    · have := h n (by omega) e
      rw [if_neg (fun x => this x.2), if_neg (fun x => this x.2)]
theorem hvD_agree {D1 D2 : Nat → Bool} {id : Nat} : ∀ n, (∀ i, i < n → D1 i ≠ D2 i → wfind (uwr (us i)) id = none) → hvD us D1 hp0 n id = hvD us D2 hp0 n id
  | 0, _ => rfl
  | n + 1, h => by
    simp only [hvD]
    rw [hvD_agree n (fun i hi => h i (by omega))]
    by_cases e : D1 n = D2 n
    · rw [e]
    · have := h n (by omega) e
      rw [this]; simp
theorem tvD_below {t j : Nat} : ∀ n, j ≤ n → tvD ds us (fun i => decide (i < j)) tm0 n t = tvD ds us (fun _ => true) tm0 j t
  | 0, h => by
    have : j = 0 := by omega
    subst this; rfl
  | n + 1, h => by
    by_cases e : j = n + 1
    · subst e
      simp only [tvD]
      rw [tvD_agree n (D2 := fun _ => true) (fun i hi hne => by simp at hne; omega)]
      simp
    · simp only [tvD]
      rw [if_neg (by simp; omega)]
      exact tvD_below n (by omega)
theorem hvD_below {id j : Nat} : ∀ n, j ≤ n → hvD us (fun i => decide (i < j)) hp0 n id = hvD us (fun _ => true) hp0 j id
  | 0, h => by
    have : j = 0 := by omega
    subst this; rfl
  | n + 1, h => by
    by_cases e : j = n + 1
    · subst e
      simp only [hvD]
      rw [hvD_agree n (D2 := fun _ => true) (fun i hi hne => by simp at hne; omega)]
      simp
    · simp only [hvD]
      rw [if_neg (by simp; omega)]
      exact hvD_below n (by omega)
theorem tvD_last {D : Nat → Bool} {t j : Nat} : ∀ n, j < n → D j = true → ds j = some t → (∀ i, j < i → i < n → D i = true → ds i ≠ some t) → tvD ds us D tm0 n t = some (uval (us j))
  | 0, h, _, _, _ => by omega
  | n + 1, h, h1, h2, h3 => by
    simp only [tvD]
    by_cases e : j = n
    · subst e; rw [if_pos ⟨h1, h2⟩]
    · rw [if_neg (fun x => h3 n (by omega) (by omega) x.1 x.2)]
      exact tvD_last n (by omega) h1 h2 (fun i hi hin => h3 i hi (by omega))
theorem hvD_last {D : Nat → Bool} {id j : Nat} {x : Nat × AObj} : ∀ n, j < n → D j = true → wfind (uwr (us j)) id = some x → (∀ i, j < i → i < n → D i = true → wfind (uwr (us i)) id = none) → hvD us D hp0 n id = some x
  | 0, h, _, _, _ => by omega
  | n + 1, h, h1, h2, h3 => by
    simp only [hvD]
    by_cases e : j = n
    · subst e; rw [if_pos h1, h2]
    · have : (if D n = true then wfind (uwr (us n)) id else none) = none := by
        by_cases hd : D n = true
        · rw [if_pos hd]; exact h3 n (by omega) (by omega) hd
        · rw [if_neg hd]
      rw [this]
      exact hvD_last n (by omega) h1 h2 (fun i hi hin => h3 i hi (by omega))
end sets

/-! the check -/
def predsOf (o : Oper) : List Nat := (o.after.toList.filter (Region.binds .any ·)).map (·.on)
/-- of each operation all that must be ahead of it -/
def befs : List Oper → List (List Nat) → List (List Nat)
  | [], acc => acc
  | o :: r, acc => befs r (acc ++ [(predsOf o).flatMap fun i => i :: acc.getD i []])
def looks (ops : List Oper) (o : Oper) : List Tmp :=
  (o.op.operands.toList.filterMap fun | .tmp t => some t | _ => none) ++
  (match o.guard with
   | some (g, _) => match ops[g]? with | some o' => o'.dst.toList | none => []
   | none => [])
def apartT (ops : List Oper) (x y : Oper) : Bool :=
  match x.dst with
  | none => true
  | some d => !(looks ops y).contains d && y.dst != some d
def apartL (x y : LogE) : Bool := x.writes.all fun i => !y.reads.contains i && !y.writes.contains i

def okTmps (ops : List Oper) (bs : List (List Nat)) : Bool :=
  (List.range ops.length).all fun j => (List.range ops.length).all fun i =>
    i == j || (bs.getD j []).contains i || (bs.getD i []).contains j ||
      (match ops[i]?, ops[j]? with | some x, some y => apartT ops x y | _, _ => true)
def okLog (bs : List (List Nat)) (log : List LogE) : Bool :=
  log.all fun e => log.all fun f => e.i == f.i || (bs.getD f.i []).contains e.i || (bs.getD e.i []).contains f.i || apartL e f
def okBack (ops : List Oper) : Bool := (List.range ops.length).all fun j => match ops[j]? with | some o => (predsOf o).all (· < j) | none => true

def okD (ops : List Oper) (log : List LogE) : Bool := okBack ops && (okTmps ops (befs ops []) && okLog (befs ops []) log)

theorem befs_get : ∀ (r : List Oper) (acc : List (List Nat)) (j : Nat), j < acc.length → (befs r acc)[j]? = acc[j]?
  | [], acc, j, h => rfl
  | o :: r, acc, j, h => by
    simp only [befs]
    rw [befs_get r _ j (by simp; omega), List.getElem?_append_left h]
theorem befs_at : ∀ (r : List Oper) (acc : List (List Nat)) (j : Nat) (o : Oper), r[j]? = some o →
    ∃ acc' : List (List Nat), acc'.length = acc.length + j ∧ (∀ i, i < acc'.length → (befs r acc)[i]? = acc'[i]?) ∧ (befs r acc)[acc.length + j]? = some ((predsOf o).flatMap fun i => i :: acc'.getD i [])
  | [], acc, j, o, h => by simp at h
  | p :: r, acc, 0, o, h => by
    simp at h
    subst h
    refine ⟨acc, by simp, fun i hi => ?_, ?_⟩
    · simp only [befs]
      rw [befs_get r _ i (by simp; omega), List.getElem?_append_left hi]
    · simp only [befs]
      rw [befs_get r _ _ (by simp)]
      simp
  | p :: r, acc, j + 1, o, h => by
    simp only [befs]
    obtain ⟨acc', h1, h2, h3⟩ := befs_at r (acc ++ [(predsOf p).flatMap fun i => i :: acc.getD i []]) j o (by simpa using h)
    refine ⟨acc', by rw [h1]; simp; omega, h2, ?_⟩
    rw [← h3]; congr 1; simp; omega

/-- who is ahead of one whose direct ones are all listed, is listed. -/
theorem befs_closed {ops : List Oper} {D : Nat → Prop} (hc : ∀ (i : Nat) o, D i → ops[i]? = some o → ∀ k ∈ predsOf o, D k) :
    ∀ (j : Nat) o, ops[j]? = some o → (∀ k ∈ predsOf o, D k) → ∀ i ∈ (befs ops []).getD j [], D i := by
  intro j
  induction j using Nat.strongRecOn with
  | _ j ih =>
    intro o ho hp i hi
    obtain ⟨acc', h1, h2, h3⟩ := befs_at ops [] j o ho
    simp only [List.length_nil, Nat.zero_add] at h1 h3
    rw [List.getD_eq_getElem?_getD, h3] at hi
    simp only [Option.getD_some, List.mem_flatMap] at hi
    obtain ⟨k, hk, hik⟩ := hi
    rcases List.mem_cons.1 hik with rfl | hik
    · exact hp i hk
    · by_cases hkl : k < acc'.length
      · have hko : k < ops.length := by
          have := (List.getElem?_eq_some_iff.1 ho).1; omega
        have hkk := List.getElem?_eq_getElem hko
        refine ih k (by omega) _ hkk (hc k _ (hp k hk) hkk) i ?_
        rw [List.getD_eq_getElem?_getD, h2 k hkl, ← List.getD_eq_getElem?_getD]
        exact hik
      · rw [List.getD_eq_getElem?_getD, List.getElem?_eq_none (by omega)] at hik
        simp at hik

end Go.Ax
end
section
namespace Go.Ax
set_option linter.unusedSimpArgs false
set_option linter.unusedVariables false

section
variable {P : Program} {E : Env} {en : Ent}

def guardOk (all : List Oper) (tm : Tm) (o : Oper) : Prop := o.guard = none ∨ ∃ g want, o.guard = some (g, want) ∧ guardOf all tm g = some want
def guardNo (all : List Oper) (tm : Tm) (o : Oper) : Prop := ∃ g want b, o.guard = some (g, want) ∧ guardOf all tm g = some b ∧ b ≠ want

def logE (j : Nat) (wr : Heap) (l : List Nat) : LogE := ⟨j, l, wr.map (·.1)⟩
def putT (dst : Option Tmp) (v : AV) (tm : Tm) : Tm := match dst with | none => tm | some t => tset t v tm

theorem putD_putT {N : Nat} {dst : Option Tmp} {v : AV} {tm tm' : Tm} (h : putD N dst v tm = some tm') : tm' = putT dst v tm ∧ ∀ d, dst = some d → d < N := by
  unfold putD at h
  cases dst with
  | none => simp at h; exact ⟨h.symm, by simp⟩
  | some t =>
    simp only at h
    cases hd : decide (t < N) with
    | false => rw [hd] at h; simp at h
    | true =>
      rw [hd] at h
      simp at h hd
      exact ⟨h.symm, fun d e => by cases e; exact hd⟩
theorem putT_putD {N : Nat} {dst : Option Tmp} (v : AV) (tm : Tm) (h : ∀ d, dst = some d → d < N) : putD N dst v tm = some (putT dst v tm) := by
  cases dst with
  | none => rfl
  | some t => simp [putD, putT, h t rfl]
theorem tget_putT (dst : Option Tmp) (v : AV) (tm : Tm) (t : Nat) : tget (putT dst v tm) t = if dst = some t then some v else tget tm t := by
  cases dst with
  | none => simp [putT]
  | some d =>
    simp only [putT, Option.some.injEq]
    by_cases e : d = t
    · subst e; rw [tget_tset_same]; simp
    · rw [tget_tset_ne _ _ _ _ (fun h => e h.symm), if_neg e]

inductive Tr (E : Env) (nxt : Nat) (all : List Oper) : Nat → List Oper → Tm → Heap → List LogE → List UU → Tm → Heap → List LogE → Prop
  | nil {i tm hp log} : Tr E nxt all i [] tm hp log [] tm hp log
  | exec {i o r tm hp log v wr l us tmN hpN logN} (hg : guardOk all tm o) (he : evalOp E (nxt + 32 * i) (evalO tm) o.op (hget hp) = some ((v, wr), l)) (hd : ∀ d, o.dst = some d → d < E.N)
      (h : Tr E nxt all (i + 1) r (putT o.dst v tm) (hputs wr hp) (logE i wr l :: log) us tmN hpN logN) : Tr E nxt all i (o :: r) tm hp log (some (v, wr, l) :: us) tmN hpN logN
  | skip {i o r tm hp log us tmN hpN logN} (hg : guardNo all tm o) (hd : ∀ d, o.dst = some d → d < E.N)
      (h : Tr E nxt all (i + 1) r (putT o.dst .top tm) hp log us tmN hpN logN) : Tr E nxt all i (o :: r) tm hp log (none :: us) tmN hpN logN

theorem step1_inv {nxt i : Nat} {o : Oper} {tm tm' : Tm} {hp hp' : Heap} {e : LogE} (he : step1 E nxt i o tm hp = some (tm', hp', e)) :
    ∃ v wr l, evalOp E (nxt + 32 * i) (evalO tm) o.op (hget hp) = some ((v, wr), l) ∧ (∀ d, o.dst = some d → d < E.N) ∧ tm' = putT o.dst v tm ∧ hp' = hputs wr hp ∧ e = logE i wr l := by
  unfold step1 at he
  split at he
  · simp at he
  · rename_i v wr l hev
    split at he
    · simp at he
    · rename_i tm1 hput
      simp at he
      obtain ⟨rfl, rfl, rfl⟩ := he
      obtain ⟨h1, h2⟩ := putD_putT hput
      exact ⟨v, wr, l, hev, h2, h1, rfl, rfl⟩

theorem ops1_tr {nxt : Nat} {all : List Oper} {K : Tm → Heap → List LogE → Prop} : ∀ (r : List Oper) (i : Nat) (tm : Tm) (hp : Heap) (log : List LogE), ops1 E nxt all i r tm hp log K →
    ∃ us tmN hpN logN, Tr E nxt all i r tm hp log us tmN hpN logN ∧ K tmN hpN logN
  | [], i, tm, hp, log, h => ⟨[], tm, hp, log, .nil, h⟩
  | o :: r, i, tm, hp, log, h => by
    simp only [ops1] at h
    cases hg : o.guard with
    | none =>
      rw [hg] at h
      simp only at h
      cases hs : step1 E nxt i o tm hp with
      | none => rw [hs] at h; exact h.elim
      | some x =>
        obtain ⟨tm', hp', e⟩ := x
        rw [hs] at h
        obtain ⟨v, wr, l, e1, e2, rfl, rfl, rfl⟩ := step1_inv hs
        obtain ⟨us, tmN, hpN, logN, h1, h2⟩ := ops1_tr r (i + 1) _ _ _ h
        exact ⟨_, tmN, hpN, logN, .exec (.inl hg) e1 e2 h1, h2⟩
    | some x =>
      obtain ⟨j, want⟩ := x
      rw [hg] at h
      simp only at h
      cases hgo : guardOf all tm j with
      | none => rw [hgo] at h; exact h.elim
      | some b =>
        rw [hgo] at h
        simp only at h
        by_cases hb : b = want
        · rw [if_pos hb] at h
          cases hs : step1 E nxt i o tm hp with
          | none => rw [hs] at h; exact h.elim
          | some x =>
            obtain ⟨tm', hp', e⟩ := x
            rw [hs] at h
            obtain ⟨v, wr, l, e1, e2, rfl, rfl, rfl⟩ := step1_inv hs
            obtain ⟨us, tmN, hpN, logN, h1, h2⟩ := ops1_tr r (i + 1) _ _ _ h
            exact ⟨_, tmN, hpN, logN, .exec (.inr ⟨j, want, hg, by rw [hgo, hb]⟩) e1 e2 h1, h2⟩
        · rw [if_neg hb] at h
          cases hp' : putD E.N o.dst .top tm with
          | none => rw [hp'] at h; exact h.elim
          | some tm' =>
            rw [hp'] at h
            obtain ⟨rfl, e2⟩ := putD_putT hp'
            obtain ⟨us, tmN, hpN, logN, h1, h2⟩ := ops1_tr r (i + 1) _ _ _ h
            exact ⟨_, tmN, hpN, logN, .skip ⟨j, want, b, hg, hgo, hb⟩ e2 h1, h2⟩

def dsOf (all : List Oper) (j : Nat) : Option Tmp := (all[j]?).bind (·.dst)
def usOf (us : List UU) (j : Nat) : UU := (us[j]?).getD none

structure Fact (E : Env) (nxt : Nat) (all : List Oper) (us : List UU) (tm0 : Tm) (hp0 : Heap) (logN : List LogE) (j : Nat) : Prop where
  ex : ∃ tmj hpj o, all[j]? = some o ∧ (∀ t, tget tmj t = tvD (dsOf all) (usOf us) (fun _ => true) tm0 j t) ∧ (∀ id, hget hpj id = hvD (usOf us) (fun _ => true) hp0 j id) ∧
    (∀ d, o.dst = some d → d < E.N) ∧
    ((∃ v wr l, usOf us j = some (v, wr, l) ∧ evalOp E (nxt + 32 * j) (evalO tmj) o.op (hget hpj) = some ((v, wr), l) ∧ guardOk all tmj o ∧ logE j wr l ∈ logN) ∨
     (usOf us j = none ∧ guardNo all tmj o))

theorem Tr.log {nxt : Nat} {all : List Oper} {i r tm hp log us tmN hpN logN} (h : Tr E nxt all i r tm hp log us tmN hpN logN) : ∀ e ∈ log, e ∈ logN := by
  induction h with
  | nil => exact fun e he => he
  | exec _ _ _ _ ih => exact fun e he => ih e (by simp [he])
  | skip _ _ _ ih => exact ih

theorem Tr.facts {nxt : Nat} {all : List Oper} {full : List UU} {tm0 : Tm} {hp0 : Heap} {i r tm hp log us tmN hpN logN} (h : Tr E nxt all i r tm hp log us tmN hpN logN) :
    (∀ j : Nat, r[j]? = all[i + j]?) → (∀ j : Nat, us[j]? = full[i + j]?) → (∀ t, tget tm t = tvD (dsOf all) (usOf full) (fun _ => true) tm0 i t) → (∀ id, hget hp id = hvD (usOf full) (fun _ => true) hp0 i id) →
    (∀ j, i ≤ j → j < i + r.length → Fact E nxt all full tm0 hp0 logN j) ∧ (∀ t, tget tmN t = tvD (dsOf all) (usOf full) (fun _ => true) tm0 (i + r.length) t) ∧ (∀ id, hget hpN id = hvD (usOf full) (fun _ => true) hp0 (i + r.length) id) := by
  induction h with
  | nil => intro _ _ h1 h2; exact ⟨fun j a b => by simp at b; omega, by simpa using h1, by simpa using h2⟩
  | @exec i o r tm hp log v wr l us tmN hpN logN hg he hd h ih =>
    intro hr hu h1 h2
    have ho : all[i]? = some o := by have := hr 0; simpa using this.symm
    have hui : usOf full i = some (v, wr, l) := by
      have := hu 0; simp at this; simp [usOf, ← this]
    obtain ⟨g1, g2, g3⟩ := ih (fun j => by rw [show i + 1 + j = i + (j + 1) by omega, ← hr (j + 1)]; simp) (fun j => by rw [show i + 1 + j = i + (j + 1) by omega, ← hu (j + 1)]; simp)
      (fun t => by
        rw [tget_putT]
        simp only [tvD, dsOf, ho, Option.bind_some, hui, uval]
        by_cases e : o.dst = some t
        · rw [if_pos e, if_pos (by simp [e])]
        · rw [if_neg e, if_neg (by simp [e])]; exact h1 t)
      (fun id => by
        rw [hget_hputs]
        simp only [hvD, hui, uwr, if_true]
        rw [h2 id])
    refine ⟨fun j a b => ?_, by rw [show i + (o :: r).length = i + 1 + r.length by simp; omega]; exact g2, by rw [show i + (o :: r).length = i + 1 + r.length by simp; omega]; exact g3⟩
    by_cases e : j = i
    · subst e
      exact ⟨tm, hp, o, ho, h1, h2, hd, .inl ⟨v, wr, l, hui, he, hg, h.log _ (by simp)⟩⟩
    · exact g1 j (by omega) (by simp at b; omega)
  | @skip i o r tm hp log us tmN hpN logN hg hd h ih =>
    intro hr hu h1 h2
    have ho : all[i]? = some o := by have := hr 0; simpa using this.symm
    have hui : usOf full i = none := by
      have := hu 0; simp at this; simp [usOf, ← this]
    obtain ⟨g1, g2, g3⟩ := ih (fun j => by rw [show i + 1 + j = i + (j + 1) by omega, ← hr (j + 1)]; simp) (fun j => by rw [show i + 1 + j = i + (j + 1) by omega, ← hu (j + 1)]; simp)
      (fun t => by
        rw [tget_putT]
        simp only [tvD, dsOf, ho, Option.bind_some, hui, uval]
        by_cases e : o.dst = some t
        · rw [if_pos e, if_pos (by simp [e])]
        · rw [if_neg e, if_neg (by simp [e])]; exact h1 t)
      (fun id => by
        simp only [hvD, hui, uwr, if_true, wfind]
        exact h2 id)
    refine ⟨fun j a b => ?_, by rw [show i + (o :: r).length = i + 1 + r.length by simp; omega]; exact g2, by rw [show i + (o :: r).length = i + 1 + r.length by simp; omega]; exact g3⟩
    by_cases e : j = i
    · subst e
      exact ⟨tm, hp, o, ho, h1, h2, hd, .inr ⟨hui, hg⟩⟩
    · exact g1 j (by omega) (by simp at b; omega)

theorem InvR.ext {N Fr β S tm hp tm' hp'} {a : Act} {w : World} (h : InvR en N Fr β S tm hp a w) (h1 : ∀ t, tget tm' t = tget tm t) (h2 : ∀ id, hget hp' id = hget hp id) : InvR en N Fr β S tm' hp' a w := by
  refine ⟨fun t v ht => h.tm t v (by rw [← h1]; exact ht), ⟨⟨?_, ?_, ?_, ?_, ?_, h.hv.hr.low⟩, ⟨h.hv.fr.blocks, h.hv.fr.size, h.hv.fr.sub, h.hv.fr.fresh, ?_, h.hv.fr.out, h.hv.fr.beta0⟩⟩, h.size, h.defers⟩
  · intro id ver o hi; rw [h2] at hi; exact h.hv.hr.obj id ver o hi
  · intro id hi; rw [h2]; exact h.hv.hr.new id hi
  · intro id ver o hi; rw [h2] at hi; exact h.hv.hr.ver id ver o hi
  · intro id ver o p hi; rw [h2] at hi; exact h.hv.hr.own id ver o p hi
  · intro id ver o p id' ver' o' p' hi; rw [h2] at hi; intro a b c hi'; rw [h2] at hi'; exact h.hv.hr.inj id ver o p id' ver' o' p' hi a b c hi'
  · intro id ver o p hi; rw [h2] at hi; exact h.hv.fr.ownf id ver o p hi

/-- the ids that are free while some are done -/
def FrD (nxt : Nat) (D : Nat → Bool) : Nat → Prop := fun id => nxt ≤ id ∧ ∀ i, D i = true → ¬ (nxt + 32 * i ≤ id ∧ id < nxt + 32 * i + 32)

def InvX (en : Ent) (E : Env) (nxt : Nat) (all : List Oper) (us : List UU) (tm0 : Tm) (hp0 : Heap) (D : Nat → Bool) (β : Beta) (S : CellSet) (a : Act) (w : World) : Prop :=
  ∃ tm hp, (∀ t, tget tm t = tvD (dsOf all) (usOf us) D tm0 all.length t) ∧ (∀ id, hget hp id = hvD (usOf us) D hp0 all.length id) ∧ InvR en E.N (FrD nxt D) β S tm hp a w

theorem guardOf_same {all : List Oper} {tm tm' : Tm} {g : Nat} (h : ∀ o t, all[g]? = some o → o.dst = some t → tget tm t = tget tm' t) : guardOf all tm g = guardOf all tm' g := by
  unfold guardOf
  cases hg : all[g]? with
  | none => rfl
  | some o =>
    cases hd : o.dst with
    | none => obtain ⟨d, _, _, _, _, _⟩ := o; simp at hd; subst hd; rfl
    | some t =>
      have := h o t hg hd
      obtain ⟨d, _, _, _, _, _⟩ := o
      simp at hd; subst hd
      simp only [this]

theorem evalO_same {tm tm' : Tm} {x : Operand} (h : ∀ t, x = .tmp t → tget tm t = tget tm' t) : evalO tm x = evalO tm' x := by
  cases x with
  | tmp t => exact h t rfl
  | _ => rfl

theorem draw_sound (hE : EOk P E en) {nxt : Nat} {all : Array Oper} {us : List UU} {tm0 tmN : Tm} {hp0 hpN : Heap} {logN : List LogE} {Q : Exit → Act → World → Prop}
    (hf : ∀ j, j < all.size → Fact E nxt all.toList us tm0 hp0 logN j) (hN1 : ∀ t, tget tmN t = tvD (dsOf all.toList) (usOf us) (fun _ => true) tm0 all.size t) (hN2 : ∀ id, hget hpN id = hvD (usOf us) (fun _ => true) hp0 all.size id)
    (hok : okD all.toList logN = true) (hK : ∀ β S a w, InvR en E.N (fun id => nxt + 32 * all.size ≤ id) β S tmN hpN a w → Q .normal a w) :
    ∀ (fuel : Nat) (listed : Array Bool) (β : Beta) (S : CellSet) (a : Act) (w : World), listed.size = all.size → (listed.toList.filter (! ·)).length ≤ fuel →
      (∀ (i : Nat) o, listed.getD i false = true → all.toList[i]? = some o → ∀ k ∈ predsOf o, listed.getD k false = true) →
      InvX en E nxt all.toList us tm0 hp0 (fun i => listed.getD i false) β S a w → wpAny P .any all Q fuel listed a w := by
  simp only [okD, Bool.and_eq_true] at hok
  obtain ⟨hokB, hokT, hokL⟩ := hok
  -- what the check says
  have hback : ∀ (j : Nat) o, all.toList[j]? = some o → ∀ k ∈ predsOf o, k < j := by
    intro j o ho k hk
    have hj : j < all.toList.length := (List.getElem?_eq_some_iff.1 ho).1
    have := List.all_eq_true.1 hokB j (List.mem_range.2 hj)
    rw [ho] at this
    simpa using List.all_eq_true.1 this k hk
  have hT : ∀ (i j : Nat) x y, all.toList[i]? = some x → all.toList[j]? = some y → i ≠ j → i ∉ (befs all.toList []).getD j [] → j ∉ (befs all.toList []).getD i [] → apartT all.toList x y = true := by
    intro i j x y hx hy hne h1 h2
    have hi : i < all.toList.length := (List.getElem?_eq_some_iff.1 hx).1
    have hj : j < all.toList.length := (List.getElem?_eq_some_iff.1 hy).1
    have := List.all_eq_true.1 (List.all_eq_true.1 hokT j (List.mem_range.2 hj)) i (List.mem_range.2 hi)
    rw [hx, hy] at this
    simp only [List.getD_eq_getElem?_getD] at h1 h2
    simpa [hne, h1, h2] using this
  have hL : ∀ e f, e ∈ logN → f ∈ logN → e.i ≠ f.i → e.i ∉ (befs all.toList []).getD f.i [] → f.i ∉ (befs all.toList []).getD e.i [] → apartL e f = true := by
    intro e f he hf' hne h1 h2
    have := List.all_eq_true.1 (List.all_eq_true.1 hokL e he) f hf'
    simp only [List.getD_eq_getElem?_getD] at h1 h2
    simpa [hne, h1, h2] using this
  -- when nothing is ready all is done
  have hdone : ∀ (listed : Array Bool), listed.size = all.size → Region.ready .any all listed = [] → ∀ i, i < all.size → listed.getD i false = true := by
    intro listed hs hr i
    induction i using Nat.strongRecOn with
    | _ i ih =>
      intro hi
      by_cases hc : listed.getD i false = true
      · exact hc
      · exfalso
        have hmem : i ∈ Region.ready .any all listed := by
          rw [mem_ready]
          have hio := Array.getElem?_eq_getElem hi
          refine ⟨?_, all[i], hio, fun e he hb => ?_⟩
          · have hil : i < listed.size := by omega
            simp only [Array.getD_eq_getD_getElem?, Array.getElem?_eq_getElem hil, Option.getD_some] at hc ⊢
            simpa using hc
          · have hk : e.on ∈ predsOf all[i] := by
              simp only [predsOf, List.mem_map, List.mem_filter]
              exact ⟨e, ⟨by simpa using he, hb⟩, rfl⟩
            have hlt := hback i all[i] (by rw [Array.getElem?_toList]; exact hio) _ hk
            exact ih e.on hlt (by omega)
        rw [hr] at hmem
        simp at hmem
  have hfin : ∀ (listed : Array Bool) β S a w, listed.size = all.size → Region.ready .any all listed = [] →
      InvX en E nxt all.toList us tm0 hp0 (fun i => listed.getD i false) β S a w → Q .normal a w := by
    rintro listed β S a w hs hr ⟨tm, hp, h1, h2, h3⟩
    have hall := hdone listed hs hr
    refine hK β S a w ?_
    have hlen : all.toList.length = all.size := by simp
    have h3' : InvR en E.N (fun id => nxt + 32 * all.size ≤ id) β S tm hp a w := ⟨h3.tm, h3.hv.weakFr (fun id hid => ⟨by omega, fun i hi => by
      rintro ⟨x, y⟩
      have : i < all.size := by
        by_cases c : i < all.size
        · exact c
        · have hi' : listed.getD i false = true := hi
          rw [Array.getD_eq_getD_getElem?, Array.getElem?_eq_none (by omega)] at hi'; simp at hi'
      omega⟩), h3.size, h3.defers⟩
    refine h3'.ext (fun t => ?_) (fun id => ?_)
    · rw [hN1, h1, hlen]
      exact (tvD_agree all.size (fun i hi hne => by simp [hall i hi] at hne)).symm
    · rw [hN2, h2, hlen]
      exact (hvD_agree all.size (fun i hi hne => by simp [hall i hi] at hne)).symm
  intro fuel
  induction fuel with
  | zero =>
    intro listed β S a w hs hfu hcl hx
    have hr : Region.ready .any all listed = [] := by
      cases hr : Region.ready .any all listed with
      | nil => rfl
      | cons i r =>
        have hmem : i ∈ Region.ready .any all listed := by rw [hr]; simp
        rw [mem_ready] at hmem
        have hf0 : listed.toList.filter (! ·) = [] := by
          cases hq : listed.toList.filter (! ·) with
          | nil => rfl
          | cons x y => rw [hq] at hfu; simp at hfu
        have hil : i < listed.size := by
          by_cases c : i < listed.size
          · exact c
          · rw [Array.getD_eq_getD_getElem?, Array.getElem?_eq_none (by omega)] at hmem; simp at hmem
        have h1 := hmem.1
        simp only [Array.getD_eq_getD_getElem?, Array.getElem?_eq_getElem hil, Option.getD_some] at h1
        have : listed[i] ∈ listed.toList.filter (! ·) := by
          rw [List.mem_filter]
          exact ⟨by simp, by simp [h1]⟩
        rw [hf0] at this
        simp at this
    exact ⟨hr, hfin listed β S a w hs hr hx⟩
  | succ fuel ih =>
    intro listed β S a w hs hfu hcl hx
    refine ⟨fun hr => hfin listed β S a w hs hr hx, fun j hj => ?_⟩
    rw [mem_ready] at hj
    obtain ⟨hj0, o, ho, hpre⟩ := hj
    have hjl : j < all.size := (Array.getElem?_eq_some_iff.1 ho).1
    have hjls : j < listed.size := by omega
    have hDj : listed.getD j false = false := by
      simp only [Array.getD_eq_getD_getElem?, Array.getElem?_eq_getElem hjls, Option.getD_some] at hj0 ⊢
      exact hj0
    have hoL : all.toList[j]? = some o := by rw [Array.getElem?_toList]; exact ho
    have hpreds : ∀ k ∈ predsOf o, listed.getD k false = true := by
      intro k hk
      simp only [predsOf, List.mem_map, List.mem_filter] at hk
      obtain ⟨e, ⟨he, hb⟩, rfl⟩ := hk
      exact hpre e (by simpa using he) hb
    -- the new set
    have hset : ∀ i, (listed.setIfInBounds j true).getD i false = (if i = j then true else listed.getD i false) := by
      intro i
      by_cases e : i = j
      · subst e
        simp [Array.getD_eq_getD_getElem?, hjls]
      · rw [if_neg e]
        simp only [Array.getD_eq_getD_getElem?]
        rw [Array.getElem?_setIfInBounds_ne (fun h => e h.symm)]
    have hcl' : ∀ (i : Nat) o, (listed.setIfInBounds j true).getD i false = true → all.toList[i]? = some o → ∀ k ∈ predsOf o, (listed.setIfInBounds j true).getD k false = true := by
      intro i o' hi hio k hk
      rw [hset] at hi ⊢
      by_cases e : k = j
      · rw [if_pos e]
      · rw [if_neg e]
        by_cases e2 : i = j
        · subst e2
          rw [hoL] at hio
          cases hio
          exact hpreds k hk
        · rw [if_neg e2] at hi
          exact hcl i o' hi hio k hk
    have hfu' : ((listed.setIfInBounds j true).toList.filter (! ·)).length ≤ fuel := by
      have hcount : ∀ (l : List Bool) (k : Nat), l[k]? = some false → ((l.set k true).filter (! ·)).length + 1 = (l.filter (! ·)).length := by
        intro l
        induction l with
        | nil => intro k hk; simp at hk
        | cons b l ihl =>
          intro k hk
          cases k with
          | zero => simp at hk; subst hk; simp
          | succ k =>
            have := ihl k (by simpa using hk)
            simp only [List.set_cons_succ]
            cases b <;> simp <;> omega
      have hlk : listed.toList[j]? = some false := by
        rw [Array.getElem?_toList, Array.getElem?_eq_getElem hjls]
        simp only [Array.getD_eq_getD_getElem?, Array.getElem?_eq_getElem hjls, Option.getD_some] at hj0
        rw [hj0]
      have := hcount listed.toList j hlk
      simp only [Array.toList_setIfInBounds]
      omega
    -- nobody that is done, or ahead in the text, touches what this one needs, but those that must be ahead
    have hunord : ∀ i, i < all.size → i ≠ j → (listed.getD i false ≠ decide (i < j)) → i ∉ (befs all.toList []).getD j [] ∧ j ∉ (befs all.toList []).getD i [] := by
      intro i hi hne hD
      have hio : all.toList[i]? = some all[i] := by rw [Array.getElem?_toList]; exact Array.getElem?_eq_getElem hi
      have hclP : ∀ (i : Nat) o, (fun i => listed.getD i false = true) i → all.toList[i]? = some o → ∀ k ∈ predsOf o, (fun i => listed.getD i false = true) k := hcl
      have hbefLt : ∀ (q : Nat) o', all.toList[q]? = some o' → ∀ m ∈ (befs all.toList []).getD q [], m < q := by
        intro q o' hq m hm
        refine befs_closed (D := fun m => m < q) (fun i o1 hi' ho1 k hk => ?_) q o' hq (fun k hk => hback q o' hq k hk) m hm
        have := hback i o1 ho1 k hk
        exact Nat.lt_trans this hi'
      constructor
      · intro hmem
        have h1 := befs_closed hclP j o hoL hpreds i hmem
        have h2 := hbefLt j o hoL i hmem
        simp [h1, h2] at hD
      · intro hmem
        have h2 := hbefLt i _ hio j hmem
        by_cases hDi : listed.getD i false = true
        · have h1 := befs_closed hclP i _ hio (fun k hk => hcl i _ hDi hio k hk) j hmem
          have h1' : listed.getD j false = true := h1
          rw [hDj] at h1'
          simp at h1'
        · simp only [Bool.not_eq_true] at hDi
          rw [hDi] at hD
          have : ¬ i < j := by omega
          simp [this] at hD
    obtain ⟨tmj, hpj, o', ho', htm, hhp, hdst, hcase⟩ := (hf j hjl).ex
    rw [hoL] at ho'
    cases ho'
    obtain ⟨tm, hp, x1, x2, x3⟩ := hx
    have hlen : all.toList.length = all.size := by simp
    rw [hlen] at x1 x2
    -- the slots that it looks at are as in the text's order
    have hlook : ∀ t, t ∈ looks all.toList o → tget tm t = tget tmj t := by
      intro t ht
      rw [x1, htm, ← tvD_below all.size (Nat.le_of_lt hjl)]
      refine tvD_agree all.size (fun i hi hne => ?_)
      have hij : i ≠ j := by
        intro e; subst e; simp [hDj] at hne
      obtain ⟨u1, u2⟩ := hunord i hi hij hne
      have hio : all.toList[i]? = some all[i] := by rw [Array.getElem?_toList]; exact Array.getElem?_eq_getElem hi
      have hap := hT i j _ _ hio hoL hij u1 u2
      intro hds
      simp only [dsOf, hio, Option.bind_some] at hds
      simp [apartT, hds, ht] at hap
    have hguard : ∀ g want, o.guard = some (g, want) → guardOf all.toList tm g = guardOf all.toList tmj g := by
      intro g want hg
      refine guardOf_same (fun og t hog hdg => hlook t ?_)
      simp [looks, hg, hog, hdg]
    have hops : ∀ x ∈ o.op.operands, evalO tmj x = evalO tm x := by
      intro x hx
      refine evalO_same (fun t hxt => (hlook t ?_).symm)
      subst hxt
      simp only [looks, List.mem_append, List.mem_filterMap]
      exact .inl ⟨.tmp t, by simpa using hx, rfl⟩
    -- the objects, too
    have hheap : ∀ v wr l, usOf us j = some (v, wr, l) → logE j wr l ∈ logN → ∀ id, (id ∈ l ∨ id ∈ wr.map (·.1)) → ∀ i, i < all.size → i ≠ j → (listed.getD i false ≠ decide (i < j)) → wfind (uwr (usOf us i)) id = none := by
      intro v wr l hu hlog id hid i hi hij hne
      obtain ⟨u1, u2⟩ := hunord i hi hij hne
      obtain ⟨tmi, hpi, oi, hoi, _, _, _, hci⟩ := (hf i hi).ex
      rcases hci with ⟨v', wr', l', hu', _, _, hlog'⟩ | ⟨hu', _⟩
      · rw [hu']
        refine wfind_none (fun hm => ?_)
        have := hL (logE i wr' l') (logE j wr l) hlog' hlog hij u1 u2
        simp only [apartL, logE, List.all_eq_true] at this
        have := this id hm
        rcases hid with hid | hid
        · simp [hid] at this
        · simp only [Bool.and_eq_true, Bool.not_eq_true', List.contains_eq_mem, decide_eq_false_iff_not] at this
          exact this.2 hid
      · rw [hu']; rfl
    have hFr : ∀ k, nxt + 32 * j ≤ k → k < nxt + 32 * j + 32 → FrD nxt (fun i => listed.getD i false) k := by
      intro k h1 h2
      refine ⟨by omega, fun i hi => ?_⟩
      have : i ≠ j := by intro e; subst e; simp only at hi; rw [hDj] at hi; simp at hi
      omega
    have hFrLess : ∀ id, FrD nxt (fun i => (listed.setIfInBounds j true).getD i false) id → Less (FrD nxt (fun i => listed.getD i false)) (nxt + 32 * j) id := by
      rintro id ⟨h1, h2⟩
      refine ⟨⟨h1, fun i hi => h2 i ?_⟩, h2 j ?_⟩
      · simp only [hset]; split
        · rfl
        · exact hi
      · simp [hset]
    -- the slot that it writes is written by nobody behind it that is done
    have hdlast : ∀ i, j < i → i < all.size → (listed.setIfInBounds j true).getD i false = true → ∀ t, o.dst = some t → dsOf all.toList i ≠ some t := by
      intro i hji hi hD t ht hds
      rw [hset, if_neg (by omega)] at hD
      have hne : listed.getD i false ≠ decide (i < j) := by rw [hD]; simp; omega
      obtain ⟨u1, u2⟩ := hunord i hi (by omega) hne
      have hio : all.toList[i]? = some all[i] := by rw [Array.getElem?_toList]; exact Array.getElem?_eq_getElem hi
      have hap := hT i j _ _ hio hoL (by omega) u1 u2
      simp only [dsOf, hio, Option.bind_some] at hds
      simp [apartT, hds, ht] at hap
    have htv' : ∀ t v, uval (usOf us j) = v → tget (putT o.dst v tm) t = tvD (dsOf all.toList) (usOf us) (fun i => (listed.setIfInBounds j true).getD i false) tm0 all.size t := by
      intro t v hv
      rw [tget_putT]
      by_cases e : o.dst = some t
      · rw [if_pos e, tvD_last all.size hjl (by simp only [hset]; simp) (by simp [dsOf, hoL, e]) (fun i hji hi hD => hdlast i hji hi hD t e), hv]
      · rw [if_neg e, x1]
        refine tvD_agree all.size (fun i hi hne => ?_)
        simp only [hset] at hne
        by_cases e2 : i = j
        · subst e2; simp [dsOf, hoL, e]
        · rw [if_neg e2] at hne; exact absurd rfl hne
    show wpOp P all Q j _ a w
    unfold wpOp
    rw [ho]
    simp only
    rcases hcase with ⟨v, wr, l, hu, hev, hg, hlog⟩ | ⟨hu, hg⟩
    · have hw : Region.wanted o (yielded all a.tmps) = true := by
        rcases hg with hg | ⟨g, want, hg, hgo⟩
        · simp [Region.wanted, hg]
        · have := yielded_of x3.tm (ops := all) (j := g) (b := want) (by rw [hguard g want hg]; exact hgo)
          simp [Region.wanted, hg, this]
      rw [if_pos hw]
      left
      have hagree : ∀ id, (id ∈ l ∨ id ∈ wr.map (·.1)) → hget hp id = hget hpj id := by
        intro id hid
        rw [x2, hhp, ← hvD_below all.size (Nat.le_of_lt hjl)]
        refine hvD_agree all.size (fun i hi hne => ?_)
        have hij : i ≠ j := by intro e; subst e; simp [hDj] at hne
        exact hheap v wr l hu hlog id hid i hi hij hne
      have hev' := evalOp_same E (nxt + 32 * j) o.op hev hops (fun id hid => (hagree id (.inl hid)).symm)
      refine evalOp_wp hE x3.hv hFr (evalO_sound x3.tm) hev' (fun val β' S' w' h1 h2 h3 h4 h5 => ?_)
      refine ih (listed.setIfInBounds j true) β' S' _ w' (by simpa using hs) hfu' hcl' ?_
      refine ⟨putT o.dst v tm, hputs wr hp, fun t => ?_, fun id => ?_, ⟨x3.tm.put x3.size (putT_putD v tm hdst) h1 h3 h4 h5, h2.weakFr hFrLess, by rw [put_size]; exact x3.size, by rw [put_defers]; exact x3.defers⟩⟩
      · rw [hlen]; exact htv' t v (by rw [hu]; rfl)
      · rw [hlen, hget_hputs]
        cases hwf : wfind wr id with
        | some x =>
          simp only
          refine (hvD_last all.size hjl (by simp only [hset]; simp) (by rw [hu]; exact hwf) (fun i hji hi hD => ?_)).symm
          have hidw : id ∈ wr.map (·.1) := by
            by_cases c : id ∈ wr.map (·.1)
            · exact c
            · rw [wfind_none c] at hwf; simp at hwf
          simp only [hset] at hD
          rw [if_neg (by omega)] at hD
          exact hheap v wr l hu hlog id (.inr hidw) i hi (by omega) (by rw [hD]; simp; omega)
        | none =>
          simp only
          rw [x2]
          refine hvD_agree all.size (fun i hi hne => ?_)
          simp only [hset] at hne
          by_cases e2 : i = j
          · subst e2; rw [hu]; exact hwf
          · rw [if_neg e2] at hne; exact absurd rfl hne
    · have hw : ¬ Region.wanted o (yielded all a.tmps) = true := by
        obtain ⟨g, want, b, hg, hgo, hb⟩ := hg
        have := yielded_of x3.tm (ops := all) (j := g) (b := b) (by rw [hguard g want hg]; exact hgo)
        simp [Region.wanted, hg, this, hb]
      rw [if_neg hw]
      refine ih (listed.setIfInBounds j true) β S _ w (by simpa using hs) hfu' hcl' ?_
      have hsk := skip_inv x3 (dst := o.dst) (putT_putD .top tm hdst)
      refine ⟨putT o.dst .top tm, hp, fun t => ?_, fun id => ?_, ⟨hsk.tm, hsk.hv.weakFr (fun id hid => (hFrLess id hid).1), hsk.size, hsk.defers⟩⟩
      · rw [hlen]; exact htv' t .top (by rw [hu]; rfl)
      · rw [hlen, x2]
        refine hvD_agree all.size (fun i hi hne => ?_)
        simp only [hset] at hne
        by_cases e2 : i = j
        · subst e2; rw [hu]; rfl
        · rw [if_neg e2] at hne; exact absurd rfl hne

/-- a region whose order is drawn: as in the text's order, where the check says so. -/
theorem region_draw (hE : EOk P E en) {nxt : Nat} {all : Array Oper} {id : Nat} {tm : Tm} {hp : Heap} {β : Beta} {S : CellSet} {a : Act} {w : World} {Q : Exit → Act → World → Prop} {K : Tm → Heap → Prop}
    (hm : P.follows .mixedOrders = true) (h : ops1 E nxt all.toList 0 all.toList tm hp [] (fun tm hp log => okD all.toList log = true ∧ K tm hp)) (hi : InvR en E.N (fun id => nxt ≤ id) β S tm hp a w)
    (hK : ∀ tm hp β S a w, K tm hp → InvR en E.N (fun id => nxt + 32 * all.size ≤ id) β S tm hp a w → Q .normal a w) : (Code.region id all true).wp P Q a w := by
  obtain ⟨us, tmN, hpN, logN, h1, h2, h3⟩ := ops1_tr all.toList 0 tm hp [] h
  obtain ⟨f1, f2, f3⟩ := h1.facts (full := us) (tm0 := tm) (hp0 := hp) (fun j => by simp) (fun j => by simp) (fun t => rfl) (fun id => rfl)
  have hlen : all.toList.length = all.size := by simp
  simp only [Nat.zero_add, hlen] at f1 f2 f3
  refine wp_region_any hm ?_
  refine draw_sound hE (fun j hj => f1 j (Nat.zero_le _) hj) f2 f3 h2 (fun β S a w hh => hK tmN hpN β S a w h3 hh) all.size (Array.replicate all.size false) β S a _ (by simp) ?_ ?_ ?_
  · simp
  · intro i o hio
    simp [Array.getD_eq_getD_getElem?, Array.getElem?_replicate] at hio
    split at hio <;> simp at hio
  · have hD : ∀ i, (Array.replicate all.size false).getD i false = false := by
      intro i
      simp [Array.getD_eq_getD_getElem?, Array.getElem?_replicate]
      split <;> rfl
    refine ⟨tm, hp, fun t => ?_, fun id => ?_, ?_⟩
    · rw [hlen, tvD_agree all.size (D2 := fun i => decide (i < 0)) (fun i hi hne => by simp [hD] at hne), tvD_below all.size (Nat.zero_le _)]; rfl
    · rw [hlen, hvD_agree all.size (D2 := fun i => decide (i < 0)) (fun i hi hne => by simp [hD] at hne), hvD_below all.size (Nat.zero_le _)]; rfl
    · have hw' : InvR en E.N (fun id => nxt ≤ id) β S tm hp a { w with drawn := w.drawn + 1 } := by
        have hk : Keeps w { w with drawn := w.drawn + 1 } S := fun b k _ => rfl
        exact ⟨fun t v ht => (hi.tm t v ht).mono (BIncl.refl β) hk (Incl.refl S), hi.hv.same rfl ⟨rfl, rfl⟩, hi.size, hi.defers⟩
      exact ⟨hw'.tm, hw'.hv.weakFr (fun id hid => hid.1), hw'.size, hw'.defers⟩

end
end Go.Ax
end
section
namespace Go.Ax
set_option linter.unusedSimpArgs false
set_option linter.unusedVariables false

/-! ### running code -/
inductive Stop where
  | ret
  | fin
  | loop (c : Code) (k : List AItem)

def sym (E : Env) (R : Stop → ASt → Prop) : Nat → List AItem → ASt → Prop
  | 0, _, _ => False
  | _ + 1, [], st => R .fin st
  | n + 1, .blk _ :: k, st => sym E R n k st
  | _ + 1, .lop c :: k, st => R (.loop c k) st
  | n + 1, .code c :: k, st =>
    match c with
    | .skip => sym E R n k st
    | .seq a b => sym E R n (.code a :: .code b :: k) st
    | .block id c => sym E R n (.code c :: .blk id :: k) st
    | .loop c => R (.loop c k) st
    | .exit id => match exitTo id k with
      | some k' => sym E R n k' st
      | none => False
    | .ret => R .ret st
    | .cond x a b => match evalO st.tm x with
      | some (.d (.lit (.bool t))) => if t = true then sym E R n (.code a :: k) st else sym E R n (.code b :: k) st
      | _ => False
    | .region _ ops false => ops1 E st.nxt ops.toList 0 ops.toList st.tm st.hp [] fun tm hp _ => sym E R n k ⟨tm, hp, st.nxt + 32 * ops.toList.length⟩
    | .region _ ops true => ops1 E st.nxt ops.toList 0 ops.toList st.tm st.hp [] fun tm hp log => okD ops.toList log = true ∧ sym E R n k ⟨tm, hp, st.nxt + 32 * ops.toList.length⟩
    | _ => False

def toItem : AItem → Item
  | .code c => .code c
  | .blk id => .inBlock id
  | .lop c => .inLoop c

theorem exitTo_items : ∀ (k : List AItem) (id : Nat) (k' : List AItem), exitTo id k = some k' → Go.exitTo id (k.map toItem) = some (k'.map toItem)
  | [], id, k', h => by simp [exitTo] at h
  | .code c :: k, id, k', h => by simp only [exitTo] at h; simp only [List.map_cons, toItem, Go.exitTo]; exact exitTo_items k id k' h
  | .lop c :: k, id, k', h => by simp only [exitTo] at h; simp only [List.map_cons, toItem, Go.exitTo]; exact exitTo_items k id k' h
  | .blk j :: k, id, k', h => by
    simp only [exitTo] at h
    simp only [List.map_cons, toItem, Go.exitTo]
    by_cases e : id = j
    · rw [if_pos e] at h
      cases h
      simp [e]
    · rw [if_neg e] at h
      have : (j == id) = false := by simp; exact fun x => e x.symm
      rw [this]
      exact exitTo_items k id k' h

section
variable {P : Program} {E : Env} {en : Ent}

def Run (P : Program) (k : List AItem) (a : Act) (w : World) (Q : Act → World → Prop) : Prop :=
  ∀ (b : Frame) (cs : List Frame), ∃ a' w' todo, Q a' w' ∧ Steps P (lone (b.at a (k.map toItem)) cs w) (lone { b.at a' todo with mode := .returning } cs w')

theorem Run.of_step {k k' : List AItem} {a : Act} {w : World} {Q : Act → World → Prop} (hs : ∀ (b : Frame) (cs : List Frame), step P (lone (b.at a (k.map toItem)) cs w) = .next (lone (b.at a (k'.map toItem)) cs w))
    (h : Run P k' a w Q) : Run P k a w Q := by
  intro b cs
  obtain ⟨a', w', todo, h1, h2⟩ := h b cs
  exact ⟨a', w', todo, h1, .head (hs b cs) h2⟩

theorem Run.of_wp {c : Code} {k : List AItem} {a : Act} {w : World} {Q : Act → World → Prop} (h : c.wp P (fun e a w => e = .normal ∧ Run P k a w Q) a w) : Run P (.code c :: k) a w Q := by
  intro b cs
  obtain ⟨e, a1, w1, ⟨rfl, hr⟩, hs⟩ := h b (k.map toItem) cs
  obtain ⟨a', w', todo, h1, h2⟩ := hr b cs
  exact ⟨a', w', todo, h1, Steps.trans hs h2⟩

def Ex (P : Program) (E : Env) (en : Ent) (k : List AItem) (st : ASt) (Q : ASt → Prop) : Prop :=
  ∀ β S a w, Inv en E.N β S st a w → Run P k a w fun a' w' => ∃ β' S' st', Q st' ∧ Inv en E.N β' S' st' a' w'

def Stp (P : Program) (E : Env) (en : Ent) (Q : ASt → Prop) : Stop → ASt → Prop
  | .ret, st => Q st
  | .fin, st => Q st
  | .loop c k, st => Ex P E en (.lop c :: k) st Q

structure EOkM (P : Program) (E : Env) (en : Ent) : Prop extends EOk P E en where
  mixed : P.follows .mixedOrders = true

theorem Inv.toR {N β S st a w} (h : Inv en N β S st a w) : InvR en N (fun id => st.nxt ≤ id) β S st.tm st.hp a w := ⟨h.tm, ⟨h.hr, h.fr⟩, h.size, h.defers⟩
theorem Inv.ofR {N β S tm hp n a w} (h : InvR en N (fun id => n ≤ id) β S tm hp a w) : Inv en N β S ⟨tm, hp, n⟩ a w := ⟨h.tm, h.hv.hr, h.hv.fr, h.size, h.defers⟩

theorem Ex.of_sym (hE : EOkM P E en) {Q : ASt → Prop} : ∀ (n : Nat) (k : List AItem) (st : ASt), sym E (Stp P E en Q) n k st → Ex P E en k st Q
  | 0, k, st, h => by simp [sym] at h
  | n + 1, [], st, h => by
    intro β S a w hi b cs
    exact ⟨a, w, [], ⟨β, S, st, h, hi⟩, .one step_end⟩
  | n + 1, .blk id :: k, st, h => by
    intro β S a w hi
    exact Run.of_step (k' := k) (fun b cs => step_inBlock) (Ex.of_sym hE n k st h β S a w hi)
  | n + 1, .lop c :: k, st, h => h
  | n + 1, .code c :: k, st, h => by
    cases c with
    | skip =>
      intro β S a w hi
      exact Run.of_step (k' := k) (fun b cs => step_skip) (Ex.of_sym hE n k st h β S a w hi)
    | seq x y =>
      intro β S a w hi
      exact Run.of_step (k' := .code x :: .code y :: k) (fun b cs => step_seq) (Ex.of_sym hE n _ st h β S a w hi)
    | block id c =>
      intro β S a w hi
      exact Run.of_step (k' := .code c :: .blk id :: k) (fun b cs => step_block) (Ex.of_sym hE n _ st h β S a w hi)
    | loop c =>
      intro β S a w hi b cs
      have hl : Ex P E en (.lop c :: k) st Q := h
      obtain ⟨a', w', todo, h1, h2⟩ := hl β S a w hi b cs
      refine ⟨a', w', todo, h1, ?_⟩
      -- both go to the same place in one step
      obtain ⟨m, hm⟩ := h2
      have s1 : step P (lone (b.at a ((AItem.code (.loop c) :: k).map toItem)) cs w) = .next (lone (b.at a (.code c :: .inLoop c :: k.map toItem)) cs w) := step_loop
      have s2 : step P (lone (b.at a ((AItem.lop c :: k).map toItem)) cs w) = .next (lone (b.at a (.code c :: .inLoop c :: k.map toItem)) cs w) := step_inLoop
      cases m with
      | zero =>
        exfalso
        simp only [runN] at hm
        have := Stepped.next.inj hm
        simp [lone, Frame.at] at this
      | succ m =>
        refine ⟨m + 1, ?_⟩
        simp only [runN, s1]
        simpa only [runN, s2] using hm
    | exit id =>
      simp only [sym] at h
      cases hx : exitTo id k with
      | none => rw [hx] at h; exact h.elim
      | some k' =>
        rw [hx] at h
        intro β S a w hi
        exact Run.of_step (k' := k') (fun b cs => step_exit (exitTo_items k id k' hx)) (Ex.of_sym hE n k' st h β S a w hi)
    | ret =>
      intro β S a w hi b cs
      exact ⟨a, w, _, ⟨β, S, st, h, hi⟩, .one step_ret⟩
    | cond x y z =>
      simp only [sym] at h
      intro β S a w hi
      split at h
      · rename_i t hev
        have hv := (evalO_sound hi.tm x _ hev).lit_inv
        by_cases ht : t = true
        · rw [if_pos ht] at h
          exact Run.of_step (k' := .code y :: k) (fun b cs => by
            have := step_cond (P := P) (b := b) (a := a) (k := k.map toItem) (cs := cs) (w := w) (c := x) (x := y) (y := z) hv
            rw [ht] at this; exact this) (Ex.of_sym hE n _ st h β S a w hi)
        · rw [if_neg ht] at h
          have ht' : t = false := by simpa using ht
          exact Run.of_step (k' := .code z :: k) (fun b cs => by
            have := step_cond (P := P) (b := b) (a := a) (k := k.map toItem) (cs := cs) (w := w) (c := x) (x := y) (y := z) hv
            rw [ht'] at this; exact this) (Ex.of_sym hE n _ st h β S a w hi)
      · exact h.elim
    | region id ops draw =>
      intro β S a w hi
      refine Run.of_wp ?_
      cases draw with
      | false =>
        simp only [sym] at h
        refine wp_region ?_
        have := ops1_sound (en := en) hE.toEOk (nxt := st.nxt) ops (Q := fun e a w => e = .normal ∧ Run P k a w fun a' w' => ∃ β' S' st', Q st' ∧ Inv en E.N β' S' st' a' w') (K := fun tm hp _ => sym E (Stp P E en Q) n k ⟨tm, hp, st.nxt + 32 * ops.toList.length⟩)
          (fun tm hp log β S a w hk hr => ⟨rfl, Ex.of_sym hE n k _ hk β S a w (Inv.ofR (by simpa using hr))⟩) ops.toList 0 st.tm st.hp [] β S a w (fun j => by simp) (by simp) h (by simpa using hi.toR)
        rw [List.range_eq_range']
        simpa using this
      | true =>
        simp only [sym] at h
        exact region_draw hE.toEOk hE.mixed h hi.toR (fun tm hp β S a w hk hr => ⟨rfl, Ex.of_sym hE n k _ hk β S a w (Inv.ofR (by simpa using hr))⟩)
    | rangeFunc => simp [sym] at h
    | scope => simp [sym] at h
    | label => simp [sym] at h
    | goto => simp [sym] at h
    | refuse => simp [sym] at h

theorem Ex.round {c : Code} {k : List AItem} {st : ASt} {Q : ASt → Prop} (h : Ex P E en (.code c :: .lop c :: k) st Q) : Ex P E en (.lop c :: k) st Q := by
  intro β S a w hi
  exact Run.of_step (k' := .code c :: .lop c :: k) (fun b cs => step_inLoop) (h β S a w hi)

/-! ### forgetting -/
def Weak (en : Ent) (N : Nat) (st st' : ASt) : Prop := ∀ β S a w, Inv en N β S st a w → ∃ β' S', Inv en N β' S' st' a w

theorem Ex.weak {k : List AItem} {st st' : ASt} {Q : ASt → Prop} (hw : Weak en E.N st st') (h : Ex P E en k st' Q) : Ex P E en k st Q := by
  intro β S a w hi
  obtain ⟨β', S', hi'⟩ := hw β S a w hi
  exact h β' S' a w hi'

def keepRef (nx : Nat) (id ver : Nat) : Option (Nat × Nat) := if id < nx then some (id, ver) else none
def eraseTm (keep : List Nat) (nx : Nat) : Tm → Tm
  | [] => []
  | (t, v) :: r => match keep.contains t with
    | true => (t, v.mapRef (keepRef nx)) :: eraseTm keep nx r
    | false => eraseTm keep nx r
def eraseHp (nx : Nat) : Heap → Heap
  | [] => []
  | (id, ver, o) :: r => match decide (id < nx) with
    | true => (id, ver, o.mapRef (keepRef nx)) :: eraseHp nx r
    | false => eraseHp nx r
def ASt.erase (keep : List Nat) (nx : Nat) (st : ASt) : ASt := ⟨eraseTm keep nx st.tm, eraseHp nx st.hp, nx⟩

theorem tget_erase (keep : List Nat) (nx : Nat) : ∀ (tm : Tm) (t : Nat) v, tget (eraseTm keep nx tm) t = some v → ∃ u, tget tm t = some u ∧ v = u.mapRef (keepRef nx)
  | [], t, v, h => by simp [eraseTm, tget] at h
  | (s, u) :: r, t, v, h => by
    simp only [eraseTm] at h
    split at h
    · simp only [tget] at h ⊢
      by_cases e : s = t
      · rw [if_pos e] at h ⊢
        cases h
        exact ⟨u, rfl, rfl⟩
      · rw [if_neg e] at h ⊢
        exact tget_erase keep nx r t v h
    · rename_i hk
      simp only [tget]
      by_cases e : s = t
      · subst e
        have hnone : ∀ (tm : Tm), tget (eraseTm keep nx tm) s = none := by
          intro tm
          induction tm with
          | nil => rfl
          | cons x r ih =>
            obtain ⟨q, z⟩ := x
            simp only [eraseTm]
            split
            · rename_i hq
              simp only [tget]
              rw [if_neg (fun e => by subst e; rw [hk] at hq; simp at hq)]
              exact ih
            · exact ih
        rw [hnone] at h
        simp at h
      · rw [if_neg e]
        exact tget_erase keep nx r t v h

theorem hget_erase (nx : Nat) : ∀ (hp : Heap) (id : Nat), hget (eraseHp nx hp) id = if id < nx then (hget hp id).map fun x => (x.1, x.2.mapRef (keepRef nx)) else none
  | [], id => by simp [eraseHp, hget]
  | (i, v, o) :: r, id => by
    simp only [eraseHp]
    have ih := hget_erase nx r id
    cases hd : decide (i < nx) with
    | true =>
      simp at hd
      simp only [hget]
      by_cases e : i = id
      · subst e; simp [hd]
      · rw [if_neg e, if_neg e, ih]
    | false =>
      simp at hd
      simp only [hget]
      rw [ih]
      by_cases e : i = id
      · subst e; rw [if_neg (by omega), if_neg (by omega)]
      · rw [if_neg e]

def Small (en : Ent) (m : Nat) : Prop := ∀ j p, en.β0 j = some p → j < m

theorem weak_erase {N m : Nat} (hm : Small en m) (keep : List Nat) (nx : Nat) (hnx : m ≤ nx) (st : ASt) : Weak en N st (st.erase keep nx) := by
  intro β S a w hi
  let β' : Beta := fun id ver => if id < nx then β id ver else none
  have hg : ∀ id ver i v p, keepRef nx id ver = some (i, v) → β id ver = some p → β' i v = some p := by
    intro id ver i v p h1 h2
    unfold keepRef at h1
    split at h1
    · rename_i hlt
      cases h1
      show (if id < nx then β id ver else none) = some p
      rw [if_pos hlt]; exact h2
    · simp at h1
  have hget' : ∀ id ver o, hget (eraseHp nx st.hp) id = some (ver, o) → id < nx ∧ ∃ o', hget st.hp id = some (ver, o') ∧ o = o'.mapRef (keepRef nx) := by
    intro id ver o h
    rw [hget_erase] at h
    split at h
    · rename_i hlt
      cases hx : hget st.hp id with
      | none => rw [hx] at h; simp at h
      | some x =>
        obtain ⟨v, o'⟩ := x
        rw [hx] at h
        simp at h
        exact ⟨hlt, o', by rw [h.1], h.2.symm⟩
    · simp at h
  have hβ : ∀ id ver p, id < nx → β' id ver = some p → β id ver = some p := by
    intro id ver p hlt h
    have h' : (if id < nx then β id ver else none) = some p := h
    rwa [if_pos hlt] at h'
  refine ⟨β', S, ⟨?_, ⟨?_, ?_, ?_, ?_, ?_, hi.hr.low⟩, ⟨hi.fr.blocks, hi.fr.size, hi.fr.sub, hi.fr.fresh, ?_, hi.fr.out, ?_⟩, hi.size, hi.defers⟩⟩
  · intro t v ht
    obtain ⟨u, h1, rfl⟩ := tget_erase keep nx st.tm t v ht
    exact (hi.tm t u h1).mapRef hg
  · intro id ver o ho
    obtain ⟨hlt, o', h1, rfl⟩ := hget' id ver o ho
    refine (hi.hr.obj _ _ _ h1).mapRef hg (fun p hp => ?_)
    show (if id < nx then β id ver else none) = some p
    rw [if_pos hlt]; exact hp
  · intro id hid
    have hid' : nx ≤ id := hid
    refine ⟨?_, fun ver => ?_⟩
    · show hget (eraseHp nx st.hp) id = none
      rw [hget_erase, if_neg (by omega)]
    · show (if id < nx then β id ver else none) = none
      rw [if_neg (by omega)]
  · intro id ver o ho v hv
    obtain ⟨hlt, o', h1, rfl⟩ := hget' id ver o ho
    show (if id < nx then β id v else none) = none
    rw [if_pos hlt]; exact hi.hr.ver _ _ _ h1 v hv
  · intro id ver o p ho hown hp1 hp2 k
    obtain ⟨hlt, o', h1, rfl⟩ := hget' id ver o ho
    rw [owned_mapRef] at hown
    exact hi.hr.own _ _ _ _ h1 hown (hβ _ _ _ hlt hp1) hp2 k
  · intro id ver o p id' ver' o' p' ho hown hp1 hp2 ho' hown' hp1' hp2' hne
    obtain ⟨hlt, o1, h1, rfl⟩ := hget' id ver o ho
    obtain ⟨hlt', o1', h1', rfl⟩ := hget' id' ver' o' ho'
    rw [owned_mapRef] at hown hown'
    exact hi.hr.inj _ _ _ _ _ _ _ _ h1 hown (hβ _ _ _ hlt hp1) hp2 h1' hown' (hβ _ _ _ hlt' hp1') hp2' hne
  · intro id ver o p ho hown hp1 hp2
    obtain ⟨hlt, o', h1, rfl⟩ := hget' id ver o ho
    rw [owned_mapRef] at hown
    exact hi.fr.ownf _ _ _ _ h1 hown (hβ _ _ _ hlt hp1) hp2
  · intro j p hj
    have := hm j p hj
    show (if j < nx then β j 0 else none) = some p
    rw [if_pos (by omega)]
    exact hi.fr.beta0 j p hj

theorem Ex.erase {k : List AItem} {st : ASt} {Q : ASt → Prop} {m : Nat} (hm : Small en m) (keep : List Nat) (nx : Nat) (hnx : m ≤ nx) (h : Ex P E en k (st.erase keep nx) Q) : Ex P E en k st Q :=
  Ex.weak (weak_erase hm keep nx hnx st) h

/-- a nil slice in a slot as a slice of its own that has no elements yet -/
theorem Ex.adopt {k : List AItem} {tm : Tm} {hp : Heap} {nxt : Nat} {Q : ASt → Prop} (t sz : Nat) (ht : tget tm t = some (.d (.lit (.slice none 0 0))))
    (h : Ex P E en k ⟨tset t (.sv nxt 0 sz 0 0) tm, hset nxt 0 (.arr sz []) hp, nxt + 1⟩ Q) : Ex P E en k ⟨tm, hp, nxt⟩ Q := by
  refine Ex.weak (fun β S a w hi => ?_) h
  have hnew := hi.hr.new nxt (Nat.le_refl _)
  have hb : BIncl β (upd β nxt 0 ⟨0, 0, sz, 0, true⟩) := upd_incl _ (hnew.2 0)
  have hv : Hv en (fun id => nxt ≤ id) β S w hp := ⟨hi.hr, hi.fr⟩
  obtain ⟨g1, g2⟩ := hv.put (Fr' := fun id => nxt + 1 ≤ id) (S' := S) (w' := w) nxt 0 (.arr sz []) hb (fun i v hi => upd_ne _ hi)
    (fun v hv => by unfold upd; rw [if_neg (by omega)]; exact hnew.2 v) (fun _ _ _ => rfl) (Nat.le_refl _) (Incl.refl S) (fun b k hs => .inl hs)
    ⟨_, upd_same _ _ _ _, rfl, by simp, by simp, fun hvf => by simp at hvf⟩ (fun _ p' hp' hv' => by rw [upd_same] at hp'; cases hp'; simp at hv') ⟨rfl, rfl⟩ (fun i hi => ⟨by omega, by omega⟩)
  refine ⟨_, S, ⟨fun s u hs => ?_, g1.hr, g1.fr, hi.size, hi.defers⟩⟩
  have hs' : tget (tset t (AV.sv nxt 0 sz 0 0) tm) s = some u := hs
  by_cases e : s = t
  · subst e
    rw [tget_tset_same] at hs'
    cases hs'
    rw [(hi.tm s _ ht).lit_inv]
    exact .svn nxt 0 sz 0 _ (upd_same _ _ _ _) rfl rfl
  · rw [tget_tset_ne _ _ _ _ e] at hs'
    exact (hi.tm s u hs').mono hb (Keeps.refl w S) (Incl.refl S)

end
end Go.Ax
end
section
namespace Go.Ax
set_option linter.unusedSimpArgs false
set_option linter.unusedVariables false

/-! ### leaving a function -/
def resVal (E : Env) (st : ASt) : ResultVar → M AV
  | .tmp t => M.lift (tget st.tm t)
  | .cell a t => do
    let ti ← M.lift (E.T t)
    let v ← M.lift (tget st.tm a)
    loadA ti v
def resVals (E : Env) (st : ASt) : List ResultVar → M (List AV)
  | [] => pure []
  | r :: rs => do
    let v ← resVal E st r
    let vs ← resVals E st rs
    pure (v :: vs)
def normRes : List (List Nat) → List AV → List AV
  | ns :: nss, v :: vs => v.norm ns :: normRes nss vs
  | _, vs => vs
def passedL : Nat → Nat → Heap → Option Heap
  | 0, _, _ => some []
  | k + 1, j, hp => match hget hp j with
    | none => none
    | some (v, o) => match passedL k (j + 1) hp with
      | none => none
      | some l => some ((j, v, o) :: l)
def cvOk : List Nat → Heap → Bool
  | c :: cs, (_, v, _) :: l => (match c with | 0 => decide (v = 0) | _ + 1 => true) && cvOk cs l
  | _, _ => true
def expRef (cv : List Nat) (j : Nat) : Heap → Nat → Nat → Option (Nat × Nat)
  | [], _, _ => none
  | (i, v, _) :: r, id, ver => if i = id then (if v = ver then some (j, cv.getD j 0) else none) else expRef cv (j + 1) r id ver
def expObjs (cv : List Nat) (g : Nat → Nat → Option (Nat × Nat)) : Nat → Heap → List (Nat × AObj)
  | _, [] => []
  | j, (_, _, o) :: r => (cv.getD j 0, o.mapRef g) :: expObjs cv g (j + 1) r
def oneOf : List AV → AV
  | [v] => v
  | vs => .tup vs

/-- what a function hands back, and the objects; cv: the versions of those that came in (0: as they came), own: which results stay owned. -/
def fin (E : Env) (res : List ResultVar) (cv : List Nat) (own : List Bool) (rn : List (List Nat)) (st : ASt) : Option (AV × List (Nat × AObj)) :=
  match resVals E st res (hget st.hp) with
  | none => none
  | some (vs, _) =>
    match freezeArgs own vs (hget st.hp) with
    | none => none
    | some ((vs1, wr), _) =>
      match passedL cv.length 0 (hputs wr st.hp) with
      | none => none
      | some pl =>
        match collect 64 (refsL (normRes rn vs1)) pl (hget (hputs wr st.hp)) with
        | none => none
        | some (L, _) =>
          match cvOk cv pl with
          | false => none
          | true => some ((oneOf (normRes rn vs1)).mapRef (expRef cv 0 L), expObjs cv (expRef cv 0 L) 0 L)

section
variable {P : Program} {E : Env} {en : Ent}

def resOne (tmps : Array Value) (r : ResultVar) : Sem Value :=
  match r with
  | .tmp t => pure (tmps.getD t undef)
  | .cell p t => do loadVar t (← asAddr (tmps.getD p undef))

theorem resVals_sound (hT : TyOk P E) {N : Nat} {β : Beta} {S : CellSet} {st : ASt} {a : Act} {w : World} (hi : Inv en N β S st a w) :
    ∀ (res : List ResultVar) (vs : List AV) (l : List Nat), resVals E st res (hget st.hp) = some (vs, l) →
      ∃ us : List Value, (res.mapM (resOne a.tmps)).run P w = .ok us w ∧ ARs β w S us vs
  | [], vs, l, h => by
    simp only [resVals, M.pure_some, Prod.mk.injEq] at h
    obtain ⟨rfl, _⟩ := h
    exact ⟨[], by simp, ARs.nil⟩
  | r :: rs, vs, l, h => by
    simp only [resVals, M.bind_some, M.pure_some, Prod.mk.injEq] at h
    obtain ⟨v, l1, vs', l2, h1, ⟨vs'', l3, b, l4, h2, ⟨rfl, _⟩, rfl, _⟩, rfl, _⟩ := h
    obtain ⟨us, g1, g2⟩ := resVals_sound hT hi rs vs'' l3 h2
    have : ∃ u, (resOne a.tmps r).run P w = .ok u w ∧ AR β w S u v := by
      cases r with
      | tmp t =>
        simp only [resVal, M.lift_some] at h1
        exact ⟨_, by simp [resOne]; rfl, by simpa using hi.tm t v h1.1⟩
      | cell p t =>
        simp only [resVal, M.bind_some, M.lift_some, Prod.mk.injEq] at h1
        obtain ⟨ti, l5, v1, l6, ⟨h3, _⟩, ⟨pv, l7, v2, l8, ⟨h4, _⟩, h5, rfl, _⟩, rfl, _⟩ := h1
        have hp := hi.tm p pv h4
        have hv : Hv en (fun id => st.nxt ≤ id) β S w st.hp := ⟨hi.hr, hi.fr⟩
        obtain ⟨u, e1, e2⟩ := loadA_sound hT hv h3 hp h5
        refine ⟨u, ?_, e2⟩
        have hptr : ∃ q, a.tmps.getD p undef = .pointer (some q) := by
          generalize a.tmps.getD p undef = x at hp
          cases pv with
          | ptr => cases hp; exact ⟨_, rfl⟩
          | fp => cases hp; exact ⟨_, rfl⟩
          | d => simp [loadA, M.fail] at h5
          | agg => simp [loadA, M.fail] at h5
          | tup => simp [loadA, M.fail] at h5
          | sv => simp [loadA, M.fail] at h5
          | clo => simp [loadA, M.fail] at h5
          | top => simp [loadA, M.fail] at h5
        obtain ⟨q, hq⟩ := hptr
        simp only [hq] at e1
        simp only [resOne, hq]
        simpa [Instr.loadAt, Instr.sureAddr, asAddr] using e1
    obtain ⟨u, e1, e2⟩ := this
    refine ⟨u :: us, ?_, ARs.cons_iff.2 ⟨e2, g2⟩⟩
    rw [List.mapM_cons]
    simp only [Sem.run_bind, e1, Result.andThen_ok, g1, Sem.run_pure]

def oneVal : List Value → Value
  | [v] => v
  | us => .tuple us.toArray

theorem run_results (g : Func) {a : Act} {w : World} {us : List Value}
    (h : (g.results.toList.mapM (resOne a.tmps)).run P w = .ok us w) :
    (results g a.tmps).run P w = .ok (oneVal us) w := by
  have hres : results g a.tmps = (do let vs ← g.results.mapM (resOne a.tmps); pure (if h : vs.size = 1 then vs[0] else .tuple vs)) := rfl
  have : (g.results.mapM (resOne a.tmps)).run P w = .ok us.toArray w := by
    rw [Array.mapM_eq_mapM_toList]
    simp only [Sem.run_map, h, Result.andThen_ok]
  rw [hres, Sem.run_bind, this]
  simp only [Result.andThen_ok, Sem.run_pure]
  congr 1
  match us with
  | [] => simp [oneVal]
  | [v] => simp [oneVal]
  | _ :: _ :: _ => simp [oneVal]

theorem oneOf_AR {β : Beta} {w : World} {S : CellSet} {us : List Value} {vs : List AV} (h : ARs β w S us vs) : AR β w S (oneVal us) (oneOf vs) := by
  have tup : AR β w S (.tuple us.toArray) (.tup vs) := .tup _ _ (by simpa using h.1) (fun i v c hv hc => h.2 i v c (by simpa using hv) hc)
  match us, vs, h with
  | [v], [c], h => exact (ARs.cons_iff.1 h).1
  | [], [], h => exact tup
  | _ :: _ :: _, _ :: _ :: _, h => exact tup
  | [], _ :: _, h => simp [ARs] at h
  | [_], [], h => simp [ARs] at h
  | [_], _ :: _ :: _, h => simp [ARs] at h
  | _ :: _ :: _, [], h => simp [ARs] at h
  | _ :: _ :: _, [_], h => simp [ARs] at h

theorem normRes_sound {β : Beta} {w : World} {S : CellSet} : ∀ (rn : List (List Nat)) (us : List Value) (vs : List AV), ARs β w S us vs → ARs β w S us (normRes rn vs)
  | [], us, vs, h => by simpa [normRes] using h
  | ns :: rn, us, [], h => by simpa [normRes] using h
  | ns :: rn, us, v :: vs, h => by
    obtain ⟨u, us', rfl, h1, h2⟩ := h.inv_cons
    exact ARs.cons_iff.2 ⟨h1.norm ns, normRes_sound rn us' vs h2⟩

theorem passedL_spec : ∀ (k j : Nat) (hp l : Heap), passedL k j hp = some l → l.length = k ∧ ∀ (i : Nat) id ver o, l[i]? = some (id, ver, o) → id = j + i ∧ hget hp id = some (ver, o)
  | 0, j, hp, l, h => by simp [passedL] at h; subst h; exact ⟨rfl, fun i _ _ _ hi => by simp at hi⟩
  | k + 1, j, hp, l, h => by
    simp only [passedL] at h
    split at h
    · simp at h
    · rename_i v o hg
      split at h
      · simp at h
      · rename_i l' hl
        cases h
        obtain ⟨h1, h2⟩ := passedL_spec k (j + 1) hp l' hl
        refine ⟨by simp [h1], fun i id ver o' hi => ?_⟩
        cases i with
        | zero => simp at hi; obtain ⟨rfl, rfl, rfl⟩ := hi; exact ⟨rfl, hg⟩
        | succ i =>
          obtain ⟨e1, e2⟩ := h2 i id ver o' (by simpa using hi)
          exact ⟨by omega, e2⟩

theorem collect_prefix {hp : Heap} : ∀ (n : Nat) (todo : List (Nat × Nat)) (acc L : Heap) (l : List Nat), collect n todo acc (hget hp) = some (L, l) → ∀ (i : Nat) x, acc[i]? = some x → L[i]? = some x
  | n, [], acc, L, l, h, i, x, hx => by
    cases n <;> simp [collect, pure, M.pure] at h <;> exact h.1 ▸ hx
  | 0, _ :: _, acc, L, l, h, i, x, hx => by simp [collect, M.fail] at h
  | n + 1, (id, ver) :: todo, acc, L, l, h, i, x, hx => by
    simp only [collect] at h
    cases hi : inIds id acc with
    | true => rw [hi] at h; exact collect_prefix n todo acc L l h i x hx
    | false =>
      rw [hi] at h
      simp only [M.bind_some, look_some, Prod.exists, Prod.mk.injEq] at h
      obtain ⟨v, o, l1, b, l2, ⟨h1, _⟩, h2, rfl, _⟩ := h
      cases hd : decide (v = ver) with
      | true =>
        rw [hd] at h2
        exact collect_prefix n _ _ _ _ h2 i x (by rw [List.getElem?_append_left (List.getElem?_eq_some_iff.1 hx).1]; exact hx)
      | false => rw [hd] at h2; exact collect_prefix n _ _ _ _ h2 i x hx

theorem expRef_spec (cv : List Nat) : ∀ (L : Heap) (k id ver j v : Nat), expRef cv k L id ver = some (j, v) → v = cv.getD j 0 ∧ k ≤ j ∧ ∃ o, L[j - k]? = some (id, ver, o)
  | [], k, id, ver, j, v, h => by simp [expRef] at h
  | (i, u, o) :: r, k, id, ver, j, v, h => by
    simp only [expRef] at h
    by_cases e : i = id
    · rw [if_pos e] at h
      by_cases e2 : u = ver
      · rw [if_pos e2] at h
        simp only [Option.some.injEq, Prod.mk.injEq] at h
        obtain ⟨rfl, rfl⟩ := h
        exact ⟨rfl, Nat.le_refl _, o, by simp [e, e2]⟩
      · rw [if_neg e2] at h; simp at h
    · rw [if_neg e] at h
      obtain ⟨h1, h2, o', h3⟩ := expRef_spec cv r (k + 1) id ver j v h
      refine ⟨h1, by omega, o', ?_⟩
      rw [show j - k = (j - (k + 1)) + 1 by omega]
      simpa using h3

theorem expObjs_get (cv : List Nat) (g : Nat → Nat → Option (Nat × Nat)) : ∀ (L : Heap) (k j : Nat), (expObjs cv g k L)[j]? = (L[j]?).map fun x => (cv.getD (k + j) 0, x.2.2.mapRef g)
  | [], k, j => by simp [expObjs]
  | (i, v, o) :: r, k, j => by
    cases j with
    | zero => simp [expObjs]
    | succ j =>
      simp only [expObjs, List.getElem?_cons_succ]
      rw [expObjs_get cv g r (k + 1) j, show k + 1 + j = k + (j + 1) by omega]

theorem cvOk_spec : ∀ (cv : List Nat) (l : Heap), cvOk cv l = true → ∀ (i : Nat) id ver o, l[i]? = some (id, ver, o) → i < cv.length → cv.getD i 0 = 0 → ver = 0
  | [], l, h, i, id, ver, o, hi, hl, hc => by simp at hl
  | c :: cs, [], h, i, id, ver, o, hi, hl, hc => by simp at hi
  | c :: cs, (j, v, p) :: l, h, i, id, ver, o, hi, hl, hc => by
    simp only [cvOk, Bool.and_eq_true] at h
    cases i with
    | zero =>
      simp at hi
      obtain ⟨rfl, rfl, rfl⟩ := hi
      simp at hc
      subst hc
      simpa using h.1
    | succ i => exact cvOk_spec cs l h.2 i id ver o (by simpa using hi) (by simpa using hl) (by simpa using hc)

/-- leaving, as the check of the last state says -/
theorem fin_sound (hT : TyOk P E) {g : Func} {cv : List Nat} {own : List Bool} {rn : List (List Nat)} {st : ASt} {r : AV} {objs : List (Nat × AObj)} (hm : Small en cv.length)
    (hf : fin E g.results.toList cv own rn st = some (r, objs)) {N : Nat} {β : Beta} {S : CellSet} {a : Act} {w : World} (hi : Inv en N β S st a w) :
    ∃ β' S' v, (results g a.tmps).run P w = .ok v w ∧ AR β' w S' v r ∧ Hv en (fun id => objs.length ≤ id) β' S' w (mkHeap 0 objs) := by
  unfold fin at hf
  split at hf
  · simp at hf
  · rename_i vs l1 h1
    split at hf
    · simp at hf
    · rename_i vs1 wr l2 h2
      split at hf
      · simp at hf
      · rename_i pl h3
        split at hf
        · simp at hf
        · rename_i L l3 h4
          split at hf
          · simp at hf
          · rename_i h5
            cases hf
            obtain ⟨us, g1, g2⟩ := resVals_sound hT hi _ _ _ h1
            have hv : Hv en (fun id => st.nxt ≤ id) β S w st.hp := ⟨hi.hr, hi.fr⟩
            obtain ⟨S1, k1, k2, k3, k4⟩ := freezeArgs_sound own vs us S st.hp vs1 wr _ hv (Frz.refl _) h2 g2
            obtain ⟨p1, p2⟩ := passedL_spec _ _ _ _ h3
            have hC : Coll (hputs wr st.hp) L := collect_sound 64 _ pl L _ ⟨fun j id ver o hj => (p2 j id ver o hj).2, fun i j id ver o id' ver' o' hi hj he => by
              have := (p2 i id ver o hi).1
              have := (p2 j id' ver' o' hj).1
              omega⟩ h4
            have hpre := collect_prefix 64 _ pl L _ h4
            -- the placements under the new names
            let β' : Beta := fun j v => if v = cv.getD j 0 then (match L[j]? with | some (id, ver, _) => β id ver | none => none) else (if j < cv.length ∧ v = 0 then β j 0 else none)
            have hβ : ∀ (j : Nat) id ver o, L[j]? = some (id, ver, o) → β' j (cv.getD j 0) = β id ver := by
              intro j id ver o hj
              show (if cv.getD j 0 = cv.getD j 0 then (match L[j]? with | some (id, ver, _) => β id ver | none => none) else _) = _
              rw [if_pos rfl, hj]
            have hgm : ∀ id ver i v p, expRef cv 0 L id ver = some (i, v) → β id ver = some p → β' i v = some p := by
              intro id ver i v p e1 e2
              obtain ⟨rfl, _, o, e3⟩ := expRef_spec cv L 0 id ver i v e1
              simp only [Nat.sub_zero] at e3
              rw [hβ i id ver o e3]; exact e2
            have hlen : (expObjs cv (expRef cv 0 L) 0 L).length = L.length := by
              have : ∀ (L : Heap) k g, (expObjs cv g k L).length = L.length := by
                intro L
                induction L with
                | nil => intro k g; rfl
                | cons x r ih => intro k g; obtain ⟨i, v, o⟩ := x; simp [expObjs, ih]
              exact this L 0 _
            have hget : ∀ j v o, hget (mkHeap 0 (expObjs cv (expRef cv 0 L) 0 L)) j = some (v, o) → v = cv.getD j 0 ∧ ∃ id ver o', L[j]? = some (id, ver, o') ∧ o = o'.mapRef (expRef cv 0 L) := by
              intro j v o hj
              rw [hget_mkHeap] at hj
              simp only [Nat.zero_le, if_true, Nat.sub_zero] at hj
              rw [expObjs_get] at hj
              cases hL : L[j]? with
              | none => rw [hL] at hj; simp at hj
              | some x =>
                obtain ⟨id, ver, o'⟩ := x
                rw [hL] at hj
                simp at hj
                exact ⟨by simpa using hj.1.symm, id, ver, o', rfl, hj.2.symm⟩
            refine ⟨β', S1, _, run_results g g1, (oneOf_AR (normRes_sound rn us vs1 k3)).mapRef hgm, ⟨⟨?_, ?_, ?_, ?_, ?_, k1.hr.low⟩, ⟨k1.fr.blocks, k1.fr.size, k1.fr.sub, k1.fr.fresh, ?_, k1.fr.out, ?_⟩⟩⟩
            · intro j v o hj
              obtain ⟨rfl, id, ver, o', e1, rfl⟩ := hget j v o hj
              exact (k1.hr.obj _ _ _ (hC.get _ _ _ _ e1)).mapRef hgm (fun p hp => by rw [hβ j id ver o' e1]; exact hp)
            · intro j hj
              have hj' : L.length ≤ j := by rw [← hlen]; exact hj
              have hn : L[j]? = none := List.getElem?_eq_none hj'
              have hcl : cv.length ≤ L.length := by
                rw [← p1]
                cases hpl : pl.length with
                | zero => omega
                | succ n =>
                  have := hpre n _ (List.getElem?_eq_getElem (show n < pl.length by omega))
                  have := (List.getElem?_eq_some_iff.1 this).1
                  omega
              refine ⟨?_, fun v => ?_⟩
              · rw [hget_mkHeap]
                simp only [Nat.zero_le, if_true, Nat.sub_zero]
                rw [expObjs_get, hn]; rfl
              · show (if v = cv.getD j 0 then (match L[j]? with | some (id, ver, _) => β id ver | none => none) else (if j < cv.length ∧ v = 0 then β j 0 else none)) = none
                rw [hn]
                split
                · rfl
                · rw [if_neg (by omega)]
            · intro j v o hj u hu
              obtain ⟨rfl, id, ver, o', e1, rfl⟩ := hget j v o hj
              show (if u = cv.getD j 0 then _ else (if j < cv.length ∧ u = 0 then β j 0 else none)) = none
              rw [if_neg (by omega), if_neg (by omega)]
            · intro j v o p hj ho hp1 hp2 k
              obtain ⟨rfl, id, ver, o', e1, rfl⟩ := hget j v o hj
              rw [owned_mapRef] at ho
              rw [hβ j id ver o' e1] at hp1
              exact k1.hr.own _ _ _ _ (hC.get _ _ _ _ e1) ho hp1 hp2 k
            · intro j v o p j' v' o2 p' hj ho hp1 hp2 hj' ho' hp1' hp2' hne
              obtain ⟨rfl, id, ver, o', e1, rfl⟩ := hget j v o hj
              obtain ⟨rfl, id', ver', o'', e1', rfl⟩ := hget j' v' o2 hj'
              rw [owned_mapRef] at ho ho'
              rw [hβ j id ver o' e1] at hp1
              rw [hβ j' id' ver' o'' e1'] at hp1'
              exact k1.hr.inj _ _ _ _ _ _ _ _ (hC.get _ _ _ _ e1) ho hp1 hp2 (hC.get _ _ _ _ e1') ho' hp1' hp2' (fun e => hne (hC.nodup _ _ _ _ _ _ _ _ e1 e1' e))
            · intro j v o p hj ho hp1 hp2
              obtain ⟨rfl, id, ver, o', e1, rfl⟩ := hget j v o hj
              rw [owned_mapRef] at ho
              rw [hβ j id ver o' e1] at hp1
              exact k1.fr.ownf _ _ _ _ (hC.get _ _ _ _ e1) ho hp1 hp2
            · intro j p hj
              have hjk := hm j p hj
              have hjp : j < pl.length := by omega
              have hx := List.getElem?_eq_getElem hjp
              have hx' : pl[j]? = some (pl[j].1, pl[j].2.1, pl[j].2.2) := hx
              obtain ⟨q1, q2⟩ := p2 j _ _ _ hx'
              have hLj := hpre j _ hx'
              have hb0 := k1.fr.beta0 j p hj
              show (if 0 = cv.getD j 0 then (match L[j]? with | some (id, ver, _) => β id ver | none => none) else (if j < cv.length ∧ 0 = 0 then β j 0 else none)) = some p
              by_cases hc : 0 = cv.getD j 0
              · rw [if_pos hc, hLj]
                have hv0 := cvOk_spec cv pl h5 j _ _ _ hx' hjk hc.symm
                simp only
                rw [hv0, q1, Nat.zero_add]
                exact hb0
              · rw [if_neg hc, if_pos ⟨hjk, rfl⟩]
                exact hb0

/-! ### a function's promise, from its code -/
def argTm : Nat → List AV → Tm
  | _, [] => []
  | j, a :: r => (j, a) :: argTm (j + 1) r
theorem tget_argTm : ∀ (l : List AV) (k t : Nat) v, tget (argTm k l) t = some v → k ≤ t ∧ l[t - k]? = some v
  | [], k, t, v, h => by simp [argTm, tget] at h
  | a :: r, k, t, v, h => by
    simp only [argTm, tget] at h
    by_cases e : k = t
    · subst e
      rw [if_pos rfl] at h
      cases h
      simp
    · rw [if_neg e] at h
      obtain ⟨h1, h2⟩ := tget_argTm r (k + 1) t v h
      refine ⟨by omega, ?_⟩
      rw [show t - k = (t - (k + 1)) + 1 by omega]
      simpa using h2

def initSt (args : List AV) (objs : List AObj) : ASt := ⟨argTm 0 args, mkHeap 0 (zeroVer objs), objs.length⟩

theorem entOf_small (w : World) (S : CellSet) (β : Beta) (objs : List AObj) : Small (entOf w S β objs) objs.length := by
  intro j p h
  have h' : (if j < objs.length then β j 0 else none) = some p := h
  by_cases c : j < objs.length
  · exact c
  · rw [if_neg c] at h'; simp at h'

theorem spec_of0 {f : FuncId} {g : Func} {c : Code} (hf : P.funcs[f]? = some g) (hb : g.body = some c)
    {F : List AV → List AObj → Option (AV × List (Nat × AObj))}
    (H : ∀ args objs r objs', F args objs = some (r, objs') → ∀ (w : World) (S : CellSet) (β : Beta) (vals : List Value), ARs β w S vals args → HR β w S (mkHeap 0 (zeroVer objs)) (fun id => objs.length ≤ id) →
      ∃ E : Env, EOkM P E (entOf w S β objs) ∧ g.ntmps = E.N ∧ args.length ≤ E.N ∧
      Ex P E (entOf w S β objs) [.code c] (initSt args objs) (fun st => ∃ cv own rn, cv.length = objs.length ∧ fin E g.results.toList cv own rn st = some (r, objs'))) : Spec P f F := by
  intro args objs r objs' hF w S β vals hargs hHR
  obtain ⟨E, hE, hN, hal, hex⟩ := H args objs r objs' hF w S β vals hargs hHR
  have hlenZ : (zeroVer objs).length = objs.length := by simp [zeroVer]
  have hinv : Inv (entOf w S β objs) E.N β S (initSt args objs) { tmps := vals.toArray ++ Array.replicate (g.ntmps - vals.toArray.size) undef, defers := [] } w := by
    refine ⟨fun t v ht => ?_, hHR, ⟨fun b h1 h2 => rfl, Nat.le_refl _, fun b k h => h, fun b k h => .inl h, ?_, ⟨rfl, rfl⟩, ?_⟩, ?_, rfl⟩
    · have ht' : tget (argTm 0 args) t = some v := ht
      obtain ⟨_, h2⟩ := tget_argTm args 0 t v ht'
      simp only [Nat.sub_zero] at h2
      have hlt : t < vals.length := by rw [hargs.1]; exact (List.getElem?_eq_some_iff.1 h2).1
      have hx := List.getElem?_eq_getElem hlt
      have : (vals.toArray ++ Array.replicate (g.ntmps - vals.toArray.size) undef).getD t undef = vals[t] := by
        rw [Array.getD_eq_getD_getElem?, Array.getElem?_append_left (by simpa using hlt)]
        simp [hlt]
      rw [this]
      exact hargs.2 t _ v hx h2
    · intro id ver o p hid ho hp1 hp2
      right
      have hid' : hget (mkHeap 0 (zeroVer objs)) id = some (ver, o) := hid
      rw [hget_mkHeap] at hid'
      simp only [Nat.zero_le, if_true, Nat.sub_zero, zeroVer, List.getElem?_map, Option.map_eq_some_iff, Prod.mk.injEq] at hid'
      obtain ⟨o', e1, rfl, rfl⟩ := hid'
      exact ⟨id, o', p, e1, ho, hp1, hp2, rfl⟩
    · intro j p hj
      have hj' : (if j < objs.length then β j 0 else none) = some p := hj
      split at hj'
      · exact hj'
      · simp at hj'
    · have hvl : vals.length ≤ g.ntmps := by rw [hargs.1, hN]; exact hal
      simp; omega
  have hrun := hex β S _ w hinv
  intro cs
  obtain ⟨a', w', todo, ⟨β', S', st', ⟨cv, own, rn, hcv, hfin⟩, hi'⟩, hs⟩ := hrun { (default : Frame) with fn := f, kind := .normal } cs
  obtain ⟨β'', S'', v, r1, r2, r3⟩ := fin_sound hE.toTyOk (g := g) (by rw [hcv]; exact entOf_small w S β objs) hfin hi'
  have henter : Frame.enter P f vals.toArray .normal =
      ({ (default : Frame) with fn := f, kind := .normal }).at { tmps := vals.toArray ++ Array.replicate (g.ntmps - vals.toArray.size) undef, defers := [] } [.code c] := by
    simp [Frame.enter, Frame.at, hf, hb]
  refine ⟨.returned v, w', { ({ (default : Frame) with fn := f, kind := .normal } : Frame).at a' todo with mode := .returning }, ⟨β'', S'', v, rfl, r2, r3⟩, ?_, rfl, ?_⟩
  · rw [henter]; exact hs
  · exact ⟨rfl, hi'.defers, rfl, g, hf, r1⟩

theorem spec_of (hE : ∀ en, EOkM P E en) {f : FuncId} {g : Func} {c : Code} (hf : P.funcs[f]? = some g) (hb : g.body = some c) (hN : g.ntmps = E.N)
    {F : List AV → List AObj → Option (AV × List (Nat × AObj))}
    (H : ∀ args objs r objs', F args objs = some (r, objs') → ∀ en, Small en objs.length → args.length ≤ E.N ∧
      Ex P E en [.code c] (initSt args objs) (fun st => ∃ cv own rn, cv.length = objs.length ∧ fin E g.results.toList cv own rn st = some (r, objs'))) : Spec P f F :=
  spec_of0 hf hb (fun args objs r objs' hF w S β vals _ _ => by
    obtain ⟨h1, h2⟩ := H args objs r objs' hF (entOf w S β objs) (entOf_small w S β objs)
    exact ⟨E, hE _, hN, h1, h2⟩)

end
end Go.Ax
end
section
namespace Go.Ax
theorem tok_of {P : Program} {t : Nat} {ti : TI} {z : Value} {zs : List Value}
    (h : (P.info? t).map (fun i => (i.size, i.bytes, i.zero)) = some (ti.size, ti.bytes, some z))
    (h1 : z.cells = zs.toArray) (h2 : ti.zero = zs.map D.lit) (h3 : zs.all one = true) (h4 : zs.length = ti.size)
    (hu : ∃ d, P.underlying t = some d ∧ KOk ti.kind d) : TOk P t ti := by
  cases hi : P.info? t with
  | none => rw [hi] at h; simp at h
  | some i =>
    rw [hi] at h
    simp at h
    exact ⟨⟨i, z, hi, h.1, h.2.1, h.2.2, zs, h1, h2, h3, h4⟩, hu⟩
end Go.Ax
end
