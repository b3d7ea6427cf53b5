import Derived.Test.YtkncekndhklmhaaP00
/- A part of the proof of a law: steps of the program on plain data, and plain facts about them; no condition. -/
set_option linter.unusedVariables false
set_option linter.unusedSimpArgs false
section
namespace Go.Ax
set_option linter.unusedSimpArgs false
set_option linter.unusedVariables false

section ops
variable {P : Program} {E : Env} {en : Ent} {Fr : Nat → Prop} {β : Beta} {S : CellSet} {w : World} {hp : Heap} {base : Nat}
variable {ρc : Operand → Value} {ρ : Operand → Option AV}

theorem allCell_spec : ∀ {l : List AV}, allCell l = true → ∀ c ∈ l, c.cell = true
  | [], h, c, hc => by simp at hc
  | x :: l, h, c, hc => by
    simp only [allCell] at h
    split at h
    · rename_i hx
      rcases List.mem_cons.1 hc with rfl | hc
      · exact hx
      · exact allCell_spec h c hc
    · simp at h
theorem known_of_cells {a : AV} (h : allCell a.cells = true) : a.known = true := by
  cases a <;> simp_all [AV.known, AV.cells, allCell, AV.cell]
theorem cells_all_one {β w S vs cs} (h : ARs β w S vs cs) (hc : allCell cs = true) : ∀ v ∈ vs, Ax.one v = true := by
  intro v hv
  obtain ⟨i, hi⟩ := List.getElem?_of_mem hv
  have hlt : i < cs.length := by rw [← h.1]; exact (List.getElem?_eq_some_iff.1 hi).1
  have hci := List.getElem?_eq_getElem hlt
  exact (h.2 i v _ hi hci).one (allCell_spec hc _ (List.mem_of_getElem? hci))

theorem hget_hputs_not : ∀ (wr : Heap) (hp : Heap) (id : Nat), inIds id wr = false → hget (hputs wr hp) id = hget hp id
  | [], hp, id, h => rfl
  | (j, v, o) :: wr, hp, id, h => by
    simp only [inIds] at h
    split at h
    · simp at h
    · rename_i hne
      simp only [hputs]
      rw [hget_hputs_not wr _ id h, hget_hset, if_neg (fun e => hne e.symm)]

theorem idx_other {i row sz j col n : Nat} (hj : j < sz) (hc : col + n ≤ sz) (hne : i ≠ row) : ¬ (row * sz + col ≤ i * sz + j ∧ i * sz + j < row * sz + col + n) := by
  rintro ⟨h1, h2⟩
  rcases Nat.lt_or_gt_of_ne hne with h | h
  · have := Nat.mul_le_mul_right sz (show i + 1 ≤ row from h)
    rw [Nat.add_mul] at this
    omega
  · have := Nat.mul_le_mul_right sz (show row + 1 ≤ i from h)
    rw [Nat.add_mul] at this
    omega

theorem storeA_sound (hT : TyOk P E) (h : Hv en Fr β S w hp) {t : TypeId} {ti : TI} (ht : E.T t = some ti) {va vx : Value} {a x : AV} {wr : Heap} {l : List Nat} (ha : AR β w S va a) (hx : AR β w S vx x)
    (he : storeA ti x a (hget hp) = some (wr, l)) : ∃ S' w', (Instr.storeAt t va vx).run P w = .ok () w' ∧ Hv en Fr β S' w' (hputs wr hp) ∧ Incl S S' ∧ Keeps w w' S := by
  cases a with
  | ptr id ver row col =>
    simp only [storeA, M.bind_some, look_some, M.need_some, Prod.exists, decide_eq_true_eq] at he
    obtain ⟨v1, ob, l1, x1, l2, ⟨h1, _⟩, ⟨_, l3, x2, l4, ⟨h2, _⟩, ⟨_, l5, x3, l6, ⟨h3, _⟩, ⟨_, l7, x4, l8, ⟨h4, _⟩, h5, e5⟩, e4⟩, e3⟩, e2⟩ := he
    subst h2
    simp only [Prod.mk.injEq] at e2 e3 e4 e5
    obtain ⟨rfl, _⟩ := e5
    obtain ⟨rfl, _⟩ := e4
    obtain ⟨rfl, _⟩ := e3
    obtain ⟨rfl, _⟩ := e2
    cases ha with
    | ptr _ _ _ _ p hp1 hv =>
    have hxk := known_of_cells h4
    have hxs := hx.cellsL hxk
    have hones := cells_all_one hxs h4
    have hsz : vx.cells.toList.length = ti.size := by rw [hxs.1, h3]
    have hob := h.hr.obj _ _ _ h1
    have hstore : ∀ w' o', (storeCells (at_ p.blk o') vx.cells.toList).run P w = .ok () w' → (Instr.storeAt t (.pointer (some (at_ p.blk o'))) vx).run P w = .ok () w' := by
      intro w' o' hr
      have hsz2 : vx.cells.size = ti.size := by simpa using hsz
      simp [Instr.storeAt, Instr.sureAddr, storeVar, run_sizeOf' (hT.ty _ _ ht), hsz2, hr]
    cases ob with
    | dead => simp [M.fail] at h5
    | fro => simp [M.fail] at h5
    | box cells =>
      simp only [M.bind_some, M.need_some, M.lift_some, M.pure_some, Prod.exists, decide_eq_true_eq] at h5
      obtain ⟨_, l9, y, l10, ⟨rfl, _⟩, ⟨cs, l11, y2, l12, ⟨h6, _⟩, h7, e7⟩, e6⟩ := h5
      simp only [Prod.mk.injEq] at e6 e7 h7
      obtain ⟨rfl, _⟩ := h7
      obtain ⟨rfl, _⟩ := e7
      obtain ⟨rfl, _⟩ := e6
      obtain ⟨p', c, t', b1, b2, b3, b4, b5, b6, b7⟩ := hob
      rw [hp1] at b1; cases b1
      obtain ⟨s1, s2, s3⟩ := splice_spec _ _ _ _ h6
      have hb0 : p.base + 0 * p.sz + col = col := by simp [b3]
      obtain ⟨w', c', r1, r2, r3, r4, r5, r6, r7, r8⟩ := run_storeCells (P := P) p.blk col t' vx.cells.toList 0 c w b5 hones (by rw [hxs.1]; omega)
      have hblk : ∀ b, b < w.heap.size → ¬ Mine β hp id b → w'.heap[b]? = w.heap[b]? := fun b _ hm => r5 b (fun e => hm (e ▸ ⟨v1, _, p, h1, rfl, hp1, hv, rfl⟩))
      have hk := h.keeps hblk
      refine ⟨S, w', by rw [hb0]; exact hstore w' col r1, ?_, Incl.refl S, hk⟩
      refine (h.put (Fr' := Fr) id v1 (.box cs) (BIncl.refl β) (fun _ _ _ => rfl) (h.hr.ver _ _ _ h1) hblk (by omega) (Incl.refl S) (fun b k hs => .inl hs) ?_ ?_ ⟨r7, r8⟩ ?_).1
      · refine ⟨p, c', t', hp1, b2, b3, by rw [s1]; exact b4, r2, by rw [r3, b6, s1], fun i v a hv ha => ?_⟩
        rw [r4 i] at hv
        rw [s3 i] at ha
        simp only [Nat.add_zero, hxs.1] at hv
        by_cases hi : col ≤ i ∧ i < col + x.cells.length
        · rw [if_pos hi] at hv ha
          exact (hxs.2 _ v a hv ha).mono (BIncl.refl β) hk (Incl.refl S)
        · rw [if_neg hi] at hv ha
          exact (b7 i v a hv ha).mono (BIncl.refl β) hk (Incl.refl S)
      · intro _ q hq _
        rw [hp1] at hq; cases hq
        exact ⟨.inl ⟨v1, _, p, h1, rfl, hp1, hv, rfl⟩, fun k => h.hr.own _ _ _ _ h1 rfl hp1 hv k⟩
      · intro i hf
        refine ⟨hf, fun e => ?_⟩
        subst e; rw [(h.hr.new _ hf).1] at h1; simp at h1
    | arr sz rows =>
      simp only [M.bind_some, M.need_some, M.lift_some, M.pure_some, Prod.exists] at h5
      obtain ⟨xs, w1, l9, y, l10, h6, ⟨_, l11, y2, l12, ⟨h7, _⟩, ⟨r, l13, y3, l14, ⟨h8, _⟩, ⟨r', l15, y4, l16, ⟨h9, _⟩, h10, e10⟩, e9⟩, e8⟩, e7⟩ := h5
      simp only [Prod.mk.injEq] at e7 e8 e9 e10 h10
      obtain ⟨rfl, _⟩ := h10
      obtain ⟨rfl, _⟩ := e10
      obtain ⟨rfl, _⟩ := e9
      obtain ⟨rfl, _⟩ := e8
      obtain ⟨rfl, _⟩ := e7
      obtain ⟨S1, k1, k2, k3, k4⟩ := cellsD_sound x.cells vx.cells.toList S hp xs w1 _ h (Frz.refl hp) h6 hxs
      have h1' : hget (hputs w1 hp) id = some (v1, .arr sz rows) := by
        rw [hget_hputs_not w1 hp id (by simpa using h7)]; exact h1
      have k3' := FRs.norm ti.norm _ _ k3
      obtain ⟨s1, s2, s3⟩ := spliceD_spec _ _ _ _ h9
      have hob1 := k1.hr.obj _ _ _ h1'
      obtain ⟨p', b1, b2, b3, b4, b5⟩ := hob1
      rw [hp1] at b1; cases b1
      obtain ⟨c, t', c1, c2, c3, c4⟩ := b5 hv
      have hrl : r.length = sz := b3 r (List.mem_of_getElem? h8)
      have hrow : row < rows.length := (List.getElem?_eq_some_iff.1 h8).1
      have hmul := Nat.mul_le_mul_right sz (show row + 1 ≤ rows.length from hrow)
      rw [Nat.add_mul] at hmul
      have hnl : (normD ti.norm xs).length = vx.cells.toList.length := k3'.1.symm
      obtain ⟨w', c', r1, r2, r3, r4, r5, r6, r7, r8⟩ := run_storeCells (P := P) p.blk (p.base + row * sz + col) t' vx.cells.toList 0 c w c1 hones (by omega)
      have hblk : ∀ b, b < w.heap.size → ¬ Mine β (hputs w1 hp) id b → w'.heap[b]? = w.heap[b]? := fun b _ hm => r5 b (fun e => hm (e ▸ ⟨v1, _, p, h1', rfl, hp1, hv, rfl⟩))
      have hk := k1.keeps hblk
      refine ⟨S1, w', by rw [b2]; exact hstore w' _ r1, ?_, k2, fun b k hs => hk b k (k2 _ _ hs)⟩
      rw [hputs_append]
      refine (k1.put (Fr' := Fr) id v1 (.arr sz (rows.set row r')) (BIncl.refl β) (fun _ _ _ => rfl) (k1.hr.ver _ _ _ h1') hblk (by omega) (Incl.refl S1) (fun b k hs => .inl hs) ?_ ?_ ⟨r7, r8⟩ ?_).1
      · refine ⟨p, hp1, b2, ?_, fun hvt => by rw [hv] at hvt; simp at hvt, fun _ => ⟨c', t', r2, by rw [r3]; exact c2, by simpa using c3, fun i j rr d hrr hd => ?_⟩⟩
        · intro rr hrr
          rcases List.mem_or_eq_of_mem_set hrr with hm | rfl
          · exact b3 rr hm
          · rw [s1]; exact hrl
        · rw [r4]
          simp only [Nat.add_zero]
          by_cases hir : i = row
          · subst hir
            rw [List.getElem?_set_self hrow] at hrr
            cases hrr
            have hjl : j < sz := by rw [← hrl, ← s1]; exact (List.getElem?_eq_some_iff.1 hd).1
            rw [s3 j] at hd
            by_cases hj : col ≤ j ∧ j < col + (normD ti.norm xs).length
            · rw [if_pos hj] at hd
              rw [if_pos (by omega), show p.base + (i * sz + j) - (p.base + i * sz + col) = j - col by omega]
              have hlt : j - col < vx.cells.toList.length := by omega
              exact ⟨_, List.getElem?_eq_getElem hlt, (k3'.2 (j - col) _ d (List.getElem?_eq_getElem hlt) hd).mono hk (Incl.refl S1)⟩
            · rw [if_neg hj] at hd
              rw [if_neg (by omega)]
              obtain ⟨v, e1, e2⟩ := c4 i j r d h8 hd
              exact ⟨v, e1, e2.mono hk (Incl.refl S1)⟩
          · rw [List.getElem?_set_ne (fun e => hir e.symm)] at hrr
            have hjl : j < sz := by rw [← b3 rr (List.mem_of_getElem? hrr)]; exact (List.getElem?_eq_some_iff.1 hd).1
            have := idx_other (n := vx.cells.toList.length) hjl (by omega : col + vx.cells.toList.length ≤ sz) hir
            rw [if_neg (by omega)]
            obtain ⟨v, e1, e2⟩ := c4 i j rr d hrr hd
            exact ⟨v, e1, e2.mono hk (Incl.refl S1)⟩
      · intro _ q hq _
        rw [hp1] at hq; cases hq
        exact ⟨.inl ⟨v1, _, p, h1', rfl, hp1, hv, rfl⟩, fun k => k1.hr.own _ _ _ _ h1' rfl hp1 hv k⟩
      · intro i hf
        refine ⟨hf, fun e => ?_⟩
        subst e; rw [(k1.hr.new _ hf).1] at h1'; simp at h1'
  | d => simp [storeA, M.fail] at he
  | agg => simp [storeA, M.fail] at he
  | tup => simp [storeA, M.fail] at he
  | sv => simp [storeA, M.fail] at he
  | fp => simp [storeA, M.fail] at he
  | clo => simp [storeA, M.fail] at he
  | top => simp [storeA, M.fail] at he

theorem op_store (hT : TyOk P E) (h : Hv en Fr β S w hp) (hρ : ∀ x v, ρ x = some v → AR β w S (ρc x) v) {t : TypeId} {a x : Operand} {v : AV} {wr : Heap} {l : List Nat} {o : Oper} (ho : o.op = .store t a x)
    (he : evalOp0 E base ρ (.store t a x) (hget hp) = some ((v, wr), l)) : OpRes P en Fr base β S w hp (execOp ρc o) v wr := by
  simp only [evalOp0, M.bind_some, M.lift_some, M.pure_some, Prod.exists, Prod.mk.injEq] at he
  obtain ⟨ti, l1, v', wr', l2, ⟨h1, _⟩, ⟨va, l3, v3, wr3, l4, ⟨h2, _⟩, ⟨vx, l5, v5, wr5, l6, ⟨h3, _⟩, ⟨w1, l7, v7, wr7, l8, h4, ⟨⟨rfl, rfl⟩, _⟩, ⟨⟨rfl, rfl⟩, _⟩⟩, ⟨⟨rfl, rfl⟩, _⟩⟩, ⟨⟨rfl, rfl⟩, _⟩⟩, ⟨⟨rfl, rfl⟩, _⟩⟩ := he
  obtain ⟨S', w', r1, r2, r3, r4⟩ := storeA_sound hT h h1 (hρ a _ h2) (hρ x _ h3) h4
  exact ⟨β, S', w', undef, .inr ⟨by simp [execOp, ho, r1], rfl⟩, .top _, r2.weakFr (fun i hi => hi.1), BIncl.refl β, r3, r4⟩

end ops
end Go.Ax
end
section
namespace Go.Ax
set_option linter.unusedSimpArgs false
set_option linter.unusedVariables false

section ops
variable {P : Program} {E : Env} {en : Ent} {Fr : Nat → Prop} {β : Beta} {S : CellSet} {w : World} {hp : Heap} {base : Nat}
variable {ρc : Operand → Value} {ρ : Operand → Option AV}

theorem run_mapM_list {α γ : Type} (f : α → Sem γ) (g : α → γ) : ∀ (l : List α), (∀ x ∈ l, (f x).run P w = .ok (g x) w) → (l.mapM f).run P w = .ok (l.map g) w
  | [], _ => by simp
  | x :: l, h => by
    have h1 := h x (by simp)
    have h2 := run_mapM_list f g l (fun y hy => h y (by simp [hy]))
    simp [List.mapM_cons, h1, h2]

theorem run_mapM_arr {α γ : Type} (f : α → Sem γ) (g : α → γ) (a : Array α) (h : ∀ x ∈ a.toList, (f x).run P w = .ok (g x) w) : (a.mapM f).run P w = .ok (a.toList.map g).toArray w := by
  rw [Array.mapM_eq_mapM_toList]
  simp only [Sem.run_map, run_mapM_list f g a.toList h, Result.andThen_ok]

theorem op_build (hT : TyOk P E) (h : Hv en Fr β S w hp) (hρ : ∀ x v, ρ x = some v → AR β w S (ρc x) v) {t : TypeId} {parts : Array (Nat × Operand)} {v : AV} {wr : Heap} {l : List Nat} {o : Oper} (ho : o.op = .build t parts)
    (he : evalOp0 E base ρ (.build t parts) (hget hp) = some ((v, wr), l)) : OpRes P en Fr base β S w hp (execOp ρc o) v wr := by
  simp only [evalOp0, M.bind_some, M.lift_some, M.need_some, Prod.exists, Prod.mk.injEq] at he
  obtain ⟨ti, l1, v', wr', l2, ⟨h1, _⟩, ⟨ps, l3, v3, wr3, l4, ⟨h2, _⟩, ⟨_, l5, v5, wr5, l6, ⟨hkn, _⟩, h3, ⟨rfl, rfl⟩, _⟩, ⟨rfl, rfl⟩, _⟩, ⟨rfl, rfl⟩, _⟩ := he
  have hti := hT.ty _ _ h1
  obtain ⟨z, zs, z1, z2, z3, z4, z5⟩ := run_zeroValue (w := w) hti
  have hz : ARs β w S z.cells.toList (ti.zero.map AV.d) := by rw [z2, z3]; exact lits_AR z4
  have hps := evalParts_sound hρ _ _ h2
  have hkn' : ∀ x ∈ ps, x.2.known = true := by simpa using hkn
  obtain ⟨d, d1, d2⟩ := hti.und
  cases hk : ti.kind with
  | struct fs =>
    rw [hk] at h3
    simp only [M.bind_some, M.lift_some, M.need_some, M.pure_some, Prod.exists, Prod.mk.injEq] at h3
    obtain ⟨_, l7, v7, wr7, l8, ⟨hall, _⟩, ⟨cs, l9, v9, wr9, l10, ⟨h4, _⟩, ⟨⟨rfl, rfl⟩, _⟩, ⟨⟨rfl, rfl⟩, _⟩⟩, ⟨⟨rfl, rfl⟩, _⟩⟩ := h3
    rw [hk] at d2
    obtain ⟨fields, rfl, hf⟩ := d2
    have hsize : ∀ f ∈ fields.toList, ∃ fi, E.T f.type = some fi := by
      intro f hfm
      have : (f.type, f.offset) ∈ fs := by rw [← hf]; exact List.mem_map.2 ⟨f, hfm, rfl⟩
      have := List.all_eq_true.1 hall _ this
      exact Option.isSome_iff_exists.1 (by simpa using this)
    have hpl : (fields.mapM fun f => (do pure (f.offset, ← sizeOf f.type) : Sem (Nat × Nat))).run P w = .ok (fields.toList.map (fun f => (f.offset, ((E.T f.type).map (·.size)).getD 0))).toArray w := by
      refine run_mapM_arr _ _ _ (fun f hfm => ?_)
      obtain ⟨fi, hfi⟩ := hsize f hfm
      simp [run_sizeOf' (hT.ty _ _ hfi), hfi]
    obtain ⟨c', f1, f2⟩ := fills_sound (place := placeOf E fs)
      (pl := fun i => ((fields.toList.map (fun f => (f.offset, ((E.T f.type).map (·.size)).getD 0))).toArray)[i]?) (by
        intro i x hx
        unfold placeOf at hx
        split at hx
        · simp at hx
        · rename_i ft off hfo
          split at hx
          · rename_i fi hfi
            cases hx
            rw [← hf] at hfo
            simp only [List.getElem?_map, Option.map_eq_some_iff] at hfo
            obtain ⟨f, hf1, hf2⟩ := hfo
            cases hf2
            simp only [List.getElem?_toArray, List.getElem?_map, hf1, Option.map_some, hfi, Option.getD_some]
          · simp at hx) _ _ z.cells _ cs hps hz h4 hkn'
    refine OpRes.pure h (val := .agg c') ?_ (by simpa using f2.agg)
    simp only [execOp, ho, Instr.build, Sem.run_bind, z1, Result.andThen_ok, run_underlying d1, hpl]
    have : (parts.map fun x => (x.1, ρc x.2)).toList = parts.toList.map fun x => (x.1, ρc x.2) := by simp
    simp only [this, f1]
    simp
  | array n e =>
    rw [hk] at h3
    simp only [M.bind_some, M.lift_some, M.need_some, M.pure_some, Prod.exists, Prod.mk.injEq] at h3
    obtain ⟨ei, l7, v7, wr7, l8, ⟨hei, _⟩, ⟨cs, l9, v9, wr9, l10, ⟨h4, _⟩, ⟨⟨rfl, rfl⟩, _⟩, ⟨⟨rfl, rfl⟩, _⟩⟩, ⟨⟨rfl, rfl⟩, _⟩⟩ := h3
    rw [hk] at d2
    simp only [KOk] at d2
    subst d2
    obtain ⟨c', f1, f2⟩ := fills_sound (pl := fun i => some (i * ei.size, ei.size)) (fun i x hx => hx) _ _ z.cells _ cs hps hz h4 hkn'
    refine OpRes.pure h (val := .agg c') ?_ (by simpa using f2.agg)
    simp only [execOp, ho, Instr.build, Sem.run_bind, z1, Result.andThen_ok, run_underlying d1, run_sizeOf' (hT.ty _ _ hei)]
    have : (parts.map fun x => (x.1, ρc x.2)).toList = parts.toList.map fun x => (x.1, ρc x.2) := by simp
    simp only [this, f1]
    simp
  | int => rw [hk] at h3; simp [M.fail] at h3
  | bool => rw [hk] at h3; simp [M.fail] at h3
  | str => rw [hk] at h3; simp [M.fail] at h3
  | slice => rw [hk] at h3; simp [M.fail] at h3
  | ptr => rw [hk] at h3; simp [M.fail] at h3
  | other => rw [hk] at h3; simp [M.fail] at h3

theorem ints_inv {β w S} : ∀ (n : Nat) (cs ds : List AV) (b : Bool) (vs us : List Value), intsEq n cs ds = some b → ARs β w S vs cs → ARs β w S us ds →
    ∃ xs ys : List Int, vs = xs.map (Value.int .i64) ∧ us = ys.map (Value.int .i64) ∧ xs.length = n ∧ ys.length = n ∧ b = decide (xs = ys)
  | 0, [], [], b, vs, us, h, hv, hu => by
    simp [intsEq] at h; subst h
    exact ⟨[], [], by simp [hv.inv_nil], by simp [hu.inv_nil], rfl, rfl, rfl⟩
  | 0, [], d :: ds, b, vs, us, h, hv, hu => by simp [intsEq] at h
  | 0, c :: cs, ds, b, vs, us, h, hv, hu => by simp [intsEq] at h
  | n + 1, cs, ds, b, vs, us, h, hv, hu => by
    unfold intsEq at h
    split at h
    · rename_i h0; simp at h0
    · rename_i x1 x2 x3 n' a r b' s hn
      cases hn
      split at h
      · rename_i t ht
        simp only [Option.some.injEq] at h
        obtain ⟨v, vs', rfl, hv1, hv2⟩ := hv.inv_cons
        obtain ⟨u, us', rfl, hu1, hu2⟩ := hu.inv_cons
        obtain ⟨xs, ys, e1, e2, e3, e4, e5⟩ := ints_inv n _ _ _ _ _ ht hv2 hu2
        refine ⟨a :: xs, b' :: ys, by rw [hv1.lit_inv, e1]; rfl, by rw [hu1.lit_inv, e2]; rfl, by simp [e3], by simp [e4], ?_⟩
        rw [← h, e5]
        by_cases hab : a = b' <;> simp [hab]
      · simp at h
    · simp at h

def notIA : Value → Bool
  | .nilIface => false
  | .agg _ => false
  | _ => true

theorem run_eqGuard_lit (op : BinOp) (t : TypeId) (x y : Operand) (a b : Value) (ha : notIA a = true) :
    (eqGuard op t x y a b).run P w = .ok () w := by
  unfold eqGuard
  cases op <;> cases a <;> simp_all [notIA]

theorem binV_sound {op : BinOp} {v u r : Value} (h : binV op v u = some r) (t : TypeId) : (binOp op t v u).run P w = .ok r w ∧ Ax.one r = true ∧ notIA v = true := by
  unfold binV at h
  split at h
  · rename_i k a k' b
    cases op
    case shl =>
      simp only at h
      split at h
      · rename_i hb
        simp at hb
        cases h
        refine ⟨?_, rfl, rfl⟩
        have : ¬ b < 0 := by omega
        simp [binOp, Op.shift, this]
      · simp at h
    case shr =>
      simp only at h
      split at h
      · rename_i hb
        simp at hb
        cases h
        refine ⟨?_, rfl, rfl⟩
        have : ¬ b < 0 := by omega
        simp [binOp, Op.shift, this]
      · simp at h
    all_goals
      by_cases hk : k = k'
      · subst hk
        first
          | (simp only [decide_true, Option.some.injEq] at h; subst h; exact ⟨by simp [binOp, Op.intArith, Op.intCmp, Op.intBits], rfl, rfl⟩)
          | (by_cases hb : b = 0
             · simp [hb] at h
             · simp only [decide_true, hb, decide_false, Option.some.injEq] at h
               subst h
               exact ⟨by simp [binOp, Op.intDiv, hb], rfl, rfl⟩)
      · simp [hk] at h
  · simp at h

theorem run_equalIn_bool {t : TypeId} (d1 : P.underlying t = some .bool) (n : Nat) (p q : Bool) : (Op.equalIn (n + 1) t (.bool p) (.bool q)).run P w = .ok (p == q) w := by
  simp only [Op.equalIn, Sem.run_bind, run_underlying d1, Result.andThen_ok, Sem.run_pure]

theorem run_equal_bool {t : TypeId} (d1 : P.underlying t = some .bool) (p q : Bool) : (Op.equal t (.bool p) (.bool q)).run P w = .ok (p == q) w :=
  run_equalIn_bool d1 9999 p q

theorem op_binOp (hT : TyOk P E) (h : Hv en Fr β S w hp) (hρ : ∀ x v, ρ x = some v → AR β w S (ρc x) v) {op : BinOp} {t t2 : TypeId} {x y : Operand} {v : AV} {wr : Heap} {l : List Nat} {o : Oper} (ho : o.op = .binOp op t x y t2)
    (he : evalOp0 E base ρ (.binOp op t x y t2) (hget hp) = some ((v, wr), l)) : OpRes P en Fr base β S w hp (execOp ρc o) v wr := by
  simp only [evalOp0, M.bind_some, M.lift_some, M.pure_some, Prod.exists, Prod.mk.injEq] at he
  obtain ⟨a, l1, v', wr', l2, ⟨h1, _⟩, ⟨b, l3, v3, wr3, l4, ⟨h2, _⟩, ⟨r, l5, v5, wr5, l6, ⟨h3, _⟩, ⟨⟨rfl, rfl⟩, _⟩, ⟨⟨rfl, rfl⟩, _⟩⟩, ⟨⟨rfl, rfl⟩, _⟩⟩, ⟨⟨rfl, rfl⟩, _⟩⟩ := he
  have ha := hρ x _ h1
  have hb := hρ y _ h2
  unfold binA at h3
  split at h3
  · -- bools
    rename_i p q
    split at h3
    · rename_i ti hti
      obtain ⟨d, d1, d2⟩ := (hT.ty _ _ hti).und
      simp only [KOk] at d2
      subst d2
      split at h3
      · cases h3
        refine OpRes.pure h (val := .bool (p == q)) ?_ (AR.lit rfl)
        have hg := run_eqGuard_lit (P := P) (w := w) BinOp.eql t x y (.bool p) (.bool q) rfl
        simp only [execOp, ho, ha.lit_inv, hb.lit_inv]
        simp [hg, binOp, run_equal_bool d1]
      · cases h3
        refine OpRes.pure h (val := .bool (p != q)) ?_ (AR.lit rfl)
        have hg := run_eqGuard_lit (P := P) (w := w) BinOp.neq t x y (.bool p) (.bool q) rfl
        simp only [execOp, ho, ha.lit_inv, hb.lit_inv]
        simp [hg, binOp, run_equal_bool d1]
        cases p <;> cases q <;> rfl
      · simp at h3
    · simp at h3
  · rename_i u1 u2 hnb
    split at h3
    · rename_i rr hr
      cases h3
      obtain ⟨r1, r2, r3⟩ := binV_sound (P := P) (w := w) hr t
      refine OpRes.pure h (val := rr) ?_ (AR.lit r2)
      simp only [execOp, ho, ha.lit_inv, hb.lit_inv]
      simp [run_eqGuard_lit _ _ _ _ _ _ r3, r1]
    · simp at h3
  · rename_i cs ds
    split at h3
    · simp at h3
    · rename_i n hn
      split at h3
      · simp at h3
      · rename_i bb hbb
        have hq := hT.eq _ _ hn
        generalize ea : ρc x = va at ha
        generalize eb : ρc y = vb at hb
        cases ha with
        | agg vs _ n1 hh1 =>
        cases hb with
        | agg us _ n2 hh2 =>
        obtain ⟨xs, ys, e1, e2, e3, e4, e5⟩ := ints_inv n cs ds bb vs.toList us.toList hbb ⟨by simpa using n1, fun i v c hv hc => hh1 i v c (by simpa using hv) hc⟩ ⟨by simpa using n2, fun i v c hv hc => hh2 i v c (by simpa using hv) hc⟩
        have e1' : vs = (xs.map (Value.int .i64)).toArray := by rw [← e1]
        have e2' : us = (ys.map (Value.int .i64)).toArray := by rw [← e2]
        have hr := hq.eq xs ys w e3 e4
        have hg : ∀ op, (eqGuard op t x y (.agg vs) (.agg us)).run P w = .ok () w := by
          intro op
          unfold eqGuard
          cases op <;> simp [hq.guard]
        split at h3
        · cases h3
          refine OpRes.pure h (val := .bool bb) ?_ (AR.lit rfl)
          simp only [execOp, ho, ea, eb]
          simp [hg, binOp, e1', e2', hr, e5]
          rw [← e1', ← e2', hg]
          simp [e1', e2', hr]
        · cases h3
          refine OpRes.pure h (val := .bool !bb) ?_ (AR.lit rfl)
          simp only [execOp, ho, ea, eb]
          simp [hg, binOp, e1', e2', hr, e5]
          rw [← e1', ← e2', hg]
          simp [e1', e2', hr]
        · simp at h3
  · simp at h3

theorem op_unOp (h : Hv en Fr β S w hp) (hρ : ∀ x v, ρ x = some v → AR β w S (ρc x) v) {op : UnOp} {t : TypeId} {x : Operand} {v : AV} {wr : Heap} {l : List Nat} {o : Oper} (ho : o.op = .unOp op t x)
    (he : evalOp0 E base ρ (.unOp op t x) (hget hp) = some ((v, wr), l)) : OpRes P en Fr base β S w hp (execOp ρc o) v wr := by
  simp only [evalOp0, M.bind_some, M.lift_some, Prod.exists, Prod.mk.injEq] at he
  obtain ⟨a, l1, v', wr', l2, ⟨h1, _⟩, h2, ⟨rfl, rfl⟩, _⟩ := he
  have ha := hρ x _ h1
  split at h2
  · simp only [pure, M.pure, Option.some.injEq, Prod.mk.injEq] at h2
    obtain ⟨⟨rfl, rfl⟩, _⟩ := h2
    exact OpRes.pure h (by simp [execOp, ho, ha.lit_inv, Op.unary]) (AR.lit rfl)
  · simp only [pure, M.pure, Option.some.injEq, Prod.mk.injEq] at h2
    obtain ⟨⟨rfl, rfl⟩, _⟩ := h2
    exact OpRes.pure h (by simp [execOp, ho, ha.lit_inv, Op.unary, Op.intArith]) (AR.lit rfl)
  · simp [M.fail] at h2

theorem op_convert (hT : TyOk P E) (h : Hv en Fr β S w hp) (hρ : ∀ x v, ρ x = some v → AR β w S (ρc x) v) {s t : TypeId} {x : Operand} {v : AV} {wr : Heap} {l : List Nat} {o : Oper} (ho : o.op = .convert s t x)
    (he : evalOp0 E base ρ (.convert s t x) (hget hp) = some ((v, wr), l)) : OpRes P en Fr base β S w hp (execOp ρc o) v wr := by
  simp only [evalOp0, M.bind_some, M.lift_some, M.pure_some, Prod.exists, Prod.mk.injEq] at he
  obtain ⟨si, l1, v', wr', l2, ⟨h1, _⟩, ⟨ti, l3, v3, wr3, l4, ⟨h2, _⟩, ⟨a, l5, v5, wr5, l6, ⟨h3, _⟩, ⟨r, l7, v7, wr7, l8, ⟨h4, _⟩, ⟨⟨rfl, rfl⟩, _⟩, ⟨⟨rfl, rfl⟩, _⟩⟩, ⟨⟨rfl, rfl⟩, _⟩⟩, ⟨⟨rfl, rfl⟩, _⟩⟩, ⟨⟨rfl, rfl⟩, _⟩⟩ := he
  have ha := hρ x _ h3
  unfold convA at h4
  split at h4
  · rename_i ks kd ki n e1 e2
    cases h4
    obtain ⟨d, d1, d2⟩ := (hT.ty _ _ h1).und
    obtain ⟨d', d1', d2'⟩ := (hT.ty _ _ h2).und
    rw [e1] at d2
    rw [e2] at d2'
    simp only [KOk] at d2 d2'
    subst d2; subst d2'
    exact OpRes.pure h (val := .int kd (kd.wrap n)) (by simp [execOp, ho, ha.lit_inv, convert, run_underlying d1, run_underlying d1', Conv.intToInt]) (AR.lit rfl)
  · simp at h4

theorem elemOf_spec (hT : TyOk P E) {t e : Nat} {ei : TI} (h : Ax.elemOf E t = some (e, ei)) : P.underlying t = some (.slice e) ∧ TOk P e ei ∧ E.T e = some ei := by
  unfold Ax.elemOf at h
  split at h
  · rename_i e' ti hti
    split at h
    · rename_i ei' hei
      cases h
      obtain ⟨d, d1, d2⟩ := (hT.ty _ _ hti).und
      simp only [KOk] at d2
      subst d2
      exact ⟨d1, hT.ty _ _ hei, hei⟩
    · simp at h
  · simp at h

end ops
end Go.Ax
end
section
namespace Go.Ax
set_option linter.unusedSimpArgs false
set_option linter.unusedVariables false

section ops
variable {P : Program} {E : Env} {en : Ent} {Fr : Nat → Prop} {β : Beta} {S : CellSet} {w : World} {hp : Heap} {base : Nat}
variable {ρc : Operand → Value} {ρ : Operand → Option AV}

theorem asInt64_spec {β w S v a n} (h : asInt64 a = some n) (ha : AR β w S v a) : ∃ k, v = .int k n := by
  unfold asInt64 at h
  split at h
  · cases h
    exact ⟨_, ha.lit_inv⟩
  · simp at h

inductive OptV : Option Int → Option Value → Prop
  | none : OptV none none
  | some (n : Int) (k : IntKind) : OptV (some n) (some (.int k n))

theorem bounds_spec {len : Nat} {lo hi : Option Int} {l h : Nat} (hb : bounds len lo hi = some (l, h)) :
    l ≤ h ∧ h ≤ len ∧ (lo = none → l = 0) ∧ (hi = none → h = len) ∧ (∀ n, lo = some n → n = l) ∧ (∀ n, hi = some n → n = h) := by
  unfold bounds at hb
  simp only at hb
  split at hb
  · rename_i hd
    simp at hd
    cases hb
    obtain ⟨h1, h2, h3⟩ := hd
    refine ⟨by omega, by omega, ?_, ?_, ?_, ?_⟩
    · intro e; subst e; simp
    · intro e; subst e; simp
    · intro n e; subst e; simp at *; omega
    · intro n e; subst e; simp at *; omega
  · simp at hb

theorem run_sliceBound {n y : Nat} {k : IntKind} {code : BoundsCode} (h : n ≤ y) : (Instr.sliceBound (.int k (n : Int)) y code).run P w = .ok n w := by
  have : (0 : Int) ≤ n ∧ (n : Int) ≤ y := ⟨by omega, by omega⟩
  simp [Instr.sliceBound, asIntOf, this]

theorem run_sliceBounds {len cap : Nat} {lo hi : Option Int} {lov hiv : Option Value} {l h : Nat} (hb : bounds len lo hi = some (l, h)) (hlo : OptV lo lov) (hhi : OptV hi hiv) (hc : len ≤ cap) :
    (Instr.sliceBounds true len cap lov hiv none).run P w = .ok (l, h, cap) w := by
  obtain ⟨h1, h2, h3, h4, h5, h6⟩ := bounds_spec hb
  cases hlo with
  | none =>
    have e1 := h3 rfl
    subst e1
    cases hhi with
    | none => have e2 := h4 rfl; subst e2; simp [Instr.sliceBounds]
    | some n k =>
      have e2 := h6 n rfl
      subst e2
      have hh := run_sliceBound (P := P) (w := w) (k := k) (code := .sliceAcap) (show h ≤ cap by omega)
      simp [Instr.sliceBounds, hh]
  | some m k' =>
    have e1 := h5 m rfl
    subst e1
    cases hhi with
    | none =>
      have e2 := h4 rfl
      subst e2
      have hl := run_sliceBound (P := P) (w := w) (k := k') (code := .sliceB) h1
      simp [Instr.sliceBounds, hl]
    | some n k =>
      have e2 := h6 n rfl
      subst e2
      have hh := run_sliceBound (P := P) (w := w) (k := k) (code := .sliceAcap) (show h ≤ cap by omega)
      have hl := run_sliceBound (P := P) (w := w) (k := k') (code := .sliceB) h1
      simp [Instr.sliceBounds, hh, hl]

theorem sliceA_sound (hT : TyOk P E) {t e : Nat} {ei : TI} (ht : Ax.elemOf E t = some (e, ei)) {v : Value} {x r : AV} {lo hi : Option Int} {lov hiv : Option Value} (hlo : OptV lo lov) (hhi : OptV hi hiv)
    (hx : AR β w S v x) (he : sliceA ei.size x lo hi = some r) : ∃ val, (Instr.sliceAt t v lov hiv none).run P w = .ok val w ∧ AR β w S val r := by
  obtain ⟨hu, he1, _⟩ := elemOf_spec hT ht
  have hrun : ∀ (a : Option Addr) (len cap l h : Nat), bounds len lo hi = some (l, h) → len ≤ cap →
      (Instr.sliceAt t (.slice a len cap) lov hiv none).run P w = .ok (.slice (if cap = l then a else a.map (·.add (l * ei.size))) (h - l) (cap - l)) w := by
    intro a len cap l h hb hc
    have hb' := run_sliceBounds (P := P) (w := w) hb hlo hhi hc
    simp [Instr.sliceAt, Instr.slice, run_underlying hu, hb', run_sizeOf' he1]
  unfold sliceA at he
  split at he
  · rename_i id ver sz off len
    split at he
    · simp at he
    · rename_i hsz
      simp at hsz
      subst hsz
      split at he
      · rename_i l h hb
        cases he
        obtain ⟨h1, h2, h3, h4, h5, h6⟩ := bounds_spec hb
        cases hx with
        | sv _ _ _ _ _ cap a p hp hv hz hc hbb ha =>
          refine ⟨_, hrun (some a) len cap l h hb hc, ?_⟩
          have key : ∀ a', (cap - l ≠ 0 → a' = at_ p.blk (p.base + (off + l) * ei.size)) → AR β w S (.slice (some a') (h - l) (cap - l)) (.sv id ver ei.size (off + l) (h - l)) := by
            intro a' ha'
            exact .sv id ver ei.size (off + l) (h - l) (cap - l) a' p hp hv hz (by omega) (by rw [show off + l + (cap - l) = off + cap by omega]; exact hbb) ha'
          by_cases hcl : cap = l
          · rw [if_pos hcl]
            exact key a (fun hne => absurd (by omega) hne)
          · rw [if_neg hcl]
            refine key (a.add (l * ei.size)) (fun _ => ?_)
            rw [ha (by omega), at_add, Nat.add_mul, Nat.add_assoc]
        | svn _ _ _ _ p hp hv hz =>
          have el : l = 0 := by omega
          have eh : h = 0 := by omega
          subst el; subst eh
          exact ⟨_, hrun none 0 0 0 0 hb (Nat.le_refl _), by simpa using AR.svn id ver ei.size off p hp hv hz⟩
      · simp at he
  · rename_i sz rows
    split at he
    · simp at he
    · rename_i hsz
      simp at hsz
      subst hsz
      split at he
      · rename_i l h hb
        cases he
        obtain ⟨h1, h2, h3, h4, h5, h6⟩ := bounds_spec hb
        cases hx with
        | d _ _ hx =>
        cases hx with
        | nil _ =>
          simp at h2
          have el : l = 0 := by omega
          subst el; subst h2
          exact ⟨_, hrun none 0 0 0 0 hb (Nat.le_refl _), by simpa using AR.d _ _ (FR.nil _)⟩
        | sl a len cap _ _ xx hl hc ha hr hs hxx =>
          subst hl
          refine ⟨_, hrun (some a) _ cap l h hb hc, .d _ _ ?_⟩
          have key : ∀ a', ((rows.drop l).take (h - l) ≠ [] → a' = at_ a.block (a.off + l * ei.size)) → FR w S (.slice (some a') (h - l) (cap - l)) (.sl ei.size ((rows.drop l).take (h - l))) := by
            intro a' ha'
            refine .sl a' (h - l) (cap - l) ei.size _ (fun i j => xx (l + i) j) (by simp; omega) (by omega) (fun hne => by rw [ha' hne]) ?_ ?_ ?_
            · exact fun r hr' => hr r (List.mem_of_mem_drop (List.mem_of_mem_take hr'))
            · intro i j r d hr' hd
              obtain ⟨hi, hr2⟩ := drop_take_get hr'
              have hne : (rows.drop l).take (h - l) ≠ [] := by intro e; rw [e] at hr'; simp at hr'
              obtain ⟨g1, g2⟩ := hs (l + i) j r d hr2 hd
              rw [ha' hne]
              have e : a.off + l * ei.size + (i * ei.size + j) = a.off + ((l + i) * ei.size + j) := by rw [Nat.add_mul]; omega
              simp only [at_] at *
              rw [e]
              exact ⟨g1, g2⟩
            · intro i j r d hr' hd
              obtain ⟨hi, hr2⟩ := drop_take_get hr'
              exact hxx (l + i) j r d hr2 hd
          have hrow : (rows.drop l).take (h - l) ≠ [] → rows ≠ [] := by
            intro hne e; subst e; simp at hne
          by_cases hcl : cap = l
          · rw [if_pos hcl]
            refine key a (fun hne => ?_)
            exfalso
            apply hne
            have : h - l = 0 := by omega
            rw [this]; simp
          · rw [if_neg hcl]
            refine key (a.add (l * ei.size)) (fun hne => ?_)
            have e := ha (hrow hne)
            have : a.add (l * ei.size) = (at_ a.block a.off).add (l * ei.size) := by rw [← e]
            rw [this, at_add]
      · simp at he
  · split at he
    · rename_i lh hb
      cases he
      obtain ⟨l, h⟩ := lh
      obtain ⟨h1, h2, h3, h4, h5, h6⟩ := bounds_spec hb
      have el : l = 0 := by omega
      have eh : h = 0 := by omega
      subst el; subst eh
      rw [hx.lit_inv]
      exact ⟨_, hrun none 0 0 0 0 hb (Nat.le_refl _), by simpa using AR.lit rfl⟩
    · simp at he
  · simp at he

theorem op_slice (hT : TyOk P E) (h : Hv en Fr β S w hp) (hρ : ∀ x v, ρ x = some v → AR β w S (ρc x) v) {t : TypeId} {x : Operand} {lo hi mx : Option Operand} {v : AV} {wr : Heap} {l : List Nat} {o : Oper} (ho : o.op = .slice t x lo hi mx)
    (he : evalOp0 E base ρ (.slice t x lo hi mx) (hget hp) = some ((v, wr), l)) : OpRes P en Fr base β S w hp (execOp ρc o) v wr := by
  simp only [evalOp0, M.bind_some, M.lift_some, Prod.exists, Prod.mk.injEq] at he
  obtain ⟨e, ei, l1, v', wr', l2, ⟨h1, _⟩, ⟨a, l3, v3, wr3, l4, ⟨h2, _⟩, ⟨lv, l5, v5, wr5, l6, ⟨h3, _⟩, ⟨hv, l7, v7, wr7, l8, ⟨h4, _⟩, h5, ⟨rfl, rfl⟩, _⟩, ⟨rfl, rfl⟩, _⟩, ⟨rfl, rfl⟩, _⟩, ⟨rfl, rfl⟩, _⟩ := he
  cases mx with
  | some y => simp [M.fail] at h5
  | none =>
    simp only [M.bind_some, M.lift_some, M.pure_some, Prod.exists, Prod.mk.injEq] at h5
    obtain ⟨r, l9, v9, wr9, l10, ⟨h6, _⟩, ⟨⟨rfl, rfl⟩, _⟩, ⟨⟨rfl, rfl⟩, _⟩⟩ := h5
    have opt : ∀ (q : Option Operand) (n : Option Int), (match q with | none => some none | some y => match ρ y with | none => none | some z => optInt (some z)) = some n → OptV n (q.map ρc) := by
      intro q n hq
      cases q with
      | none => simp at hq; subst hq; exact .none
      | some y =>
        simp only at hq
        cases hy : ρ y with
        | none => rw [hy] at hq; simp at hq
        | some z =>
          rw [hy] at hq
          simp only [optInt] at hq
          cases hz : asInt64 z with
          | none => rw [hz] at hq; simp at hq
          | some m =>
            rw [hz] at hq
            simp at hq
            subst hq
            obtain ⟨k, hk⟩ := asInt64_spec hz (hρ y z hy)
            simp only [Option.map_some, hk]
            exact .some m k
    obtain ⟨val, r1, r2⟩ := sliceA_sound hT h1 (opt lo lv h3) (opt hi hv h4) (hρ x a h2) h6
    exact OpRes.pure h (val := val) (by simp [execOp, ho]; rw [r1]; rfl) r2

theorem struct_spec {t : Nat} {ti : TI} (h : TOk P t ti) {fs : List (Nat × Nat)} (hk : ti.kind = .struct fs) :
    ∃ fields : Array Field, P.underlying t = some (.struct fields) ∧ ∀ (f ft off : Nat), fs[f]? = some (ft, off) → ∃ fd : Field, fields[f]? = some fd ∧ fd.type = ft ∧ fd.offset = off := by
  obtain ⟨d, d1, d2⟩ := h.und
  rw [hk] at d2
  obtain ⟨fields, rfl, hf⟩ := d2
  refine ⟨fields, d1, fun f ft off hfo => ?_⟩
  rw [← hf] at hfo
  simp only [List.getElem?_map, Option.map_eq_some_iff] at hfo
  obtain ⟨fd, h1, h2⟩ := hfo
  cases h2
  exact ⟨fd, by simpa using h1, rfl, rfl⟩

theorem op_fieldAddr (hT : TyOk P E) (h : Hv en Fr β S w hp) (hρ : ∀ x v, ρ x = some v → AR β w S (ρc x) v) {t : TypeId} {x : Operand} {f : Nat} {v : AV} {wr : Heap} {l : List Nat} {o : Oper} (ho : o.op = .fieldAddr t x f)
    (he : evalOp0 E base ρ (.fieldAddr t x f) (hget hp) = some ((v, wr), l)) : OpRes P en Fr base β S w hp (execOp ρc o) v wr := by
  simp only [evalOp0, M.bind_some, M.lift_some, Prod.exists, Prod.mk.injEq] at he
  obtain ⟨ti, l1, v', wr', l2, ⟨h1, _⟩, ⟨a, l3, v3, wr3, l4, ⟨h2, _⟩, h3, ⟨rfl, rfl⟩, _⟩, ⟨rfl, rfl⟩, _⟩ := he
  have hti := hT.ty _ _ h1
  cases hk : ti.kind with
  | struct fs =>
    rw [hk] at h3
    simp only [M.bind_some, M.lift_some, M.need_some, Prod.exists, Prod.mk.injEq, decide_eq_true_eq] at h3
    obtain ⟨ft, off, l5, v5, wr5, l6, ⟨h4, _⟩, ⟨fi, l7, v7, wr7, l8, ⟨h5, _⟩, ⟨_, l9, v9, wr9, l10, ⟨h6, _⟩, h7, ⟨rfl, rfl⟩, _⟩, ⟨rfl, rfl⟩, _⟩, ⟨rfl, rfl⟩, _⟩ := h3
    obtain ⟨fields, u1, u2⟩ := struct_spec hti hk
    obtain ⟨fd, f1, rfl, rfl⟩ := u2 f ft off h4
    have ha := hρ x a h2
    have hrun : ∀ b o', (Instr.fieldAt t (.pointer (some (at_ b o'))) f).run P w = .ok (.pointer (some (at_ b (o' + fd.offset)))) w := by
      intro b o'
      simp [Instr.fieldAt, run_underlying u1, f1, Instr.sureAddr, fieldPlace, run_sizeOf' (hT.ty _ _ h5), h6, at_add]
    cases a with
    | ptr id ver row col =>
      simp only [pure, M.pure, Option.some.injEq, Prod.mk.injEq] at h7
      obtain ⟨⟨rfl, rfl⟩, _⟩ := h7
      generalize ex : ρc x = vx at ha
      cases ha with
      | ptr _ _ _ _ p hp1 hv =>
        refine OpRes.pure h (val := _) (by simp only [execOp, ho, ex]; rw [Sem.run_bind, hrun]; rfl) ?_
        have := AR.ptr (w := w) (S := S) id ver row (col + fd.offset) p hp1 hv
        rw [← Nat.add_assoc] at this
        exact this
    | fp cells =>
      simp only [pure, M.pure, Option.some.injEq, Prod.mk.injEq] at h7
      obtain ⟨⟨rfl, rfl⟩, _⟩ := h7
      generalize ex : ρc x = vx at ha
      cases ha with
      | fp _ b o' xx hs hx =>
        refine OpRes.pure h (val := _) (by simp only [execOp, ho, ex]; rw [Sem.run_bind, hrun]; rfl) ?_
        refine .fp _ b _ (fun j => xx (fd.offset + j)) (fun j d hd => ?_) (fun j d hd => hx _ d (by simpa using hd))
        have := hs (fd.offset + j) d (by simpa using hd)
        rw [← Nat.add_assoc] at this
        exact this
    | d => simp [M.fail] at h7
    | agg => simp [M.fail] at h7
    | tup => simp [M.fail] at h7
    | sv => simp [M.fail] at h7
    | clo => simp [M.fail] at h7
    | top => simp [M.fail] at h7
  | int => rw [hk] at h3; simp [M.fail] at h3
  | bool => rw [hk] at h3; simp [M.fail] at h3
  | str => rw [hk] at h3; simp [M.fail] at h3
  | slice => rw [hk] at h3; simp [M.fail] at h3
  | array => rw [hk] at h3; simp [M.fail] at h3
  | ptr => rw [hk] at h3; simp [M.fail] at h3
  | other => rw [hk] at h3; simp [M.fail] at h3

theorem op_field (hT : TyOk P E) (h : Hv en Fr β S w hp) (hρ : ∀ x v, ρ x = some v → AR β w S (ρc x) v) {t : TypeId} {x : Operand} {f : Nat} {v : AV} {wr : Heap} {l : List Nat} {o : Oper} (ho : o.op = .field t x f)
    (he : evalOp0 E base ρ (.field t x f) (hget hp) = some ((v, wr), l)) : OpRes P en Fr base β S w hp (execOp ρc o) v wr := by
  simp only [evalOp0, M.bind_some, M.lift_some, Prod.exists, Prod.mk.injEq] at he
  obtain ⟨ti, l1, v', wr', l2, ⟨h1, _⟩, ⟨a, l3, v3, wr3, l4, ⟨h2, _⟩, h3, ⟨rfl, rfl⟩, _⟩, ⟨rfl, rfl⟩, _⟩ := he
  have hti := hT.ty _ _ h1
  cases hk : ti.kind with
  | struct fs =>
    rw [hk] at h3
    cases a with
    | agg cs =>
      simp only [M.bind_some, M.lift_some, M.pure_some, Prod.exists, Prod.mk.injEq] at h3
      obtain ⟨ft, off, l5, v5, wr5, l6, ⟨h4, _⟩, ⟨fi, l7, v7, wr7, l8, ⟨h5, _⟩, ⟨xs, l9, v9, wr9, l10, ⟨h6, _⟩, ⟨r, l11, v11, wr11, l12, ⟨h7, _⟩, ⟨⟨rfl, rfl⟩, _⟩, ⟨⟨rfl, rfl⟩, _⟩⟩, ⟨⟨rfl, rfl⟩, _⟩⟩, ⟨⟨rfl, rfl⟩, _⟩⟩, ⟨⟨rfl, rfl⟩, _⟩⟩ := h3
      obtain ⟨fields, u1, u2⟩ := struct_spec hti hk
      obtain ⟨fd, f1, rfl, rfl⟩ := u2 f ft off h4
      have ha := hρ x _ h2
      generalize ex : ρc x = vx at ha
      cases ha with
      | agg vs _ hn hh =>
        obtain ⟨t1, t2⟩ := takeN_spec _ _ _ h6
        simp at t2
        have hA : ARs β w S vs.toList cs := ⟨by simpa using hn, fun i v c hv hc => hh i v c (by simpa using hv) hc⟩
        have hA2 := (hA.drop fd.offset).take fi.size
        rw [← t1] at hA2
        cases hag : fi.kind.agg with
        | true =>
          rw [hag] at h7
          simp [asOne] at h7
          subst h7
          refine OpRes.pure h (val := .agg (vs.extract fd.offset (fd.offset + fi.size))) ?_ ?_
          · simp [execOp, ho, ex, Instr.field, run_underlying u1, f1, asAgg, part, run_isAgg (hT.ty _ _ h5), hag, run_sizeOf' (hT.ty _ _ h5)]
          · have e : vs.extract fd.offset (fd.offset + fi.size) = ((vs.toList.drop fd.offset).take fi.size).toArray := by
              apply Array.ext'
              simp [List.take_drop, List.extract_eq_take_drop]
            rw [e]; exact hA2.agg
        | false =>
          rw [hag] at h7
          simp only [asOne] at h7
          split at h7
          · rename_i c
            cases h7
            obtain ⟨v0, vs', e0, e1, e2⟩ := hA2.inv_cons
            have hv0 : vs[fd.offset]? = some v0 := by
              have : ((vs.toList.drop fd.offset).take fi.size)[0]? = some v0 := by rw [e0]; rfl
              rw [List.getElem?_take] at this
              split at this
              · simpa using this
              · simp at this
            refine OpRes.pure h (val := v0) ?_ e1
            simp [execOp, ho, ex, Instr.field, run_underlying u1, f1, asAgg, part, run_isAgg (hT.ty _ _ h5), hag, hv0]
          · simp at h7
    | d => simp [M.fail] at h3
    | ptr => simp [M.fail] at h3
    | tup => simp [M.fail] at h3
    | sv => simp [M.fail] at h3
    | fp => simp [M.fail] at h3
    | clo => simp [M.fail] at h3
    | top => simp [M.fail] at h3
  | int => rw [hk] at h3; simp [M.fail] at h3
  | bool => rw [hk] at h3; simp [M.fail] at h3
  | str => rw [hk] at h3; simp [M.fail] at h3
  | slice => rw [hk] at h3; simp [M.fail] at h3
  | array => rw [hk] at h3; simp [M.fail] at h3
  | ptr => rw [hk] at h3; simp [M.fail] at h3
  | other => rw [hk] at h3; simp [M.fail] at h3

end ops
end Go.Ax
end
section
namespace Go.Ax
set_option linter.unusedSimpArgs false
set_option linter.unusedVariables false

section ops
variable {P : Program} {E : Env} {en : Ent} {Fr : Nat → Prop} {β : Beta} {S : CellSet} {w : World} {hp : Heap} {base : Nat}
variable {ρc : Operand → Value} {ρ : Operand → Option AV}

theorem int_ofNat {i : Int} (h : 0 ≤ i) : ∃ n : Nat, i = (n : Int) := ⟨i.toNat, by omega⟩

theorem indexS_sound (hT : TyOk P E) {t e : Nat} {ti ei : TI} (ht : E.T t = some ti) (hk : ti.kind = .slice e) (hei : E.T e = some ei) {v : Value} {x r : AV} {k : IntKind} {n : Int}
    (hx : AR β w S v x) (he : indexS ei.size x n = some r) : ∃ val, (Instr.indexAt t v (.int k n)).run P w = .ok val w ∧ AR β w S val r := by
  have hes := hT.ty _ _ hei
  obtain ⟨d, d1, d2⟩ := (hT.ty _ _ ht).und
  rw [hk] at d2
  simp only [KOk] at d2
  subst d2
  have hrun : ∀ (a : Addr) (len cap i : Nat), n = (i : Int) → i < len → (Instr.indexAt t (.slice (some a) len cap) (.int k n)).run P w = .ok (.pointer (some (a.add (i * ei.size)))) w := by
    intro a len cap i hn hlt
    subst hn
    have h0 : (0 : Int) ≤ (i : Int) ∧ (i : Int) < (len : Int) := ⟨by omega, by omega⟩
    simp [Instr.indexAt, asIntOf, run_underlying d1, h0, run_sizeOf' hes]
    intro hh; omega
  unfold indexS at he
  split at he
  · rename_i id ver sz off len
    split at he
    · rename_i hd
      simp at hd
      obtain ⟨rfl, h0, hlt⟩ := hd
      cases he
      obtain ⟨i, rfl⟩ := int_ofNat h0
      cases hx with
      | sv _ _ _ _ _ cap a p hp hv hz hc hb ha =>
        refine ⟨_, hrun a len cap i rfl (by omega), ?_⟩
        rw [ha (by omega), at_add]
        have := AR.ptr (w := w) (S := S) id ver (off + i) 0 p hp hv
        simp only [Int.toNat_natCast]
        rw [hz, Nat.add_mul, Nat.add_zero, ← Nat.add_assoc] at this
        exact this
      | svn _ _ _ _ p hp hv hz => exact absurd hlt (by omega)
    · simp at he
  · rename_i sz rows
    split at he
    · simp at he
    · rename_i hd
      simp at hd
      obtain ⟨rfl, h0⟩ := hd
      obtain ⟨i, rfl⟩ := int_ofNat h0
      simp only [Int.toNat_natCast] at he
      split at he
      · rename_i rr hrr
        cases he
        have hlt : i < rows.length := (List.getElem?_eq_some_iff.1 hrr).1
        cases hx with
        | d _ _ hx =>
        cases hx with
        | nil _ => simp at hlt
        | sl a len cap _ _ xx hl hc ha hr hs hxx =>
          refine ⟨_, hrun a len cap i rfl (by omega), ?_⟩
          rw [ha (by intro e; subst e; simp at hlt), at_add]
          refine .fp rr _ _ (fun j => xx i j) (fun j d hd => ?_) (fun j d hd => hxx i j rr d hrr hd)
          have := hs i j rr d hrr hd
          rw [← Nat.add_assoc] at this
          exact this
      · simp at he
  · simp at he

theorem indexArr_sound (hT : TyOk P E) {t e m : Nat} {ti ei : TI} (ht : E.T t = some ti) (hk : ti.kind = .array m e) (hei : E.T e = some ei) {v : Value} {x r : AV} {k : IntKind} {n : Int}
    (hx : AR β w S v x) (he : indexArr m ei.size x n = some r) : ∃ val, (Instr.indexAt t v (.int k n)).run P w = .ok val w ∧ AR β w S val r := by
  have hes := hT.ty _ _ hei
  obtain ⟨d, d1, d2⟩ := (hT.ty _ _ ht).und
  rw [hk] at d2
  simp only [KOk] at d2
  subst d2
  unfold indexArr at he
  split at he
  · rename_i id ver row col
    split at he
    · rename_i hd
      simp at hd
      obtain ⟨h0, hlt⟩ := hd
      cases he
      obtain ⟨i, rfl⟩ := int_ofNat h0
      cases hx with
      | ptr _ _ _ _ p hp hv =>
        have hc : (0 : Int) ≤ (i : Int) ∧ (i : Int) < (m : Int) := ⟨by omega, hlt⟩
        refine ⟨.pointer (some ((at_ p.blk (p.base + row * p.sz + col)).add (i * ei.size))), ?_, ?_⟩
        · simp [Instr.indexAt, asIntOf, run_underlying d1, hc, run_sizeOf' hes, Instr.sureAddr]
          intro hh; omega
        · rw [at_add]
          have := AR.ptr (w := w) (S := S) id ver row (col + i * ei.size) p hp hv
          rw [← Nat.add_assoc] at this
          simpa using this
    · simp at he
  · simp at he

theorem op_indexAddr (hT : TyOk P E) (h : Hv en Fr β S w hp) (hρ : ∀ x v, ρ x = some v → AR β w S (ρc x) v) {t : TypeId} {x i : Operand} {v : AV} {wr : Heap} {l : List Nat} {o : Oper} (ho : o.op = .indexAddr t x i)
    (he : evalOp0 E base ρ (.indexAddr t x i) (hget hp) = some ((v, wr), l)) : OpRes P en Fr base β S w hp (execOp ρc o) v wr := by
  simp only [evalOp0, M.bind_some, M.lift_some, Prod.exists, Prod.mk.injEq] at he
  obtain ⟨ti, l1, v', wr', l2, ⟨h1, _⟩, ⟨a, l3, v3, wr3, l4, ⟨h2, _⟩, ⟨j, l5, v5, wr5, l6, ⟨h3, _⟩, ⟨n, l7, v7, wr7, l8, ⟨h4, _⟩, h5, ⟨rfl, rfl⟩, _⟩, ⟨rfl, rfl⟩, _⟩, ⟨rfl, rfl⟩, _⟩, ⟨rfl, rfl⟩, _⟩ := he
  obtain ⟨k, hk⟩ := asInt64_spec h4 (hρ i j h3)
  cases hkd : ti.kind with
  | slice e =>
    rw [hkd] at h5
    simp only [M.bind_some, M.lift_some, M.pure_some, Prod.exists, Prod.mk.injEq] at h5
    obtain ⟨ei, l9, v9, wr9, l10, ⟨h6, _⟩, ⟨r, l11, v11, wr11, l12, ⟨h7, _⟩, ⟨⟨rfl, rfl⟩, _⟩, ⟨⟨rfl, rfl⟩, _⟩⟩, ⟨⟨rfl, rfl⟩, _⟩⟩ := h5
    obtain ⟨val, r1, r2⟩ := indexS_sound hT h1 hkd h6 (k := k) (hρ x a h2) h7
    exact OpRes.pure h (val := val) (by simp [execOp, ho, hk, r1]) r2
  | array m e =>
    rw [hkd] at h5
    simp only [M.bind_some, M.lift_some, M.pure_some, Prod.exists, Prod.mk.injEq] at h5
    obtain ⟨ei, l9, v9, wr9, l10, ⟨h6, _⟩, ⟨r, l11, v11, wr11, l12, ⟨h7, _⟩, ⟨⟨rfl, rfl⟩, _⟩, ⟨⟨rfl, rfl⟩, _⟩⟩, ⟨⟨rfl, rfl⟩, _⟩⟩ := h5
    obtain ⟨val, r1, r2⟩ := indexArr_sound hT h1 hkd h6 (k := k) (hρ x a h2) h7
    exact OpRes.pure h (val := val) (by simp [execOp, ho, hk, r1]) r2
  | int => rw [hkd] at h5; simp [M.fail] at h5
  | bool => rw [hkd] at h5; simp [M.fail] at h5
  | str => rw [hkd] at h5; simp [M.fail] at h5
  | struct => rw [hkd] at h5; simp [M.fail] at h5
  | ptr => rw [hkd] at h5; simp [M.fail] at h5
  | other => rw [hkd] at h5; simp [M.fail] at h5

/-! a slice that is listed -/
/-- a flat row of cells reads as rows -/
def RowsAt (w : World) (S : CellSet) (sz : Nat) (c : Array Value) (rows : List (List D)) : Prop :=
  (∀ r ∈ rows, r.length = sz) ∧ ∀ (i j : Nat) r d, rows[i]? = some r → r[j]? = some d → ∃ v, c[i * sz + j]? = some v ∧ FR w S v d

theorem zeros_rows {sz n : Nat} {zs : List Value} {zD : List D} (hz : FRs w S zs zD) (hl : zs.length = sz) (m : Nat) (hm : n ≤ m) :
    RowsAt w S sz ((Array.range (m * sz)).map (zs.toArray[· % zs.toArray.size]!)) (List.replicate n zD) := by
  refine ⟨fun r hr => by rw [List.eq_of_mem_replicate hr, ← hz.1, hl], fun i j r d hr hd => ?_⟩
  have hi : i < n := by
    have := (List.getElem?_eq_some_iff.1 hr).1
    simpa using this
  have hr' : r = zD := List.eq_of_mem_replicate (List.mem_of_getElem? hr)
  subst hr'
  have hj : j < sz := by rw [← hl, hz.1]; exact (List.getElem?_eq_some_iff.1 hd).1
  have hlt : i * sz + j < m * sz := by
    have := Nat.mul_le_mul_right sz (show i + 1 ≤ m by omega)
    rw [Nat.add_mul] at this
    omega
  have hmod : (i * sz + j) % sz = j := by rw [Nat.add_comm, Nat.add_mul_mod_self_right]; exact Nat.mod_eq_of_lt hj
  have hjz : j < zs.length := by omega
  refine ⟨zs[j], ?_, hz.2 j _ d (List.getElem?_eq_getElem hjz) hd⟩
  simp [hlt, hl, hmod]
  rw [List.getElem?_eq_getElem hjz]; rfl

theorem partsD_sound {sz : Nat} {ns : List Nat} : ∀ (ps : List (Nat × AV)) (vs : List (Nat × Value)) (S : CellSet) (hp1 : Heap) (rs : List (Nat × List D)) (wr : Heap) (l : List Nat), Hv en Fr β S w hp1 → Frz hp hp1 →
    partsD sz ns ps (hget hp) = some ((rs, wr), l) → Parts β w S vs ps → (∀ x ∈ ps, x.2.known = true) →
    ∃ S', Hv en Fr β S' w (hputs wr hp1) ∧ Incl S S' ∧ Frz hp (hputs wr hp1) ∧
      vs.length = rs.length ∧ ∀ (i : Nat) v r, vs[i]? = some v → rs[i]? = some r → v.1 = r.1 ∧ r.2.length = sz ∧ FRs w S' v.2.cells.toList r.2
  | [], vs, S, hp1, rs, wr, l, h, hf, he, ha, hkn => by
    simp only [partsD, M.pure_some, Prod.mk.injEq] at he
    obtain ⟨⟨rfl, rfl⟩, _⟩ := he
    cases ha
    exact ⟨S, h, Incl.refl S, hf, rfl, fun i v r hv => by simp at hv⟩
  | (i, c) :: ps, vs, S, hp1, rs, wr, l, h, hf, he, ha, hkn => by
    cases ha with
    | cons ha1 ha2 =>
    rename_i v vs'
    simp only [partsD, M.bind_some, M.need_some, M.pure_some, Prod.exists, Prod.mk.injEq, decide_eq_true_eq] at he
    obtain ⟨xs, w1, l1, a2, b2, l2, h1, ⟨_, l3, a3, b3, l4, ⟨h2, _⟩, ⟨ys, w2, l5, a4, b4, l6, h3, ⟨⟨rfl, rfl⟩, _⟩, ⟨rfl, rfl⟩, _⟩, ⟨rfl, rfl⟩, _⟩, ⟨rfl, rfl⟩, _⟩ := he
    obtain ⟨S1, g1, g2, g3, g4⟩ := cellsD_sound c.cells v.cells.toList S hp1 xs w1 l1 h hf h1 (ha1.cellsL (hkn (i, c) (by simp)))
    have ha2' : Parts β w S1 vs' ps := by
      clear h3 h
      induction ha2 with
      | nil => exact .nil
      | cons h k ih => exact .cons (h.up g2) (ih (fun x hx => hkn x (by simp at hx ⊢; rcases hx with rfl | hx <;> simp [*])))
    obtain ⟨S2, k1, k2, k3, k4, k5⟩ := partsD_sound ps vs' S1 _ ys w2 _ g1 g4 h3 ha2' (fun x hx => hkn x (by simp [hx]))
    refine ⟨S2, by rw [hputs_append]; exact k1, g2.trans k2, by rw [hputs_append]; exact k3, by simp [k4], fun q v' r hv hr => ?_⟩
    cases q with
    | zero =>
      simp at hv hr
      subst hv; subst hr
      have := FRs.norm ns _ _ (g3.up k2)
      exact ⟨rfl, by rw [← h2, ← g3.1, ← this.1], this⟩
    | succ q => exact k5 q v' r (by simpa using hv) (by simpa using hr)

theorem fillRows_sound {sz : Nat} : ∀ (rs : List (Nat × List D)) (vs : List (Nat × Value)) (c : Array Value) (rows rows' : List (List D)), fillRows rs rows = some rows' →
    vs.length = rs.length → (∀ (i : Nat) v r, vs[i]? = some v → rs[i]? = some r → v.1 = r.1 ∧ r.2.length = sz ∧ FRs w S v.2.cells.toList r.2) →
    RowsAt w S sz c rows → rows.length * sz = c.size →
    ∃ c', Instr.fill (fun i => some (i * sz, sz)) c vs = some c' ∧ RowsAt w S sz c' rows' ∧ c'.size = c.size ∧ rows'.length = rows.length
  | [], vs, c, rows, rows', h, hl, hv, hr, hc => by
    simp [fillRows] at h
    subst h
    have : vs = [] := by simpa using hl
    subst this
    exact ⟨c, rfl, hr, rfl, rfl⟩
  | (i, r) :: rs, vs, c, rows, rows', h, hl, hv, hr, hc => by
    cases vs with
    | nil => simp at hl
    | cons v vs =>
    obtain ⟨iv, v⟩ := v
    obtain ⟨e1, e2, e3⟩ := hv 0 _ _ rfl rfl
    simp only at e1 e2 e3
    subst e1
    simp only [fillRows] at h
    split at h
    · rename_i hlt
      simp at hlt
      have hsz : v.cells.toList.length = sz := by rw [e3.1, e2]
      have hmul := Nat.mul_le_mul_right sz (show iv + 1 ≤ rows.length from hlt)
      rw [Nat.add_mul] at hmul
      obtain ⟨f1, f2⟩ := fold_set (iv * sz) v.cells.toList 0 c (by omega)
      rw [← foldl_arr] at f1 f2
      have hr2 : RowsAt w S sz (v.cells.zipIdx.foldl (fun cs (x : Value × Nat) => cs.setIfInBounds (iv * sz + x.2) x.1) c) (rows.set iv r) := by
        refine ⟨fun q hq => ?_, fun a b q d hq hd => ?_⟩
        · rcases List.mem_or_eq_of_mem_set hq with hm | rfl
          · exact hr.1 q hm
          · exact e2
        · rw [f2]
          simp only [Nat.add_zero]
          by_cases hai : a = iv
          · subst hai
            rw [List.getElem?_set_self hlt] at hq
            cases hq
            have hb : b < v.cells.toList.length := by rw [e3.1]; exact (List.getElem?_eq_some_iff.1 hd).1
            rw [if_pos (by omega), show a * sz + b - a * sz = b by omega]
            exact ⟨_, List.getElem?_eq_getElem hb, e3.2 b _ d (List.getElem?_eq_getElem hb) hd⟩
          · rw [List.getElem?_set_ne (fun e => hai e.symm)] at hq
            have hbl : b < sz := by rw [← hr.1 q (List.mem_of_getElem? hq)]; exact (List.getElem?_eq_some_iff.1 hd).1
            have := idx_other (col := 0) (n := sz) hbl (by omega) hai
            rw [if_neg (by omega)]
            exact hr.2 a b q d hq hd
      obtain ⟨c', g1, g2, g3, g4⟩ := fillRows_sound rs vs _ _ rows' h (by simpa using hl) (fun q x y hx hy => hv (q + 1) x y (by simpa using hx) (by simpa using hy)) hr2 (by rw [f1]; simpa using hc)
      refine ⟨c', ?_, g2, by rw [g3, f1], by simpa using g4⟩
      simp only [Instr.fill]
      have hsz2 : v.cells.size = sz := by simpa using hsz
      have hb : ¬ (v.cells.size ≠ sz || decide (iv * sz + v.cells.size > c.size)) = true := by
        simp [hsz2]; omega
      rw [if_neg hb]
      exact g1
    · simp at h

theorem range0 (f : Nat → Value) : (Array.range 0).map f = #[] := by simp [Array.range]

theorem op_buildSlice (hT : TyOk P E) (h : Hv en Fr β S w hp) (hρ : ∀ x v, ρ x = some v → AR β w S (ρc x) v) (hFr : Fr base) {t : TypeId} {len : Nat} {parts : Array (Nat × Operand)} {v : AV} {wr : Heap} {l : List Nat} {o : Oper} (ho : o.op = .buildSlice t len parts)
    (he : evalOp0 E base ρ (.buildSlice t len parts) (hget hp) = some ((v, wr), l)) : OpRes P en Fr base β S w hp (execOp ρc o) v wr := by
  simp only [evalOp0, M.bind_some, M.lift_some, M.need_some, M.pure_some, Prod.exists, Prod.mk.injEq, decide_eq_true_eq] at he
  obtain ⟨e, ei, l1, v', wr', l2, ⟨h1, _⟩, ⟨_, l3, v3, wr3, l4, ⟨h2, _⟩, ⟨ps, l5, v5, wr5, l6, ⟨h3, _⟩, ⟨_, la, va, wra, lb, ⟨hkn, _⟩, ⟨rs, w1, l7, v7, wr7, l8, h4, ⟨rows, l9, v9, wr9, l10, ⟨h5, _⟩, ⟨⟨rfl, rfl⟩, _⟩, ⟨⟨rfl, rfl⟩, _⟩⟩, ⟨⟨rfl, rfl⟩, _⟩⟩, ⟨⟨rfl, rfl⟩, _⟩⟩, ⟨⟨rfl, rfl⟩, _⟩⟩, ⟨⟨rfl, rfl⟩, _⟩⟩, ⟨⟨rfl, rfl⟩, _⟩⟩ := he
  obtain ⟨hu, hei, _⟩ := elemOf_spec hT h1
  obtain ⟨z, zs, z1, z2, z3, z4, z5⟩ := run_zeroValue (w := w) hei
  have hps := evalParts_sound hρ _ _ h3
  obtain ⟨S1, k1, k2, k3, k4, k5⟩ := partsD_sound ps _ S hp rs w1 _ h (Frz.refl hp) h4 hps (by simpa using hkn)
  have hz : FRs w S1 zs (normD ei.norm ei.zero) := FRs.norm _ _ _ (by rw [z3]; exact lits_FR z4)
  have hzr := zeros_rows (n := len) hz z5 len (Nat.le_refl _)
  have hcells : (Array.range (len * ei.size)).map (zs.toArray[· % zs.toArray.size]!) = (Array.range (len * ei.size)).map (zs.toArray[· % zs.toArray.size]!) := rfl
  obtain ⟨c', f1, f2, f3, f4⟩ := fillRows_sound rs _ _ _ rows h5 k4 k5 hzr (by simp)
  have hc'size : len * ei.size = c'.size := by rw [f3]; simp
  obtain ⟨β', g1, g2, g3, g4⟩ := new_arr k1 hFr e c' ei.size rows len len (by rw [f4]; simp) (Nat.le_refl _) hc'size f2.1 f2.2
  refine ⟨β', S1, _, _, .inl ?_, g4, by rw [hputs_append]; exact g1.less (Nat.le_refl _) (by omega), g2, k2, fun b k hs => g3 b k (k2 _ _ hs)⟩
  have hle : ¬ (len * ei.size > 2 ^ 24) := by omega
  have hle2 : ¬ (16777216 < len * ei.size) := by omega
  have hmap : (parts.map fun x => (x.1, ρc x.2)).toList = parts.toList.map fun x => (x.1, ρc x.2) := by simp
  by_cases h0 : len * ei.size = 0
  · have f1' : Instr.fill (fun i => some (i * ei.size, ei.size)) #[] (parts.toList.map fun x => (x.1, ρc x.2)) = some c' := by
      rw [← f1, h0, range0]
    simp only [execOp, ho, Instr.buildSlice, Sem.run_bind, run_underlying hu, Result.andThen_ok, run_sizeOf' hei, if_neg hle, if_pos h0, Sem.run_pure, hmap]
    rw [h0, range0]
    simp only [f1', newRow, Sem.run_bind, run_newObj, Result.andThen_ok, Sem.run_pure, World.alloc_eq]
  · simp only [execOp, ho, Instr.buildSlice, Sem.run_bind, run_underlying hu, Result.andThen_ok, run_sizeOf' hei, if_neg hle, if_neg h0, Sem.run_pure, z1, z2, hmap]
    simp only [f1, newRow, Sem.run_bind, run_newObj, Result.andThen_ok, Sem.run_pure, World.alloc_eq]

theorem op_makeSlice (hT : TyOk P E) (h : Hv en Fr β S w hp) (hρ : ∀ x v, ρ x = some v → AR β w S (ρc x) v) (hFr : Fr base) {t : TypeId} {xl xc : Operand} {v : AV} {wr : Heap} {l : List Nat} {o : Oper} (ho : o.op = .makeSlice t xl xc)
    (he : evalOp0 E base ρ (.makeSlice t xl xc) (hget hp) = some ((v, wr), l)) : OpRes P en Fr base β S w hp (execOp ρc o) v wr := by
  simp only [evalOp0, M.bind_some, M.lift_some, M.need_some, M.pure_some, Prod.exists, Prod.mk.injEq, decide_eq_true_eq] at he
  obtain ⟨e, ei, l1, v', wr', l2, ⟨h1, _⟩, ⟨al, l3, v3, wr3, l4, ⟨h2, _⟩, ⟨ac, l5, v5, wr5, l6, ⟨h3, _⟩, ⟨n, l7, v7, wr7, l8, ⟨h4, _⟩, ⟨m, l9, v9, wr9, l10, ⟨h5, _⟩, ⟨_, l11, v11, wr11, l12, ⟨h6, _⟩, ⟨_, l13, v13, wr13, l14, ⟨h7, _⟩, ⟨⟨rfl, rfl⟩, _⟩, ⟨⟨rfl, rfl⟩, _⟩⟩, ⟨⟨rfl, rfl⟩, _⟩⟩, ⟨⟨rfl, rfl⟩, _⟩⟩, ⟨⟨rfl, rfl⟩, _⟩⟩, ⟨⟨rfl, rfl⟩, _⟩⟩, ⟨⟨rfl, rfl⟩, _⟩⟩, ⟨⟨rfl, rfl⟩, _⟩⟩ := he
  obtain ⟨hu, hei, _⟩ := elemOf_spec hT h1
  obtain ⟨z, zs, z1, z2, z3, z4, z5⟩ := run_zeroValue (w := w) hei
  obtain ⟨i, hi1, hi2⟩ := run_typeInfo (w := w) hei
  obtain ⟨k1, e1⟩ := asInt64_spec h4 (hρ xl al h2)
  obtain ⟨k2, e2⟩ := asInt64_spec h5 (hρ xc ac h3)
  obtain ⟨a0, a1, a2⟩ := h6
  obtain ⟨n', rfl⟩ := int_ofNat a0
  obtain ⟨m', rfl⟩ := int_ofNat (Int.le_trans a0 a1)
  simp only [sumLen] at a2
  have hz : FRs w S zs (normD ei.norm ei.zero) := FRs.norm _ _ _ (by rw [z3]; exact lits_FR z4)
  have hzr := zeros_rows (n := n') hz z5 m' (by omega)
  simp only [Int.toNat_natCast]
  obtain ⟨β', g1, g2, g3, g4⟩ := new_arr h hFr e ((Array.range (m' * ei.size)).map (zs.toArray[· % zs.toArray.size]!)) ei.size (List.replicate n' (normD ei.norm ei.zero)) n' m' (by simp) (by omega) (by simp) hzr.1 hzr.2
  refine ⟨β', S, _, _, .inl ?_, g4, g1.less (Nat.le_refl _) (by omega), g2, Incl.refl S, g3⟩
  have wn : IntKind.i64.wrap (n' : Int) = n' := by
    simp [IntKind.wrap, IntKind.bits, IntKind.signed]
    omega
  have wm : IntKind.i64.wrap (m' : Int) = m' := by
    simp [IntKind.wrap, IntKind.bits, IntKind.signed]
    omega
  have hbm : i.bytes * m' ≤ 4096 * 16777216 := Nat.mul_le_mul (by omega) (by omega)
  have hneg : ¬ ((m' : Int) < 0) := by omega
  have hbig : ¬ ((281474976710656 : Int) < (i.bytes : Int) * (m' : Int)) := by
    have : (i.bytes : Int) * (m' : Int) = ((i.bytes * m' : Nat) : Int) := by simp
    omega
  have hnn : ¬ ((n' : Int) < 0) := by omega
  have hnm : ¬ ((m' : Int) < (n' : Int)) := by omega
  by_cases h0 : m' * ei.size = 0
  · simp [execOp, ho, Instr.makeSlice, run_underlying hu, e1, e2, asInt, asIntOf, hi1, wn, wm, hneg, hbig, hnn, hnm, run_sizeOf' hei, h0, newRow, at_, -List.getElem!_toArray]
    rw [range0, range0]
  · simp [execOp, ho, Instr.makeSlice, run_underlying hu, e1, e2, asInt, asIntOf, hi1, wn, wm, hneg, hbig, hnn, hnm, run_sizeOf' hei, h0, newRow, at_, z1, z2]

end ops
end Go.Ax
end
section
namespace Go.Ax
set_option linter.unusedSimpArgs false
set_option linter.unusedVariables false

section ops
variable {P : Program} {E : Env} {en : Ent} {Fr : Nat → Prop} {β : Beta} {S : CellSet} {w : World} {hp : Heap} {base : Nat}
variable {ρc : Operand → Value} {ρ : Operand → Option AV}

/-- a slice whose elements are read -/
def SrcOk (w : World) (S : CellSet) (sz : Nat) (v : Value) (rows : List (List D)) : Prop :=
  (v = .slice none 0 0 ∧ rows = []) ∨ ∃ a c, v = .slice (some a) rows.length c ∧ (∀ r ∈ rows, r.length = sz) ∧
    ∃ f : Nat → Value, (∀ k, k < rows.length * sz → w.cell? (a.add k) = some (f k)) ∧ (∀ (i j : Nat) r d, rows[i]? = some r → r[j]? = some d → FR w S (f (i * sz + j)) d)

theorem div_mod_lt {k n sz : Nat} (h : k < n * sz) : k / sz < n ∧ k % sz < sz ∧ k / sz * sz + k % sz = k := by
  have hs : 0 < sz := by
    rcases Nat.eq_zero_or_pos sz with e | e
    · subst e; simp at h
    · exact e
  refine ⟨(Nat.div_lt_iff_lt_mul hs).2 h, Nat.mod_lt _ hs, ?_⟩
  have := Nat.div_add_mod k sz
  rw [Nat.mul_comm] at this
  exact this

theorem mul_add_div {i j sz : Nat} (h : j < sz) : (i * sz + j) / sz = i ∧ (i * sz + j) % sz = j := by
  have hs : 0 < sz := by omega
  constructor
  · rw [Nat.add_comm, Nat.add_mul_div_right _ _ hs, Nat.div_eq_of_lt h]; simp
  · rw [Nat.add_comm, Nat.add_mul_mod_self_right]; exact Nat.mod_eq_of_lt h

theorem rowsOf_sound (h : Hv en Fr β S w hp) {sz : Nat} {x : AV} {rows : List (List D)} {l : List Nat} {v : Value} (hx : AR β w S v x) (he : rowsOf sz x (hget hp) = some (rows, l)) : SrcOk w S sz v rows := by
  unfold rowsOf at he
  split at he
  · rename_i sz' rows'
    simp only [M.bind_some, M.need_some, M.pure_some, Prod.exists, Prod.mk.injEq, decide_eq_true_eq] at he
    obtain ⟨_, l1, a, l2, ⟨rfl, _⟩, ⟨rfl, _⟩, ⟨rfl, _⟩⟩ := he
    cases hx with
    | d _ _ hx =>
    cases hx with
    | nil _ => exact .inl ⟨rfl, rfl⟩
    | sl a len cap _ _ xx hl hc ha hr hs hxx =>
      subst hl
      refine .inr ⟨a, cap, rfl, hr, fun k => xx (k / sz') (k % sz'), fun k hk => ?_, fun i j r d hi hj => ?_⟩
      · obtain ⟨d1, d2, d3⟩ := div_mod_lt hk
        have hrr := List.getElem?_eq_getElem d1
        have hlen : (rows[k / sz']).length = sz' := hr _ (List.getElem_mem d1)
        have hdd := List.getElem?_eq_getElem (show k % sz' < (rows[k / sz']).length by omega)
        have := (hs _ _ _ _ hrr hdd).2
        rw [d3] at this
        rw [ha (by intro e; subst e; simp at hk), at_add]
        exact this
      · have hj' : j < sz' := by rw [← hr r (List.mem_of_getElem? hi)]; exact (List.getElem?_eq_some_iff.1 hj).1
        obtain ⟨e1, e2⟩ := mul_add_div (i := i) hj'
        simp only [e1, e2]
        exact hxx i j r d hi hj
  · simp only [pure, M.pure, Option.some.injEq, Prod.mk.injEq] at he
    obtain ⟨rfl, _⟩ := he
    exact .inl ⟨hx.lit_inv, rfl⟩
  · rename_i id ver sz' off len
    simp only [M.bind_some, M.need_some, look_some, Prod.exists, Prod.mk.injEq, decide_eq_true_eq] at he
    obtain ⟨_, l1, a, l2, ⟨rfl, _⟩, ⟨v1, ob, l3, b, l4, ⟨h1, _⟩, ⟨_, l5, c, l6, ⟨rfl, _⟩, h2, ⟨rfl, _⟩⟩, ⟨rfl, _⟩⟩, ⟨rfl, _⟩⟩ := he
    have hob := h.hr.obj _ _ _ h1
    cases ob with
    | box => simp [M.fail] at h2
    | dead => simp [M.fail] at h2
    | arr sz2 rows2 =>
      simp only [M.bind_some, M.need_some, M.pure_some, Prod.exists, Prod.mk.injEq, decide_eq_true_eq] at h2
      obtain ⟨_, l7, d, l8, ⟨hle, _⟩, ⟨rfl, _⟩, ⟨rfl, _⟩⟩ := h2
      obtain ⟨p, b1, b2, b3, b4, b5⟩ := hob
      cases hx with
      | svn _ _ _ _ q hp hv hz => left; exact ⟨rfl, by simp⟩
      | sv _ _ _ _ _ cap a q hp hv hz hc hb ha =>
        rw [b1] at hp; cases hp
        obtain ⟨c, t', c1, c2, c3, c4⟩ := b5 hv
        have e : sz2 = sz' := b2.symm.trans hz
        subst e
        have hlen : ((rows2.drop off).take len).length = len := by simp; omega
        refine .inr ⟨a, cap, by rw [hlen], fun r hr => b3 r (List.mem_of_mem_drop (List.mem_of_mem_take hr)), fun k => (c[p.base + off * sz2 + k]?).getD undef, fun k hk => ?_, fun i j r d hi hj => ?_⟩
        · rw [hlen] at hk
          obtain ⟨d1, d2, d3⟩ := div_mod_lt hk
          have hlt : off + k / sz2 < rows2.length := by omega
          have hrr := List.getElem?_eq_getElem hlt
          have hrl : (rows2[off + k / sz2]).length = sz2 := b3 _ (List.getElem_mem hlt)
          have hdd := List.getElem?_eq_getElem (show k % sz2 < (rows2[off + k / sz2]).length by omega)
          obtain ⟨u, u1, u2⟩ := c4 _ _ _ _ hrr hdd
          have e : p.base + ((off + k / sz2) * sz2 + k % sz2) = p.base + off * sz2 + k := by rw [Nat.add_mul]; omega
          rw [e] at u1
          have hl0 : 0 < len := Nat.lt_of_le_of_lt (Nat.zero_le _) d1
          rw [ha (by omega), at_add, cell_of_row w p.blk _ c t' (0, 0) c1, u1]
          simp [u1]
        · obtain ⟨hi1, hi2⟩ := drop_take_get hi
          obtain ⟨u, u1, u2⟩ := c4 _ _ _ _ hi2 hj
          have e : p.base + ((off + i) * sz2 + j) = p.base + off * sz2 + (i * sz2 + j) := by rw [Nat.add_mul]; omega
          rw [e] at u1
          simp only [u1, Option.getD_some]
          exact u2
    | fro sz2 rows2 =>
      simp only [M.bind_some, M.need_some, M.pure_some, Prod.exists, Prod.mk.injEq, decide_eq_true_eq] at h2
      obtain ⟨_, l7, d, l8, ⟨hle, _⟩, ⟨rfl, _⟩, ⟨rfl, _⟩⟩ := h2
      obtain ⟨p, b1, b2, b3, b4, b5⟩ := hob
      cases hx with
      | svn _ _ _ _ q hp hv hz => left; exact ⟨rfl, by simp⟩
      | sv _ _ _ _ _ cap a q hp hv hz hc hb ha =>
        rw [b1] at hp; cases hp
        have e : sz2 = sz' := b2.symm.trans hz
        subst e
        have hlen : ((rows2.drop off).take len).length = len := by simp; omega
        refine .inr ⟨a, cap, by rw [hlen], fun r hr => b3 r (List.mem_of_mem_drop (List.mem_of_mem_take hr)), fun k => (w.cell? (at_ p.blk (p.base + off * sz2 + k))).getD undef, fun k hk => ?_, fun i j r d hi hj => ?_⟩
        · rw [hlen] at hk
          obtain ⟨d1, d2, d3⟩ := div_mod_lt hk
          have hlt : off + k / sz2 < rows2.length := by omega
          have hrr := List.getElem?_eq_getElem hlt
          have hrl : (rows2[off + k / sz2]).length = sz2 := b3 _ (List.getElem_mem hlt)
          have hdd := List.getElem?_eq_getElem (show k % sz2 < (rows2[off + k / sz2]).length by omega)
          obtain ⟨u0, u, u1, u2⟩ := b5 _ _ _ _ hrr hdd
          have e : p.base + ((off + k / sz2) * sz2 + k % sz2) = p.base + off * sz2 + k := by rw [Nat.add_mul]; omega
          rw [e] at u1
          have hl0 : 0 < len := Nat.lt_of_le_of_lt (Nat.zero_le _) d1
          rw [ha (by omega), at_add, u1]
          simp [u1]
        · obtain ⟨hi1, hi2⟩ := drop_take_get hi
          obtain ⟨u0, u, u1, u2⟩ := b5 _ _ _ _ hi2 hj
          have e : p.base + ((off + i) * sz2 + j) = p.base + off * sz2 + (i * sz2 + j) := by rw [Nat.add_mul]; omega
          rw [e] at u1
          simp only [u1, Option.getD_some]
          exact u2
  · simp [M.fail] at he

/-- the source as a list of values -/
theorem SrcOk.list {sz : Nat} {v : Value} {rows : List (List D)} (h : SrcOk w S sz v rows) (hr : ∀ r ∈ rows, r.length = sz) :
    ∃ news : List Value, news.length = rows.length * sz ∧ (∀ (i j : Nat) r d, rows[i]? = some r → r[j]? = some d → ∃ u, news[i * sz + j]? = some u ∧ FR w S u d) ∧
      ((v = .slice none 0 0 ∧ rows = []) ∨ ∃ a c, v = .slice (some a) rows.length c ∧ ∀ j u, news[j]? = some u → w.cell? (a.add j) = some u) := by
  rcases h with ⟨h1, h2⟩ | ⟨a, c, h1, h2, f, h3, h4⟩
  · subst h2
    exact ⟨[], by simp, fun i j r d hi => by simp at hi, .inl ⟨h1, rfl⟩⟩
  · refine ⟨(List.range (rows.length * sz)).map f, by simp, fun i j r d hi hj => ?_, .inr ⟨a, c, h1, fun j u hu => ?_⟩⟩
    · have hil : i < rows.length := (List.getElem?_eq_some_iff.1 hi).1
      have hjl : j < sz := by rw [← h2 r (List.mem_of_getElem? hi)]; exact (List.getElem?_eq_some_iff.1 hj).1
      have hlt : i * sz + j < rows.length * sz := by
        have := Nat.mul_le_mul_right sz (show i + 1 ≤ rows.length by omega)
        rw [Nat.add_mul] at this
        omega
      exact ⟨f (i * sz + j), by simp [List.getElem?_range, hlt], h4 i j r d hi hj⟩
    · simp only [List.getElem?_map, Option.map_eq_some_iff] at hu
      obtain ⟨k, hk, rfl⟩ := hu
      have hjl := (List.getElem?_eq_some_iff.1 hk).1
      simp at hjl
      rw [List.getElem?_range hjl] at hk
      cases hk
      exact h3 j hjl

theorem SrcOk.len {sz : Nat} {v : Value} {rows : List (List D)} (h : SrcOk w S sz v rows) : ∀ r ∈ rows, r.length = sz := by
  rcases h with ⟨_, h2⟩ | ⟨a, c, _, h2, _⟩
  · subst h2; simp
  · exact h2

/-- an append within the capacity -/
theorem run_append_in {t e ty : TypeId} {ei : TI} (hu : P.underlying t = some (.slice e)) (hei : TOk P e ei) (sb : Option Addr) (sLen sCap : Nat) (vx : Value) (n : Nat) (news : List Value) (hnl : news.length = n * ei.size)
    (hx : (vx = .slice none 0 0 ∧ n = 0) ∨ ∃ a c, vx = .slice (some a) n c ∧ ∀ j u, news[j]? = some u → w.cell? (a.add j) = some u) (hle : sLen + n ≤ sCap) {w' : World}
    (hst : ∀ b, sb = some b → (storeCells (b.add (sLen * ei.size)) news).run P w = .ok () w') (hno : sb = none → w' = w) :
    (Builtin.append_ #[t, t] ty #[.slice sb sLen sCap, vx]).run P w = .ok (.slice sb (sLen + n) sCap) w' := by
  obtain ⟨i, hi1, hi2⟩ := run_typeInfo (w := w) hei
  rcases hx with ⟨rfl, rfl⟩ | ⟨a, c, rfl, hcells⟩
  · have hn0 : news = [] := by simpa using hnl
    subst hn0
    cases sb with
    | none => simp [Builtin.append_, run_underlying hu, run_sizeOf' hei, Builtin.lenOf, Builtin.firstCells, hno rfl, show sLen ≤ sCap by omega]
    | some b =>
      have := hst b rfl
      simp only [Nat.add_zero] at hle
      simp [Builtin.append_, run_underlying hu, run_sizeOf' hei, Builtin.lenOf, Builtin.firstCells, this, show sLen ≤ sCap by omega]
  · have hf := run_firstCells_some (P := P) w ei.size n a n c news hnl hcells
    cases sb with
    | none => simp [Builtin.append_, run_underlying hu, run_sizeOf' hei, Builtin.lenOf, hf, hno rfl, hle]
    | some b =>
      have := hst b rfl
      simp [Builtin.append_, run_underlying hu, run_sizeOf' hei, Builtin.lenOf, hf, this, hle]

theorem grownCap_le (w : World) (need old : Nat) (e : TypeId) : need ≤ grownCap w need old e := by
  simp [grownCap, Question.cut]

theorem news_one {sz : Nat} {rows : List (List D)} {news : List Value} (hl : news.length = rows.length * sz) (hr : ∀ r ∈ rows, r.length = sz)
    (hc : ∀ (i j : Nat) r d, rows[i]? = some r → r[j]? = some d → ∃ u, news[i * sz + j]? = some u ∧ FR w S u d) : ∀ v ∈ news, Ax.one v = true := by
  intro v hv
  obtain ⟨k, hk⟩ := List.getElem?_of_mem hv
  have hkl := (List.getElem?_eq_some_iff.1 hk).1
  rw [hl] at hkl
  obtain ⟨d1, d2, d3⟩ := div_mod_lt hkl
  have hrr := List.getElem?_eq_getElem d1
  have hrl : (rows[k / sz]).length = sz := hr _ (List.getElem_mem d1)
  have hdd := List.getElem?_eq_getElem (show k % sz < (rows[k / sz]).length by omega)
  obtain ⟨u, u1, u2⟩ := hc _ _ _ _ hrr hdd
  rw [d3, hk] at u1
  cases u1
  exact u2.one

end ops
end Go.Ax
end
section
namespace Go.Ax
set_option linter.unusedSimpArgs false
set_option linter.unusedVariables false

section ops
variable {P : Program} {E : Env} {en : Ent} {Fr : Nat → Prop} {β : Beta} {S : CellSet} {w : World} {hp : Heap} {base : Nat}
variable {ρc : Operand → Value} {ρ : Operand → Option AV}

theorem arr_store (P : Program) (h : Hv en Fr β S w hp) {id ver sz : Nat} {rows : List (List D)} {p : Place} (hg : hget hp id = some (ver, .arr sz rows)) (hp1 : β id ver = some p) (hv : p.virt = false)
    (q : Nat) (news : List Value) (hones : ∀ v ∈ news, Ax.one v = true) (hq : news ≠ [] → q + news.length ≤ p.size) (a : Addr) (ha : news ≠ [] → a = at_ p.blk q) :
    ∃ (w' : World) (c c' : Array Value) (t' : TypeId), (storeCells a news).run P w = .ok () w' ∧ w'.heap[p.blk]? = some (.cells c' t' (0, 0)) ∧ c'.size = p.size ∧
      (∀ k, c'[k]? = if q ≤ k ∧ k < q + news.length then news[k - q]? else c[k]?) ∧
      (∀ b, b < w.heap.size → ¬ Mine β hp id b → w'.heap[b]? = w.heap[b]?) ∧ w'.heap.size = w.heap.size ∧ w'.output = w.output ∧ w'.os = w.os ∧
      p.sz = sz ∧ (∀ r ∈ rows, r.length = sz) ∧ p.base + rows.length * sz ≤ p.size ∧
      ∀ (i j : Nat) r d, rows[i]? = some r → r[j]? = some d → ∃ v, c[p.base + (i * sz + j)]? = some v ∧ FR w S v d := by
  obtain ⟨p', b1, b2, b3, b4, b5⟩ := h.hr.obj _ _ _ hg
  rw [hp1] at b1; cases b1
  obtain ⟨c, t', c1, c2, c3, c4⟩ := b5 hv
  by_cases hn : news = []
  · subst hn
    exact ⟨w, c, c, t', by simp [storeCells], c1, c2, fun k => by rw [if_neg (by simp only [List.length_nil]; omega)], fun _ _ _ => rfl, rfl, rfl, rfl, b2, b3, c3, c4⟩
  · obtain ⟨w', c', r1, r2, r3, r4, r5, r6, r7, r8⟩ := run_storeCells (P := P) p.blk q t' news 0 c w c1 hones (by have := hq hn; omega)
    rw [← ha hn] at r1
    exact ⟨w', c, c', t', r1, r2, by rw [r3, c2], fun k => by have := r4 k; simpa using this, fun b hb hm => r5 b (fun e => hm (e ▸ ⟨ver, _, p, hg, rfl, hp1, hv, rfl⟩)), r6, r7, r8, b2, b3, c3, c4⟩

theorem append_res {sz : Nat} {rows2 : List (List D)} {news : List Value} (hnl : news.length = rows2.length * sz) : (news ≠ [] → rows2 ≠ []) := by
  intro hn e
  subst e
  simp at hnl
  exact hn hnl

theorem zeroCells_size (z : Array Value) (n : Nat) : (Builtin.zeroCells z n).size = n * z.size := by simp [Builtin.zeroCells]

/-- a new block by an append -/
theorem append_new (h : Hv en Fr β S w hp) {id ver : Nat} {o : AObj} (hgo : (hget hp id = none ∧ Fr id ∧ ver = 0) ∨ (∃ o, hget hp id = some (ver - 1, o) ∧ 0 < ver)) (e : TypeId)
    {sz : Nat} {rows : List (List D)} {zc : Array Value} (hz : zc.size = sz) (olds : List Value) (len cap : Nat) (hlen : rows.length = len) (hol : olds.length = len * sz) (hcap : len ≤ cap)
    (hr : ∀ r ∈ rows, r.length = sz) (hc : ∀ (i j : Nat) r d, rows[i]? = some r → r[j]? = some d → ∃ u, olds[i * sz + j]? = some u ∧ FR w S u d) :
    ∃ β', Hv en (fun i => Fr i ∧ i ≠ id) β' S (w.drew.alloc (.cells (olds.toArray ++ Builtin.zeroCells zc (cap - len)) e)) (hset id ver (.arr sz rows) hp) ∧ BIncl β β' ∧ Keeps w (w.drew.alloc (.cells (olds.toArray ++ Builtin.zeroCells zc (cap - len)) e)) S ∧
      AR β' (w.drew.alloc (.cells (olds.toArray ++ Builtin.zeroCells zc (cap - len)) e)) S (.slice (some (at_ w.heap.size 0)) len cap) (.sv id ver sz 0 len) := by
  have hsz : (olds.toArray ++ Builtin.zeroCells zc (cap - len)).size = cap * sz := by
    simp [zeroCells_size, hol, hz]
    rw [← Nat.add_mul]; congr 1; omega
  generalize hcc : olds.toArray ++ Builtin.zeroCells zc (cap - len) = cc at hsz ⊢
  have hcg : ∀ (k : Nat) u, olds[k]? = some u → cc[k]? = some u := by
    intro k u hu
    have hk := (List.getElem?_eq_some_iff.1 hu).1
    rw [← hcc, Array.getElem?_append_left (by simpa using hk)]
    simpa using hu
  have hnone : β id ver = none ∧ ∀ v, ver < v → β id v = none := by
    rcases hgo with ⟨_, hf, rfl⟩ | ⟨o, hg, hpos⟩
    · exact ⟨(h.hr.new id hf).2 _, fun v _ => (h.hr.new id hf).2 v⟩
    · exact ⟨h.hr.ver _ _ _ hg ver (by omega), fun v hv => h.hr.ver _ _ _ hg v (by omega)⟩
  have hb : BIncl β (upd β id ver ⟨w.heap.size, 0, sz, cc.size, false⟩) := upd_incl _ hnone.1
  have hblk : ∀ b, b < w.heap.size → ¬ Mine β hp id b → (w.drew.alloc (.cells cc e)).heap[b]? = w.heap[b]? := fun b hb _ => heap_alloc_any w.drew _ b hb
  have hk := h.keeps hblk
  have hfr : ∀ i, (Fr i ∧ i ≠ id) → Fr i ∧ i ≠ id := fun i hi => hi
  obtain ⟨g1, g2⟩ := h.put (Fr' := fun i => Fr i ∧ i ≠ id) (S' := S) (w' := w.drew.alloc (.cells cc e)) id ver (.arr sz rows) hb (fun i v hi => upd_ne _ hi)
    (fun v hv => by
      unfold upd
      rw [if_neg (by omega)]
      exact hnone.2 v hv) hblk (by simp) (Incl.refl S) (fun b k hs => .inl hs)
    (by
      refine ⟨_, upd_same _ _ _ _, rfl, hr, by simp, fun _ => ⟨cc, e, heap_alloc_new w.drew _, rfl, ?_, fun i j r d h1 h2 => ?_⟩⟩
      · simp only [Nat.zero_add]; rw [hsz, hlen]; exact Nat.mul_le_mul_right _ hcap
      · obtain ⟨v, e1, e2⟩ := hc i j r d h1 h2
        exact ⟨v, by simpa using hcg _ _ e1, e2.mono hk (Incl.refl S)⟩)
    (by
      intro _ p hp1 hp2
      rw [upd_same] at hp1; cases hp1
      exact ⟨.inr (Nat.le_refl _), fun k hs => Nat.lt_irrefl _ (h.hr.low _ _ hs)⟩)
    ⟨rfl, rfl⟩ hfr
  refine ⟨_, g1, hb, hk, ?_⟩
  exact AR.sv id ver sz 0 len cap _ ⟨w.heap.size, 0, sz, cc.size, false⟩ (upd_same _ _ _ _) rfl rfl hcap (by simp [hsz]) (fun _ => by simp)

theorem appendA_sound (hT : TyOk P E) (h : Hv en Fr β S w hp) (hFr : Fr base) {t e ty : TypeId} {ti : TI} (hel : Ax.elemOf E t = some (e, ti)) {vs vx : Value} {s x v : AV} {wr : Heap} {l : List Nat}
    (hs : AR β w S vs s) (hx : AR β w S vx x) (he : appendA ti base s x (hget hp) = some ((v, wr), l)) :
    ∃ β' S' w' val, (Builtin.append_ #[t, t] ty #[vs, vx]).run P w = .ok val w' ∧ AR β' w' S' val v ∧ Hv en (Less Fr base) β' S' w' (hputs wr hp) ∧ BIncl β β' ∧ Incl S S' ∧ Keeps w w' S := by
  obtain ⟨hu, hei, _⟩ := elemOf_spec hT hel
  obtain ⟨ii, z, i1, i2, i3, i4, zs, i5, i6, i7, i8⟩ := hei.info
  simp only [appendA, M.bind_some, M.need_some, Prod.exists, Prod.mk.injEq, decide_eq_true_eq] at he
  obtain ⟨rows2, l1, v', wr', l2, h1, ⟨_, l3, v3, wr3, l4, ⟨⟨hby, hsz0⟩, _⟩, h2, ⟨rfl, rfl⟩, _⟩, ⟨rfl, rfl⟩, _⟩ := he
  have hsrc := rowsOf_sound h hx h1
  have hr2 := hsrc.len
  obtain ⟨news, n1, n2, n3⟩ := hsrc.list hr2
  have hones := news_one n1 hr2 n2
  have hzc : z.cells.size = ti.size := by rw [i5]; simpa using i8
  -- growing from nothing
  have growNil : ∀ (id ver : Nat), ((hget hp id = none ∧ Fr id ∧ ver = 0) ∨ (∃ o, hget hp id = some (ver - 1, o) ∧ 0 < ver)) → rows2 ≠ [] → rows2.length ≤ sumLen →
      ∃ β' w' val, (Builtin.append_ #[t, t] ty #[.slice none 0 0, vx]).run P w = .ok val w' ∧ AR β' w' S val (.sv id ver ti.size 0 rows2.length) ∧ Hv en (fun i => Fr i ∧ i ≠ id) β' S w' (hset id ver (.arr ti.size rows2) hp) ∧ BIncl β β' ∧ Keeps w w' S := by
    intro id ver hgo hne hle
    rcases n3 with ⟨_, e0⟩ | ⟨a, c, rfl, hcells⟩
    · exact absurd e0 hne
    have hpos : 0 < rows2.length := List.length_pos_iff.2 hne
    simp only [sumLen] at hle
    have hb1 : rows2.length * ii.bytes ≤ 16777216 * 4096 := Nat.mul_le_mul hle (by omega)
    have hrun := run_append_nil (P := P) w t ty e ii z hu i1 i4 a rows2.length c news (by rw [n1, i2]) hcells hpos (by omega) (by omega)
    obtain ⟨β', g1, g2, g3, g4⟩ := append_new (o := .dead) h hgo e hzc news rows2.length (grownCap w rows2.length 0 e) rfl n1 (grownCap_le _ _ _ _) hr2 n2
    exact ⟨β', _, _, hrun, g4, g1, g2, g3⟩
  split at h2
  · -- nil
    have hvs := hs.lit_inv
    subst hvs
    split at h2
    · simp only [pure, M.pure, Option.some.injEq, Prod.mk.injEq] at h2
      obtain ⟨⟨rfl, rfl⟩, _⟩ := h2
      have hn0 : news = [] := by simpa using n1
      subst hn0
      refine ⟨β, S, w, _, run_append_in hu hei none 0 0 vx 0 [] (by simp) ?_ (by omega) (fun b hb => by simp at hb) (fun _ => rfl), AR.lit rfl, h.weakFr (fun i hi => hi.1), BIncl.refl β, Incl.refl S, Keeps.refl w S⟩
      simpa using n3
    · rename_i hne
      simp only [M.bind_some, M.need_some, M.pure_some, Prod.exists, Prod.mk.injEq, decide_eq_true_eq] at h2
      obtain ⟨_, l5, v5, wr5, l6, ⟨hle, _⟩, ⟨⟨rfl, rfl⟩, _⟩, ⟨⟨rfl, rfl⟩, _⟩⟩ := h2
      obtain ⟨β', w', val, g1, g2, g3, g4, g5⟩ := growNil base 0 (.inl ⟨(h.hr.new base hFr).1, hFr, rfl⟩) (fun e => hne e) hle
      exact ⟨β', S, w', val, g1, g2, g3.less (Nat.le_refl _) (by omega), g4, Incl.refl S, g5⟩
  · -- an owned slice
    rename_i id ver sz off len
    simp only [M.bind_some, M.need_some, look_some, Prod.exists, Prod.mk.injEq, decide_eq_true_eq] at h2
    obtain ⟨_, l5, v5, wr5, l6, ⟨rfl, _⟩, ⟨v1, ob, l7, v7, wr7, l8, ⟨hg, _⟩, ⟨_, l9, v9, wr9, l10, ⟨rfl, _⟩, h3, ⟨rfl, rfl⟩, _⟩, ⟨rfl, rfl⟩, _⟩, ⟨rfl, rfl⟩, _⟩ := h2
    have hidb : ¬ Fr id := by
      intro hf; rw [(h.hr.new id hf).1] at hg; simp at hg
    have lessId : ∀ {β' S' w' hp'}, Hv en (fun i => Fr i ∧ i ≠ id) β' S' w' hp' → Hv en (Less Fr base) β' S' w' hp' := by
      intro β' S' w' hp' hh
      exact hh.weakFr (fun i hi => ⟨hi.1, fun e => hidb (e ▸ hi.1)⟩)
    cases ob with
    | box => simp [M.fail] at h3
    | fro => simp [M.fail] at h3
    | dead => simp [M.fail] at h3
    | arr sz' rows =>
      have esz := sv_arr_sz h hg hs
      subst esz
      simp only at h3
      cases hd : decide (off + len = rows.length) with
      | true =>
        rw [hd] at h3
        simp only [M.bind_some, M.need_some, M.pure_some, Prod.exists, Prod.mk.injEq, decide_eq_true_eq] at h3 hd
        obtain ⟨_, l11, v11, wr11, l12, ⟨hle, _⟩, ⟨⟨rfl, rfl⟩, _⟩, ⟨⟨rfl, rfl⟩, _⟩⟩ := h3
        have hgo : ∃ o, hget hp id = some (v1 + 1 - 1, o) ∧ 0 < v1 + 1 := ⟨_, by simpa using hg, by omega⟩
        cases hs with
        | svn _ _ _ _ q hp1 hv hz =>
          have hrows : rows = [] := by
            obtain ⟨p', b1, b2, b3, b4, b5⟩ := h.hr.obj _ _ _ hg
            rw [hp1] at b1; cases b1
            exact b4 hv
          subst hrows
          have ho0 : off = 0 := by simp at hd; omega
          subst ho0
          by_cases hne : rows2 = []
          · subst hne
            have hn0 : news = [] := by simpa using n1
            subst hn0
            have hrun := run_append_in (P := P) (w := w) (w' := w) (ty := ty) hu hei none 0 0 vx 0 [] (by simp) (by simpa using n3) (by omega) (fun b hb => by simp at hb) (fun _ => rfl)
            have hnone := h.hr.ver _ _ _ hg (v1 + 1) (by omega)
            have hb : BIncl β (upd β id (v1 + 1) q) := upd_incl _ hnone
            obtain ⟨g1, g2⟩ := h.put (Fr' := fun i => Fr i ∧ i ≠ id) (S' := S) (w' := w) id (v1 + 1) (.arr ti.size []) hb (fun i v hi => upd_ne _ hi)
              (fun v hv => by unfold upd; rw [if_neg (by omega)]; exact h.hr.ver _ _ _ hg v (by omega)) (fun _ _ _ => rfl) (Nat.le_refl _) (Incl.refl S) (fun b k hs => .inl hs)
              ⟨q, upd_same _ _ _ _, hz, by simp, by simp, fun hvf => by rw [hv] at hvf; simp at hvf⟩
              (fun _ p' hp' hv' => by rw [upd_same] at hp'; cases hp'; rw [hv] at hv'; simp at hv') ⟨rfl, rfl⟩ (fun i hi => hi)
            exact ⟨_, S, w, _, hrun, by simpa using AR.svn id (v1 + 1) ti.size 0 q (upd_same _ _ _ _) hv hz, by simpa [hputs] using lessId g1, hb, Incl.refl S, g2⟩
          · obtain ⟨β', w', val, g1, g2, g3, g4, g5⟩ := growNil id (v1 + 1) (.inr hgo) hne (by simpa using hle)
            exact ⟨β', S, w', val, g1, by simpa using g2, by simpa [hputs] using lessId g3, g4, Incl.refl S, g5⟩
        | sv _ _ _ _ _ cap a p hp1 hv hz hc hbb ha =>
          have hlen2 : (rows.drop off ++ rows2).length = len + rows2.length := by simp; omega
          by_cases hin : len + rows2.length ≤ cap
          · -- in place
            have hmul : len * ti.size + rows2.length * ti.size ≤ cap * ti.size := by rw [← Nat.add_mul]; exact Nat.mul_le_mul_right _ hin
            have hbb' : p.base + off * ti.size + cap * ti.size = p.size := by rw [← hbb, Nat.add_mul]; omega
            have hne : news ≠ [] → cap ≠ 0 := by
              intro hn
              have : rows2 ≠ [] := append_res n1 hn
              have := List.length_pos_iff.2 this
              omega
            obtain ⟨w', c, c', t', r1, r2, r3, r4, r5, r6, r7, r8, q1, q2, q3, q4⟩ := arr_store P h hg hp1 hv (p.base + off * ti.size + len * ti.size) news hones (fun hn => by omega) (a.add (len * ti.size)) (fun hn => by rw [ha (hne hn), at_add])
            have hrun := run_append_in (P := P) (w := w) (w' := w') (ty := ty) hu hei (some a) len cap vx rows2.length news n1 (n3.imp (fun x => ⟨x.1, by rw [x.2]; rfl⟩) (fun x => x)) hin (fun b hb => by cases hb; exact r1) (fun hb => by simp at hb)
            have hnone := h.hr.ver _ _ _ hg (v1 + 1) (by omega)
            have hb : BIncl β (upd β id (v1 + 1) ⟨p.blk, p.base + off * ti.size, ti.size, p.size, false⟩) := upd_incl _ hnone
            have hk := h.keeps r5
            obtain ⟨g1, g2⟩ := h.put (Fr' := fun i => Fr i ∧ i ≠ id) (S' := S) (w' := w') id (v1 + 1) (.arr ti.size (rows.drop off ++ rows2)) hb (fun i v hi => upd_ne _ hi)
              (fun v hv => by unfold upd; rw [if_neg (by omega)]; exact h.hr.ver _ _ _ hg v (by omega)) r5 (by omega) (Incl.refl S) (fun b k hs => .inl hs)
              (by
                refine ⟨_, upd_same _ _ _ _, rfl, ?_, by simp, fun _ => ⟨c', t', r2, r3, ?_, fun i j r d hi hj => ?_⟩⟩
                · intro r hr
                  rcases List.mem_append.1 hr with hr | hr
                  · exact q2 r (List.mem_of_mem_drop hr)
                  · exact hr2 r hr
                · rw [hlen2, Nat.add_mul]; simp only; omega
                · simp only
                  rw [r4]
                  by_cases hil : i < len
                  · rw [List.getElem?_append_left (by simp; omega)] at hi
                    have hi' : rows[off + i]? = some r := by simpa using hi
                    have hjl : j < ti.size := by rw [← q2 r (List.mem_of_getElem? hi')]; exact (List.getElem?_eq_some_iff.1 hj).1
                    have hm := Nat.mul_le_mul_right ti.size (show i + 1 ≤ len from hil)
                    rw [Nat.add_mul] at hm
                    rw [if_neg (by omega)]
                    obtain ⟨u, u1, u2⟩ := q4 (off + i) j r d hi' hj
                    refine ⟨u, ?_, u2.mono hk (Incl.refl S)⟩
                    rw [← u1, Nat.add_mul]; congr 1; omega
                  · rw [List.getElem?_append_right (by simp; omega)] at hi
                    have hdl : (rows.drop off).length = len := by simp; omega
                    rw [hdl] at hi
                    have hjl : j < ti.size := by rw [← hr2 r (List.mem_of_getElem? hi)]; exact (List.getElem?_eq_some_iff.1 hj).1
                    obtain ⟨k, rfl⟩ : ∃ k, i = len + k := ⟨i - len, by omega⟩
                    rw [show len + k - len = k by omega] at hi
                    have hkl : k < rows2.length := (List.getElem?_eq_some_iff.1 hi).1
                    have hm := Nat.mul_le_mul_right ti.size (show k + 1 ≤ rows2.length from hkl)
                    rw [Nat.add_mul] at hm
                    obtain ⟨u, u1, u2⟩ := n2 k j r d hi hj
                    rw [Nat.add_mul, if_pos (by omega), show p.base + off * ti.size + (len * ti.size + k * ti.size + j) - (p.base + off * ti.size + len * ti.size) = k * ti.size + j by omega]
                    exact ⟨u, u1, u2.mono hk (Incl.refl S)⟩)
              (fun _ p' hp' hv' => by
                rw [upd_same] at hp'; cases hp'
                exact ⟨.inl ⟨v1, _, p, hg, rfl, hp1, hv, rfl⟩, fun k => h.hr.own _ _ _ _ hg rfl hp1 hv k⟩) ⟨r7, r8⟩ (fun i hi => hi)
            refine ⟨_, S, w', _, hrun, ?_, by simpa [hputs] using lessId g1, hb, Incl.refl S, g2⟩
            exact AR.sv id (v1 + 1) ti.size 0 (len + rows2.length) cap a ⟨p.blk, p.base + off * ti.size, ti.size, p.size, false⟩ (upd_same _ _ _ _) rfl rfl hin (by simpa using hbb') (fun hc0 => by simpa using ha hc0)
          · -- a new block
            obtain ⟨p', b1, b2, b3, b4, b5⟩ := h.hr.obj _ _ _ hg
            rw [hp1] at b1; cases b1
            obtain ⟨c, t', c1, c2, c3, c4⟩ := b5 hv
            rcases n3 with ⟨_, e0⟩ | ⟨ax, cx, rfl, hcells⟩
            · subst e0; simp at hin; omega
            have hbb' : p.base + off * ti.size + cap * ti.size = p.size := by rw [← hbb, Nat.add_mul]; omega
            have hlc : len * ti.size ≤ cap * ti.size := Nat.mul_le_mul_right _ hc
            have hcs : ((c.toList.drop (p.base + off * ti.size)).take (len * ti.size)).length = len * ti.size := by simp; omega
            simp only [sumLen] at hle
            have hb1 : (len + rows2.length) * ii.bytes ≤ 16777216 * 4096 := Nat.mul_le_mul hle (by omega)
            have holds : ∀ j u, ((c.toList.drop (p.base + off * ti.size)).take (len * ti.size))[j]? = some u → w.cell? (a.add j) = some u := by
              intro j u hj
              obtain ⟨hj1, hj2⟩ := drop_take_get hj
              have : cap ≠ 0 := by intro e; subst e; have : len = 0 := by omega
                                   subst this; simp at hj1
              rw [ha this, at_add, cell_of_row w p.blk _ c t' (0, 0) c1]
              simpa using hj2
            have hrun := run_append_grow (P := P) w t ty e ii z hu i1 i4 a len cap _ (by rw [hcs, i2]) holds ax rows2.length cx news (by rw [n1, i2]) hcells (by omega) (by omega) (growslice_fits (by omega) (by omega))
            have hcat : ((c.toList.drop (p.base + off * ti.size)).take (len * ti.size)).toArray ++ news.toArray = ((c.toList.drop (p.base + off * ti.size)).take (len * ti.size) ++ news).toArray := by simp
            rw [hcat] at hrun
            obtain ⟨β', g1, g2, g3, g4⟩ := append_new (o := .dead) (rows := rows.drop off ++ rows2) h (.inr hgo) e hzc ((c.toList.drop (p.base + off * ti.size)).take (len * ti.size) ++ news) (len + rows2.length) (grownCap w (len + rows2.length) cap e) hlen2
              (by rw [List.length_append, hcs, n1, Nat.add_mul]) (grownCap_le _ _ _ _)
              (by
                intro r hr
                rcases List.mem_append.1 hr with hr | hr
                · exact b3 r (List.mem_of_mem_drop hr)
                · exact hr2 r hr)
              (by
                intro i j r d hi hj
                by_cases hil : i < len
                · rw [List.getElem?_append_left (by simp; omega)] at hi
                  have hi' : rows[off + i]? = some r := by simpa using hi
                  have hjl : j < ti.size := by rw [← b3 r (List.mem_of_getElem? hi')]; exact (List.getElem?_eq_some_iff.1 hj).1
                  have hm := Nat.mul_le_mul_right ti.size (show i + 1 ≤ len from hil)
                  rw [Nat.add_mul] at hm
                  obtain ⟨u, u1, u2⟩ := c4 (off + i) j r d hi' hj
                  refine ⟨u, ?_, u2⟩
                  rw [List.getElem?_append_left (by omega), List.getElem?_take, if_pos (by omega), List.getElem?_drop]
                  rw [← Array.getElem?_toList] at u1
                  rw [← u1, Nat.add_mul]; congr 1; omega
                · rw [List.getElem?_append_right (by simp; omega)] at hi
                  have hdl : (rows.drop off).length = len := by simp; omega
                  rw [hdl] at hi
                  have hjl : j < ti.size := by rw [← hr2 r (List.mem_of_getElem? hi)]; exact (List.getElem?_eq_some_iff.1 hj).1
                  obtain ⟨k, rfl⟩ : ∃ k, i = len + k := ⟨i - len, by omega⟩
                  rw [show len + k - len = k by omega] at hi
                  obtain ⟨u, u1, u2⟩ := n2 k j r d hi hj
                  refine ⟨u, ?_, u2⟩
                  rw [Nat.add_mul, List.getElem?_append_right (by omega), hcs, show len * ti.size + k * ti.size + j - len * ti.size = k * ti.size + j by omega]
                  exact u1)
            exact ⟨β', S, _, _, hrun, g4, by simpa [hputs] using lessId g1, g2, Incl.refl S, g3⟩
      | false =>
        rw [hd] at h3
        simp only [M.bind_some, M.need_some, M.pure_some, Prod.exists, Prod.mk.injEq, decide_eq_true_eq] at h3
        obtain ⟨_, l11, v11, wr11, l12, ⟨hle, _⟩, ⟨⟨rfl, rfl⟩, _⟩, ⟨⟨rfl, rfl⟩, _⟩⟩ := h3
        simp at hd
        cases hs with
        | svn _ _ _ _ q hp1 hv hz =>
          obtain ⟨p', b1, b2, b3, b4, b5⟩ := h.hr.obj _ _ _ hg
          rw [hp1] at b1; cases b1
          have := b4 hv
          subst this
          simp at hle hd
          omega
        | sv _ _ _ _ _ cap a p hp1 hv hz hc hbb ha =>
          have hbb' : p.base + off * ti.size + cap * ti.size = p.size := by rw [← hbb, Nat.add_mul]; omega
          have hcapr : rows.length ≤ off + cap := by
            obtain ⟨p', b1, b2, b3, b4, b5⟩ := h.hr.obj _ _ _ hg
            rw [hp1] at b1; cases b1
            obtain ⟨c, t', c1, c2, c3, c4⟩ := b5 hv
            have : rows.length * ti.size ≤ (off + cap) * ti.size := by omega
            exact Nat.le_of_mul_le_mul_right this (by omega)
          have hin : len + rows2.length ≤ cap := by omega
          have hmul : len * ti.size + rows2.length * ti.size ≤ cap * ti.size := by rw [← Nat.add_mul]; exact Nat.mul_le_mul_right _ hin
          have hne : news ≠ [] → cap ≠ 0 := by
            intro hn
            have : rows2 ≠ [] := append_res n1 hn
            have := List.length_pos_iff.2 this
            omega
          obtain ⟨w', c, c', t', r1, r2, r3, r4, r5, r6, r7, r8, q1, q2, q3, q4⟩ := arr_store P h hg hp1 hv (p.base + off * ti.size + len * ti.size) news hones (fun hn => by omega) (a.add (len * ti.size)) (fun hn => by rw [ha (hne hn), at_add])
          have hrun := run_append_in (P := P) (w := w) (w' := w') (ty := ty) hu hei (some a) len cap vx rows2.length news n1 (n3.imp (fun x => ⟨x.1, by rw [x.2]; rfl⟩) (fun x => x)) hin (fun b hb => by cases hb; exact r1) (fun hb => by simp at hb)
          have hk := h.keeps r5
          have hlen3 : (rows.take (off + len) ++ rows2 ++ rows.drop (off + len + rows2.length)).length = rows.length := by simp; omega
          obtain ⟨g1, g2⟩ := h.put (Fr' := fun i => Fr i ∧ i ≠ id) (S' := S) (w' := w') id v1 (.arr ti.size (rows.take (off + len) ++ rows2 ++ rows.drop (off + len + rows2.length))) (BIncl.refl β) (fun i v hi => rfl)
            (h.hr.ver _ _ _ hg) r5 (by omega) (Incl.refl S) (fun b k hs => .inl hs)
            (by
              refine ⟨p, hp1, q1, ?_, fun hvt => by rw [hv] at hvt; simp at hvt, fun _ => ⟨c', t', r2, r3, by rw [hlen3]; exact q3, fun i j r d hi hj => ?_⟩⟩
              · intro r hr
                rcases List.mem_append.1 hr with hr | hr
                · rcases List.mem_append.1 hr with hr | hr
                  · exact q2 r (List.mem_of_mem_take hr)
                  · exact hr2 r hr
                · exact q2 r (List.mem_of_mem_drop hr)
              · rw [r4]
                have hold : rows[i]? = some r → (i < off + len ∨ off + len + rows2.length ≤ i) → ∃ v, (if p.base + off * ti.size + len * ti.size ≤ p.base + (i * ti.size + j) ∧ p.base + (i * ti.size + j) < p.base + off * ti.size + len * ti.size + news.length then news[p.base + (i * ti.size + j) - (p.base + off * ti.size + len * ti.size)]? else c[p.base + (i * ti.size + j)]?) = some v ∧ FR w' S v d := by
                  intro hi' hor
                  have hjl : j < ti.size := by rw [← q2 r (List.mem_of_getElem? hi')]; exact (List.getElem?_eq_some_iff.1 hj).1
                  have hnot : ¬ (p.base + off * ti.size + len * ti.size ≤ p.base + (i * ti.size + j) ∧ p.base + (i * ti.size + j) < p.base + off * ti.size + len * ti.size + news.length) := by
                    rw [n1]
                    rcases hor with hor | hor
                    · have hm := Nat.mul_le_mul_right ti.size (show i + 1 ≤ off + len from hor)
                      rw [Nat.add_mul, Nat.add_mul] at hm
                      omega
                    · have hm := Nat.mul_le_mul_right ti.size hor
                      rw [Nat.add_mul, Nat.add_mul] at hm
                      omega
                  rw [if_neg hnot]
                  obtain ⟨u, u1, u2⟩ := q4 i j r d hi' hj
                  exact ⟨u, u1, u2.mono hk (Incl.refl S)⟩
                by_cases h1' : i < off + len
                · rw [List.append_assoc, List.getElem?_append_left (by simp; omega), List.getElem?_take, if_pos h1'] at hi
                  exact hold hi (.inl h1')
                · by_cases h2' : i < off + len + rows2.length
                  · rw [List.append_assoc, List.getElem?_append_right (by simp; omega)] at hi
                    have htl : (rows.take (off + len)).length = off + len := by simp; omega
                    rw [htl, List.getElem?_append_left (by omega)] at hi
                    have hjl : j < ti.size := by rw [← hr2 r (List.mem_of_getElem? hi)]; exact (List.getElem?_eq_some_iff.1 hj).1
                    obtain ⟨k, rfl⟩ : ∃ k, i = off + len + k := ⟨i - (off + len), by omega⟩
                    rw [show off + len + k - (off + len) = k by omega] at hi
                    have hkl : k < rows2.length := by omega
                    have hm := Nat.mul_le_mul_right ti.size (show k + 1 ≤ rows2.length from hkl)
                    rw [Nat.add_mul] at hm
                    obtain ⟨u, u1, u2⟩ := n2 k j r d hi hj
                    have e : p.base + ((off + len + k) * ti.size + j) = p.base + off * ti.size + len * ti.size + (k * ti.size + j) := by rw [Nat.add_mul, Nat.add_mul]; omega
                    rw [e, if_pos (by omega), show p.base + off * ti.size + len * ti.size + (k * ti.size + j) - (p.base + off * ti.size + len * ti.size) = k * ti.size + j by omega]
                    exact ⟨u, u1, u2.mono hk (Incl.refl S)⟩
                  · rw [List.getElem?_append_right (by simp; omega)] at hi
                    have htl : (rows.take (off + len) ++ rows2).length = off + len + rows2.length := by simp; omega
                    rw [htl, List.getElem?_drop, show off + len + rows2.length + (i - (off + len + rows2.length)) = i by omega] at hi
                    exact hold hi (.inr (by omega)))
            (fun _ p' hp' hv' => by
              rw [hp1] at hp'; cases hp'
              exact ⟨.inl ⟨v1, _, p, hg, rfl, hp1, hv, rfl⟩, fun k => h.hr.own _ _ _ _ hg rfl hp1 hv k⟩) ⟨r7, r8⟩ (fun i hi => hi)
          refine ⟨β, S, w', _, hrun, ?_, by simpa [hputs] using lessId g1, BIncl.refl β, Incl.refl S, g2⟩
          exact AR.sv id v1 ti.size off (len + rows2.length) cap a p hp1 hv hz hin hbb ha
  · simp [M.fail] at h2

end ops
end Go.Ax
end
section
namespace Go.Ax
set_option linter.unusedSimpArgs false
set_option linter.unusedVariables false

/-! ### renaming -/
theorem mapRefs_eq (g : Nat → Nat → Option (Nat × Nat)) : ∀ (l : List AV), mapRefs g l = l.map (AV.mapRef g)
  | [] => by simp [mapRefs]
  | c :: r => by simp [mapRefs, mapRefs_eq g r]

theorem AR.mapRef {β β' : Beta} {w : World} {S : CellSet} {g : Nat → Nat → Option (Nat × Nat)} (hg : ∀ id ver i v p, g id ver = some (i, v) → β id ver = some p → β' i v = some p)
    {v : Value} {a : AV} (h : AR β w S v a) : AR β' w S v (a.mapRef g) := by
  induction h with
  | d v x h => exact .d v x h
  | agg vs cs hn h ih =>
    simp only [AV.mapRef, mapRefs_eq]
    refine .agg vs _ (by simpa using hn) (fun i v c hv hc => ?_)
    simp only [List.getElem?_map, Option.map_eq_some_iff] at hc
    obtain ⟨c', hc', rfl⟩ := hc
    exact ih i v c' hv hc'
  | tup vs cs hn h ih =>
    simp only [AV.mapRef, mapRefs_eq]
    refine .tup vs _ (by simpa using hn) (fun i v c hv hc => ?_)
    simp only [List.getElem?_map, Option.map_eq_some_iff] at hc
    obtain ⟨c', hc', rfl⟩ := hc
    exact ih i v c' hv hc'
  | sv id ver sz off len cap a p hp hv hz hc hb ha =>
    simp only [AV.mapRef]
    split
    · rename_i i u e
      exact .sv i u sz off len cap a p (hg _ _ _ _ _ e hp) hv hz hc hb ha
    · exact .top _
  | svn id ver sz off p hp hv hz =>
    simp only [AV.mapRef]
    split
    · rename_i i u e
      exact .svn i u sz off p (hg _ _ _ _ _ e hp) hv hz
    · exact .top _
  | ptr id ver row col p hp hv =>
    simp only [AV.mapRef]
    split
    · rename_i i u e
      exact .ptr i u row col p (hg _ _ _ _ _ e hp) hv
    · exact .top _
  | fp cells b o x hs hx => exact .fp cells b o x hs hx
  | clo f vs cs hn h ih =>
    simp only [AV.mapRef, mapRefs_eq]
    refine .clo f vs _ (by simpa using hn) (fun i v c hv hc => ?_)
    simp only [List.getElem?_map, Option.map_eq_some_iff] at hc
    obtain ⟨c', hc', rfl⟩ := hc
    exact ih i v c' hv hc'
  | top v => exact .top v

theorem ARs.mapRef {β β' : Beta} {w : World} {S : CellSet} {g : Nat → Nat → Option (Nat × Nat)} (hg : ∀ id ver i v p, g id ver = some (i, v) → β id ver = some p → β' i v = some p)
    {vs : List Value} {cs : List AV} (h : ARs β w S vs cs) : ARs β' w S vs (mapRefs g cs) := by
  rw [mapRefs_eq]
  refine ⟨by simpa using h.1, fun i v c hv hc => ?_⟩
  simp only [List.getElem?_map, Option.map_eq_some_iff] at hc
  obtain ⟨c', hc', rfl⟩ := hc
  exact (h.2 i v c' hv hc').mapRef hg

theorem OR.mapRef {β β' : Beta} {w : World} {S : CellSet} {g : Nat → Nat → Option (Nat × Nat)} (hg : ∀ id ver i v p, g id ver = some (i, v) → β id ver = some p → β' i v = some p)
    {id ver i v : Nat} (hk : ∀ p, β id ver = some p → β' i v = some p) {o : AObj} (h : OR β w S id ver o) : OR β' w S i v (o.mapRef g) := by
  cases o with
  | box cells =>
    obtain ⟨p, c, t, h1, h2, h3, h4, h5, h6, h7⟩ := h
    refine ⟨p, c, t, hk _ h1, h2, h3, by simpa [mapRefs_eq] using h4, h5, by simpa [mapRefs_eq] using h6, fun i v a hv ha => ?_⟩
    simp only [mapRefs_eq, List.getElem?_map, Option.map_eq_some_iff] at ha
    obtain ⟨c', hc', rfl⟩ := ha
    exact (h7 i v c' hv hc').mapRef hg
  | arr sz rows =>
    obtain ⟨p, h1, h2, h3, h4, h5⟩ := h
    exact ⟨p, hk _ h1, h2, h3, h4, h5⟩
  | fro sz rows =>
    obtain ⟨p, h1, h2, h3, h4, h5⟩ := h
    exact ⟨p, hk _ h1, h2, h3, h4, h5⟩
  | dead => trivial

theorem owned_mapRef (g : Nat → Nat → Option (Nat × Nat)) (o : AObj) : (o.mapRef g).owned = o.owned := by cases o <;> rfl

/-! ### what a function is promised to do -/

def mkHeap : Nat → List (Nat × AObj) → Heap
  | _, [] => []
  | j, (v, o) :: r => (j, v, o) :: mkHeap (j + 1) r

theorem hget_mkHeap : ∀ (objs : List (Nat × AObj)) (k j : Nat), hget (mkHeap k objs) j = if k ≤ j then objs[j - k]? else none
  | [], k, j => by simp [mkHeap, hget]
  | (v, o) :: r, k, j => by
    simp only [mkHeap, hget, hget_mkHeap r (k + 1) j]
    by_cases h : k = j
    · subst h; simp
    · rw [if_neg h]
      by_cases h2 : k + 1 ≤ j
      · rw [if_pos h2, if_pos (by omega), show j - k = (j - (k + 1)) + 1 by omega]; simp
      · rw [if_neg h2, if_neg (by omega)]

def zeroVer (objs : List AObj) : List (Nat × AObj) := objs.map fun o => (0, o)

/-- what a call finds: its own view on the world. -/
def entOf (w : World) (S : CellSet) (β : Beta) (objs : List AObj) : Ent where
  w0 := w
  S0 := S
  own0 := fun b => ∃ j o p, objs[j]? = some o ∧ o.owned = true ∧ β j 0 = some p ∧ p.virt = false ∧ p.blk = b
  β0 := fun j => if j < objs.length then β j 0 else none

def Spec (P : Program) (f : FuncId) (F : List AV → List AObj → Option (AV × List (Nat × AObj))) : Prop :=
  ∀ args objs r objs', F args objs = some (r, objs') → ∀ (w : World) (S : CellSet) (β : Beta) (vals : List Value), ARs β w S vals args →
    HR β w S (mkHeap 0 (zeroVer objs)) (fun id => objs.length ≤ id) →
    Calls P f vals.toArray w fun e w' => ∃ β' S' v, e = .returned v ∧ AR β' w' S' v r ∧
      Hv (entOf w S β objs) (fun id => objs'.length ≤ id) β' S' w' (mkHeap 0 objs')

structure FnOk (P : Program) (f : FuncId) (fn : Fn) : Prop where
  func : ∃ g, P.funcs[f]? = some g ∧ (g.name == "runtime.NumGoroutine") = false ∧ g.body.isNone = false
  spec : Spec P f fn.F

/-- an extern function that tells whether two slices overlap -/
structure OvOk (P : Program) (f : FuncId) : Prop where
  func : ∃ g, P.funcs[f]? = some g ∧ (g.name == "runtime.NumGoroutine") = false ∧ g.body.isNone = true ∧ (Extern.findNext g).isNone = true ∧
    (∃ rs, Extern.find g = some (Extern.SlicesOverlaps.overlaps g.params rs)) ∧ ∃ t e ei, g.params[0]? = some t ∧ P.underlying t = some (.slice e) ∧ TOk P e ei

structure EOk (P : Program) (E : Env) (en : Ent) : Prop extends TyOk P E where
  fn : ∀ f fn, E.S f = some fn → FnOk P f fn
  cap : ∀ j c, E.cap0 j = some c → ∃ p, en.β0 j = some p ∧ p.virt = false ∧ p.sz ≠ 0 ∧ p.base + c * p.sz = p.size
  ovl : ∀ f, E.ovl f = true → OvOk P f

/-! ### the objects of a call -/
theorem inIds_iff (id : Nat) : ∀ (h : Heap), inIds id h = true ↔ ∃ v o, (id, v, o) ∈ h
  | [] => by simp [inIds]
  | (j, v, o) :: r => by
    simp only [inIds]
    by_cases e : j = id
    · subst e; simp; exact ⟨v, o, .inl ⟨rfl, rfl⟩⟩
    · rw [if_neg e, inIds_iff id r]
      simp [Ne.symm e]

structure Coll (hp L : Heap) : Prop where
  get : ∀ (j : Nat) id ver o, L[j]? = some (id, ver, o) → hget hp id = some (ver, o)
  nodup : ∀ (i j : Nat) id ver o id' ver' o', L[i]? = some (id, ver, o) → L[j]? = some (id', ver', o') → id = id' → i = j

theorem collect_sound {hp : Heap} : ∀ (n : Nat) (todo : List (Nat × Nat)) (acc L : Heap) (l : List Nat), Coll hp acc → collect n todo acc (hget hp) = some (L, l) → Coll hp L
  | n, [], acc, L, l, hc, h => by
    cases n <;> simp [collect, pure, M.pure] at h <;> exact h.1 ▸ hc
  | 0, _ :: _, acc, L, l, hc, h => by simp [collect, M.fail] at h
  | n + 1, (id, ver) :: todo, acc, L, l, hc, h => by
    simp only [collect] at h
    cases hi : inIds id acc with
    | true =>
      rw [hi] at h
      exact collect_sound n todo acc L l hc h
    | false =>
      rw [hi] at h
      simp only [M.bind_some, look_some, Prod.exists, Prod.mk.injEq] at h
      obtain ⟨v, o, l1, b, l2, ⟨h1, _⟩, h2, rfl, _⟩ := h
      cases hd : decide (v = ver) with
      | true =>
        rw [hd] at h2
        refine collect_sound n _ _ _ _ ⟨?_, ?_⟩ h2
        · intro j i u p hj
          by_cases hjl : j < acc.length
          · rw [List.getElem?_append_left hjl] at hj; exact hc.get j i u p hj
          · rw [List.getElem?_append_right (by omega)] at hj
            have : j - acc.length = 0 := by
              have := (List.getElem?_eq_some_iff.1 hj).1; simp at this; omega
            rw [this] at hj
            simp at hj
            obtain ⟨rfl, rfl, rfl⟩ := hj
            exact h1
        · intro i j i1 u1 p1 i2 u2 p2 hi1 hj1 he
          subst he
          have hnot : ∀ (k u : Nat) p, acc[k]? = some (id, u, p) → False := by
            intro k u p hk
            have := (inIds_iff id acc).2 ⟨u, p, List.mem_of_getElem? hk⟩
            rw [hi] at this; simp at this
          have last : ∀ (k u : Nat) p, (acc ++ [(id, v, o)])[k]? = some (i1, u, p) → (k < acc.length ∧ acc[k]? = some (i1, u, p)) ∨ (k = acc.length ∧ i1 = id) := by
            intro k u p hk
            by_cases hkl : k < acc.length
            · rw [List.getElem?_append_left hkl] at hk; exact .inl ⟨hkl, hk⟩
            · rw [List.getElem?_append_right (by omega)] at hk
              have e0 : k - acc.length = 0 := by
                have := (List.getElem?_eq_some_iff.1 hk).1; simp at this; omega
              rw [e0] at hk
              simp at hk
              exact .inr ⟨by omega, hk.1.symm⟩
          rcases last i u1 p1 hi1 with ⟨a1, a2⟩ | ⟨a1, a2⟩
          · rcases last j u2 p2 hj1 with ⟨b1, b2⟩ | ⟨b1, b2⟩
            · exact hc.nodup i j _ _ _ _ _ _ a2 b2 rfl
            · subst b2; exact (hnot _ _ _ a2).elim
          · rcases last j u2 p2 hj1 with ⟨b1, b2⟩ | ⟨b1, b2⟩
            · subst a2; exact (hnot _ _ _ b2).elim
            · omega
      | false =>
        rw [hd] at h2
        exact collect_sound n todo acc _ _ hc h2

theorem locRef_spec : ∀ (L : Heap) (k id ver j v : Nat), locRef k L id ver = some (j, v) → v = 0 ∧ k ≤ j ∧ ∃ o, L[j - k]? = some (id, ver, o)
  | [], k, id, ver, j, v, h => by simp [locRef] at h
  | (i, u, o) :: r, k, id, ver, j, v, h => by
    simp only [locRef] at h
    by_cases e : i = id
    · rw [if_pos e] at h
      by_cases e2 : u = ver
      · rw [if_pos e2] at h
        simp at h
        obtain ⟨rfl, rfl⟩ := h
        exact ⟨rfl, Nat.le_refl _, o, by simp [e, e2]⟩
      · rw [if_neg e2] at h; simp at h
    · rw [if_neg e] at h
      obtain ⟨h1, h2, o', h3⟩ := locRef_spec r (k + 1) id ver j v h
      refine ⟨h1, by omega, o', ?_⟩
      rw [show j - k = (j - (k + 1)) + 1 by omega]
      simpa using h3

theorem backRef_lt : ∀ (L : Heap) (base j v : Nat) (x : Nat × Nat × AObj), L[j]? = some x → backRef base L j v = some (x.1, x.2.1 + v)
  | [], base, j, v, x, h => by simp at h
  | (i, u, o) :: r, base, 0, v, x, h => by simp at h; subst h; rfl
  | (i, u, o) :: r, base, j + 1, v, x, h => by
    simp only [backRef]
    exact backRef_lt r base j v x (by simpa using h)

theorem backRef_ge : ∀ (L : Heap) (base j v : Nat), L.length ≤ j → backRef base L j v = some (base + (j - L.length), v)
  | [], base, j, v, h => by simp [backRef]
  | (i, u, o) :: r, base, 0, v, h => by simp at h
  | (i, u, o) :: r, base, j + 1, v, h => by
    simp only [backRef]
    rw [backRef_ge r base j v (by simpa using h)]
    simp

theorem hget_backObjs (g : Nat → Nat → Option (Nat × Nat)) (hpB : Heap) : ∀ (objs : List (Nat × AObj)) (k : Nat) (hp : Heap) (i : Nat),
    (∀ (j j' : Nat) v v' i u u', j ≠ j' → g j v = some (i, u) → g j' v' = some (i, u') → False) →
    (∀ (j : Nat) v, k ≤ j → j < k + objs.length → (g j v).isSome = true) →
    (∃ j v o u, objs[j]? = some (v, o) ∧ g (k + j) v = some (i, u) ∧ hget (hputs (backObjs g k objs) hp) i = some (u, o.mapRef g)) ∨
    ((∀ (j : Nat) v o u, objs[j]? = some (v, o) → g (k + j) v ≠ some (i, u)) ∧ hget (hputs (backObjs g k objs) hp) i = hget hp i)
  | [], k, hp, i, hinj, hs => .inr ⟨fun j v o u h => by simp at h, rfl⟩
  | (v, o) :: r, k, hp, i, hinj, hs => by
    have hsome := hs k v (Nat.le_refl _) (by simp)
    obtain ⟨⟨i0, u0⟩, hg0⟩ := Option.isSome_iff_exists.1 hsome
    simp only [backObjs, hg0, hputs]
    rcases hget_backObjs g hpB r (k + 1) (hset i0 u0 (o.mapRef g) hp) i hinj (fun j v h1 h2 => hs j v (by omega) (by simp; omega)) with ⟨j, v', o', u, h1, h2, h3⟩ | ⟨h1, h2⟩
    · exact .inl ⟨j + 1, v', o', u, by simpa using h1, by rw [show k + (j + 1) = k + 1 + j by omega]; exact h2, h3⟩
    · by_cases e : i = i0
      · subst e
        refine .inl ⟨0, v, o, u0, rfl, hg0, ?_⟩
        rw [h2, hget_hset]; simp
      · refine .inr ⟨fun j v' o' u hj hgj => ?_, by rw [h2, hget_hset, if_neg e]⟩
        cases j with
        | zero =>
          simp at hj
          obtain ⟨rfl, rfl⟩ := hj
          rw [Nat.add_zero, hg0] at hgj
          simp at hgj
          exact e hgj.1.symm
        | succ j =>
          exact h1 j v' o' u (by simpa using hj) (by rw [show k + 1 + j = k + (j + 1) by omega]; exact hgj)

end Go.Ax
end
