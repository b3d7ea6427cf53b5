import Derived.Test.YtkncekndhklmhaaP04
import Derived.Test.YtkncekndhklmhaaChecked
import Derived.Eval
/- A part of the proof of a law: steps of the program on plain data, and plain facts about them; no condition. -/
set_option linter.unusedVariables false
set_option linter.unusedSimpArgs false
section
namespace Go.Ax
set_option linter.unusedSimpArgs false
set_option linter.unusedVariables false

/-! ### a run in pieces -/
/-- one operation of a region, its guard looked at first -/
def skipG (E : Env) (o : Oper) (tm : Tm) (hp : Heap) (log : List LogE) : Option (Tm × Heap × List LogE) :=
  match putD E.N o.dst .top tm with
  | none => none
  | some tm' => some (tm', hp, log)
def doG (E : Env) (nxt i : Nat) (o : Oper) (tm : Tm) (hp : Heap) (log : List LogE) : Option (Tm × Heap × List LogE) :=
  match step1 E nxt i o tm hp with
  | none => none
  | some (tm', hp', e) => some (tm', hp', e :: log)
def stepG (E : Env) (nxt : Nat) (all : List Oper) (i : Nat) (o : Oper) (tm : Tm) (hp : Heap) (log : List LogE) : Option (Tm × Heap × List LogE) :=
  match o.guard with
  | none => doG E nxt i o tm hp log
  | some (j, want) => match guardOf all tm j with
    | none => none
    | some b => match b == want with
      | true => doG E nxt i o tm hp log
      | false => skipG E o tm hp log
def ops2 (E : Env) (nxt : Nat) (all : List Oper) : Nat → List Oper → Tm → Heap → List LogE → (Tm → Heap → List LogE → Prop) → Prop
  | _, [], tm, hp, log, K => K tm hp log
  | i, o :: r, tm, hp, log, K => match stepG E nxt all i o tm hp log with
    | none => False
    | some (tm', hp', log') => ops2 E nxt all (i + 1) r tm' hp' log' K
theorem ops2_ops1 (E : Env) (nxt : Nat) (all : List Oper) : ∀ (l : List Oper) (i : Nat) (tm : Tm) (hp : Heap) (log : List LogE) (K : Tm → Heap → List LogE → Prop), ops2 E nxt all i l tm hp log K → ops1 E nxt all i l tm hp log K
  | [], i, tm, hp, log, K, h => h
  | o :: r, i, tm, hp, log, K, h => by
    simp only [ops2] at h
    simp only [ops1]
    cases hg : o.guard with
    | none =>
      simp only [stepG, hg, doG] at h ⊢
      cases hs : step1 E nxt i o tm hp with
      | none => rw [hs] at h; exact h
      | some x =>
        obtain ⟨tm', hp', e⟩ := x
        rw [hs] at h
        exact ops2_ops1 E nxt all r _ _ _ _ _ h
    | some jw =>
      obtain ⟨j, want⟩ := jw
      simp only [stepG, hg] at h ⊢
      cases hq : guardOf all tm j with
      | none => rw [hq] at h; exact h
      | some b =>
        rw [hq] at h
        simp only at h ⊢
        by_cases hb : b = want
        · subst hb
          rw [if_pos rfl]
          simp only [beq_self_eq_true, doG] at h
          cases hs : step1 E nxt i o tm hp with
          | none => rw [hs] at h; exact h
          | some x =>
            obtain ⟨tm', hp', e⟩ := x
            rw [hs] at h
            exact ops2_ops1 E nxt all r _ _ _ _ _ h
        · rw [if_neg hb]
          have hb' : (b == want) = false := by simpa using hb
          simp only [hb', skipG] at h
          cases hs : putD E.N o.dst .top tm with
          | none => rw [hs] at h; exact h
          | some tm' =>
            rw [hs] at h
            exact ops2_ops1 E nxt all r _ _ _ _ _ h
def symN (E : Env) (R : Stop → ASt → Prop) (M : List AItem → ASt → Prop) : Nat → List AItem → ASt → Prop
  | 0, k, st => M k st
  | _ + 1, [], st => R .fin st
  | n + 1, .blk _ :: k, st => symN E R M n k st
  | _ + 1, .lop c :: k, st => R (.loop c k) st
  | n + 1, .code c :: k, st =>
    match c with
    | .skip => symN E R M n k st
    | .seq a b => symN E R M n (.code a :: .code b :: k) st
    | .block id c => symN E R M n (.code c :: .blk id :: k) st
    | .loop c => R (.loop c k) st
    | .exit id => match exitTo id k with
      | some k' => symN E R M n k' st
      | none => False
    | .ret => R .ret st
    | .cond x a b => match evalO st.tm x with
      | some (.d (.lit (.bool t))) => if t = true then symN E R M n (.code a :: k) st else symN E R M n (.code b :: k) st
      | _ => False
    | .region _ ops false => ops2 E st.nxt ops.toList 0 ops.toList st.tm st.hp [] fun tm hp _ => symN E R M n k ⟨tm, hp, st.nxt + 32 * ops.toList.length⟩
    | .region _ ops true => ops2 E st.nxt ops.toList 0 ops.toList st.tm st.hp [] fun tm hp log => okD ops.toList log = true ∧ symN E R M n k ⟨tm, hp, st.nxt + 32 * ops.toList.length⟩
    | _ => False

section
variable {P : Program} {E : Env} {en : Ent}

/-- what is left to do at a stop -/
def More (P : Program) (E : Env) (en : Ent) (Q : ASt → Prop) (k : List AItem) (st : ASt) : Prop := Ex P E en k st Q

theorem Ex.of_symN (hE : EOkM P E en) {Q : ASt → Prop} : ∀ (n : Nat) (k : List AItem) (st : ASt), symN E (Stp P E en Q) (More P E en Q) n k st → Ex P E en k st Q
  | 0, k, st, h => h
  | n + 1, [], st, h => by
    intro β S a w hi b cs
    exact ⟨a, w, [], ⟨β, S, st, h, hi⟩, .one step_end⟩
  | n + 1, .blk id :: k, st, h => by
    intro β S a w hi
    exact Run.of_step (k' := k) (fun b cs => step_inBlock) (Ex.of_symN hE n k st h β S a w hi)
  | n + 1, .lop c :: k, st, h => h
  | n + 1, .code c :: k, st, h => by
    cases c with
    | skip =>
      intro β S a w hi
      exact Run.of_step (k' := k) (fun b cs => step_skip) (Ex.of_symN hE n k st h β S a w hi)
    | seq x y =>
      intro β S a w hi
      exact Run.of_step (k' := .code x :: .code y :: k) (fun b cs => step_seq) (Ex.of_symN hE n _ st h β S a w hi)
    | block id c =>
      intro β S a w hi
      exact Run.of_step (k' := .code c :: .blk id :: k) (fun b cs => step_block) (Ex.of_symN hE n _ st h β S a w hi)
    | loop c => exact Ex.of_sym hE 1 (.code (.loop c) :: k) st h
    | exit id =>
      simp only [symN] at h
      cases hx : exitTo id k with
      | none => rw [hx] at h; exact h.elim
      | some k' =>
        rw [hx] at h
        intro β S a w hi
        exact Run.of_step (k' := k') (fun b cs => step_exit (exitTo_items k id k' hx)) (Ex.of_symN hE n k' st h β S a w hi)
    | ret => exact Ex.of_sym hE 1 (.code .ret :: k) st h
    | cond x y z =>
      simp only [symN] at h
      intro β S a w hi
      split at h
      · rename_i t hev
        have hv := (evalO_sound hi.tm x _ hev).lit_inv
        by_cases ht : t = true
        · rw [if_pos ht] at h
          exact Run.of_step (k' := .code y :: k) (fun b cs => by
            have := step_cond (P := P) (b := b) (a := a) (k := k.map toItem) (cs := cs) (w := w) (c := x) (x := y) (y := z) hv
            rw [ht] at this; exact this) (Ex.of_symN hE n _ st h β S a w hi)
        · rw [if_neg ht] at h
          have ht' : t = false := by simpa using ht
          exact Run.of_step (k' := .code z :: k) (fun b cs => by
            have := step_cond (P := P) (b := b) (a := a) (k := k.map toItem) (cs := cs) (w := w) (c := x) (x := y) (y := z) hv
            rw [ht'] at this; exact this) (Ex.of_symN hE n _ st h β S a w hi)
      · exact h.elim
    | region id ops draw =>
      intro β S a w hi
      refine Run.of_wp ?_
      cases draw with
      | false =>
        simp only [symN] at h
        refine wp_region ?_
        have := ops1_sound (en := en) hE.toEOk (nxt := st.nxt) ops (Q := fun e a w => e = .normal ∧ Run P k a w fun a' w' => ∃ β' S' st', Q st' ∧ Inv en E.N β' S' st' a' w') (K := fun tm hp _ => symN E (Stp P E en Q) (More P E en Q) n k ⟨tm, hp, st.nxt + 32 * ops.toList.length⟩)
          (fun tm hp log β S a w hk hr => ⟨rfl, Ex.of_symN hE n k _ hk β S a w (Inv.ofR (by simpa using hr))⟩) ops.toList 0 st.tm st.hp [] β S a w (fun j => by simp) (by simp) (ops2_ops1 _ _ _ _ _ _ _ _ _ h) (by simpa using hi.toR)
        rw [List.range_eq_range']
        simpa using this
      | true =>
        simp only [symN] at h
        exact region_draw hE.toEOk hE.mixed (ops2_ops1 _ _ _ _ _ _ _ _ _ h) hi.toR (fun tm hp β S a w hk hr => ⟨rfl, Ex.of_symN hE n k _ hk β S a w (Inv.ofR (by simpa using hr))⟩)
    | rangeFunc => simp [symN] at h
    | scope => simp [symN] at h
    | label => simp [symN] at h
    | goto => simp [symN] at h
    | refuse => simp [symN] at h

/-! ### objects under new names -/
/-- what is kept: the elder name, the new name, the new version -/
abbrev Names := List (Nat × Nat × Nat)
def newName : Names → Nat → Option (Nat × Nat)
  | [], _ => none
  | (i, j, v) :: r, id => if i = id then some (j, v) else newName r id
def oldName : Names → Nat → Option (Nat × Nat)
  | [], _ => none
  | (i, j, v) :: r, id => if j = id then some (i, v) else oldName r id
def verOf (hp : Heap) (id : Nat) : Nat := match hget hp id with | some (v, _) => v | none => 0
def canRef (ns : Names) (hp : Heap) (id ver : Nat) : Option (Nat × Nat) :=
  match hget hp id with
  | some (v, _) => if v = ver then newName ns id else none
  | none => none
def canHp (ns0 : Names) (hp0 : Heap) : Names → Heap
  | [] => []
  | (i, j, v) :: r => match hget hp0 i with
    | some (_, o) => (j, v, o.mapRef (canRef ns0 hp0)) :: canHp ns0 hp0 r
    | none => canHp ns0 hp0 r
def canTm (ns : Names) (hp : Heap) (keep : List Nat) : Tm → Tm
  | [] => []
  | (t, v) :: r => match keep.contains t with
    | true => (t, v.mapRef (canRef ns hp)) :: canTm ns hp keep r
    | false => canTm ns hp keep r
def ASt.can (keep : List Nat) (ns : Names) (nx : Nat) (st : ASt) : ASt := ⟨canTm ns st.hp keep st.tm, canHp ns st.hp ns, nx⟩
/-- may the names be taken? m: so many objects came in -/
def namesOk (m nx : Nat) : Names → Bool
  | [] => true
  | (i, j, v) :: r => decide (j < nx) && (decide (i < m) == decide (j < m)) && (!decide (i < m) || decide (i = j)) && (r.all fun x => decide (x.1 ≠ i) && decide (x.2.1 ≠ j)) && namesOk m nx r
/-- the version of what came in stays, or is 1 -/
def versOk (m : Nat) (hp : Heap) : Names → Bool
  | [] => true
  | (i, _, v) :: r => (!decide (i < m) || !decide (v = 0) || decide (verOf hp i = 0)) && versOk m hp r

theorem tget_can (ns : Names) (hp : Heap) (keep : List Nat) : ∀ (tm : Tm) (t : Nat) v, tget (canTm ns hp keep tm) t = some v → ∃ u, tget tm t = some u ∧ v = u.mapRef (canRef ns hp)
  | [], t, v, h => by simp [canTm, tget] at h
  | (s, u) :: r, t, v, h => by
    simp only [canTm] at h
    split at h
    · simp only [tget] at h ⊢
      by_cases e : s = t
      · rw [if_pos e] at h ⊢
        cases h
        exact ⟨u, rfl, rfl⟩
      · rw [if_neg e] at h ⊢
        exact tget_can ns hp keep r t v h
    · rename_i hk
      simp only [tget]
      by_cases e : s = t
      · subst e
        have hnone : ∀ (tm : Tm), tget (canTm ns hp keep tm) s = none := by
          intro tm
          induction tm with
          | nil => rfl
          | cons x r ih =>
            obtain ⟨q, z⟩ := x
            simp only [canTm]
            split
            · rename_i hq
              simp only [tget]
              rw [if_neg (fun e => by subst e; rw [hk] at hq; simp at hq)]
              exact ih
            · exact ih
        rw [hnone] at h
        simp at h
      · rw [if_neg e]
        exact tget_can ns hp keep r t v h

theorem namesOk_spec {m nx : Nat} : ∀ {ns : Names}, namesOk m nx ns = true → (∀ i j v, (i, j, v) ∈ ns → j < nx ∧ (i < m ↔ j < m) ∧ (i < m → i = j)) ∧
    (∀ i j v, (i, j, v) ∈ ns → newName ns i = some (j, v) ∧ oldName ns j = some (i, v)) ∧
    (∀ i j v j', (i, j, v) ∈ ns → ∀ i' v', (i', j', v') ∈ ns → (i = i' ↔ j = j'))
  | [], _ => by simp
  | (i, j, v) :: r, h => by
    simp only [namesOk, Bool.and_eq_true, decide_eq_true_eq, List.all_eq_true, Bool.or_eq_true, Bool.not_eq_true', decide_eq_false_iff_not, beq_iff_eq, Prod.forall, decide_eq_decide] at h
    obtain ⟨⟨⟨⟨h1, h2⟩, h3⟩, h4⟩, h5⟩ := h
    obtain ⟨g1, g2, g3⟩ := namesOk_spec h5
    refine ⟨?_, ?_, ?_⟩
    · intro a b c hm
      rcases List.mem_cons.1 hm with e | hm
      · cases e
        exact ⟨h1, h2, fun hi => h3.elim (fun h => absurd hi h) id⟩
      · exact g1 a b c hm
    · intro a b c hm
      rcases List.mem_cons.1 hm with e | hm
      · cases e
        simp [newName, oldName]
      · obtain ⟨k1, k2⟩ := h4 a b c hm
        simp only [newName, oldName, if_neg (fun e : i = a => k1 e.symm), if_neg (fun e : j = b => k2 e.symm)]
        exact g2 a b c hm
    · intro a b c b' hm a' c' hm'
      rcases List.mem_cons.1 hm with e | hm
      · cases e
        rcases List.mem_cons.1 hm' with e | hm'
        · cases e; exact ⟨fun _ => rfl, fun _ => rfl⟩
        · obtain ⟨k1, k2⟩ := h4 a' b' c' hm'
          exact ⟨fun e => absurd e.symm k1, fun e => absurd e.symm k2⟩
      · rcases List.mem_cons.1 hm' with e | hm'
        · cases e
          obtain ⟨k1, k2⟩ := h4 a b c hm
          exact ⟨fun e => absurd e k1, fun e => absurd e k2⟩
        · exact g3 a b c b' hm a' c' hm'

theorem newName_mem : ∀ {ns : Names} {i j v : Nat}, newName ns i = some (j, v) → (i, j, v) ∈ ns
  | [], i, j, v, h => by simp [newName] at h
  | (a, b, c) :: r, i, j, v, h => by
    simp only [newName] at h
    split at h
    · rename_i e; subst e; cases h; simp
    · exact List.mem_cons_of_mem _ (newName_mem h)
theorem oldName_mem : ∀ {ns : Names} {i j v : Nat}, oldName ns j = some (i, v) → (i, j, v) ∈ ns
  | [], i, j, v, h => by simp [oldName] at h
  | (a, b, c) :: r, i, j, v, h => by
    simp only [oldName] at h
    split at h
    · rename_i e; subst e; cases h; simp
    · exact List.mem_cons_of_mem _ (oldName_mem h)

theorem versOk_spec {m : Nat} {hp : Heap} : ∀ {ns : Names}, versOk m hp ns = true → ∀ i j v, (i, j, v) ∈ ns → i < m → v = 0 → verOf hp i = 0
  | [], _, i, j, v, hm, _, _ => by simp at hm
  | (a, b, c) :: r, h, i, j, v, hm, hi, hv => by
    simp only [versOk, Bool.and_eq_true, Bool.or_eq_true, Bool.not_eq_true', decide_eq_false_iff_not, decide_eq_true_eq] at h
    rcases List.mem_cons.1 hm with e | hm
    · cases e
      rcases h.1 with (h | h) | h
      · exact absurd hi h
      · exact absurd hv h
      · exact h
    · exact versOk_spec h.2 i j v hm hi hv

theorem hget_canHp (ns0 : Names) (hp0 : Heap) : ∀ (ns : Names) (id ver : Nat) (o : AObj), hget (canHp ns0 hp0 ns) id = some (ver, o) → ∃ i u o', (i, id, ver) ∈ ns ∧ hget hp0 i = some (u, o') ∧ o = o'.mapRef (canRef ns0 hp0)
  | [], id, ver, o, h => by simp [canHp, hget] at h
  | (i, j, v) :: r, id, ver, o, h => by
    simp only [canHp] at h
    split at h
    · rename_i u o' hg
      simp only [hget] at h
      split at h
      · rename_i e
        subst e
        cases h
        exact ⟨i, u, o', by simp, hg, rfl⟩
      · obtain ⟨a, u, o', h1, h2, h3⟩ := hget_canHp ns0 hp0 r id ver o h
        exact ⟨a, u, o', List.mem_cons_of_mem _ h1, h2, h3⟩
    · obtain ⟨a, u, o', h1, h2, h3⟩ := hget_canHp ns0 hp0 r id ver o h
      exact ⟨a, u, o', List.mem_cons_of_mem _ h1, h2, h3⟩

theorem weak_can {N m : Nat} (hm : Small en m) (keep : List Nat) (ns : Names) (nx : Nat) (hnx : m ≤ nx) (st : ASt) (h1 : namesOk m nx ns = true) (h2 : versOk m st.hp ns = true) : Weak en N st (st.can keep ns nx) := by
  intro β S a w hi
  obtain ⟨n1, n2, n3⟩ := namesOk_spec h1
  let β' : Beta := fun j v => match oldName ns j with
    | some (i, u) => if v = u then β i (verOf st.hp i) else (if j < m ∧ v = 0 then β j 0 else none)
    | none => if j < m ∧ v = 0 then β j 0 else none
  have hβ : ∀ i j v, (i, j, v) ∈ ns → β' j v = β i (verOf st.hp i) := by
    intro i j v hmem
    show (match oldName ns j with
      | some (i, u) => if v = u then β i (verOf st.hp i) else (if j < m ∧ v = 0 then β j 0 else none)
      | none => if j < m ∧ v = 0 then β j 0 else none) = _
    rw [(n2 i j v hmem).2]
    simp
  have hg : ∀ id ver i v p, canRef ns st.hp id ver = some (i, v) → β id ver = some p → β' i v = some p := by
    intro id ver i v p e1 e2
    unfold canRef at e1
    split at e1
    · rename_i u o hgt
      split at e1
      · rename_i e; subst e
        rw [hβ id i v (newName_mem e1)]
        have : verOf st.hp id = u := by unfold verOf; rw [hgt]
        rw [this]; exact e2
      · simp at e1
    · simp at e1
  have hobj : ∀ id ver o, hget (canHp ns st.hp ns) id = some (ver, o) → ∃ i o', (i, id, ver) ∈ ns ∧ hget st.hp i = some (verOf st.hp i, o') ∧ o = o'.mapRef (canRef ns st.hp) ∧ β' id ver = β i (verOf st.hp i) := by
    intro id ver o h
    obtain ⟨i, u, o', e1, e2, e3⟩ := hget_canHp ns st.hp ns id ver o h
    have : verOf st.hp i = u := by unfold verOf; rw [e2]
    exact ⟨i, o', e1, by rw [this]; exact e2, e3, hβ _ _ _ e1⟩
  refine ⟨β', S, ⟨?_, ⟨?_, ?_, ?_, ?_, ?_, hi.hr.low⟩, ⟨hi.fr.blocks, hi.fr.size, hi.fr.sub, hi.fr.fresh, ?_, hi.fr.out, ?_⟩, hi.size, hi.defers⟩⟩
  · intro t v ht
    obtain ⟨u, e1, rfl⟩ := tget_can ns st.hp keep st.tm t v ht
    exact (hi.tm t u e1).mapRef hg
  · intro id ver o ho
    obtain ⟨i, o', e1, e2, rfl, e4⟩ := hobj id ver o ho
    exact (hi.hr.obj _ _ _ e2).mapRef hg (fun p hp => by rw [e4]; exact hp)
  · intro id hid
    have hid' : nx ≤ id := hid
    have hold : oldName ns id = none := by
      cases ho : oldName ns id with
      | none => rfl
      | some x =>
        obtain ⟨i, v⟩ := x
        have := (n1 i id v (oldName_mem ho)).1
        omega
    refine ⟨?_, fun ver => ?_⟩
    · cases ho : hget (canHp ns st.hp ns) id with
      | none => exact ho
      | some x =>
        obtain ⟨v, o⟩ := x
        obtain ⟨i, o', e1, _⟩ := hobj id v o ho
        have := (n1 i id v e1).1
        omega
    · show (match oldName ns id with
        | some (i, u) => if ver = u then β i (verOf st.hp i) else (if id < m ∧ ver = 0 then β id 0 else none)
        | none => if id < m ∧ ver = 0 then β id 0 else none) = none
      rw [hold]
      exact if_neg (by omega)
  · intro id ver o ho v hv
    obtain ⟨i, o', e1, _⟩ := hobj id ver o ho
    show (match oldName ns id with
        | some (i, u) => if v = u then β i (verOf st.hp i) else (if id < m ∧ v = 0 then β id 0 else none)
        | none => if id < m ∧ v = 0 then β id 0 else none) = none
    rw [(n2 i id ver e1).2]
    show (if v = ver then _ else _) = none
    rw [if_neg (by omega), if_neg (by omega)]
  · intro id ver o p ho hown hp1 hp2 k
    obtain ⟨i, o', e1, e2, rfl, e4⟩ := hobj id ver o ho
    rw [owned_mapRef] at hown
    rw [e4] at hp1
    exact hi.hr.own _ _ _ _ e2 hown hp1 hp2 k
  · intro id ver o p id' ver' o2 p' ho hown hp1 hp2 ho' hown' hp1' hp2' hne
    obtain ⟨i, o1, e1, e2, rfl, e4⟩ := hobj id ver o ho
    obtain ⟨i', o1', e1', e2', rfl, e4'⟩ := hobj id' ver' o2 ho'
    rw [owned_mapRef] at hown hown'
    rw [e4] at hp1
    rw [e4'] at hp1'
    exact hi.hr.inj _ _ _ _ _ _ _ _ e2 hown hp1 hp2 e2' hown' hp1' hp2' (fun e => hne ((n3 i id ver id' e1 i' ver' e1').1 e))
  · intro id ver o p ho hown hp1 hp2
    obtain ⟨i, o', e1, e2, rfl, e4⟩ := hobj id ver o ho
    rw [owned_mapRef] at hown
    rw [e4] at hp1
    exact hi.fr.ownf _ _ _ _ e2 hown hp1 hp2
  · intro j p hj
    have hjm := hm j p hj
    have hb := hi.fr.beta0 j p hj
    show (match oldName ns j with
        | some (i, u) => if 0 = u then β i (verOf st.hp i) else (if j < m ∧ 0 = 0 then β j 0 else none)
        | none => if j < m ∧ 0 = 0 then β j 0 else none) = some p
    cases ho : oldName ns j with
    | none => simp [hjm, hb]
    | some x =>
      obtain ⟨i, u⟩ := x
      have hmem := oldName_mem ho
      obtain ⟨_, k2, k3⟩ := n1 i j u hmem
      have him : i < m := k2.2 hjm
      have hij := k3 him
      subst hij
      simp only
      by_cases hu : 0 = u
      · rw [if_pos hu, versOk_spec h2 i i u hmem him hu.symm]; exact hb
      · rw [if_neg hu]; simp [hjm, hb]

theorem Ex.can {k : List AItem} {st : ASt} {Q : ASt → Prop} {m : Nat} (hm : Small en m) (keep : List Nat) (ns : Names) (nx : Nat) (hnx : m ≤ nx) (h1 : namesOk m nx ns = true) (h2 : versOk m st.hp ns = true)
    (h : Ex P E en k (st.can keep ns nx) Q) : Ex P E en k st Q := Ex.weak (weak_can hm keep ns nx hnx st h1 h2) h
theorem Ex.can_to {k : List AItem} {st st' : ASt} {Q : ASt → Prop} {m : Nat} (hm : Small en m) (keep : List Nat) (ns : Names) (nx : Nat) (hnx : m ≤ nx) (h1 : namesOk m nx ns = true) (h2 : versOk m st.hp ns = true)
    (h : Ex P E en k st' Q) (he : st.can keep ns nx = st') : Ex P E en k st Q := Ex.can hm keep ns nx hnx h1 h2 (by rw [he]; exact h)
end
end Go.Ax
end
section
namespace Go.Ax
set_option linter.unusedSimpArgs false
set_option linter.unusedVariables false
variable {P : Program} {E : Env} {en : Ent}
/-- the nil slice in a slot as a slice without elements -/
theorem weak_norm {N : Nat} {tm : Tm} {hp : Heap} {nxt : Nat} (t n : Nat) (v : AV) (ht : tget tm t = some v) : Weak en N ⟨tm, hp, nxt⟩ ⟨tset t (v.norm1 n) tm, hp, nxt⟩ := by
  intro β S a w hi
  refine ⟨β, S, ⟨fun s u hs => ?_, hi.hr, hi.fr, hi.size, hi.defers⟩⟩
  have hs' : tget (tset t (v.norm1 n) tm) s = some u := hs
  by_cases e : s = t
  · subst e
    rw [tget_tset_same] at hs'
    cases hs'
    exact (hi.tm s _ ht).norm1 n
  · rw [tget_tset_ne _ _ _ _ e] at hs'
    exact hi.tm s u hs'
theorem Ex.nil {k : List AItem} {tm : Tm} {hp : Heap} {nxt : Nat} {Q : ASt → Prop} (t n : Nat) (ht : tget tm t = some (.d (.lit (.slice none 0 0)))) (h : Ex P E en k ⟨tset t (.d (.sl (n + 1) [])) tm, hp, nxt⟩ Q) : Ex P E en k ⟨tm, hp, nxt⟩ Q :=
  Ex.weak (weak_norm t (n + 1) _ ht) h
end Go.Ax
end
section
namespace Go.Ax
set_option linter.unusedSimpArgs false
set_option linter.unusedVariables false
variable {P : Program}

/-! ### slices of one's own, lent to a function that only reads -/
def litR : AV → Bool
  | .d (.lit _) => true
  | _ => false
def borrowF (F : Fun) : Fun := fun args objs =>
  match freezeArgs [] args (hget (mkHeap 0 (zeroVer objs))) with
  | none => none
  | some ((args1, _), _) => match F (mapRefs (fun _ _ => none) args1) [] with
    | some (r, []) => match litR r with
      | true => some (r, zeroVer objs)
      | false => none
    | _ => none

theorem Spec.borrow {f : FuncId} {F : Fun} (h : Spec P f F) : Spec P f (borrowF F) := by
  intro args objs r objs' hF w S β vals hargs hHR
  unfold borrowF at hF
  split at hF
  · simp at hF
  · rename_i args1 wr l hfz
    split at hF
    · rename_i r' hr
      split at hF
      · rename_i hlit
        cases hF
        have hv : Hv (entOf w S β objs) (fun id => objs.length ≤ id) β S w (mkHeap 0 (zeroVer objs)) := by
          refine ⟨hHR, ⟨fun b h1 h2 => rfl, Nat.le_refl _, fun b k h => h, fun b k h => .inl h, ?_, ⟨rfl, rfl⟩, ?_⟩⟩
          · intro id ver o p hid ho hp1 hp2
            right
            rw [hget_mkHeap] at hid
            simp only [Nat.zero_le, if_true, Nat.sub_zero, zeroVer, List.getElem?_map, Option.map_eq_some_iff, Prod.mk.injEq] at hid
            obtain ⟨o', e1, rfl, rfl⟩ := hid
            exact ⟨id, o', p, e1, ho, hp1, hp2, rfl⟩
          · intro j p hj
            have hj' : (if j < objs.length then β j 0 else none) = some p := hj
            split at hj'
            · exact hj'
            · simp at hj'
        obtain ⟨S1, k1, k2, k3, k4⟩ := freezeArgs_sound [] args vals S _ args1 wr _ hv (Frz.refl _) hfz hargs
        have hA : ARs (fun _ _ => none) w S1 vals (mapRefs (fun _ _ => none) args1) := k3.mapRef (fun id ver i v p e _ => by simp at e)
        have hH : HR (fun _ _ => none) w S1 (mkHeap 0 (zeroVer [])) (fun id => ([] : List AObj).length ≤ id) :=
          ⟨fun id ver o hg => by simp [zeroVer, mkHeap, hget] at hg, fun id _ => ⟨rfl, fun _ => rfl⟩, fun id ver o hg => by simp [zeroVer, mkHeap, hget] at hg, fun id ver o p hg => by simp [zeroVer, mkHeap, hget] at hg,
            fun id ver o p id' ver' o' p' hg => by simp [zeroVer, mkHeap, hget] at hg, k1.hr.low⟩
        refine (h _ _ _ _ hr w S1 (fun _ _ => none) vals hA hH).mono ?_
        rintro e w' ⟨β', S', v, rfl, r1, r2⟩
        have hblk : ∀ b, b < w.heap.size → w'.heap[b]? = w.heap[b]? := by
          intro b hb
          refine r2.fr.blocks b hb ?_
          rintro ⟨j, o, p, g1, _⟩
          simp at g1
        have hk : Keeps w w' S := fun b k hs => cell?_block (hblk b (hHR.low b k hs)) k
        refine ⟨β, S, v, rfl, ?_, ⟨⟨?_, fun id hid => hHR.new id (by simpa [zeroVer] using hid), hHR.ver, hHR.own, hHR.inj, ?_⟩, ⟨fun b h1 _ => hblk b h1, r2.fr.size, fun b k h => h, fun b k h => .inl h, hv.fr.ownf, r2.fr.out, hv.fr.beta0⟩⟩⟩
        · cases r with
          | d x =>
            cases x with
            | lit u =>
              cases r1 with
              | d _ _ hx => cases hx with | lit _ h1 => exact .d _ _ (.lit _ h1)
            | sl => simp [litR] at hlit
          | _ => simp [litR] at hlit
        · intro id ver o hg
          have ho := hHR.obj id ver o hg
          refine ho.mono (BIncl.refl β) hk (Incl.refl S) (fun hown p hp1 hp2 => hblk _ ?_)
          exact hv.mine_lt ⟨ver, o, p, hg, hown, hp1, hp2, rfl⟩
        · intro b k hs
          exact Nat.lt_of_lt_of_le (hHR.low b k hs) r2.fr.size
      · simp at hF
    · simp at hF
end Go.Ax
end
section
open Go Go.Ax
namespace Go.Proofs.S
set_option linter.unusedSimpArgs false
set_option linter.unusedVariables false

/-! ### plain facts on messages -/
theorem less_iff (x y : ID) : less x y = true ↔ x.a < y.a ∨ (x.a = y.a ∧ (x.b < y.b ∨ (x.b = y.b ∧ x.c < y.c))) := by
  have c1 : ∀ {a b : Int}, a < b → cmp a b = -1 := fun h => by simp [cmp, h]
  have c2 : ∀ a : Int, cmp a a = 0 := fun a => by simp [cmp]
  have c3 : ∀ {a b : Int}, b < a → cmp a b = 1 := fun h => by simp [cmp, h]; omega
  obtain ⟨a, b, c⟩ := x
  obtain ⟨d, e, f⟩ := y
  simp only [less, order, decide_eq_true_eq]
  rcases Int.lt_trichotomy a d with h | h | h
  · simp [cmpOr, c1 h, h]
  · subst h
    rcases Int.lt_trichotomy b e with h | h | h
    · simp [cmpOr, c1 h, c2, h]
    · subst h
      rcases Int.lt_trichotomy c f with h | h | h
      · simp [cmpOr, c1 h, c2, h]
      · subst h; simp [cmpOr, c2]
      · simp [cmpOr, c3 h, c2]; omega
    · simp [cmpOr, c3 h, c2]; omega
  · simp [cmpOr, c3 h]; omega
theorem less_irrefl (x : ID) : less x x = false := by
  cases h : less x x with
  | false => rfl
  | true => rw [less_iff] at h; omega
theorem less_trans {x y z : ID} (h1 : less x y = true) (h2 : less y z = true) : less x z = true := by
  rw [less_iff] at *; omega
theorem less_total {x y : ID} (h1 : less x y = false) (h2 : x ≠ y) : less y x = true := by
  have h3 : ¬ (less x y = true) := by rw [h1]; simp
  rw [less_iff] at *
  obtain ⟨a, b, c⟩ := x
  obtain ⟨d, e, f⟩ := y
  simp at *
  by_cases e1 : a = d
  · by_cases e2 : b = e
    · have := h2 e1 e2; omega
    · omega
  · omega
theorem less_ne {x y : ID} (h : less x y = true) : x ≠ y := by
  intro e; subst e; rw [less_irrefl] at h; cases h

abbrev Srt (l : List Msg) : Prop := l.Pairwise fun a b => less a.id b.id = true
theorem sortedM_srt : ∀ (l : List Msg), sortedM l = true ↔ Srt l
  | [] => by simp [sortedM]
  | [a] => by simp [sortedM]
  | a :: b :: r => by
    have ih := sortedM_srt (b :: r)
    simp only [sortedM, Bool.and_eq_true, ih, Srt]
    constructor
    · rintro ⟨h1, h2⟩
      refine List.pairwise_cons.2 ⟨fun x hx => ?_, h2⟩
      rcases List.mem_cons.1 hx with rfl | hx
      · exact h1
      · exact less_trans h1 ((List.pairwise_cons.1 h2).1 x hx)
    · intro h
      obtain ⟨h1, h2⟩ := List.pairwise_cons.1 h
      exact ⟨h1 b (by simp), h2⟩
theorem srt_id {l : List Msg} (h : Srt l) {x y : Msg} (hx : x ∈ l) (hy : y ∈ l) (e : x.id = y.id) : x = y := by
  induction l with
  | nil => simp at hx
  | cons a r ih =>
    obtain ⟨h1, h2⟩ := List.pairwise_cons.1 h
    rcases List.mem_cons.1 hx with e1 | hx
    · rcases List.mem_cons.1 hy with e2 | hy
      · rw [e1, e2]
      · exact absurd (by rw [← e1, e]) (less_ne (h1 y hy))
    · rcases List.mem_cons.1 hy with e2 | hy
      · exact absurd (by rw [← e2, ← e]) (less_ne (h1 x hx))
      · exact ih h2 hx hy

theorem findM_neg (l : List Msg) (id : ID) : findM l id < 0 ↔ ∀ m ∈ l, m.id ≠ id := by
  unfold findM
  have key : ∀ (l : List Msg) (k : Nat), (idxFrom (fun m : Msg => m.id.is id) k l < 0 ↔ ∀ m ∈ l, m.id ≠ id) := by
    intro l
    induction l with
    | nil => intro k; simp [idxFrom]
    | cons a r ih =>
      intro k
      simp only [idxFrom]
      have hd : (a.id.is id = true) ↔ a.id = id := by
        unfold ID.is
        obtain ⟨⟨a, b, c⟩, n⟩ := a
        obtain ⟨d, e, f⟩ := id
        simp
      by_cases h : a.id = id
      · rw [if_pos (hd.2 h)]
        constructor
        · intro h2; omega
        · intro h2; exact absurd h (h2 a (by simp))
      · rw [if_neg (fun e => h (hd.1 e)), ih]
        constructor
        · intro h2 m hm
          rcases List.mem_cons.1 hm with rfl | hm
          · exact h
          · exact h2 m hm
        · intro h2 m hm; exact h2 m (List.mem_cons_of_mem _ hm)
  exact key l 0

theorem idxFrom_mem {α : Type} (p : α → Bool) : ∀ (l : List α) (k : Nat), (idxFrom p k l = -1 ∧ ∀ x ∈ l, p x = false) ∨ ∃ a x b, l = a ++ x :: b ∧ idxFrom p k l = ((k + a.length : Nat) : Int) ∧ p x = true ∧ ∀ y ∈ a, p y = false
  | [], k => .inl ⟨rfl, by simp⟩
  | x :: r, k => by
    by_cases hx : p x = true
    · exact .inr ⟨[], x, r, rfl, by simp [idxFrom, hx], hx, by simp⟩
    · have hx' : p x = false := by simpa using hx
      rcases idxFrom_mem p r (k + 1) with ⟨h1, h2⟩ | ⟨a, y, b, h, h1, h2, h3⟩
      · refine .inl ⟨by simp [idxFrom, hx', h1], ?_⟩
        intro y hy
        rcases List.mem_cons.1 hy with rfl | hy
        · exact hx'
        · exact h2 y hy
      · refine .inr ⟨x :: a, y, b, by rw [h]; rfl, ?_, h2, ?_⟩
        · simp only [idxFrom, hx']
          simp only [List.length_cons]
          rw [show k + (a.length + 1) = k + 1 + a.length by omega]
          simpa using h1
        · intro z hz
          rcases List.mem_cons.1 hz with rfl | hz
          · exact hx'
          · exact h3 z hz

theorem putM_none (l : List Msg) (m : Msg) : putM l m = none ↔ ∃ x ∈ l, x.id = m.id := by
  unfold putM
  by_cases h : findM l m.id < 0
  · rw [if_neg (by omega)]
    have := (findM_neg l m.id).1 h
    simp
    intro x hx e
    exact this x hx e
  · rw [if_pos (by omega)]
    simp only [true_iff]
    have h2 : ¬ ∀ x ∈ l, x.id ≠ m.id := fun e => h ((findM_neg l m.id).2 e)
    simpa using h2
theorem putM_some {l l' : List Msg} {m : Msg} (h : putM l m = some l') : ∃ a b, l = a ++ b ∧ l' = a ++ m :: b ∧ (∀ x ∈ a, less x.id m.id = true) ∧ (∀ x ∈ l, x.id ≠ m.id) ∧ ∀ x r, b = x :: r → less x.id m.id = false := by
  have hn : ¬ ∃ x ∈ l, x.id = m.id := by
    intro hx
    rw [(putM_none l m).2 hx] at h
    cases h
  have hne : ∀ x ∈ l, x.id ≠ m.id := fun x hx e => hn ⟨x, hx, e⟩
  have hf := (findM_neg l m.id).2 hne
  unfold putM at h
  rw [if_neg (by omega)] at h
  cases h
  rcases idxFrom_mem (fun x : Msg => !less x.id m.id) l 0 with ⟨h1, h2⟩ | ⟨a, x, b, h0, h1, h2, h3⟩
  · refine ⟨l, [], by simp, ?_, fun x hx => by simpa using h2 x hx, hne, by simp⟩
    unfold insAt placeM
    rw [h1, if_pos (by omega)]
  · refine ⟨a, x :: b, h0, ?_, fun y hy => by simpa using h3 y hy, hne, fun y r e => by cases e; simpa using h2⟩
    unfold insAt placeM
    rw [h1, if_neg (by omega)]
    simp [h0]
theorem putM_len {l l' : List Msg} {m : Msg} (h : putM l m = some l') : l'.length = l.length + 1 := by
  obtain ⟨a, b, rfl, rfl, _⟩ := putM_some h
  simp; omega
theorem putM_mem {l l' : List Msg} {m : Msg} (h : putM l m = some l') (x : Msg) : x ∈ l' ↔ x = m ∨ x ∈ l := by
  obtain ⟨a, b, rfl, rfl, _⟩ := putM_some h
  simp
  constructor
  · rintro (h | h | h)
    · exact .inr (.inl h)
    · exact .inl h
    · exact .inr (.inr h)
  · rintro (h | h | h)
    · exact .inr (.inl h)
    · exact .inl h
    · exact .inr (.inr h)
theorem putM_srt {l l' : List Msg} {m : Msg} (h : putM l m = some l') (hs : Srt l) : Srt l' := by
  obtain ⟨a, b, rfl, rfl, ha, hne, hb⟩ := putM_some h
  obtain ⟨h1, h2, h3⟩ := List.pairwise_append.1 hs
  have hmb : ∀ x ∈ b, less m.id x.id = true := by
    cases b with
    | nil => simp
    | cons y r =>
      have hy : less m.id y.id = true := less_total (hb y r rfl) (hne y (by simp))
      intro x hx
      rcases List.mem_cons.1 hx with rfl | hx
      · exact hy
      · exact less_trans hy ((List.pairwise_cons.1 h2).1 x hx)
  refine List.pairwise_append.2 ⟨h1, List.pairwise_cons.2 ⟨hmb, h2⟩, ?_⟩
  intro x hx y hy
  rcases List.mem_cons.1 hy with rfl | hy
  · exact ha x hx
  · exact h3 x hx y hy

theorem takeM_none' (l : List Msg) (id : ID) : takeM l id = none ↔ ∀ m ∈ l, m.id ≠ id := by
  unfold takeM
  rcases idxFrom_mem (fun m : Msg => m.id.is id) l 0 with ⟨h1, h2⟩ | ⟨a, x, b, h0, h1, h2, h3⟩
  · have e : findM l id = -1 := h1
    have : findM l id < 0 := by omega
    have h4 := (findM_neg l id).1 this
    constructor
    · intro _; exact h4
    · intro _
      rw [e]
      split <;> rfl
  · have e : findM l id = ((0 + a.length : Nat) : Int) := h1
    have hn : ¬ findM l id < 0 := by omega
    constructor
    · intro h
      rw [e, h0] at h
      have hn' : ¬ ((a.length : Int) < 0) := by omega
      simp [hn'] at h
    · intro h
      exact absurd ((findM_neg l id).2 h) hn
theorem takeM_some' {l l' : List Msg} {id : ID} {m : Msg} (h : takeM l id = some (l', m)) : ∃ a b, l = a ++ m :: b ∧ l' = a ++ b ∧ m.id = id := by
  rcases idxFrom_mem (fun m : Msg => m.id.is id) l 0 with ⟨h1, h2⟩ | ⟨a, x, b, h0, h1, h2, h3⟩
  · have e : findM l id = -1 := h1
    unfold takeM at h
    rw [e] at h
    split at h
    · rw [if_pos (by omega)] at h; cases h
    · cases h
  · have e : findM l id = ((0 + a.length : Nat) : Int) := h1
    unfold takeM at h
    rw [e, h0] at h
    have hn : ¬ ((a.length : Int) < 0) := by omega
    simp [hn] at h
    obtain ⟨rfl, rfl⟩ := h
    refine ⟨a, b, h0, ?_, ?_⟩
    · rfl
    · unfold ID.is at h2
      obtain ⟨⟨a, b, c⟩, n⟩ := x
      obtain ⟨d, e, f⟩ := id
      simpa using h2
theorem takeM_len {l l' : List Msg} {id : ID} {m : Msg} (h : takeM l id = some (l', m)) : l'.length + 1 = l.length := by
  obtain ⟨a, b, rfl, rfl, _⟩ := takeM_some' h
  simp; omega
theorem takeM_srt {l l' : List Msg} {id : ID} {m : Msg} (h : takeM l id = some (l', m)) (hs : Srt l) : Srt l' := by
  obtain ⟨a, b, rfl, rfl, _⟩ := takeM_some' h
  obtain ⟨h1, h2, h3⟩ := List.pairwise_append.1 hs
  exact List.pairwise_append.2 ⟨h1, (List.pairwise_cons.1 h2).2, fun x hx y hy => h3 x hx y (List.mem_cons_of_mem _ hy)⟩
theorem takeM_mem {l l' : List Msg} {id : ID} {m : Msg} (h : takeM l id = some (l', m)) (hs : Srt l) (x : Msg) : x ∈ l' ↔ x ∈ l ∧ x.id ≠ id := by
  obtain ⟨a, b, rfl, rfl, e⟩ := takeM_some' h
  obtain ⟨h1, h2, h3⟩ := List.pairwise_append.1 hs
  subst e
  simp
  constructor
  · rintro (h | h)
    · exact ⟨.inl h, less_ne (h3 x h m (by simp))⟩
    · exact ⟨.inr (.inr h), (less_ne ((List.pairwise_cons.1 h2).1 x h)).symm⟩
  · rintro ⟨h | h | h, hn⟩
    · exact .inl h
    · exact absurd (by rw [h]) hn
    · exact .inr h
end Go.Proofs.S
end
section
open Go Go.Ax
namespace Go.Proofs.S
set_option linter.unusedSimpArgs false
set_option linter.unusedVariables false
variable {P : Program} {E : Env} {en : Ent}

/-! ### helpers -/
/-- a loop that counts through a list -/
theorem Ex.range {c : Code} {K : List AItem} {Q : ASt → Prop} (n : Nat) (J : Nat → Prop) (I : Nat → ASt) (h0 : J 0)
    (step : ∀ k, k < n → J k → (J (k + 1) → Ex P E en (.lop c :: K) (I (k + 1)) Q) → Ex P E en (.code c :: .lop c :: K) (I k) Q)
    (last : J n → Ex P E en (.code c :: .lop c :: K) (I n) Q) : Ex P E en (.lop c :: K) (I 0) Q := by
  refine Ex.loop (X := Nat) (fun k => k ≤ n ∧ J k) I (fun k => n - k) ?_ 0 ⟨Nat.zero_le _, h0⟩
  rintro k ⟨hk, hj⟩ ih
  by_cases hlt : k < n
  · exact step k hlt hj (fun hj' => ih (k + 1) ⟨by omega, hj'⟩ (by omega))
  · have e : k = n := by omega
    subst e
    exact last hj

theorem ID.is_eq (x y : ID) : (x.a == y.a && (x.b == y.b && x.c == y.c)) = decide (x = y) := by
  obtain ⟨a, b, c⟩ := x
  obtain ⟨d, e, f⟩ := y
  rw [Bool.eq_iff_iff]
  simp
theorem ID.is_dec (x y : ID) : x.is y = decide (x = y) := ID.is_eq x y
theorem Note.is_dec (x y : Note) : x.is y = decide (x = y) := by
  obtain ⟨a, b, c⟩ := x
  obtain ⟨d, e, f⟩ := y
  rw [Bool.eq_iff_iff]
  simp [Note.is]
theorem Bud.is_eq (x y : Bud) : (x.drop == y.drop && (x.dup == y.dup && (x.time == y.time && x.crash == y.crash))) = decide (x = y) := by
  obtain ⟨a, b, c, g⟩ := x
  obtain ⟨d, e, f, h⟩ := y
  rw [Bool.eq_iff_iff]
  simp
theorem Ev.is_eq (x y : Ev) : (x.kind == y.kind && (x.id.a == y.id.a && (x.id.b == y.id.b && (x.id.c == y.id.c && x.who == y.who)))) = decide (x = y) := by
  obtain ⟨k, ⟨a, b, c⟩, g⟩ := x
  obtain ⟨l, ⟨d, e, f⟩, h⟩ := y
  rw [Bool.eq_iff_iff]
  simp [and_assoc]
theorem Instr.is_eq (x y : Instr) : (x.op == y.op && x.x == y.x) = decide (x = y) := by
  obtain ⟨a, b⟩ := x
  obtain ⟨d, e⟩ := y
  rw [Bool.eq_iff_iff]
  simp

/-- two lists agree a step further -/
theorem take_step {α : Type} {l r : List α} {k : Nat} (h1 : k < l.length) (h2 : k < r.length) (he : l.take k = r.take k) (hx : l[k] = r[k]) : l.take (k + 1) = r.take (k + 1) := by
  rw [List.take_add_one, List.take_add_one, he, List.getElem?_eq_getElem h1, List.getElem?_eq_getElem h2, hx]
theorem take_end {α : Type} {l r : List α} (hlen : l.length = r.length) (he : l.take l.length = r.take l.length) : l = r := by
  rw [List.take_length, hlen, List.take_length] at he
  exact he
theorem take_ne {α : Type} {l r : List α} {k : Nat} (h1 : k < l.length) (h2 : k < r.length) (hx : ¬ l[k] = r[k]) : ¬ l = r := by
  intro e
  subst e
  exact hx rfl
theorem map_take_succ {α β : Type} (f : α → β) {l : List α} {k : Nat} (h : k < l.length) : (l.take (k + 1)).map f = (l.take k).map f ++ [f l[k]] := by
  rw [List.take_add_one, List.getElem?_eq_getElem h, List.map_append]
  rfl
end Go.Proofs.S
end
section
open Go Go.Ax
namespace Go.Proofs.S
def eqs : Nat → Option Nat
  | 26 => some 3
  | _ => none
def lookF : List (Nat × Ax.Fn) → Nat → Option Ax.Fn
  | [], _ => none
  | (i, f) :: r, j => if i = j then some f else lookF r j
def mkE (n : Nat) (fns : List (Nat × Ax.Fn)) : Env := ⟨T, lookF fns, eqs, n, fun _ => none, fun _ => false⟩
theorem lookF_mem : ∀ (l : List (Nat × Ax.Fn)) (j : Nat) f, lookF l j = some f → (j, f) ∈ l
  | [], j, f, h => by simp [lookF] at h
  | (i, g) :: r, j, f, h => by
    simp only [lookF] at h
    split at h
    · rename_i e; cases h; subst e; simp
    · exact List.mem_cons_of_mem _ (lookF_mem r j f h)
theorem mkE_ok {en : Ent} {n : Nat} {fns : List (Nat × Ax.Fn)} (h : ∀ p ∈ fns, FnOk Try.prog p.1 p.2) : EOkM Try.prog (mkE n fns) en :=
  ⟨⟨⟨tok, by
    intro t n h
    simp only [mkE, eqs] at h
    split at h
    · cases h; exact eq26
    · simp at h⟩, fun f fn hf => h (f, fn) (lookF_mem _ _ _ hf), by intro j c h; simp [mkE] at h, by intro f h; simp [mkE] at h⟩, Checked.mixed Try.checked⟩
theorem mkE_nil {en : Ent} {n : Nat} : EOkM Try.prog (mkE n []) en := mkE_ok (by simp)
theorem mkE_T (n : Nat) (fns : List (Nat × Ax.Fn)) : (mkE n fns).T = T := rfl
theorem mkE_S (n : Nat) (fns : List (Nat × Ax.Fn)) (f : Nat) : (mkE n fns).S f = lookF fns f := rfl
theorem mkE_eqs (n : Nat) (fns : List (Nat × Ax.Fn)) : (mkE n fns).eqs = eqs := rfl
theorem mkE_N (n : Nat) (fns : List (Nat × Ax.Fn)) : (mkE n fns).N = n := rfl
theorem mkE_cap (n : Nat) (fns : List (Nat × Ax.Fn)) (j : Nat) : (mkE n fns).cap0 j = none := rfl
theorem mkE_ovl (n : Nat) (fns : List (Nat × Ax.Fn)) (f : Nat) : (mkE n fns).ovl f = false := rfl
end Go.Proofs.S
end
section
open Go Go.Ax
namespace Go.Proofs.S
set_option linter.unusedSimpArgs false
set_option linter.unusedVariables false
set_option maxRecDepth 4000
attribute [local simp] Ax.isX Ax.evalX Ax.evalOp0 Ax.builtinX Ax.capX Ax.copyA Ax.clearA Ax.appendZ Ax.sliceBig Ax.capM Ax.capR Ax.rowsK Ax.intAt Ax.nilCmp Ax.nilEq Ax.overX Ax.overlapA Ax.lenS Ax.isEmptyLit Ax.isSv Ax.sameTys Ax.sym Ax.symN Ax.More Ax.ops1 Ax.ops2 Ax.stepG Ax.doG Ax.skipG Ax.step1 Ax.evalOp Ax.evalO Ax.constAV Ax.one Ax.tget Ax.tset Ax.putD Ax.M.lift pure bind Ax.M.pure Ax.M.bind Ax.M.need Ax.M.fail Ax.hputs Ax.hget Ax.hset Ax.evals Ax.evalParts Ax.builtinA Ax.sliceTy Ax.elemOf Ax.look Ax.binA Ax.binV Ax.asInt64 Ax.optInt Ax.loadA Ax.storeA Ax.takeN Ax.asOne Ax.exitTo Ax.AV.cells Ax.splice Ax.fills Ax.placeOf Ax.TK.agg Ax.guardOf mkE_T mkE_S mkE_eqs mkE_N mkE_cap mkE_ovl lookF Ax.callM Ax.normArgs Ax.AV.norm Ax.AV.norm1 Ax.normAs Ax.norm_sl Ax.norm_int Ax.norm_bool Ax.norm_nil0 Ax.norm_nilp Ax.norm_some Ax.normD Ax.freezeArgs Ax.freezeArg Ax.freezeArg.freezeCells Ax.cellD Ax.cellsD Ax.collect Ax.refsL Ax.AV.refs Ax.AObj.refs Ax.mapRefs Ax.AV.mapRef Ax.AObj.mapRef Ax.locRef Ax.backRef Ax.backObjs Ax.inIds Ax.AV.known Ax.AV.cell Ax.allCell Ax.partsD Ax.fillRows Ax.indexArr Ax.spliceD Ax.appendA Ax.bounds Ax.convA Ax.maxs Ax.mins T ints_norm bools_norm intss_norm boolss_norm ids_norm noteL_norm msgs_norm instrs_norm watches_norm handlers_norm actorL_norm locs_norm wlds_norm evs_norm founds_norm acts_norm ID.enc Note.enc Msg.enc Instr.enc Handler.enc Actor.enc Prg.enc Loc.enc Bud.enc Wld.enc Ev.enc Lim.enc Found.enc NRes.enc VRes.enc Act.enc ID.eta Note.eta Msg.eta Instr.eta Handler.eta Actor.eta Prg.eta Loc.eta Bud.eta Wld.eta Ev.eta Lim.eta Found.eta NRes.eta VRes.eta Act.eta take_len_map indexS_sv indexS_sl sliceA_sv sliceA_sl sliceA_nil rowsOf_sl rowsOf_nil rowsOf_sv lenA_sl lenA_lit lenA_sv ints_len bools_len intss_len boolss_len watches_len ints_idx ints_sli ints_rows bools_idx bools_sli bools_rows intss_idx intss_sli intss_rows boolss_idx boolss_sli boolss_rows ids_len ids_idx ids_sli ids_rows noteL_len noteL_idx noteL_sli noteL_rows msgs_len msgs_idx msgs_sli msgs_rows instrs_len instrs_idx instrs_sli instrs_rows watches_idx watches_sli watches_rows handlers_len handlers_idx handlers_sli handlers_rows actorL_len actorL_idx actorL_sli actorL_rows locs_len locs_idx locs_sli locs_rows wlds_len wlds_idx wlds_sli wlds_rows evs_len evs_idx evs_sli evs_rows founds_len founds_idx founds_sli founds_rows acts_len acts_idx acts_sli acts_rows Ax.fin Ax.resVals Ax.resVal Ax.passedL Ax.cvOk Ax.expRef Ax.expObjs Ax.oneOf Ax.normRes Ax.ASt.can Ax.canTm Ax.canHp Ax.canRef Ax.newName Ax.verOf Ax.ASt.erase Ax.eraseTm Ax.eraseHp Ax.keepRef Ax.initSt Ax.argTm Ax.mkHeap Ax.zeroVer

abbrev isNaNJ : Int → Prop := fun n => True
abbrev isNaNI : Int → List AV × List AObj := fun n => ([.int n], [])
abbrev isNaNO : Int → AV × List (Nat × AObj) := fun n => (.bool false, [])
noncomputable def isNaNF : Fun := mkF isNaNJ isNaNI isNaNO
theorem isNaN_at (n : Int) (hpre : True) : isNaNF [.int n] [] = some (.bool false, []) := by
  exact mkF_at (J := isNaNJ) (inp := isNaNI) (out := isNaNO) (by
    rintro n n1 h
    simp [isNaNI, ints_iff, bools_iff, intss_iff, boolss_iff, Int.natCast_inj, ids_map, ids_iff, noteL_map, noteL_iff, msgs_map, msgs_iff, instrs_map, instrs_iff, watches_iff, handlers_map, handlers_iff, actorL_map, actorL_iff, locs_map, locs_iff, wlds_map, wlds_iff, evs_map, evs_iff, founds_map, founds_iff, acts_map, acts_iff] at h
    simp [isNaNO, h]) (n : Int) hpre
theorem isNaN_spec : Ax.Spec Try.prog 129 isNaNF := by
  have hE : ∀ en, EOkM Try.prog (mkE 6 []) en := fun en => mkE_nil
  refine spec_mk hE Try.func129 rfl Try.ntmps129 (fun n hl en hs => ⟨by simp [mkE], ?_⟩)
  replace hl : True := hl
  show Ex _ _ _ _ (initSt [.int n] []) (Done _ _ 0 (.bool false, []))
  refine Ex.of_symN (hE _) 400 _ _ ?_
  simp [Try.f129]
  (refine done [] [] [] rfl ?_; simp [Try.f129])
theorem isNaN_ok : FnOk Try.prog 129 ⟨[], isNaNF⟩ := ⟨⟨_, Try.func129, rfl, rfl⟩, isNaN_spec⟩

abbrev compareJ : Int × Int → Prop := fun x => match x with | (a, b) => True
abbrev compareI : Int × Int → List AV × List AObj := fun x => match x with | (a, b) => ([.int a, .int b], [])
abbrev compareO : Int × Int → AV × List (Nat × AObj) := fun x => match x with | (a, b) => (.int (cmp a b), [])
noncomputable def compareF : Fun := mkF compareJ compareI compareO
theorem compare_at (a : Int) (b : Int) (hpre : True) : compareF [.int a, .int b] [] = some (.int (cmp a b), []) := by
  exact mkF_at (J := compareJ) (inp := compareI) (out := compareO) (by
    rintro ⟨a, b⟩ ⟨a1, b1⟩ h
    simp [compareI, ints_iff, bools_iff, intss_iff, boolss_iff, Int.natCast_inj, ids_map, ids_iff, noteL_map, noteL_iff, msgs_map, msgs_iff, instrs_map, instrs_iff, watches_iff, handlers_map, handlers_iff, actorL_map, actorL_iff, locs_map, locs_iff, wlds_map, wlds_iff, evs_map, evs_iff, founds_map, founds_iff, acts_map, acts_iff] at h
    simp [compareO, h]) (a, b) hpre
theorem compare_spec : Ax.Spec Try.prog 96 compareF := by
  have hE : ∀ en, EOkM Try.prog (mkE 20 [(129, ⟨[], isNaNF⟩)]) en := fun en => mkE_ok (by simp [isNaN_ok])
  refine spec_mk hE Try.func96 rfl Try.ntmps96 (fun x hl en hs => ⟨by simp [mkE], ?_⟩)
  obtain ⟨a, b⟩ := x
  replace hl : True := hl
  show Ex _ _ _ _ (initSt [.int a, .int b] []) (Done _ _ 0 (.int (cmp a b), []))
  refine Ex.of_symN (hE _) 400 _ _ ?_
  simp [Try.f96, isNaN_at]
  split
  · (refine done [] [] [] rfl ?_; simp [Try.f96, cmp, *])
  · split
    · (refine done [] [] [] rfl ?_; simp [Try.f96, cmp, *])
    · (refine done [] [] [] rfl ?_; simp [Try.f96, cmp, *])
theorem compare_ok : FnOk Try.prog 96 ⟨[], compareF⟩ := ⟨⟨_, Try.func96, rfl, rfl⟩, compare_spec⟩

abbrev orrJ : (List Int) → Prop := fun l => l.length < 9223372036854775808
abbrev orrI : (List Int) → List AV × List AObj := fun l => ([.d (ints l)], [])
abbrev orrO : (List Int) → AV × List (Nat × AObj) := fun l => (.int (cmpOr l), [])
noncomputable def orrF : Fun := mkF orrJ orrI orrO
theorem orr_at (l : List Int) (hpre : l.length < 9223372036854775808) : orrF [.d (ints l)] [] = some (.int (cmpOr l), []) := by
  exact mkF_at (J := orrJ) (inp := orrI) (out := orrO) (by
    rintro l l1 h
    simp [orrI, ints_iff, bools_iff, intss_iff, boolss_iff, Int.natCast_inj, ids_map, ids_iff, noteL_map, noteL_iff, msgs_map, msgs_iff, instrs_map, instrs_iff, watches_iff, handlers_map, handlers_iff, actorL_map, actorL_iff, locs_map, locs_iff, wlds_map, wlds_iff, evs_map, evs_iff, founds_map, founds_iff, acts_map, acts_iff] at h
    simp [orrO, h]) (l : List Int) hpre
theorem orr_spec : Ax.Spec Try.prog 95 orrF := by
  have hE : ∀ en, EOkM Try.prog (mkE 18 []) en := fun en => mkE_nil
  refine spec_mk hE Try.func95 rfl Try.ntmps95 (fun l hl en hs => ⟨by simp [mkE], ?_⟩)
  replace hl : l.length < 9223372036854775808 := hl
  show Ex _ _ _ _ (initSt [.d (ints l)] []) (Done _ _ 0 (.int (cmpOr l), []))
  refine Ex.of_symN (hE _) 400 _ _ ?_
  simp [Try.f95]
  refine Ex.erase hs [3, 6, 7, 8] 0 (by simp) ?_
  refine Ex.range l.length (fun k => cmpOr l = cmpOr (l.drop k)) (fun k => ⟨[(3, .int 0), (6, .d (ints l)), (7, .int l.length), (8, .int k)], [], 0⟩) (by simp) ?_ ?_
  · intro k hlt hq ih
    have hk' : (k : Int) < l.length := by omega
    have hg : l[k]? = some l[k] := List.getElem?_eq_getElem hlt
    have hd := List.drop_eq_getElem_cons hlt
    refine Ex.of_symN (hE _) 400 _ _ ?_
    simp [hk', hg]
    split
    · rename_i h0
      rw [wrap64 (by omega) (by omega)]
      refine Ex.erase_to hs [3, 6, 7, 8] 0 (by simp) (ih (by rw [hq, hd, cmpOr, if_pos h0])) ?_
      simp
    · rename_i h0
      refine done [] [] [] rfl ?_
      simp [Try.f95]
      rw [hq, hd, cmpOr, if_neg h0]
  · intro hq
    refine Ex.of_symN (hE _) 400 _ _ ?_
    simp
    refine done [] [] [] rfl ?_
    simp [Try.f95]
    rw [hq]; simp [cmpOr]
theorem orr_ok : FnOk Try.prog 95 ⟨[], orrF⟩ := ⟨⟨_, Try.func95, rfl, rfl⟩, orr_spec⟩

abbrev orderJ : ID × ID → Prop := fun x => match x with | (x, y) => True
abbrev orderI : ID × ID → List AV × List AObj := fun x => match x with | (x, y) => ([.agg [.int x.a, .int x.b, .int x.c], .agg [.int y.a, .int y.b, .int y.c]], [])
abbrev orderO : ID × ID → AV × List (Nat × AObj) := fun x => match x with | (x, y) => (.int (order x y), [])
noncomputable def orderF : Fun := mkF orderJ orderI orderO
theorem order_at (x_a : Int) (x_b : Int) (x_c : Int) (y_a : Int) (y_b : Int) (y_c : Int) (hpre : True) : orderF [.agg [.int x_a, .int x_b, .int x_c], .agg [.int y_a, .int y_b, .int y_c]] [] = some (.int (order (⟨x_a, x_b, x_c⟩ : ID) (⟨y_a, y_b, y_c⟩ : ID)), []) := by
  exact mkF_at (J := orderJ) (inp := orderI) (out := orderO) (by
    rintro ⟨⟨x_a, x_b, x_c⟩, ⟨y_a, y_b, y_c⟩⟩ ⟨⟨x_a1, x_b1, x_c1⟩, ⟨y_a1, y_b1, y_c1⟩⟩ h
    simp [orderI, ints_iff, bools_iff, intss_iff, boolss_iff, Int.natCast_inj, ids_map, ids_iff, noteL_map, noteL_iff, msgs_map, msgs_iff, instrs_map, instrs_iff, watches_iff, handlers_map, handlers_iff, actorL_map, actorL_iff, locs_map, locs_iff, wlds_map, wlds_iff, evs_map, evs_iff, founds_map, founds_iff, acts_map, acts_iff] at h
    simp [orderO, h]) (⟨x_a, x_b, x_c⟩, ⟨y_a, y_b, y_c⟩) hpre
theorem order_spec : Ax.Spec Try.prog 74 orderF := by
  have hE : ∀ en, EOkM Try.prog (mkE 22 [(96, ⟨[], compareF⟩), (95, ⟨[], orrF⟩)]) en := fun en => mkE_ok (by simp [compare_ok, orr_ok])
  refine spec_mk hE Try.func74 rfl Try.ntmps74 (fun x hl en hs => ⟨by simp [mkE], ?_⟩)
  obtain ⟨x, y⟩ := x
  replace hl : True := hl
  show Ex _ _ _ _ (initSt [.agg [.int x.a, .int x.b, .int x.c], .agg [.int y.a, .int y.b, .int y.c]] []) (Done _ _ 0 (.int (order x y), []))
  have ho := orr_at [cmp x.a y.a, cmp x.b y.b, cmp x.c y.c] (by simp)
  simp [ints] at ho
  refine Ex.of_symN (hE _) 400 _ _ ?_
  simp [Try.f74, compare_at, ho]
  refine ⟨by decide, ?_⟩
  (refine done [] [] [] rfl ?_; simp [Try.f74, order])
theorem order_ok : FnOk Try.prog 74 ⟨[], orderF⟩ := ⟨⟨_, Try.func74, rfl, rfl⟩, order_spec⟩

abbrev lessJ : ID × ID → Prop := fun x => match x with | (x, y) => True
abbrev lessI : ID × ID → List AV × List AObj := fun x => match x with | (x, y) => ([.agg [.int x.a, .int x.b, .int x.c], .agg [.int y.a, .int y.b, .int y.c]], [])
abbrev lessO : ID × ID → AV × List (Nat × AObj) := fun x => match x with | (x, y) => (.bool (less x y), [])
noncomputable def lessF : Fun := mkF lessJ lessI lessO
theorem less_at (x_a : Int) (x_b : Int) (x_c : Int) (y_a : Int) (y_b : Int) (y_c : Int) (hpre : True) : lessF [.agg [.int x_a, .int x_b, .int x_c], .agg [.int y_a, .int y_b, .int y_c]] [] = some (.bool (less (⟨x_a, x_b, x_c⟩ : ID) (⟨y_a, y_b, y_c⟩ : ID)), []) := by
  exact mkF_at (J := lessJ) (inp := lessI) (out := lessO) (by
    rintro ⟨⟨x_a, x_b, x_c⟩, ⟨y_a, y_b, y_c⟩⟩ ⟨⟨x_a1, x_b1, x_c1⟩, ⟨y_a1, y_b1, y_c1⟩⟩ h
    simp [lessI, ints_iff, bools_iff, intss_iff, boolss_iff, Int.natCast_inj, ids_map, ids_iff, noteL_map, noteL_iff, msgs_map, msgs_iff, instrs_map, instrs_iff, watches_iff, handlers_map, handlers_iff, actorL_map, actorL_iff, locs_map, locs_iff, wlds_map, wlds_iff, evs_map, evs_iff, founds_map, founds_iff, acts_map, acts_iff] at h
    simp [lessO, h]) (⟨x_a, x_b, x_c⟩, ⟨y_a, y_b, y_c⟩) hpre
theorem less_spec : Ax.Spec Try.prog 46 lessF := by
  have hE : ∀ en, EOkM Try.prog (mkE 9 [(74, ⟨[], orderF⟩)]) en := fun en => mkE_ok (by simp [order_ok])
  refine spec_mk hE Try.func46 rfl Try.ntmps46 (fun x hl en hs => ⟨by simp [mkE], ?_⟩)
  obtain ⟨x, y⟩ := x
  replace hl : True := hl
  show Ex _ _ _ _ (initSt [.agg [.int x.a, .int x.b, .int x.c], .agg [.int y.a, .int y.b, .int y.c]] []) (Done _ _ 0 (.bool (less x y), []))
  refine Ex.of_symN (hE _) 400 _ _ ?_
  simp [Try.f46, order_at]
  (refine done [] [] [] rfl ?_; simp [Try.f46, less])
theorem less_ok : FnOk Try.prog 46 ⟨[], lessF⟩ := ⟨⟨_, Try.func46, rfl, rfl⟩, less_spec⟩

abbrev cloneJ : (List Int) → Prop := fun l => l.length ≤ 16777216
abbrev cloneI : (List Int) → List AV × List AObj := fun l => ([.d (ints l)], [])
abbrev cloneO : (List Int) → AV × List (Nat × AObj) := fun l => (.d (ints l), [])
noncomputable def cloneF : Fun := mkF cloneJ cloneI cloneO
theorem clone_at (l : List Int) (hpre : l.length ≤ 16777216) : cloneF [.d (ints l)] [] = some (.d (ints l), []) := by
  exact mkF_at (J := cloneJ) (inp := cloneI) (out := cloneO) (by
    rintro l l1 h
    simp [cloneI, ints_iff, bools_iff, intss_iff, boolss_iff, Int.natCast_inj, ids_map, ids_iff, noteL_map, noteL_iff, msgs_map, msgs_iff, instrs_map, instrs_iff, watches_iff, handlers_map, handlers_iff, actorL_map, actorL_iff, locs_map, locs_iff, wlds_map, wlds_iff, evs_map, evs_iff, founds_map, founds_iff, acts_map, acts_iff] at h
    simp [cloneO, h]) (l : List Int) hpre
theorem clone_spec : Ax.Spec Try.prog 57 cloneF := by
  have hE : ∀ en, EOkM Try.prog (mkE 8 []) en := fun en => mkE_nil
  refine spec_mk hE Try.func57 rfl Try.ntmps57 (fun l hl en hs => ⟨by simp [mkE], ?_⟩)
  replace hl : l.length ≤ 16777216 := hl
  show Ex _ _ _ _ (initSt [.d (ints l)] []) (Done _ _ 0 (.d (ints l), []))
  cases l with
  | nil =>
    refine Ex.nilsplit 0 1 rfl ?_ (fun a cap => ?_)
    · refine Ex.of_symN (hE _) 400 _ _ ?_
      simp [Try.f57]
      (refine done [] [] [[1]] rfl ?_; simp [Try.f57, ints])
    · refine Ex.of_symN (hE _) 400 _ _ ?_
      simp [Try.f57]
      (refine done [] [] [] rfl ?_; simp [Try.f57, ints])
  | cons x l =>
    have hl' : l.length + 1 ≤ sumLen := by simpa [sumLen] using hl
    refine Ex.of_symN (hE _) 400 _ _ ?_
    simp [Try.f57, hl', ints]
    refine done [] [] [] rfl ?_
    simp [Try.f57, ints]
theorem clone_ok : FnOk Try.prog 57 ⟨[], cloneF⟩ := ⟨⟨_, Try.func57, rfl, rfl⟩, clone_spec⟩

abbrev copyNoteJ : Note → Prop := fun x => x.args.length ≤ 16777216
abbrev copyNoteI : Note → List AV × List AObj := fun x => ([.agg [.int x.to, .int x.h, .d (ints x.args)]], [])
abbrev copyNoteO : Note → AV × List (Nat × AObj) := fun x => (.agg [.int x.to, .int x.h, .d (ints x.args)], [])
noncomputable def copyNoteF : Fun := mkF copyNoteJ copyNoteI copyNoteO
theorem copyNote_at (x_to : Int) (x_h : Int) (x_args : List Int) (hpre : (⟨x_to, x_h, x_args⟩ : Note).args.length ≤ 16777216) : copyNoteF [.agg [.int x_to, .int x_h, .d (ints x_args)]] [] = some (.agg [.int x_to, .int x_h, .d (ints x_args)], []) := by
  exact mkF_at (J := copyNoteJ) (inp := copyNoteI) (out := copyNoteO) (by
    rintro ⟨x_to, x_h, x_args⟩ ⟨x_to1, x_h1, x_args1⟩ h
    simp [copyNoteI, ints_iff, bools_iff, intss_iff, boolss_iff, Int.natCast_inj, ids_map, ids_iff, noteL_map, noteL_iff, msgs_map, msgs_iff, instrs_map, instrs_iff, watches_iff, handlers_map, handlers_iff, actorL_map, actorL_iff, locs_map, locs_iff, wlds_map, wlds_iff, evs_map, evs_iff, founds_map, founds_iff, acts_map, acts_iff] at h
    simp [copyNoteO, h]) (⟨x_to, x_h, x_args⟩ : Note) hpre
theorem copyNote_spec : Ax.Spec Try.prog 73 copyNoteF := by
  have hE : ∀ en, EOkM Try.prog (mkE 8 [(57, ⟨[], cloneF⟩)]) en := fun en => mkE_ok (by simp [clone_ok])
  refine spec_mk hE Try.func73 rfl Try.ntmps73 (fun x hl en hs => ⟨by simp [mkE], ?_⟩)
  replace hl : x.args.length ≤ 16777216 := hl
  show Ex _ _ _ _ (initSt [.agg [.int x.to, .int x.h, .d (ints x.args)]] []) (Done _ _ 0 (.agg [.int x.to, .int x.h, .d (ints x.args)], []))
  have hc := clone_at x.args hl
  refine Ex.of_symN (hE _) 400 _ _ ?_
  simp [Try.f73, hc]
  (refine done [] [] [] rfl ?_; simp [Try.f73])
theorem copyNote_ok : FnOk Try.prog 73 ⟨[], copyNoteF⟩ := ⟨⟨_, Try.func73, rfl, rfl⟩, copyNote_spec⟩

abbrev ownJ : Msg → Prop := fun x => x.note.args.length ≤ 16777216
abbrev ownI : Msg → List AV × List AObj := fun x => ([.agg [.int x.id.a, .int x.id.b, .int x.id.c, .int x.note.to, .int x.note.h, .d (ints x.note.args)]], [])
abbrev ownO : Msg → AV × List (Nat × AObj) := fun x => (.agg [.int x.id.a, .int x.id.b, .int x.id.c, .int x.note.to, .int x.note.h, .d (ints x.note.args)], [])
noncomputable def ownF : Fun := mkF ownJ ownI ownO
theorem own_at (x_id_a : Int) (x_id_b : Int) (x_id_c : Int) (x_note_to : Int) (x_note_h : Int) (x_note_args : List Int) (hpre : (⟨⟨x_id_a, x_id_b, x_id_c⟩, ⟨x_note_to, x_note_h, x_note_args⟩⟩ : Msg).note.args.length ≤ 16777216) : ownF [.agg [.int x_id_a, .int x_id_b, .int x_id_c, .int x_note_to, .int x_note_h, .d (ints x_note_args)]] [] = some (.agg [.int x_id_a, .int x_id_b, .int x_id_c, .int x_note_to, .int x_note_h, .d (ints x_note_args)], []) := by
  exact mkF_at (J := ownJ) (inp := ownI) (out := ownO) (by
    rintro ⟨⟨x_id_a, x_id_b, x_id_c⟩, ⟨x_note_to, x_note_h, x_note_args⟩⟩ ⟨⟨x_id_a1, x_id_b1, x_id_c1⟩, ⟨x_note_to1, x_note_h1, x_note_args1⟩⟩ h
    simp [ownI, ints_iff, bools_iff, intss_iff, boolss_iff, Int.natCast_inj, ids_map, ids_iff, noteL_map, noteL_iff, msgs_map, msgs_iff, instrs_map, instrs_iff, watches_iff, handlers_map, handlers_iff, actorL_map, actorL_iff, locs_map, locs_iff, wlds_map, wlds_iff, evs_map, evs_iff, founds_map, founds_iff, acts_map, acts_iff] at h
    simp [ownO, h]) (⟨⟨x_id_a, x_id_b, x_id_c⟩, ⟨x_note_to, x_note_h, x_note_args⟩⟩ : Msg) hpre
theorem own_spec : Ax.Spec Try.prog 43 ownF := by
  have hE : ∀ en, EOkM Try.prog (mkE 8 [(73, ⟨[], copyNoteF⟩)]) en := fun en => mkE_ok (by simp [copyNote_ok])
  refine spec_mk hE Try.func43 rfl Try.ntmps43 (fun x hl en hs => ⟨by simp [mkE], ?_⟩)
  replace hl : x.note.args.length ≤ 16777216 := hl
  show Ex _ _ _ _ (initSt [.agg [.int x.id.a, .int x.id.b, .int x.id.c, .int x.note.to, .int x.note.h, .d (ints x.note.args)]] []) (Done _ _ 0 (.agg [.int x.id.a, .int x.id.b, .int x.id.c, .int x.note.to, .int x.note.h, .d (ints x.note.args)], []))
  have hc := copyNote_at x.note.to x.note.h x.note.args hl
  refine Ex.of_symN (hE _) 400 _ _ ?_
  simp [Try.f43, hc]
  (refine done [] [] [] rfl ?_; simp [Try.f43])
theorem own_ok : FnOk Try.prog 43 ⟨[], ownF⟩ := ⟨⟨_, Try.func43, rfl, rfl⟩, own_spec⟩

abbrev find1J : Msg × ID → Prop := fun x => match x with | (m, id) => True
abbrev find1I : Msg × ID → List AV × List AObj := fun x => match x with | (m, id) => ([.agg [.int m.id.a, .int m.id.b, .int m.id.c, .int m.note.to, .int m.note.h, .d (ints m.note.args)], .ptr 0 0 0 0], [.box [.int id.a, .int id.b, .int id.c]])
abbrev find1O : Msg × ID → AV × List (Nat × AObj) := fun x => match x with | (m, id) => (.bool (m.id.is id), [(0, .box [.int id.a, .int id.b, .int id.c])])
noncomputable def find1F : Fun := mkF find1J find1I find1O
theorem find1_at (m_id_a : Int) (m_id_b : Int) (m_id_c : Int) (m_note_to : Int) (m_note_h : Int) (m_note_args : List Int) (id_a : Int) (id_b : Int) (id_c : Int) (hpre : True) : find1F [.agg [.int m_id_a, .int m_id_b, .int m_id_c, .int m_note_to, .int m_note_h, .d (ints m_note_args)], .ptr 0 0 0 0] [.box [.int id_a, .int id_b, .int id_c]] = some (.bool ((⟨⟨m_id_a, m_id_b, m_id_c⟩, ⟨m_note_to, m_note_h, m_note_args⟩⟩ : Msg).id.is (⟨id_a, id_b, id_c⟩ : ID)), [(0, .box [.int id_a, .int id_b, .int id_c])]) := by
  exact mkF_at (J := find1J) (inp := find1I) (out := find1O) (by
    rintro ⟨⟨⟨m_id_a, m_id_b, m_id_c⟩, ⟨m_note_to, m_note_h, m_note_args⟩⟩, ⟨id_a, id_b, id_c⟩⟩ ⟨⟨⟨m_id_a1, m_id_b1, m_id_c1⟩, ⟨m_note_to1, m_note_h1, m_note_args1⟩⟩, ⟨id_a1, id_b1, id_c1⟩⟩ h
    simp [find1I, ints_iff, bools_iff, intss_iff, boolss_iff, Int.natCast_inj, ids_map, ids_iff, noteL_map, noteL_iff, msgs_map, msgs_iff, instrs_map, instrs_iff, watches_iff, handlers_map, handlers_iff, actorL_map, actorL_iff, locs_map, locs_iff, wlds_map, wlds_iff, evs_map, evs_iff, founds_map, founds_iff, acts_map, acts_iff] at h
    simp [find1O, h]) (⟨⟨m_id_a, m_id_b, m_id_c⟩, ⟨m_note_to, m_note_h, m_note_args⟩⟩, ⟨id_a, id_b, id_c⟩) hpre
theorem find1_spec : Ax.Spec Try.prog 53 find1F := by
  have hE : ∀ en, EOkM Try.prog (mkE 8 []) en := fun en => mkE_nil
  refine spec_mk hE Try.func53 rfl Try.ntmps53 (fun x hl en hs => ⟨by simp [mkE], ?_⟩)
  obtain ⟨m, id⟩ := x
  replace hl : True := hl
  show Ex _ _ _ _ (initSt [.agg [.int m.id.a, .int m.id.b, .int m.id.c, .int m.note.to, .int m.note.h, .d (ints m.note.args)], .ptr 0 0 0 0] [.box [.int id.a, .int id.b, .int id.c]]) (Done _ _ 1 (.bool (m.id.is id), [(0, .box [.int id.a, .int id.b, .int id.c])]))
  refine Ex.of_symN (hE _) 400 _ _ ?_
  simp [Try.f53, eqs, Ax.intsEq, ID.is_eq]
  (refine done [0] [] [] rfl ?_; simp [Try.f53, ID.is_dec])
theorem find1_ok : FnOk Try.prog 53 ⟨[], find1F⟩ := ⟨⟨_, Try.func53, rfl, rfl⟩, find1_spec⟩

abbrev put1J : Msg × Msg → Prop := fun x => match x with | (m, n) => True
abbrev put1I : Msg × Msg → List AV × List AObj := fun x => match x with | (m, n) => ([.agg [.int m.id.a, .int m.id.b, .int m.id.c, .int m.note.to, .int m.note.h, .d (ints m.note.args)], .ptr 0 0 0 0], [.box [.int n.id.a, .int n.id.b, .int n.id.c, .int n.note.to, .int n.note.h, .d (ints n.note.args)]])
abbrev put1O : Msg × Msg → AV × List (Nat × AObj) := fun x => match x with | (m, n) => (.bool (!less m.id n.id), [(0, .box [.int n.id.a, .int n.id.b, .int n.id.c, .int n.note.to, .int n.note.h, .d (ints n.note.args)])])
noncomputable def put1F : Fun := mkF put1J put1I put1O
theorem put1_at (m_id_a : Int) (m_id_b : Int) (m_id_c : Int) (m_note_to : Int) (m_note_h : Int) (m_note_args : List Int) (n_id_a : Int) (n_id_b : Int) (n_id_c : Int) (n_note_to : Int) (n_note_h : Int) (n_note_args : List Int) (hpre : True) : put1F [.agg [.int m_id_a, .int m_id_b, .int m_id_c, .int m_note_to, .int m_note_h, .d (ints m_note_args)], .ptr 0 0 0 0] [.box [.int n_id_a, .int n_id_b, .int n_id_c, .int n_note_to, .int n_note_h, .d (ints n_note_args)]] = some (.bool (!less (⟨⟨m_id_a, m_id_b, m_id_c⟩, ⟨m_note_to, m_note_h, m_note_args⟩⟩ : Msg).id (⟨⟨n_id_a, n_id_b, n_id_c⟩, ⟨n_note_to, n_note_h, n_note_args⟩⟩ : Msg).id), [(0, .box [.int n_id_a, .int n_id_b, .int n_id_c, .int n_note_to, .int n_note_h, .d (ints n_note_args)])]) := by
  exact mkF_at (J := put1J) (inp := put1I) (out := put1O) (by
    rintro ⟨⟨⟨m_id_a, m_id_b, m_id_c⟩, ⟨m_note_to, m_note_h, m_note_args⟩⟩, ⟨⟨n_id_a, n_id_b, n_id_c⟩, ⟨n_note_to, n_note_h, n_note_args⟩⟩⟩ ⟨⟨⟨m_id_a1, m_id_b1, m_id_c1⟩, ⟨m_note_to1, m_note_h1, m_note_args1⟩⟩, ⟨⟨n_id_a1, n_id_b1, n_id_c1⟩, ⟨n_note_to1, n_note_h1, n_note_args1⟩⟩⟩ h
    simp [put1I, ints_iff, bools_iff, intss_iff, boolss_iff, Int.natCast_inj, ids_map, ids_iff, noteL_map, noteL_iff, msgs_map, msgs_iff, instrs_map, instrs_iff, watches_iff, handlers_map, handlers_iff, actorL_map, actorL_iff, locs_map, locs_iff, wlds_map, wlds_iff, evs_map, evs_iff, founds_map, founds_iff, acts_map, acts_iff] at h
    simp [put1O, h]) (⟨⟨m_id_a, m_id_b, m_id_c⟩, ⟨m_note_to, m_note_h, m_note_args⟩⟩, ⟨⟨n_id_a, n_id_b, n_id_c⟩, ⟨n_note_to, n_note_h, n_note_args⟩⟩) hpre
theorem put1_spec : Ax.Spec Try.prog 45 put1F := by
  have hE : ∀ en, EOkM Try.prog (mkE 10 [(46, ⟨[], lessF⟩)]) en := fun en => mkE_ok (by simp [less_ok])
  refine spec_mk hE Try.func45 rfl Try.ntmps45 (fun x hl en hs => ⟨by simp [mkE], ?_⟩)
  obtain ⟨m, n⟩ := x
  replace hl : True := hl
  show Ex _ _ _ _ (initSt [.agg [.int m.id.a, .int m.id.b, .int m.id.c, .int m.note.to, .int m.note.h, .d (ints m.note.args)], .ptr 0 0 0 0] [.box [.int n.id.a, .int n.id.b, .int n.id.c, .int n.note.to, .int n.note.h, .d (ints n.note.args)]]) (Done _ _ 1 (.bool (!less m.id n.id), [(0, .box [.int n.id.a, .int n.id.b, .int n.id.c, .int n.note.to, .int n.note.h, .d (ints n.note.args)])]))
  refine Ex.of_symN (hE _) 400 _ _ ?_
  simp [Try.f45, less_at]
  (refine done [0] [] [] rfl ?_; simp [Try.f45])
theorem put1_ok : FnOk Try.prog 45 ⟨[], put1F⟩ := ⟨⟨_, Try.func45, rfl, rfl⟩, put1_spec⟩

abbrev indexFindJ : (List Msg) × ID → Prop := fun x => match x with | (l, id) => l.length < 9223372036854775808
abbrev indexFindI : (List Msg) × ID → List AV × List AObj := fun x => match x with | (l, id) => ([.d (msgs l), .clo 53 [.ptr 0 0 0 0]], [.box [.int id.a, .int id.b, .int id.c]])
abbrev indexFindO : (List Msg) × ID → AV × List (Nat × AObj) := fun x => match x with | (l, id) => (.int (findM l id), [(0, .box [.int id.a, .int id.b, .int id.c])])
noncomputable def indexFindF : Fun := mkF indexFindJ indexFindI indexFindO
theorem indexFind_at (l : List Msg) (id_a : Int) (id_b : Int) (id_c : Int) (hpre : l.length < 9223372036854775808) : indexFindF [.d (msgs l), .clo 53 [.ptr 0 0 0 0]] [.box [.int id_a, .int id_b, .int id_c]] = some (.int (findM l (⟨id_a, id_b, id_c⟩ : ID)), [(0, .box [.int id_a, .int id_b, .int id_c])]) := by
  exact mkF_at (J := indexFindJ) (inp := indexFindI) (out := indexFindO) (by
    rintro ⟨l, ⟨id_a, id_b, id_c⟩⟩ ⟨l1, ⟨id_a1, id_b1, id_c1⟩⟩ h
    simp [indexFindI, ints_iff, bools_iff, intss_iff, boolss_iff, Int.natCast_inj, ids_map, ids_iff, noteL_map, noteL_iff, msgs_map, msgs_iff, instrs_map, instrs_iff, watches_iff, handlers_map, handlers_iff, actorL_map, actorL_iff, locs_map, locs_iff, wlds_map, wlds_iff, evs_map, evs_iff, founds_map, founds_iff, acts_map, acts_iff] at h
    simp [indexFindO, h]) (l, ⟨id_a, id_b, id_c⟩) hpre
theorem indexFind_spec : Ax.Spec Try.prog 44 indexFindF := by
  have hE : ∀ en, EOkM Try.prog (mkE 19 [(53, ⟨[], find1F⟩)]) en := fun en => mkE_ok (by simp [find1_ok])
  refine spec_mk hE Try.func44 rfl Try.ntmps44 (fun x hl en hs => ⟨by simp [mkE], ?_⟩)
  obtain ⟨l, id⟩ := x
  replace hl : l.length < 9223372036854775808 := hl
  show Ex _ _ _ _ (initSt [.d (msgs l), .clo 53 [.ptr 0 0 0 0]] [.box [.int id.a, .int id.b, .int id.c]]) (Done _ _ 1 (.int (findM l id), [(0, .box [.int id.a, .int id.b, .int id.c])]))
  refine Ex.of_symN (hE _) 400 _ _ ?_
  simp [Try.f44]
  refine Ex.erase hs [0, 1, 7, 8] 1 (by simp) ?_
  refine Ex.range l.length (fun k => findM l id = idxFrom (fun x : Msg => x.id.is id) k (l.drop k)) (fun k => ⟨[(0, .d (msgs l)), (1, .clo 53 [.ptr 0 0 0 0]), (7, .int l.length), (8, .int k)], [(0, 0, .box [.int id.a, .int id.b, .int id.c])], 1⟩) (by simp [findM]) ?_ ?_
  · intro k hlt hq ih
    have hk' : (k : Int) < l.length := by omega
    have hg : l[k]? = some l[k] := List.getElem?_eq_getElem hlt
    have hd := List.drop_eq_getElem_cons hlt
    refine Ex.of_symN (hE _) 400 _ _ ?_
    simp [hk', hg, find1_at]
    split
    · rename_i h0
      refine done [0] [] [] rfl ?_
      simp [Try.f44]
      rw [hq, hd, idxFrom, if_pos (by simp [h0])]
    · rename_i h0
      rw [wrap64 (n := (k : Int) + 1) (by omega) (by omega)]
      refine Ex.erase_to hs [0, 1, 7, 8] 1 (by simp) (ih (by rw [hq, hd, idxFrom, if_neg (by simpa using h0)])) ?_
      simp
  · intro hq
    refine Ex.of_symN (hE _) 400 _ _ ?_
    simp
    refine done [0] [] [] rfl ?_
    simp [Try.f44, idxFrom, hq]
theorem indexFind_ok : FnOk Try.prog 44 ⟨[], indexFindF⟩ := ⟨⟨_, Try.func44, rfl, rfl⟩, indexFind_spec⟩

abbrev roundJ : Int × Int → Prop := fun x => match x with | (a, m) => 0 < m ∧ m ≤ 1000000
abbrev roundI : Int × Int → List AV × List AObj := fun x => match x with | (a, m) => ([.int a, .int m], [])
abbrev roundO : Int × Int → AV × List (Nat × AObj) := fun x => match x with | (a, m) => (.int (a % m), [])
noncomputable def roundF : Fun := mkF roundJ roundI roundO
theorem round_at (a : Int) (m : Int) (hpre : 0 < m ∧ m ≤ 1000000) : roundF [.int a, .int m] [] = some (.int (a % m), []) := by
  exact mkF_at (J := roundJ) (inp := roundI) (out := roundO) (by
    rintro ⟨a, m⟩ ⟨a1, m1⟩ h
    simp [roundI, ints_iff, bools_iff, intss_iff, boolss_iff, Int.natCast_inj, ids_map, ids_iff, noteL_map, noteL_iff, msgs_map, msgs_iff, instrs_map, instrs_iff, watches_iff, handlers_map, handlers_iff, actorL_map, actorL_iff, locs_map, locs_iff, wlds_map, wlds_iff, evs_map, evs_iff, founds_map, founds_iff, acts_map, acts_iff] at h
    simp [roundO, h]) (a, m) hpre
theorem round_spec : Ax.Spec Try.prog 23 roundF := by
  have hE : ∀ en, EOkM Try.prog (mkE 12 []) en := fun en => mkE_nil
  refine spec_mk hE Try.func23 rfl Try.ntmps23 (fun x hl en hs => ⟨by simp [mkE], ?_⟩)
  obtain ⟨a, m⟩ := x
  replace hl : 0 < m ∧ m ≤ 1000000 := hl
  show Ex _ _ _ _ (initSt [.int a, .int m] []) (Done _ _ 0 (.int (a % m), []))
  obtain ⟨h1, h2⟩ := hl
  have hm : m ≠ 0 := by omega
  have he : (IntKind.i64.wrap (a.tmod m + m)).tmod m = a % m := by
    have h3 := Int.tmod_lt_of_pos a h1
    have h4 : -m < a.tmod m := by
      have := Int.lt_tmod_of_pos a h1
      omega
    rw [wrap64 (by omega) (by omega)]
    rw [Int.tmod_eq_emod_of_nonneg (by omega), Int.add_emod_right, Int.tmod_eq_emod]
    split
    · simp
    · rw [Int.sub_emod]
      have : ((m.natAbs : Int)) % m = 0 := by
        rw [Int.natAbs_of_nonneg (by omega)]; exact Int.emod_self
      simp [this]
  refine Ex.of_symN (hE _) 400 _ _ ?_
  simp [Try.f23, hm]
  (refine done [] [] [] rfl ?_; simp [Try.f23, he])
theorem round_ok : FnOk Try.prog 23 ⟨[], roundF⟩ := ⟨⟨_, Try.func23, rfl, rfl⟩, round_spec⟩

abbrev equalJ : (List Int) × (List Int) → Prop := fun x => match x with | (a, b) => a.length < 9223372036854775808
abbrev equalI : (List Int) × (List Int) → List AV × List AObj := fun x => match x with | (a, b) => ([.d (ints a), .d (ints b)], [])
abbrev equalO : (List Int) × (List Int) → AV × List (Nat × AObj) := fun x => match x with | (a, b) => (.bool (decide (a = b)), [])
noncomputable def equalF : Fun := mkF equalJ equalI equalO
theorem equal_at (a : List Int) (b : List Int) (hpre : a.length < 9223372036854775808) : equalF [.d (ints a), .d (ints b)] [] = some (.bool (decide (a = b)), []) := by
  exact mkF_at (J := equalJ) (inp := equalI) (out := equalO) (by
    rintro ⟨a, b⟩ ⟨a1, b1⟩ h
    simp [equalI, ints_iff, bools_iff, intss_iff, boolss_iff, Int.natCast_inj, ids_map, ids_iff, noteL_map, noteL_iff, msgs_map, msgs_iff, instrs_map, instrs_iff, watches_iff, handlers_map, handlers_iff, actorL_map, actorL_iff, locs_map, locs_iff, wlds_map, wlds_iff, evs_map, evs_iff, founds_map, founds_iff, acts_map, acts_iff] at h
    simp [equalO, h]) (a, b) hpre
theorem equal_spec : Ax.Spec Try.prog 77 equalF := by
  have hE : ∀ en, EOkM Try.prog (mkE 26 []) en := fun en => mkE_nil
  refine spec_mk hE Try.func77 rfl Try.ntmps77 (fun x hl en hs => ⟨by simp [mkE], ?_⟩)
  obtain ⟨a, b⟩ := x
  replace hl : a.length < 9223372036854775808 := hl
  show Ex _ _ _ _ (initSt [.d (ints a), .d (ints b)] []) (Done _ _ 0 (.bool (decide (a = b)), []))
  by_cases hlen : a.length = b.length
  · refine Ex.of_symN (hE _) 400 _ _ ?_
    simp [Try.f77, hlen]
    refine Ex.erase hs [0, 1, 11, 12, 13] 0 (by simp) ?_
    refine Ex.range b.length (fun k => a.take k = b.take k) (fun k => ⟨[(0, .d (ints a)), (1, .d (ints b)), (11, .d (ints a)), (12, .int b.length), (13, .int k)], [], 0⟩) (by simp) ?_ ?_
    · intro k hlt hq ih
      have hk' : (k : Int) < b.length := by omega
      have hg : b[k]? = some b[k] := List.getElem?_eq_getElem hlt
      have hg2 : a[k]? = some (a[k]'(by omega)) := List.getElem?_eq_getElem (by omega)
      by_cases h0 : a[k]'(by omega) = b[k]
      · refine Ex.of_symN (hE _) 400 _ _ ?_
        simp [hk', hg, hg2, h0, hlen]
        refine ⟨by decide, ?_⟩
        rw [wrap64 (n := (k : Int) + 1) (by omega) (by omega)]
        refine Ex.erase_to hs [0, 1, 11, 12, 13] 0 (by simp) (ih (take_step (by omega) hlt hq h0)) ?_
        simp
      · refine Ex.of_symN (hE _) 400 _ _ ?_
        simp [hk', hg, hg2, h0, hlen]
        refine ⟨by decide, ?_⟩
        (refine done [] [] [] rfl ?_; simp [Try.f77, take_ne (by omega) hlt h0])
    · intro hq
      refine Ex.of_symN (hE _) 400 _ _ ?_
      simp [hlen]
      (refine done [] [] [] rfl ?_; simp [Try.f77, take_end hlen (by rw [hlen]; exact hq)])
  · have hlen' : ¬ ((a.length : Int) = b.length) := by omega
    have hne : ¬ a = b := fun e => hlen (by rw [e])
    refine Ex.of_symN (hE _) 400 _ _ ?_
    simp [Try.f77, hlen, hlen']
    (refine done [] [] [] rfl ?_; simp [Try.f77, hne])
theorem equal_ok : FnOk Try.prog 77 ⟨[], equalF⟩ := ⟨⟨_, Try.func77, rfl, rfl⟩, equal_spec⟩

def upTo (l : List Msg) (k : Nat) : Prop := ∀ i, i + 1 < k → ∀ (h : i + 1 < l.length), less l[i].id l[i + 1].id = true
theorem sortedM_iff : ∀ (l : List Msg), sortedM l = true ↔ ∀ i, ∀ (h : i + 1 < l.length), less l[i].id l[i + 1].id = true
  | [] => by simp [sortedM]
  | [a] => by simp [sortedM]
  | a :: b :: r => by
    simp only [sortedM, Bool.and_eq_true, sortedM_iff (b :: r)]
    constructor
    · rintro ⟨h1, h2⟩ i h
      cases i with
      | zero => simpa using h1
      | succ i => exact h2 i (by simpa using h)
    · intro h
      exact ⟨by simpa using h 0 (by simp), fun i hi => h (i + 1) (by simpa using hi)⟩
abbrev sortedJ : (List Msg) → Prop := fun l => l.length < 9223372036854775808
abbrev sortedI : (List Msg) → List AV × List AObj := fun l => ([.d (msgs l)], [])
abbrev sortedO : (List Msg) → AV × List (Nat × AObj) := fun l => (.bool (sortedM l), [])
noncomputable def sortedF : Fun := mkF sortedJ sortedI sortedO
theorem sorted_at (l : List Msg) (hpre : l.length < 9223372036854775808) : sortedF [.d (msgs l)] [] = some (.bool (sortedM l), []) := by
  exact mkF_at (J := sortedJ) (inp := sortedI) (out := sortedO) (by
    rintro l l1 h
    simp [sortedI, ints_iff, bools_iff, intss_iff, boolss_iff, Int.natCast_inj, ids_map, ids_iff, noteL_map, noteL_iff, msgs_map, msgs_iff, instrs_map, instrs_iff, watches_iff, handlers_map, handlers_iff, actorL_map, actorL_iff, locs_map, locs_iff, wlds_map, wlds_iff, evs_map, evs_iff, founds_map, founds_iff, acts_map, acts_iff] at h
    simp [sortedO, h]) (l : List Msg) hpre
set_option maxHeartbeats 1000000 in
theorem sorted_spec : Ax.Spec Try.prog 21 sortedF := by
  have hE : ∀ en, EOkM Try.prog (mkE 27 [(46, ⟨[], lessF⟩)]) en := fun en => mkE_ok (by simp [less_ok])
  refine spec_mk hE Try.func21 rfl Try.ntmps21 (fun l hl en hs => ⟨by simp [mkE], ?_⟩)
  replace hl : l.length < 9223372036854775808 := hl
  show Ex _ _ _ _ (initSt [.d (msgs l)] []) (Done _ _ 0 (.bool (sortedM l), []))
  refine Ex.of_symN (hE _) 400 _ _ ?_
  simp [Try.f21]
  refine Ex.erase hs [0, 5, 6] 0 (by simp) ?_
  refine Ex.range l.length (fun k => upTo l k) (fun k => ⟨[(0, .d (msgs l)), (5, .int l.length), (6, .int k)], [], 0⟩) (by intro i h; omega) ?_ ?_
  · intro k hlt hq ih
    have hk' : (k : Int) < l.length := by omega
    have hg : l[k]? = some l[k] := List.getElem?_eq_getElem hlt
    cases k with
    | zero =>
      have hpos : 0 < l.length := hlt
      refine Ex.of_symN (hE _) 400 _ _ ?_
      simp [hk', hpos, hg, less_at]
      refine ⟨by decide, ?_⟩
      refine Ex.erase_to hs [0, 5, 6] 0 (by simp) (ih (by intro i h; omega)) ?_
      simp [IntKind.wrap, IntKind.bits, IntKind.signed]
    | succ k =>
      have hg2 : l[k]? = some (l[k]'(by omega)) := List.getElem?_eq_getElem (by omega)
      have w1 : IntKind.i64.wrap ((k : Int) + 1 - 1) = k := by rw [show (k : Int) + 1 - 1 = k by omega]; exact wrap64 (by omega) (by omega)
      have hp : (0 : Int) < (k : Int) + 1 := by omega
      have hk2 : (k : Int) + 1 < l.length := by omega
      have hp0 : (0 : Int) ≤ (k : Int) + 1 := by omega
      have w2 : IntKind.i64.wrap (k : Int) = k := wrap64 (by omega) (by omega)
      cases h0 : less (l[k]'(by omega)).id l[k + 1].id with
      | true =>
        refine Ex.of_symN (hE _) 400 _ _ ?_
        simp [hk', hk2, hp, hp0, hg, hg2, w1, w2, less_at, h0]
        refine ⟨by decide, ?_⟩
        rw [wrap64 (n := (k : Int) + 1 + 1) (by omega) (by omega)]
        refine Ex.erase_to hs [0, 5, 6] 0 (by simp) (ih (by
          intro i hi hh
          by_cases e : i = k
          · subst e; exact h0
          · exact hq i (by omega) hh)) ?_
        simp
      | false =>
        refine Ex.of_symN (hE _) 400 _ _ ?_
        simp [hk', hk2, hp, hp0, hg, hg2, w1, w2, less_at, h0]
        refine ⟨by decide, ?_⟩
        refine done [] [] [] rfl ?_
        simp [Try.f21]
        cases hsm : sortedM l with
        | false => rfl
        | true => rw [(sortedM_iff l).1 hsm k hlt] at h0; cases h0
  · intro hq
    refine Ex.of_symN (hE _) 400 _ _ ?_
    simp
    refine done [] [] [] rfl ?_
    simp [Try.f21]
    exact (sortedM_iff l).2 (fun i h => hq i h h)
theorem sorted_ok : FnOk Try.prog 21 ⟨[], sortedF⟩ := ⟨⟨_, Try.func21, rfl, rfl⟩, sorted_spec⟩
end Go.Proofs.S
end
section
open Go Go.Ax
namespace Go.Proofs.S
set_option linter.unusedSimpArgs false
set_option linter.unusedVariables false
set_option maxRecDepth 4000
attribute [local simp] Ax.isX Ax.evalX Ax.evalOp0 Ax.builtinX Ax.capX Ax.copyA Ax.clearA Ax.appendZ Ax.sliceBig Ax.capM Ax.capR Ax.rowsK Ax.intAt Ax.nilCmp Ax.nilEq Ax.overX Ax.overlapA Ax.lenS Ax.isEmptyLit Ax.isSv Ax.sameTys Ax.sym Ax.symN Ax.More Ax.ops1 Ax.ops2 Ax.stepG Ax.doG Ax.skipG Ax.step1 Ax.evalOp Ax.evalO Ax.constAV Ax.one Ax.tget Ax.tset Ax.putD Ax.M.lift pure bind Ax.M.pure Ax.M.bind Ax.M.need Ax.M.fail Ax.hputs Ax.hget Ax.hset Ax.evals Ax.evalParts Ax.builtinA Ax.sliceTy Ax.elemOf Ax.look Ax.binA Ax.binV Ax.asInt64 Ax.optInt Ax.loadA Ax.storeA Ax.takeN Ax.asOne Ax.exitTo Ax.AV.cells Ax.splice Ax.fills Ax.placeOf Ax.TK.agg Ax.guardOf mkE_T mkE_S mkE_eqs mkE_N mkE_cap mkE_ovl lookF Ax.callM Ax.normArgs Ax.AV.norm Ax.AV.norm1 Ax.normAs Ax.norm_sl Ax.norm_int Ax.norm_bool Ax.norm_nil0 Ax.norm_nilp Ax.norm_some Ax.normD Ax.freezeArgs Ax.freezeArg Ax.freezeArg.freezeCells Ax.cellD Ax.cellsD Ax.collect Ax.refsL Ax.AV.refs Ax.AObj.refs Ax.mapRefs Ax.AV.mapRef Ax.AObj.mapRef Ax.locRef Ax.backRef Ax.backObjs Ax.inIds Ax.AV.known Ax.AV.cell Ax.allCell Ax.partsD Ax.fillRows Ax.indexArr Ax.spliceD Ax.appendA Ax.bounds Ax.convA Ax.maxs Ax.mins T ints_norm bools_norm intss_norm boolss_norm ids_norm noteL_norm msgs_norm instrs_norm watches_norm handlers_norm actorL_norm locs_norm wlds_norm evs_norm founds_norm acts_norm ID.enc Note.enc Msg.enc Instr.enc Handler.enc Actor.enc Prg.enc Loc.enc Bud.enc Wld.enc Ev.enc Lim.enc Found.enc NRes.enc VRes.enc Act.enc ID.eta Note.eta Msg.eta Instr.eta Handler.eta Actor.eta Prg.eta Loc.eta Bud.eta Wld.eta Ev.eta Lim.eta Found.eta NRes.eta VRes.eta Act.eta take_len_map indexS_sv indexS_sl sliceA_sv sliceA_sl sliceA_nil rowsOf_sl rowsOf_nil rowsOf_sv lenA_sl lenA_lit lenA_sv ints_len bools_len intss_len boolss_len watches_len ints_idx ints_sli ints_rows bools_idx bools_sli bools_rows intss_idx intss_sli intss_rows boolss_idx boolss_sli boolss_rows ids_len ids_idx ids_sli ids_rows noteL_len noteL_idx noteL_sli noteL_rows msgs_len msgs_idx msgs_sli msgs_rows instrs_len instrs_idx instrs_sli instrs_rows watches_idx watches_sli watches_rows handlers_len handlers_idx handlers_sli handlers_rows actorL_len actorL_idx actorL_sli actorL_rows locs_len locs_idx locs_sli locs_rows wlds_len wlds_idx wlds_sli wlds_rows evs_len evs_idx evs_sli evs_rows founds_len founds_idx founds_sli founds_rows acts_len acts_idx acts_sli acts_rows Ax.fin Ax.resVals Ax.resVal Ax.passedL Ax.cvOk Ax.expRef Ax.expObjs Ax.oneOf Ax.normRes Ax.ASt.can Ax.canTm Ax.canHp Ax.canRef Ax.newName Ax.verOf Ax.ASt.erase Ax.eraseTm Ax.eraseHp Ax.keepRef Ax.initSt Ax.argTm Ax.mkHeap Ax.zeroVer

abbrev toJ : (List Msg) × Int → Prop := fun x => match x with | (l, who) => l.length < 9223372036854775808
abbrev toI : (List Msg) × Int → List AV × List AObj := fun x => match x with | (l, who) => ([.d (msgs l), .int who], [])
abbrev toO : (List Msg) × Int → AV × List (Nat × AObj) := fun x => match x with | (l, who) => (.int (toN l who), [])
noncomputable def toF : Fun := mkF toJ toI toO
theorem to_at (l : List Msg) (who : Int) (hpre : l.length < 9223372036854775808) : toF [.d (msgs l), .int who] [] = some (.int (toN l who), []) := by
  exact mkF_at (J := toJ) (inp := toI) (out := toO) (by
    rintro ⟨l, who⟩ ⟨l1, who1⟩ h
    simp [toI, ints_iff, bools_iff, intss_iff, boolss_iff, Int.natCast_inj, ids_map, ids_iff, noteL_map, noteL_iff, msgs_map, msgs_iff, instrs_map, instrs_iff, watches_iff, handlers_map, handlers_iff, actorL_map, actorL_iff, locs_map, locs_iff, wlds_map, wlds_iff, evs_map, evs_iff, founds_map, founds_iff, acts_map, acts_iff] at h
    simp [toO, h]) (l, who) hpre
theorem to_spec : Ax.Spec Try.prog 25 toF := by
  have hE : ∀ en, EOkM Try.prog (mkE 22 []) en := fun en => mkE_nil
  refine spec_mk hE Try.func25 rfl Try.ntmps25 (fun x hl en hs => ⟨by simp [mkE], ?_⟩)
  obtain ⟨l, who⟩ := x
  replace hl : l.length < 9223372036854775808 := hl
  show Ex _ _ _ _ (initSt [.d (msgs l), .int who] []) (Done _ _ 0 (.int (toN l who), []))
  refine Ex.of_symN (hE _) 400 _ _ ?_
  simp [Try.f25, msgs]
  refine Ex.erase hs [0, 1, 4, 7, 8, 9] 0 (by simp) ?_
  refine Ex.range l.length (fun _ => True) (fun k => ⟨[(0, .d (msgs l)), (1, .int who), (4, .int (toN (l.take k) who)), (7, .d (msgs l)), (8, .int l.length), (9, .int k)], [], 0⟩) trivial ?_ ?_
  · intro k hlt _ ih
    refine Ex.of_symN (hE _) 400 _ _ ?_
    have hk' : (k : Int) < l.length := by omega
    have hg : l[k]? = some l[k] := List.getElem?_eq_getElem hlt
    have hd : l.take (k + 1) = l.take k ++ [l[k]] := by rw [List.take_add_one, hg]; rfl
    have hb : toN (l.take k) who ≤ (l.take k).length := List.countP_le_length
    simp at hb
    simp [hk', hg]
    split
    · rename_i h0
      rw [wrap64 (n := (k : Int) + 1) (by omega) (by omega), wrap64 (by omega) (by omega)]
      refine Ex.erase_to hs [0, 1, 4, 7, 8, 9] 0 (by simp) (ih trivial) ?_
      have e : toN (l.take (k + 1)) who = toN (l.take k) who + 1 := by rw [hd, toN, List.countP_append]; simp [toN, h0]
      simp [msgs, e]
    · rename_i h0
      rw [wrap64 (n := (k : Int) + 1) (by omega) (by omega)]
      refine Ex.erase_to hs [0, 1, 4, 7, 8, 9] 0 (by simp) (ih trivial) ?_
      have e : toN (l.take (k + 1)) who = toN (l.take k) who := by rw [hd, toN, List.countP_append]; simp [toN, h0]
      simp [msgs, e]
  · intro _
    refine Ex.of_symN (hE _) 400 _ _ ?_
    simp [msgs]
    (refine done [] [] [] rfl ?_; simp [Try.f25])
theorem to_ok : FnOk Try.prog 25 ⟨[], toF⟩ := ⟨⟨_, Try.func25, rfl, rfl⟩, to_spec⟩

abbrev findJ : (List Msg) × ID → Prop := fun x => match x with | (l, id) => l.length < 9223372036854775808
abbrev findI : (List Msg) × ID → List AV × List AObj := fun x => match x with | (l, id) => ([.d (msgs l), .agg [.int id.a, .int id.b, .int id.c]], [])
abbrev findO : (List Msg) × ID → AV × List (Nat × AObj) := fun x => match x with | (l, id) => (.int (findM l id), [])
noncomputable def findF : Fun := mkF findJ findI findO
theorem find_at (l : List Msg) (id_a : Int) (id_b : Int) (id_c : Int) (hpre : l.length < 9223372036854775808) : findF [.d (msgs l), .agg [.int id_a, .int id_b, .int id_c]] [] = some (.int (findM l (⟨id_a, id_b, id_c⟩ : ID)), []) := by
  exact mkF_at (J := findJ) (inp := findI) (out := findO) (by
    rintro ⟨l, ⟨id_a, id_b, id_c⟩⟩ ⟨l1, ⟨id_a1, id_b1, id_c1⟩⟩ h
    simp [findI, ints_iff, bools_iff, intss_iff, boolss_iff, Int.natCast_inj, ids_map, ids_iff, noteL_map, noteL_iff, msgs_map, msgs_iff, instrs_map, instrs_iff, watches_iff, handlers_map, handlers_iff, actorL_map, actorL_iff, locs_map, locs_iff, wlds_map, wlds_iff, evs_map, evs_iff, founds_map, founds_iff, acts_map, acts_iff] at h
    simp [findO, h]) (l, ⟨id_a, id_b, id_c⟩) hpre
theorem find_spec : Ax.Spec Try.prog 22 findF := by
  have hE : ∀ en, EOkM Try.prog (mkE 8 [(44, ⟨[], indexFindF⟩)]) en := fun en => mkE_ok (by simp [indexFind_ok])
  refine spec_mk hE Try.func22 rfl Try.ntmps22 (fun x hl en hs => ⟨by simp [mkE], ?_⟩)
  obtain ⟨l, id⟩ := x
  replace hl : l.length < 9223372036854775808 := hl
  show Ex _ _ _ _ (initSt [.d (msgs l), .agg [.int id.a, .int id.b, .int id.c]] []) (Done _ _ 0 (.int (findM l id), []))
  have hi := indexFind_at l id.a id.b id.c hl
  refine Ex.of_symN (hE _) 400 _ _ ?_
  simp [Try.f22, hi]
  (refine done [] [] [] rfl ?_; simp [Try.f22, findM])
theorem find_ok : FnOk Try.prog 22 ⟨[], findF⟩ := ⟨⟨_, Try.func22, rfl, rfl⟩, find_spec⟩

abbrev findIDJ : (List Msg) × ID → Prop := fun x => match x with | (l, id) => l.length < 9223372036854775808
abbrev findIDI : (List Msg) × ID → List AV × List AObj := fun x => match x with | (l, id) => ([.d (msgs l), .agg [.int id.a, .int id.b, .int id.c]], [])
abbrev findIDO : (List Msg) × ID → AV × List (Nat × AObj) := fun x => match x with | (l, id) => (.int (findM l id), [])
noncomputable def findIDF : Fun := mkF findIDJ findIDI findIDO
theorem findID_at (l : List Msg) (id_a : Int) (id_b : Int) (id_c : Int) (hpre : l.length < 9223372036854775808) : findIDF [.d (msgs l), .agg [.int id_a, .int id_b, .int id_c]] [] = some (.int (findM l (⟨id_a, id_b, id_c⟩ : ID)), []) := by
  exact mkF_at (J := findIDJ) (inp := findIDI) (out := findIDO) (by
    rintro ⟨l, ⟨id_a, id_b, id_c⟩⟩ ⟨l1, ⟨id_a1, id_b1, id_c1⟩⟩ h
    simp [findIDI, ints_iff, bools_iff, intss_iff, boolss_iff, Int.natCast_inj, ids_map, ids_iff, noteL_map, noteL_iff, msgs_map, msgs_iff, instrs_map, instrs_iff, watches_iff, handlers_map, handlers_iff, actorL_map, actorL_iff, locs_map, locs_iff, wlds_map, wlds_iff, evs_map, evs_iff, founds_map, founds_iff, acts_map, acts_iff] at h
    simp [findIDO, h]) (l, ⟨id_a, id_b, id_c⟩) hpre
theorem findID_spec : Ax.Spec Try.prog 15 findIDF := by
  have hE : ∀ en, EOkM Try.prog (mkE 20 []) en := fun en => mkE_nil
  refine spec_mk hE Try.func15 rfl Try.ntmps15 (fun x hl en hs => ⟨by simp [mkE], ?_⟩)
  obtain ⟨l, id⟩ := x
  replace hl : l.length < 9223372036854775808 := hl
  show Ex _ _ _ _ (initSt [.d (msgs l), .agg [.int id.a, .int id.b, .int id.c]] []) (Done _ _ 0 (.int (findM l id), []))
  refine Ex.of_symN (hE _) 400 _ _ ?_
  simp [Try.f15, msgs]
  refine Ex.erase hs [0, 3, 5] 64 (by simp) ?_
  refine Ex.range l.length (fun k => findM l id = idxFrom (fun m : Msg => m.id.is id) k (l.drop k)) (fun k => ⟨[(0, .d (msgs l)), (3, .ptr 0 0 0 0), (5, .int k)], [(0, 0, .box [.int id.a, .int id.b, .int id.c])], 64⟩) (by simp [findM]) ?_ ?_
  · intro k hlt hq ih
    refine Ex.of_symN (hE _) 400 _ _ ?_
    have hk' : (k : Int) < l.length := by omega
    have hg : l[k]? = some l[k] := List.getElem?_eq_getElem hlt
    have hd := List.drop_eq_getElem_cons hlt
    simp [hk', hg, eqs, Ax.intsEq, ID.is_eq]
    refine ⟨by decide, ?_⟩
    split
    · rename_i h0
      refine done [] [] [] rfl ?_
      simp [Try.f15]
      rw [hq, hd, idxFrom, if_pos (by simp [ID.is_dec, h0])]
    · rename_i h0
      rw [wrap64 (n := (k : Int) + 1) (by omega) (by omega)]
      refine Ex.erase_to hs [0, 3, 5] 64 (by simp) (ih (by rw [hq, hd, idxFrom, if_neg (by simpa [ID.is_dec] using h0)])) ?_
      simp [msgs]
  · intro hq
    refine Ex.of_symN (hE _) 400 _ _ ?_
    simp [msgs]
    refine done [] [] [] rfl ?_
    simp [Try.f15, idxFrom, hq]
theorem findID_ok : FnOk Try.prog 15 ⟨[], findIDF⟩ := ⟨⟨_, Try.func15, rfl, rfl⟩, findID_spec⟩

abbrev rIntsJ : (List Int) × (List Int) → Prop := fun x => match x with | (a, b) => a.length < 9223372036854775808
abbrev rIntsI : (List Int) × (List Int) → List AV × List AObj := fun x => match x with | (a, b) => ([.d (ints a), .d (ints b)], [])
abbrev rIntsO : (List Int) × (List Int) → AV × List (Nat × AObj) := fun x => match x with | (a, b) => (.bool (decide (a = b)), [])
noncomputable def rIntsF : Fun := mkF rIntsJ rIntsI rIntsO
theorem rInts_at (a : List Int) (b : List Int) (hpre : a.length < 9223372036854775808) : rIntsF [.d (ints a), .d (ints b)] [] = some (.bool (decide (a = b)), []) := by
  exact mkF_at (J := rIntsJ) (inp := rIntsI) (out := rIntsO) (by
    rintro ⟨a, b⟩ ⟨a1, b1⟩ h
    simp [rIntsI, ints_iff, bools_iff, intss_iff, boolss_iff, Int.natCast_inj, ids_map, ids_iff, noteL_map, noteL_iff, msgs_map, msgs_iff, instrs_map, instrs_iff, watches_iff, handlers_map, handlers_iff, actorL_map, actorL_iff, locs_map, locs_iff, wlds_map, wlds_iff, evs_map, evs_iff, founds_map, founds_iff, acts_map, acts_iff] at h
    simp [rIntsO, h]) (a, b) hpre
theorem rInts_spec : Ax.Spec Try.prog 78 rIntsF := by
  have hE : ∀ en, EOkM Try.prog (mkE 26 []) en := fun en => mkE_nil
  refine spec_mk hE Try.func78 rfl Try.ntmps78 (fun x hl en hs => ⟨by simp [mkE], ?_⟩)
  obtain ⟨a, b⟩ := x
  replace hl : a.length < 9223372036854775808 := hl
  show Ex _ _ _ _ (initSt [.d (ints a), .d (ints b)] []) (Done _ _ 0 (.bool (decide (a = b)), []))
  by_cases hlen : a.length = b.length
  · refine Ex.of_symN (hE _) 400 _ _ ?_
    simp [Try.f78, ints, hlen]
    refine Ex.erase hs [0, 1, 5] 0 (by simp) ?_
    refine Ex.range b.length (fun k => a.take k = b.take k) (fun k => ⟨[(0, .d (ints a)), (1, .d (ints b)), (5, .int k)], [], 0⟩) (by simp) ?_ ?_
    · intro k hlt hq ih
      refine Ex.of_symN (hE _) 400 _ _ ?_
      have hk' : (k : Int) < b.length := by omega
      have hg : b[k]? = some b[k] := List.getElem?_eq_getElem hlt
      have hg2 : a[k]? = some (a[k]'(by omega)) := List.getElem?_eq_getElem (by omega)
      by_cases h0 : a[k]'(by omega) = b[k]
      · simp [ints, hk', hg, hg2, h0, hlen]
        refine ⟨by decide, ?_⟩
        rw [wrap64 (n := (k : Int) + 1) (by omega) (by omega)]
        refine Ex.erase_to hs [0, 1, 5] 0 (by simp) (ih (take_step (by omega) hlt hq h0)) ?_
        simp [ints]
      · simp [ints, hk', hg, hg2, h0, hlen]
        refine ⟨by decide, ?_⟩
        (refine done [] [] [] rfl ?_; simp [Try.f78, take_ne (by omega) hlt h0])
    · intro hq
      refine Ex.of_symN (hE _) 400 _ _ ?_
      simp [ints, hlen]
      (refine done [] [] [] rfl ?_; simp [Try.f78, take_end hlen (by rw [hlen]; exact hq)])
  · have hlen' : ¬ ((a.length : Int) = b.length) := by omega
    have hne : ¬ a = b := fun e => hlen (by rw [e])
    refine Ex.of_symN (hE _) 400 _ _ ?_
    simp [Try.f78, ints, hlen, hlen']
    (refine done [] [] [] rfl ?_; simp [Try.f78, hne])
theorem rInts_ok : FnOk Try.prog 78 ⟨[], rIntsF⟩ := ⟨⟨_, Try.func78, rfl, rfl⟩, rInts_spec⟩

abbrev rSameNoteJ : Note × Note → Prop := fun x => match x with | (a, b) => a.args.length < 9223372036854775808
abbrev rSameNoteI : Note × Note → List AV × List AObj := fun x => match x with | (a, b) => ([.agg [.int a.to, .int a.h, .d (ints a.args)], .agg [.int b.to, .int b.h, .d (ints b.args)]], [])
abbrev rSameNoteO : Note × Note → AV × List (Nat × AObj) := fun x => match x with | (a, b) => (.bool (decide (a = b)), [])
noncomputable def rSameNoteF : Fun := mkF rSameNoteJ rSameNoteI rSameNoteO
theorem rSameNote_at (a_to : Int) (a_h : Int) (a_args : List Int) (b_to : Int) (b_h : Int) (b_args : List Int) (hpre : (⟨a_to, a_h, a_args⟩ : Note).args.length < 9223372036854775808) : rSameNoteF [.agg [.int a_to, .int a_h, .d (ints a_args)], .agg [.int b_to, .int b_h, .d (ints b_args)]] [] = some (.bool (decide ((⟨a_to, a_h, a_args⟩ : Note) = (⟨b_to, b_h, b_args⟩ : Note))), []) := by
  exact mkF_at (J := rSameNoteJ) (inp := rSameNoteI) (out := rSameNoteO) (by
    rintro ⟨⟨a_to, a_h, a_args⟩, ⟨b_to, b_h, b_args⟩⟩ ⟨⟨a_to1, a_h1, a_args1⟩, ⟨b_to1, b_h1, b_args1⟩⟩ h
    simp [rSameNoteI, ints_iff, bools_iff, intss_iff, boolss_iff, Int.natCast_inj, ids_map, ids_iff, noteL_map, noteL_iff, msgs_map, msgs_iff, instrs_map, instrs_iff, watches_iff, handlers_map, handlers_iff, actorL_map, actorL_iff, locs_map, locs_iff, wlds_map, wlds_iff, evs_map, evs_iff, founds_map, founds_iff, acts_map, acts_iff] at h
    simp [rSameNoteO, h]) (⟨a_to, a_h, a_args⟩, ⟨b_to, b_h, b_args⟩) hpre
theorem rSameNote_spec : Ax.Spec Try.prog 52 rSameNoteF := by
  have hE : ∀ en, EOkM Try.prog (mkE 24 [(78, ⟨[], rIntsF⟩)]) en := fun en => mkE_ok (by simp [rInts_ok])
  refine spec_mk hE Try.func52 rfl Try.ntmps52 (fun x hl en hs => ⟨by simp [mkE], ?_⟩)
  obtain ⟨a, b⟩ := x
  replace hl : a.args.length < 9223372036854775808 := hl
  show Ex _ _ _ _ (initSt [.agg [.int a.to, .int a.h, .d (ints a.args)], .agg [.int b.to, .int b.h, .d (ints b.args)]] []) (Done _ _ 0 (.bool (decide (a = b)), []))
  have he := rInts_at a.args b.args hl
  rw [← Note.is_dec]
  by_cases h1 : a.to = b.to
  · by_cases h2 : a.h = b.h
    · refine Ex.of_symN (hE _) 400 _ _ ?_
      simp [Try.f52, h1, h2, he]
      (refine done [] [] [] rfl ?_; simp [Try.f52, Note.is, h1, h2])
    · have h2' : (a.h == b.h) = false := by simpa using h2
      refine Ex.of_symN (hE _) 400 _ _ ?_
      simp [Try.f52, h1, h2', he]
      (refine done [] [] [] rfl ?_; simp [Try.f52, Note.is, h1, h2])
  · have h1' : (a.to == b.to) = false := by simpa using h1
    refine Ex.of_symN (hE _) 400 _ _ ?_
    simp [Try.f52, h1', he]
    (refine done [] [] [] rfl ?_; simp [Try.f52, Note.is, h1])
theorem rSameNote_ok : FnOk Try.prog 52 ⟨[], rSameNoteF⟩ := ⟨⟨_, Try.func52, rfl, rfl⟩, rSameNote_spec⟩

abbrev sameNoteJ : Note × Note → Prop := fun x => match x with | (a, b) => a.args.length < 9223372036854775808
abbrev sameNoteI : Note × Note → List AV × List AObj := fun x => match x with | (a, b) => ([.agg [.int a.to, .int a.h, .d (ints a.args)], .agg [.int b.to, .int b.h, .d (ints b.args)]], [])
abbrev sameNoteO : Note × Note → AV × List (Nat × AObj) := fun x => match x with | (a, b) => (.bool (decide (a = b)), [])
noncomputable def sameNoteF : Fun := mkF sameNoteJ sameNoteI sameNoteO
theorem sameNote_at (a_to : Int) (a_h : Int) (a_args : List Int) (b_to : Int) (b_h : Int) (b_args : List Int) (hpre : (⟨a_to, a_h, a_args⟩ : Note).args.length < 9223372036854775808) : sameNoteF [.agg [.int a_to, .int a_h, .d (ints a_args)], .agg [.int b_to, .int b_h, .d (ints b_args)]] [] = some (.bool (decide ((⟨a_to, a_h, a_args⟩ : Note) = (⟨b_to, b_h, b_args⟩ : Note))), []) := by
  exact mkF_at (J := sameNoteJ) (inp := sameNoteI) (out := sameNoteO) (by
    rintro ⟨⟨a_to, a_h, a_args⟩, ⟨b_to, b_h, b_args⟩⟩ ⟨⟨a_to1, a_h1, a_args1⟩, ⟨b_to1, b_h1, b_args1⟩⟩ h
    simp [sameNoteI, ints_iff, bools_iff, intss_iff, boolss_iff, Int.natCast_inj, ids_map, ids_iff, noteL_map, noteL_iff, msgs_map, msgs_iff, instrs_map, instrs_iff, watches_iff, handlers_map, handlers_iff, actorL_map, actorL_iff, locs_map, locs_iff, wlds_map, wlds_iff, evs_map, evs_iff, founds_map, founds_iff, acts_map, acts_iff] at h
    simp [sameNoteO, h]) (⟨a_to, a_h, a_args⟩, ⟨b_to, b_h, b_args⟩) hpre
theorem sameNote_spec : Ax.Spec Try.prog 50 sameNoteF := by
  have hE : ∀ en, EOkM Try.prog (mkE 24 [(77, ⟨[], equalF⟩)]) en := fun en => mkE_ok (by simp [equal_ok])
  refine spec_mk hE Try.func50 rfl Try.ntmps50 (fun x hl en hs => ⟨by simp [mkE], ?_⟩)
  obtain ⟨a, b⟩ := x
  replace hl : a.args.length < 9223372036854775808 := hl
  show Ex _ _ _ _ (initSt [.agg [.int a.to, .int a.h, .d (ints a.args)], .agg [.int b.to, .int b.h, .d (ints b.args)]] []) (Done _ _ 0 (.bool (decide (a = b)), []))
  have he := equal_at a.args b.args hl
  rw [← Note.is_dec]
  by_cases h1 : a.to = b.to
  · by_cases h2 : a.h = b.h
    · refine Ex.of_symN (hE _) 400 _ _ ?_
      simp [Try.f50, h1, h2, he]
      (refine done [] [] [] rfl ?_; simp [Try.f50, Note.is, h1, h2])
    · have h2' : (a.h == b.h) = false := by simpa using h2
      refine Ex.of_symN (hE _) 400 _ _ ?_
      simp [Try.f50, h1, h2', he]
      (refine done [] [] [] rfl ?_; simp [Try.f50, Note.is, h1, h2])
  · have h1' : (a.to == b.to) = false := by simpa using h1
    refine Ex.of_symN (hE _) 400 _ _ ?_
    simp [Try.f50, h1', he]
    (refine done [] [] [] rfl ?_; simp [Try.f50, Note.is, h1])
theorem sameNote_ok : FnOk Try.prog 50 ⟨[], sameNoteF⟩ := ⟨⟨_, Try.func50, rfl, rfl⟩, sameNote_spec⟩
end Go.Proofs.S
end
section
open Go Go.Ax
namespace Go.Proofs.S
set_option linter.unusedSimpArgs false
set_option linter.unusedVariables false
set_option maxRecDepth 4000
attribute [local simp] Ax.isX Ax.evalX Ax.evalOp0 Ax.builtinX Ax.capX Ax.copyA Ax.clearA Ax.appendZ Ax.sliceBig Ax.capM Ax.capR Ax.rowsK Ax.intAt Ax.nilCmp Ax.nilEq Ax.overX Ax.overlapA Ax.lenS Ax.isEmptyLit Ax.isSv Ax.sameTys Ax.sym Ax.symN Ax.More Ax.ops1 Ax.ops2 Ax.stepG Ax.doG Ax.skipG Ax.step1 Ax.evalOp Ax.evalO Ax.constAV Ax.one Ax.tget Ax.tset Ax.putD Ax.M.lift pure bind Ax.M.pure Ax.M.bind Ax.M.need Ax.M.fail Ax.hputs Ax.hget Ax.hset Ax.evals Ax.evalParts Ax.builtinA Ax.sliceTy Ax.elemOf Ax.look Ax.binA Ax.binV Ax.asInt64 Ax.optInt Ax.loadA Ax.storeA Ax.takeN Ax.asOne Ax.exitTo Ax.AV.cells Ax.splice Ax.fills Ax.placeOf Ax.TK.agg Ax.guardOf mkE_T mkE_S mkE_eqs mkE_N mkE_cap mkE_ovl lookF Ax.callM Ax.normArgs Ax.AV.norm Ax.AV.norm1 Ax.normAs Ax.norm_sl Ax.norm_int Ax.norm_bool Ax.norm_nil0 Ax.norm_nilp Ax.norm_some Ax.normD Ax.freezeArgs Ax.freezeArg Ax.freezeArg.freezeCells Ax.cellD Ax.cellsD Ax.collect Ax.refsL Ax.AV.refs Ax.AObj.refs Ax.mapRefs Ax.AV.mapRef Ax.AObj.mapRef Ax.locRef Ax.backRef Ax.backObjs Ax.inIds Ax.AV.known Ax.AV.cell Ax.allCell Ax.partsD Ax.fillRows Ax.indexArr Ax.spliceD Ax.appendA Ax.bounds Ax.convA Ax.maxs Ax.mins T ints_norm bools_norm intss_norm boolss_norm ids_norm noteL_norm msgs_norm instrs_norm watches_norm handlers_norm actorL_norm locs_norm wlds_norm evs_norm founds_norm acts_norm ID.enc Note.enc Msg.enc Instr.enc Handler.enc Actor.enc Prg.enc Loc.enc Bud.enc Wld.enc Ev.enc Lim.enc Found.enc NRes.enc VRes.enc Act.enc ID.eta Note.eta Msg.eta Instr.eta Handler.eta Actor.eta Prg.eta Loc.eta Bud.eta Wld.eta Ev.eta Lim.eta Found.eta NRes.eta VRes.eta Act.eta take_len_map indexS_sv indexS_sl sliceA_sv sliceA_sl sliceA_nil rowsOf_sl rowsOf_nil rowsOf_sv lenA_sl lenA_lit lenA_sv ints_len bools_len intss_len boolss_len watches_len ints_idx ints_sli ints_rows bools_idx bools_sli bools_rows intss_idx intss_sli intss_rows boolss_idx boolss_sli boolss_rows ids_len ids_idx ids_sli ids_rows noteL_len noteL_idx noteL_sli noteL_rows msgs_len msgs_idx msgs_sli msgs_rows instrs_len instrs_idx instrs_sli instrs_rows watches_idx watches_sli watches_rows handlers_len handlers_idx handlers_sli handlers_rows actorL_len actorL_idx actorL_sli actorL_rows locs_len locs_idx locs_sli locs_rows wlds_len wlds_idx wlds_sli wlds_rows evs_len evs_idx evs_sli evs_rows founds_len founds_idx founds_sli founds_rows acts_len acts_idx acts_sli acts_rows Ax.fin Ax.resVals Ax.resVal Ax.passedL Ax.cvOk Ax.expRef Ax.expObjs Ax.oneOf Ax.normRes Ax.ASt.can Ax.canTm Ax.canHp Ax.canRef Ax.newName Ax.verOf Ax.ASt.erase Ax.eraseTm Ax.eraseHp Ax.keepRef Ax.initSt Ax.argTm Ax.mkHeap Ax.zeroVer

theorem Msg.eq_of {a b : Msg} (h1 : a.id = b.id) (h2 : a.note = b.note) : a = b := by
  obtain ⟨_, _⟩ := a; obtain ⟨_, _⟩ := b; simp at h1 h2; rw [h1, h2]

abbrev same1J : Msg × Msg → Prop := fun x => match x with | (a, b) => a.note.args.length < 9223372036854775808
abbrev same1I : Msg × Msg → List AV × List AObj := fun x => match x with | (a, b) => ([.agg [.int a.id.a, .int a.id.b, .int a.id.c, .int a.note.to, .int a.note.h, .d (ints a.note.args)], .agg [.int b.id.a, .int b.id.b, .int b.id.c, .int b.note.to, .int b.note.h, .d (ints b.note.args)]], [])
abbrev same1O : Msg × Msg → AV × List (Nat × AObj) := fun x => match x with | (a, b) => (.bool (decide (a = b)), [])
noncomputable def same1F : Fun := mkF same1J same1I same1O
theorem same1_at (a_id_a : Int) (a_id_b : Int) (a_id_c : Int) (a_note_to : Int) (a_note_h : Int) (a_note_args : List Int) (b_id_a : Int) (b_id_b : Int) (b_id_c : Int) (b_note_to : Int) (b_note_h : Int) (b_note_args : List Int) (hpre : (⟨⟨a_id_a, a_id_b, a_id_c⟩, ⟨a_note_to, a_note_h, a_note_args⟩⟩ : Msg).note.args.length < 9223372036854775808) : same1F [.agg [.int a_id_a, .int a_id_b, .int a_id_c, .int a_note_to, .int a_note_h, .d (ints a_note_args)], .agg [.int b_id_a, .int b_id_b, .int b_id_c, .int b_note_to, .int b_note_h, .d (ints b_note_args)]] [] = some (.bool (decide ((⟨⟨a_id_a, a_id_b, a_id_c⟩, ⟨a_note_to, a_note_h, a_note_args⟩⟩ : Msg) = (⟨⟨b_id_a, b_id_b, b_id_c⟩, ⟨b_note_to, b_note_h, b_note_args⟩⟩ : Msg))), []) := by
  exact mkF_at (J := same1J) (inp := same1I) (out := same1O) (by
    rintro ⟨⟨⟨a_id_a, a_id_b, a_id_c⟩, ⟨a_note_to, a_note_h, a_note_args⟩⟩, ⟨⟨b_id_a, b_id_b, b_id_c⟩, ⟨b_note_to, b_note_h, b_note_args⟩⟩⟩ ⟨⟨⟨a_id_a1, a_id_b1, a_id_c1⟩, ⟨a_note_to1, a_note_h1, a_note_args1⟩⟩, ⟨⟨b_id_a1, b_id_b1, b_id_c1⟩, ⟨b_note_to1, b_note_h1, b_note_args1⟩⟩⟩ h
    simp [same1I, ints_iff, bools_iff, intss_iff, boolss_iff, Int.natCast_inj, ids_map, ids_iff, noteL_map, noteL_iff, msgs_map, msgs_iff, instrs_map, instrs_iff, watches_iff, handlers_map, handlers_iff, actorL_map, actorL_iff, locs_map, locs_iff, wlds_map, wlds_iff, evs_map, evs_iff, founds_map, founds_iff, acts_map, acts_iff] at h
    simp [same1O, h]) (⟨⟨a_id_a, a_id_b, a_id_c⟩, ⟨a_note_to, a_note_h, a_note_args⟩⟩, ⟨⟨b_id_a, b_id_b, b_id_c⟩, ⟨b_note_to, b_note_h, b_note_args⟩⟩) hpre
theorem same1_spec : Ax.Spec Try.prog 49 same1F := by
  have hE : ∀ en, EOkM Try.prog (mkE 17 [(50, ⟨[], sameNoteF⟩)]) en := fun en => mkE_ok (by simp [sameNote_ok])
  refine spec_mk hE Try.func49 rfl Try.ntmps49 (fun x hl en hs => ⟨by simp [mkE], ?_⟩)
  obtain ⟨a, b⟩ := x
  replace hl : a.note.args.length < 9223372036854775808 := hl
  show Ex _ _ _ _ (initSt [.agg [.int a.id.a, .int a.id.b, .int a.id.c, .int a.note.to, .int a.note.h, .d (ints a.note.args)], .agg [.int b.id.a, .int b.id.b, .int b.id.c, .int b.note.to, .int b.note.h, .d (ints b.note.args)]] []) (Done _ _ 0 (.bool (decide (a = b)), []))
  have hn := sameNote_at a.note.to a.note.h a.note.args b.note.to b.note.h b.note.args hl
  by_cases h1 : a.id = b.id
  · by_cases h2 : a.note = b.note
    · refine Ex.of_symN (hE _) 400 _ _ ?_
      simp [Try.f49, eqs, Ax.intsEq, ID.is_eq, hn, eq_true h1, eq_true h2]
      (refine done [] [] [] rfl ?_; simp [Try.f49, Msg.eq_of h1 h2])
    · have h3 : ¬ a = b := fun e => h2 (by rw [e])
      refine Ex.of_symN (hE _) 400 _ _ ?_
      simp [Try.f49, eqs, Ax.intsEq, ID.is_eq, hn, eq_true h1, h2]
      (refine done [] [] [] rfl ?_; simp [Try.f49, h3])
  · have h3 : ¬ a = b := fun e => h1 (by rw [e])
    refine Ex.of_symN (hE _) 400 _ _ ?_
    simp [Try.f49, eqs, Ax.intsEq, ID.is_eq, hn, h1]
    (refine done [] [] [] rfl ?_; simp [Try.f49, h3])
theorem same1_ok : FnOk Try.prog 49 ⟨[], same1F⟩ := ⟨⟨_, Try.func49, rfl, rfl⟩, same1_spec⟩

def argsOk (l : List Msg) : Prop := l.length < 9223372036854775808 ∧ ∀ m ∈ l, m.note.args.length < 9223372036854775808

abbrev eqMsgsJ : (List Msg) × (List Msg) → Prop := fun x => match x with | (a, b) => argsOk a
abbrev eqMsgsI : (List Msg) × (List Msg) → List AV × List AObj := fun x => match x with | (a, b) => ([.d (msgs a), .d (msgs b), .clo 49 []], [])
abbrev eqMsgsO : (List Msg) × (List Msg) → AV × List (Nat × AObj) := fun x => match x with | (a, b) => (.bool (decide (a = b)), [])
noncomputable def eqMsgsF : Fun := mkF eqMsgsJ eqMsgsI eqMsgsO
theorem eqMsgs_at (a : List Msg) (b : List Msg) (hpre : argsOk a) : eqMsgsF [.d (msgs a), .d (msgs b), .clo 49 []] [] = some (.bool (decide (a = b)), []) := by
  exact mkF_at (J := eqMsgsJ) (inp := eqMsgsI) (out := eqMsgsO) (by
    rintro ⟨a, b⟩ ⟨a1, b1⟩ h
    simp [eqMsgsI, ints_iff, bools_iff, intss_iff, boolss_iff, Int.natCast_inj, ids_map, ids_iff, noteL_map, noteL_iff, msgs_map, msgs_iff, instrs_map, instrs_iff, watches_iff, handlers_map, handlers_iff, actorL_map, actorL_iff, locs_map, locs_iff, wlds_map, wlds_iff, evs_map, evs_iff, founds_map, founds_iff, acts_map, acts_iff] at h
    simp [eqMsgsO, h]) (a, b) hpre
theorem eqMsgs_spec : Ax.Spec Try.prog 48 eqMsgsF := by
  have hE : ∀ en, EOkM Try.prog (mkE 32 [(49, ⟨[], same1F⟩)]) en := fun en => mkE_ok (by simp [same1_ok])
  refine spec_mk hE Try.func48 rfl Try.ntmps48 (fun x hl en hs => ⟨by simp [mkE], ?_⟩)
  obtain ⟨a, b⟩ := x
  replace hl : argsOk a := hl
  show Ex _ _ _ _ (initSt [.d (msgs a), .d (msgs b), .clo 49 []] []) (Done _ _ 0 (.bool (decide (a = b)), []))
  obtain ⟨hl, hla⟩ := hl
  by_cases hlen : a.length = b.length
  · refine Ex.of_symN (hE _) 400 _ _ ?_
    simp [Try.f48, msgs, hlen]
    refine Ex.erase hs [1, 2, 15, 16, 17] 0 (by simp) ?_
    refine Ex.range b.length (fun k => a.take k = b.take k) (fun k => ⟨[(1, .d (msgs b)), (2, .clo 49 []), (15, .d (msgs a)), (16, .int b.length), (17, .int k)], [], 0⟩) (by simp) ?_ ?_
    · intro k hlt hq ih
      refine Ex.of_symN (hE _) 400 _ _ ?_
      have hk' : (k : Int) < b.length := by omega
      have hlt2 : k < a.length := by omega
      have hg : b[k]? = some b[k] := List.getElem?_eq_getElem hlt
      have hg2 : a[k]? = some a[k] := List.getElem?_eq_getElem hlt2
      have hc := same1_at a[k].id.a a[k].id.b a[k].id.c a[k].note.to a[k].note.h a[k].note.args b[k].id.a b[k].id.b b[k].id.c b[k].note.to b[k].note.h b[k].note.args (hla _ (List.getElem_mem hlt2))
      by_cases h0 : a[k] = b[k]
      · simp [hk', hg, hg2, hc, eq_true h0, hlen]
        rw [wrap64 (n := (k : Int) + 1) (by omega) (by omega)]
        refine Ex.erase_to hs [1, 2, 15, 16, 17] 0 (by simp) (ih (take_step (by omega) hlt hq h0)) ?_
        simp [msgs]
      · simp [hk', hg, hg2, hc, h0, hlen]
        (refine done [] [] [] rfl ?_; simp [Try.f48, take_ne (by omega) hlt h0])
    · intro hq
      refine Ex.of_symN (hE _) 400 _ _ ?_
      simp [msgs, hlen]
      (refine done [] [] [] rfl ?_; simp [Try.f48, take_end hlen (by rw [hlen]; exact hq)])
  · have hlen' : ¬ ((a.length : Int) = b.length) := by omega
    have hne : ¬ a = b := fun e => hlen (by rw [e])
    refine Ex.of_symN (hE _) 400 _ _ ?_
    simp [Try.f48, msgs, hlen, hlen']
    (refine done [] [] [] rfl ?_; simp [Try.f48, hne])
theorem eqMsgs_ok : FnOk Try.prog 48 ⟨[], eqMsgsF⟩ := ⟨⟨_, Try.func48, rfl, rfl⟩, eqMsgs_spec⟩

abbrev sameJ : (List Msg) × (List Msg) → Prop := fun x => match x with | (a, b) => argsOk a
abbrev sameI : (List Msg) × (List Msg) → List AV × List AObj := fun x => match x with | (a, b) => ([.d (msgs a), .d (msgs b)], [])
abbrev sameO : (List Msg) × (List Msg) → AV × List (Nat × AObj) := fun x => match x with | (a, b) => (.bool (decide (a = b)), [])
noncomputable def sameF : Fun := mkF sameJ sameI sameO
theorem same_at (a : List Msg) (b : List Msg) (hpre : argsOk a) : sameF [.d (msgs a), .d (msgs b)] [] = some (.bool (decide (a = b)), []) := by
  exact mkF_at (J := sameJ) (inp := sameI) (out := sameO) (by
    rintro ⟨a, b⟩ ⟨a1, b1⟩ h
    simp [sameI, ints_iff, bools_iff, intss_iff, boolss_iff, Int.natCast_inj, ids_map, ids_iff, noteL_map, noteL_iff, msgs_map, msgs_iff, instrs_map, instrs_iff, watches_iff, handlers_map, handlers_iff, actorL_map, actorL_iff, locs_map, locs_iff, wlds_map, wlds_iff, evs_map, evs_iff, founds_map, founds_iff, acts_map, acts_iff] at h
    simp [sameO, h]) (a, b) hpre
theorem same_spec : Ax.Spec Try.prog 18 sameF := by
  have hE : ∀ en, EOkM Try.prog (mkE 8 [(48, ⟨[], eqMsgsF⟩)]) en := fun en => mkE_ok (by simp [eqMsgs_ok])
  refine spec_mk hE Try.func18 rfl Try.ntmps18 (fun x hl en hs => ⟨by simp [mkE], ?_⟩)
  obtain ⟨a, b⟩ := x
  replace hl : argsOk a := hl
  show Ex _ _ _ _ (initSt [.d (msgs a), .d (msgs b)] []) (Done _ _ 0 (.bool (decide (a = b)), []))
  have hn := eqMsgs_at a b hl
  refine Ex.of_symN (hE _) 400 _ _ ?_
  simp [Try.f18, hn]
  (refine done [] [] [] rfl ?_; simp [Try.f18])
theorem same_ok : FnOk Try.prog 18 ⟨[], sameF⟩ := ⟨⟨_, Try.func18, rfl, rfl⟩, same_spec⟩

abbrev rSameMailJ : (List Msg) × (List Msg) → Prop := fun x => match x with | (a, b) => argsOk a
abbrev rSameMailI : (List Msg) × (List Msg) → List AV × List AObj := fun x => match x with | (a, b) => ([.d (msgs a), .d (msgs b)], [])
abbrev rSameMailO : (List Msg) × (List Msg) → AV × List (Nat × AObj) := fun x => match x with | (a, b) => (.bool (decide (a = b)), [])
noncomputable def rSameMailF : Fun := mkF rSameMailJ rSameMailI rSameMailO
theorem rSameMail_at (a : List Msg) (b : List Msg) (hpre : argsOk a) : rSameMailF [.d (msgs a), .d (msgs b)] [] = some (.bool (decide (a = b)), []) := by
  exact mkF_at (J := rSameMailJ) (inp := rSameMailI) (out := rSameMailO) (by
    rintro ⟨a, b⟩ ⟨a1, b1⟩ h
    simp [rSameMailI, ints_iff, bools_iff, intss_iff, boolss_iff, Int.natCast_inj, ids_map, ids_iff, noteL_map, noteL_iff, msgs_map, msgs_iff, instrs_map, instrs_iff, watches_iff, handlers_map, handlers_iff, actorL_map, actorL_iff, locs_map, locs_iff, wlds_map, wlds_iff, evs_map, evs_iff, founds_map, founds_iff, acts_map, acts_iff] at h
    simp [rSameMailO, h]) (a, b) hpre
theorem rSameMail_spec : Ax.Spec Try.prog 20 rSameMailF := by
  have hE : ∀ en, EOkM Try.prog (mkE 42 [(52, ⟨[], rSameNoteF⟩)]) en := fun en => mkE_ok (by simp [rSameNote_ok])
  refine spec_mk hE Try.func20 rfl Try.ntmps20 (fun x hl en hs => ⟨by simp [mkE], ?_⟩)
  obtain ⟨a, b⟩ := x
  replace hl : argsOk a := hl
  show Ex _ _ _ _ (initSt [.d (msgs a), .d (msgs b)] []) (Done _ _ 0 (.bool (decide (a = b)), []))
  obtain ⟨hl, hla⟩ := hl
  by_cases hlen : a.length = b.length
  · refine Ex.of_symN (hE _) 400 _ _ ?_
    simp [Try.f20, msgs, hlen]
    refine Ex.erase hs [0, 1, 5] 0 (by simp) ?_
    refine Ex.range b.length (fun k => a.take k = b.take k) (fun k => ⟨[(0, .d (msgs a)), (1, .d (msgs b)), (5, .int k)], [], 0⟩) (by simp) ?_ ?_
    · intro k hlt hq ih
      refine Ex.of_symN (hE _) 400 _ _ ?_
      have hk' : (k : Int) < b.length := by omega
      have hlt2 : k < a.length := by omega
      have hg : b[k]? = some b[k] := List.getElem?_eq_getElem hlt
      have hg2 : a[k]? = some a[k] := List.getElem?_eq_getElem hlt2
      have hc := rSameNote_at a[k].note.to a[k].note.h a[k].note.args b[k].note.to b[k].note.h b[k].note.args (hla _ (List.getElem_mem hlt2))
      by_cases h1 : a[k].id = b[k].id
      · by_cases h2 : a[k].note = b[k].note
        · have h0 : a[k] = b[k] := Msg.eq_of h1 h2
          simp [eqs, Ax.intsEq, ID.is_eq, hk', hg, hg2, hc, eq_true h1, eq_true h2, hlen]
          refine ⟨by decide, ?_⟩
          rw [wrap64 (n := (k : Int) + 1) (by omega) (by omega)]
          refine Ex.erase_to hs [0, 1, 5] 0 (by simp) (ih (take_step (by omega) hlt hq h0)) ?_
          simp [msgs]
        · have h0 : ¬ a[k] = b[k] := fun e => h2 (by rw [e])
          simp [eqs, Ax.intsEq, ID.is_eq, hk', hg, hg2, hc, eq_true h1, h2, hlen]
          refine ⟨by decide, ?_⟩
          (refine done [] [] [] rfl ?_; simp [Try.f20, take_ne (by omega) hlt h0])
      · have h0 : ¬ a[k] = b[k] := fun e => h1 (by rw [e])
        simp [eqs, Ax.intsEq, ID.is_eq, hk', hg, hg2, hc, h1, hlen]
        refine ⟨by decide, ?_⟩
        (refine done [] [] [] rfl ?_; simp [Try.f20, take_ne (by omega) hlt h0])
    · intro hq
      refine Ex.of_symN (hE _) 400 _ _ ?_
      simp [msgs, hlen]
      (refine done [] [] [] rfl ?_; simp [Try.f20, take_end hlen (by rw [hlen]; exact hq)])
  · have hlen' : ¬ ((a.length : Int) = b.length) := by omega
    have hne : ¬ a = b := fun e => hlen (by rw [e])
    refine Ex.of_symN (hE _) 400 _ _ ?_
    simp [Try.f20, msgs, hlen, hlen']
    (refine done [] [] [] rfl ?_; simp [Try.f20, hne])
theorem rSameMail_ok : FnOk Try.prog 20 ⟨[], rSameMailF⟩ := ⟨⟨_, Try.func20, rfl, rfl⟩, rSameMail_spec⟩
end Go.Proofs.S
end
