import Derived.Test.YtkncekndhklmhaaP01
/- A part of the proof of a law: steps of the program on plain data, and plain facts about them; no condition. -/
set_option linter.unusedVariables false
set_option linter.unusedSimpArgs false
section
namespace Go.Ax
set_option linter.unusedSimpArgs false
set_option linter.unusedVariables false

section
variable {P : Program} {E : Env} {en : Ent} {Fr : Nat → Prop} {β : Beta} {S : CellSet} {w : World} {hp : Heap} {base : Nat}

/-- the callee's placements -/
def locBeta (β : Beta) (L : Heap) : Beta := fun j v => if v = 0 then (match L[j]? with | some (id, ver, _) => β id ver | none => none) else none

theorem locBeta_some {β : Beta} {L : Heap} {j v : Nat} {p : Place} (h : locBeta β L j v = some p) : v = 0 ∧ ∃ id ver o, L[j]? = some (id, ver, o) ∧ β id ver = some p := by
  unfold locBeta at h
  split at h
  · rename_i hv
    split at h
    · rename_i id ver o hL
      exact ⟨hv, id, ver, o, hL, h⟩
    · simp at h
  · simp at h

theorem loc_get (L : Heap) (j : Nat) (v : Nat) (o : AObj) (g : Nat → Nat → Option (Nat × Nat)) :
    hget (mkHeap 0 (zeroVer (L.map fun x => x.2.2.mapRef g))) j = some (v, o) ↔ v = 0 ∧ ∃ id ver o', L[j]? = some (id, ver, o') ∧ o = o'.mapRef g := by
  rw [hget_mkHeap]
  simp only [Nat.zero_le, if_true, Nat.sub_zero, zeroVer, List.getElem?_map]
  constructor
  · intro h
    cases hL : L[j]? with
    | none => rw [hL] at h; simp at h
    | some x =>
      obtain ⟨id, ver, o'⟩ := x
      rw [hL] at h
      simp at h
      exact ⟨h.1.symm, id, ver, o', rfl, h.2.symm⟩
  · rintro ⟨rfl, id, ver, o', hL, rfl⟩
    rw [hL]; rfl

theorem loc_HR (h : Hv en Fr β S w hp) {L : Heap} (hL : Coll hp L) :
    HR (locBeta β L) w S (mkHeap 0 (zeroVer (L.map fun x => x.2.2.mapRef (locRef 0 L)))) (fun id => (L.map fun x => x.2.2.mapRef (locRef 0 L)).length ≤ id) := by
  have hg : ∀ id ver i v p, locRef 0 L id ver = some (i, v) → β id ver = some p → locBeta β L i v = some p := by
    intro id ver i v p h1 h2
    obtain ⟨rfl, _, o, h3⟩ := locRef_spec L 0 id ver i v h1
    simp only [Nat.sub_zero] at h3
    simp [locBeta, h3, h2]
  refine ⟨?_, ?_, ?_, ?_, ?_, h.hr.low⟩
  · intro j v o hj
    obtain ⟨rfl, id, ver, o', h1, rfl⟩ := (loc_get L j v o _).1 hj
    refine (h.hr.obj _ _ _ (hL.get _ _ _ _ h1)).mapRef hg (fun p hp => ?_)
    simp [locBeta, h1, hp]
  · intro j hj
    simp only [List.length_map] at hj
    have hn : L[j]? = none := List.getElem?_eq_none hj
    refine ⟨?_, fun v => by simp [locBeta, hn]⟩
    rw [hget_mkHeap]
    simp [zeroVer, hn]
  · intro j v o hj u hu
    obtain ⟨rfl, _⟩ := (loc_get L j v o _).1 hj
    unfold locBeta
    rw [if_neg (by omega)]
  · intro j v o p hj ho hp1 hp2 k
    obtain ⟨rfl, id, ver, o', h1, rfl⟩ := (loc_get L j v o _).1 hj
    rw [owned_mapRef] at ho
    have hb : β id ver = some p := by simpa [locBeta, h1] using hp1
    exact h.hr.own _ _ _ _ (hL.get _ _ _ _ h1) ho hb hp2 k
  · intro j v o p j' v' o' p' hj ho hp1 hp2 hj' ho' hp1' hp2' hne
    obtain ⟨rfl, id, ver, o1, h1, rfl⟩ := (loc_get L j v o _).1 hj
    obtain ⟨rfl, id', ver', o2, h2, rfl⟩ := (loc_get L j' v' o' _).1 hj'
    rw [owned_mapRef] at ho ho'
    have hb : β id ver = some p := by simpa [locBeta, h1] using hp1
    have hb' : β id' ver' = some p' := by simpa [locBeta, h2] using hp1'
    exact h.hr.inj _ _ _ _ _ _ _ _ (hL.get _ _ _ _ h1) ho hb hp2 (hL.get _ _ _ _ h2) ho' hb' hp2' (fun e => hne (hL.nodup _ _ _ _ _ _ _ _ h1 h2 e))

open Classical in
/-- the caller's placements behind the call -/
noncomputable def backBeta (base : Nat) (L : Heap) (β β' : Beta) : Beta := fun i u =>
  if h : ∃ j v, backRef base L j v = some (i, u) ∧ j < L.length + 32 then β' h.choose h.choose_spec.choose else β i u

theorem backRef_inj {L : Heap} (hL : Coll hp L) (hnb : ∀ id ver, hget hp id = some ver → ¬ (base ≤ id ∧ id < base + 32)) {j v j' v' i u u' : Nat} (hj : j < L.length + 32) (hj' : j' < L.length + 32)
    (h : backRef base L j v = some (i, u)) (h' : backRef base L j' v' = some (i, u')) : j = j' ∧ (u = u' → v = v') := by
  by_cases c : j < L.length
  · have hx := List.getElem?_eq_getElem c
    rw [backRef_lt L base j v _ hx] at h
    simp at h
    by_cases c' : j' < L.length
    · have hx' := List.getElem?_eq_getElem c'
      rw [backRef_lt L base j' v' _ hx'] at h'
      simp at h'
      have e : j = j' := hL.nodup j j' L[j].1 L[j].2.1 L[j].2.2 L[j'].1 L[j'].2.1 L[j'].2.2 hx hx' (by omega)
      subst e
      exact ⟨rfl, fun _ => by omega⟩
    · rw [backRef_ge L base j' v' (by omega)] at h'
      simp at h'
      exact absurd ⟨by omega, by omega⟩ (hnb _ _ (hL.get j L[j].1 L[j].2.1 L[j].2.2 hx))
  · rw [backRef_ge L base j v (by omega)] at h
    simp at h
    by_cases c' : j' < L.length
    · have hx' := List.getElem?_eq_getElem c'
      rw [backRef_lt L base j' v' _ hx'] at h'
      simp at h'
      exact absurd ⟨by omega, by omega⟩ (hnb _ _ (hL.get j' L[j'].1 L[j'].2.1 L[j'].2.2 hx'))
    · rw [backRef_ge L base j' v' (by omega)] at h'
      simp at h'
      exact ⟨by omega, fun _ => by omega⟩

theorem backBeta_at {L : Heap} (hL : Coll hp L) (hnb : ∀ id ver, hget hp id = some ver → ¬ (base ≤ id ∧ id < base + 32)) {j v i u : Nat} (hj : j < L.length + 32) (h : backRef base L j v = some (i, u)) (β β' : Beta) :
    backBeta base L β β' i u = β' j v := by
  have hex : ∃ j v, backRef base L j v = some (i, u) ∧ j < L.length + 32 := ⟨j, v, h, hj⟩
  unfold backBeta
  rw [dif_pos hex]
  have hs := hex.choose_spec.choose_spec
  obtain ⟨e1, e2⟩ := backRef_inj hL hnb hs.2 hj hs.1 h
  have e2' := e2 rfl
  congr 1

theorem backBeta_other {L : Heap} {i u : Nat} (h : ∀ j v, j < L.length + 32 → backRef base L j v ≠ some (i, u)) (β β' : Beta) : backBeta base L β β' i u = β i u := by
  unfold backBeta
  rw [dif_neg]
  rintro ⟨j, v, h1, h2⟩
  exact h j v h2 h1

theorem callM_sound (hE : EOk P E en) (h : Hv en Fr β S w hp) (hFr : ∀ k, base ≤ k → k < base + 32 → Fr k) {f : FuncId} {args : List AV} {vs : List Value} {v : AV} {wr : Heap} {l : List Nat}
    (hs : ARs β w S vs args) (he : callM E base f args (hget hp) = some ((v, wr), l)) :
    (∃ g, P.funcs[f]? = some g ∧ (g.name == "runtime.NumGoroutine") = false ∧ g.body.isNone = false) ∧
    Calls P f vs.toArray w fun e w' => ∃ β' S' val, e = .returned val ∧ AR β' w' S' val v ∧ Hv en (Less Fr base) β' S' w' (hputs wr hp) ∧ BIncl β β' ∧ Incl S S' ∧ Keeps w w' S := by
  simp only [callM, M.bind_some, M.lift_some, M.need_some, M.pure_some, Prod.exists, Prod.mk.injEq, decide_eq_true_eq] at he
  obtain ⟨fn, l1, v1, wr1, l2, ⟨h1, _⟩, ⟨args1, w1, l3, v3, wr3, l4, h2, ⟨L, l5, v5, wr5, l6, h3, ⟨r, objs, l7, v7, wr7, l8, ⟨h4, _⟩, ⟨_, l9, v9, wr9, l10, ⟨⟨h5, h6⟩, _⟩, ⟨_, l11, v11, wr11, l12, ⟨h7, _⟩, ⟨⟨rfl, rfl⟩, _⟩, ⟨⟨rfl, rfl⟩, _⟩⟩, ⟨⟨rfl, rfl⟩, _⟩⟩, ⟨⟨rfl, rfl⟩, _⟩⟩, ⟨⟨rfl, rfl⟩, _⟩⟩, ⟨⟨rfl, rfl⟩, _⟩⟩, ⟨⟨rfl, rfl⟩, _⟩⟩ := he
  have hfn := hE.fn _ _ h1
  refine ⟨hfn.func, ?_⟩
  obtain ⟨S1, k1, k2, k3, k4⟩ := freezeArgs_sound fn.own args vs S hp args1 w1 _ h (Frz.refl hp) h2 hs
  have hC0 : Coll hp L := collect_sound 64 _ [] L _ ⟨fun j _ _ _ hj => by simp at hj, fun i j _ _ _ _ _ _ hi => by simp at hi⟩ h3
  have hC : Coll (hputs w1 hp) L := by
    refine ⟨fun j id ver o hj => ?_, hC0.nodup⟩
    have hin : inIds id w1 = false := by
      have := List.all_eq_true.1 h7 (id, ver, o) (List.mem_of_getElem? hj)
      simpa using this
    rw [hget_hputs_not w1 hp id hin]
    exact hC0.get j id ver o hj
  have hnb : ∀ id ver, hget (hputs w1 hp) id = some ver → ¬ (base ≤ id ∧ id < base + 32) := by
    rintro id ver hg ⟨a, b⟩
    rw [(k1.hr.new id (hFr id a b)).1] at hg
    simp at hg
  have hg : ∀ id ver i v p, locRef 0 L id ver = some (i, v) → β id ver = some p → locBeta β L i v = some p := by
    intro id ver i v p h1 h2
    obtain ⟨rfl, _, o, h3⟩ := locRef_spec L 0 id ver i v h1
    simp only [Nat.sub_zero] at h3
    simp [locBeta, h3, h2]
  have hHR := loc_HR k1 hC
  have hcall := hfn.spec _ _ _ _ h4 w S1 (locBeta β L) vs (k3.mapRef hg) hHR
  refine hcall.mono ?_
  rintro e w' ⟨β', S', val, rfl, r1, r2⟩
  -- the callee's frame
  have hown : ∀ b, (entOf w S1 (locBeta β L) (L.map fun x => x.2.2.mapRef (locRef 0 L))).own0 b → ∃ (j : Nat) (id ver : Nat) (o : AObj) (p : Place), L[j]? = some (id, ver, o) ∧ o.owned = true ∧ β id ver = some p ∧ p.virt = false ∧ p.blk = b := by
    rintro b ⟨j, o, p, g1, g2, g3, g4, g5⟩
    simp only [List.getElem?_map, Option.map_eq_some_iff] at g1
    obtain ⟨⟨id, ver, o'⟩, g6, rfl⟩ := g1
    rw [owned_mapRef] at g2
    refine ⟨j, id, ver, o', p, g6, g2, ?_, g4, g5⟩
    simpa [locBeta, g6] using g3
  have hjlt : ∀ j v p, β' j v = some p → j < objs.length := by
    intro j v p hp
    by_cases c : j < objs.length
    · exact c
    · rw [(r2.hr.new j (by omega)).2 v] at hp; simp at hp
  have hback : ∀ j v i u p, backRef base L j v = some (i, u) → β' j v = some p → backBeta base L β β' i u = some p := by
    intro j v i u p h1 h2
    rw [backBeta_at hC hnb (by have := hjlt _ _ _ h2; omega) h1 β β']
    exact h2
  have hbi : BIncl β (backBeta base L β β') := by
    intro i u p hp
    by_cases hex : ∃ j v, j < L.length + 32 ∧ backRef base L j v = some (i, u)
    · obtain ⟨j, v, hj, hb⟩ := hex
      rw [backBeta_at hC hnb hj hb β β']
      by_cases c : j < L.length
      · have hx := List.getElem?_eq_getElem c
        rw [backRef_lt L base j v _ hx] at hb
        simp at hb
        obtain ⟨rfl, rfl⟩ := hb
        have hget := hC.get j L[j].1 L[j].2.1 L[j].2.2 hx
        by_cases hv : v = 0
        · subst hv
          refine r2.fr.beta0 j p ?_
          show (if j < _ then locBeta β L j 0 else none) = some p
          rw [if_pos (by simpa using c)]
          have hxe : L[j]? = some (L[j].1, L[j].2.1, L[j].2.2) := hx
          simp only [locBeta, if_true, hxe]
          simpa using hp
        · rw [k1.hr.ver _ _ _ hget _ (by omega)] at hp; simp at hp
      · rw [backRef_ge L base j v (by omega)] at hb
        simp at hb
        obtain ⟨rfl, rfl⟩ := hb
        rw [(k1.hr.new _ (hFr _ (by omega) (by omega))).2] at hp; simp at hp
    · rw [backBeta_other (fun j v hj hb => hex ⟨j, v, hj, hb⟩)]
      exact hp
  -- blocks that are no passed object's
  have hblk : ∀ b, b < w.heap.size → (∀ (j id ver : Nat) o p, L[j]? = some (id, ver, o) → o.owned = true → β id ver = some p → p.virt = false → p.blk ≠ b) → w'.heap[b]? = w.heap[b]? := by
    intro b hb hno
    refine r2.fr.blocks b hb (fun ho => ?_)
    obtain ⟨j, id, ver, o, p, g1, g2, g3, g4, g5⟩ := hown b ho
    exact hno j id ver o p g1 g2 g3 g4 g5
  have hkeep : Keeps w w' S1 := by
    intro b k hs
    refine cell?_block (hblk b (k1.hr.low b k hs) ?_) k
    intro j id ver o p g1 g2 g3 g4 g5
    subst g5
    exact k1.hr.own _ _ _ _ (hC.get _ _ _ _ g1) g2 g3 g4 k hs
  have hS : Incl S1 S' := r2.fr.sub
  -- another object of the caller's
  have hoth : ∀ id ver o p, hget (hputs w1 hp) id = some (ver, o) → o.owned = true → β id ver = some p → p.virt = false → (∀ (j : Nat) ver' o', L[j]? ≠ some (id, ver', o')) →
      p.blk < w.heap.size ∧ ¬ (entOf w S1 (locBeta β L) (L.map fun x => x.2.2.mapRef (locRef 0 L))).own0 p.blk := by
    intro id ver o p g1 g2 g3 g4 g5
    refine ⟨k1.mine_lt ⟨ver, o, p, g1, g2, g3, g4, rfl⟩, fun ho => ?_⟩
    obtain ⟨j, id', ver', o', p', e1, e2, e3, e4, e5⟩ := hown _ ho
    refine k1.hr.inj _ _ _ _ _ _ _ _ g1 g2 g3 g4 (hC.get _ _ _ _ e1) e2 e3 e4 (fun e => ?_) e5.symm
    subst e
    exact g5 j ver' o' e1
  have hgetF : ∀ j v o, hget (mkHeap 0 objs) j = some (v, o) ↔ objs[j]? = some (v, o) := by
    intro j v o; rw [hget_mkHeap]; simp
  have hinjB : ∀ (j j' : Nat) v v' i u u', j < L.length + 32 → j' < L.length + 32 → j ≠ j' → backRef base L j v = some (i, u) → backRef base L j' v' = some (i, u') → False :=
    fun j j' v v' i u u' hj hj' hne a b => hne (backRef_inj hC hnb hj hj' a b).1
  have hsomeB : ∀ j v, (backRef base L j v).isSome = true := by
    intro j v
    by_cases c : j < L.length
    · rw [backRef_lt L base j v _ (List.getElem?_eq_getElem c)]; rfl
    · rw [backRef_ge L base j v (by omega)]; rfl
  -- the heap behind the call
  have hhp : ∀ i, (∃ j v o u, objs[j]? = some (v, o) ∧ backRef base L j v = some (i, u) ∧ hget (hputs (backObjs (backRef base L) 0 objs) (hputs w1 hp)) i = some (u, o.mapRef (backRef base L))) ∨
      ((∀ (j : Nat) v o u, objs[j]? = some (v, o) → backRef base L j v ≠ some (i, u)) ∧ hget (hputs (backObjs (backRef base L) 0 objs) (hputs w1 hp)) i = hget (hputs w1 hp) i) := by
    intro i
    -- only places below the list's length are asked for
    have aux : ∀ (os : List (Nat × AObj)) (k : Nat) (h0 : Heap), k + os.length ≤ L.length + 32 →
        (∃ j v o u, os[j]? = some (v, o) ∧ backRef base L (k + j) v = some (i, u) ∧ hget (hputs (backObjs (backRef base L) k os) h0) i = some (u, o.mapRef (backRef base L))) ∨
        ((∀ (j : Nat) v o u, os[j]? = some (v, o) → backRef base L (k + j) v ≠ some (i, u)) ∧ hget (hputs (backObjs (backRef base L) k os) h0) i = hget h0 i) := by
      intro os
      induction os with
      | nil => intro k h0 _; exact .inr ⟨fun j v o u h => by simp at h, rfl⟩
      | cons x r ih =>
        obtain ⟨v, o⟩ := x
        intro k h0 hk
        simp only [List.length_cons] at hk
        obtain ⟨⟨i0, u0⟩, hg0⟩ := Option.isSome_iff_exists.1 (hsomeB k v)
        simp only [backObjs, hg0, hputs]
        rcases ih (k + 1) (hset i0 u0 (o.mapRef (backRef base L)) h0) (by omega) with ⟨j, v', o', u, h1, h2, h3⟩ | ⟨h1, h2⟩
        · exact .inl ⟨j + 1, v', o', u, by simpa using h1, by rw [show k + (j + 1) = k + 1 + j by omega]; exact h2, h3⟩
        · by_cases e : i = i0
          · subst e
            refine .inl ⟨0, v, o, u0, rfl, hg0, ?_⟩
            rw [h2, hget_hset]; simp
          · refine .inr ⟨fun j v' o' u hj hgj => ?_, by rw [h2, hget_hset, if_neg e]⟩
            cases j with
            | zero =>
              simp at hj
              obtain ⟨rfl, rfl⟩ := hj
              rw [Nat.add_zero, hg0] at hgj
              simp at hgj
              exact e hgj.1.symm
            | succ j =>
              exact h1 j v' o' u (by simpa using hj) (by rw [show k + 1 + j = k + (j + 1) by omega]; exact hgj)
    have := aux objs 0 (hputs w1 hp) (by simp only [Nat.zero_add]; omega)
    simpa using this
  have hjo : ∀ (j : Nat) v o, objs[j]? = some (v, o) → j < L.length + 32 := by
    intro j v o hj
    have := (List.getElem?_eq_some_iff.1 hj).1
    omega
  have hin : ∀ (j : Nat) id ver o, L[j]? = some (id, ver, o) → ∃ v o', objs[j]? = some (v, o') := by
    intro j id ver o hj
    have := (List.getElem?_eq_some_iff.1 hj).1
    have hlt : j < objs.length := by omega
    exact ⟨_, _, List.getElem?_eq_getElem hlt⟩
  -- an object that stays as it was is none that was handed over
  have hstay : ∀ i, (∀ (j : Nat) v o u, objs[j]? = some (v, o) → backRef base L j v ≠ some (i, u)) → ∀ (j : Nat) ver' o', L[j]? ≠ some (i, ver', o') := by
    intro i hno j ver' o' hj
    obtain ⟨v, o2, ho⟩ := hin j _ _ _ hj
    exact hno j v o2 _ ho (backRef_lt L base j v _ hj)
  have hstayβ : ∀ i u, (∀ (j : Nat) v o u, objs[j]? = some (v, o) → backRef base L j v ≠ some (i, u)) → (∃ x, hget (hputs w1 hp) i = some x) → backBeta base L β β' i u = β i u := by
    intro i u hno hx
    refine backBeta_other (fun j v hj hb => ?_) β β'
    by_cases c : j < L.length
    · have hxx := List.getElem?_eq_getElem c
      rw [backRef_lt L base j v _ hxx] at hb
      simp at hb
      exact hstay i hno j L[j].2.1 L[j].2.2 (by rw [hxx]; congr 1; rw [← hb.1])
    · rw [backRef_ge L base j v (by omega)] at hb
      simp at hb
      obtain ⟨x, hx⟩ := hx
      exact hnb i x hx ⟨by omega, by omega⟩
  refine ⟨backBeta base L β β', S', val, rfl, r1.mapRef hback, ?_, hbi, k2.trans hS, fun b k hs => hkeep b k (k2 _ _ hs)⟩
  rw [hputs_append]
  refine ⟨⟨?_, ?_, ?_, ?_, ?_, r2.hr.low⟩, ⟨?_, ?_, ?_, ?_, ?_, ?_, ?_⟩⟩
  · intro i u o hi
    rcases hhp i with ⟨j, v, o', u', h1, h2, h3⟩ | ⟨h1, h2⟩
    · rw [h3] at hi
      simp at hi
      obtain ⟨rfl, rfl⟩ := hi
      exact (r2.hr.obj _ _ _ ((hgetF _ _ _).2 h1)).mapRef hback (fun p hp => hback _ _ _ _ _ h2 hp)
    · rw [h2] at hi
      refine (k1.hr.obj _ _ _ hi).mono hbi hkeep hS (fun ho p hp1 hp2 => ?_)
      obtain ⟨g1, g2⟩ := hoth _ _ _ _ hi ho hp1 hp2 (hstay i h1)
      exact r2.fr.blocks _ g1 g2
  · intro i hi
    rcases hhp i with ⟨j, v, o', u', h1, h2, h3⟩ | ⟨h1, h2⟩
    · exfalso
      by_cases c : j < L.length
      · have hxx := List.getElem?_eq_getElem c
        rw [backRef_lt L base j v _ hxx] at h2
        simp at h2
        have := hC.get j L[j].1 L[j].2.1 L[j].2.2 hxx
        rw [h2.1, (k1.hr.new i hi.1).1] at this
        simp at this
      · rw [backRef_ge L base j v (by omega)] at h2
        simp at h2
        have := hjo _ _ _ h1
        exact hi.2 ⟨by omega, by omega⟩
    · refine ⟨by rw [h2]; exact (k1.hr.new i hi.1).1, fun u => ?_⟩
      rw [backBeta_other]
      · exact (k1.hr.new i hi.1).2 u
      · intro j v hj hb
        by_cases c : j < L.length
        · have hxx := List.getElem?_eq_getElem c
          rw [backRef_lt L base j v _ hxx] at hb
          simp at hb
          have := hC.get j L[j].1 L[j].2.1 L[j].2.2 hxx
          rw [hb.1, (k1.hr.new i hi.1).1] at this
          simp at this
        · rw [backRef_ge L base j v (by omega)] at hb
          simp at hb
          exact hi.2 ⟨by omega, by omega⟩
  · intro i u o hi u' hu'
    rcases hhp i with ⟨j, v, o', u0, h1, h2, h3⟩ | ⟨h1, h2⟩
    · rw [h3] at hi
      simp at hi
      obtain ⟨rfl, rfl⟩ := hi
      by_cases hex : ∃ j' v', j' < L.length + 32 ∧ backRef base L j' v' = some (i, u')
      · obtain ⟨j', v', hj', hb'⟩ := hex
        rw [backBeta_at hC hnb hj' hb' β β']
        have ej := (backRef_inj hC hnb (hjo _ _ _ h1) hj' h2 hb').1
        subst ej
        refine r2.hr.ver _ _ _ ((hgetF _ _ _).2 h1) v' ?_
        by_cases c : j < L.length
        · have hxx := List.getElem?_eq_getElem c
          rw [backRef_lt L base j v _ hxx] at h2
          rw [backRef_lt L base j v' _ hxx] at hb'
          simp at h2 hb'
          omega
        · rw [backRef_ge L base j v (by omega)] at h2
          rw [backRef_ge L base j v' (by omega)] at hb'
          simp at h2 hb'
          omega
      · rw [backBeta_other (fun j v hj hb => hex ⟨j, v, hj, hb⟩)]
        by_cases c : j < L.length
        · have hxx := List.getElem?_eq_getElem c
          rw [backRef_lt L base j v _ hxx] at h2
          simp at h2
          have hgt := hC.get j L[j].1 L[j].2.1 L[j].2.2 hxx
          rw [h2.1] at hgt
          exact k1.hr.ver _ _ _ hgt u' (by omega)
        · rw [backRef_ge L base j v (by omega)] at h2
          simp at h2
          have := hjo _ _ _ h1
          exact (k1.hr.new i (hFr i (by omega) (by omega))).2 u'
    · rw [h2] at hi
      rw [hstayβ i u' h1 ⟨_, hi⟩]
      exact k1.hr.ver _ _ _ hi u' hu'
  · intro i u o p hi ho hp1 hp2 k hsk
    rcases hhp i with ⟨j, v, o', u0, h1, h2, h3⟩ | ⟨h1, h2⟩
    · rw [h3] at hi
      simp at hi
      obtain ⟨rfl, rfl⟩ := hi
      rw [owned_mapRef] at ho
      rw [backBeta_at hC hnb (hjo _ _ _ h1) h2 β β'] at hp1
      exact r2.hr.own _ _ _ _ ((hgetF _ _ _).2 h1) ho hp1 hp2 k hsk
    · rw [h2] at hi
      rw [hstayβ i u h1 ⟨_, hi⟩] at hp1
      obtain ⟨g1, g2⟩ := hoth _ _ _ _ hi ho hp1 hp2 (hstay i h1)
      rcases r2.fr.fresh _ _ hsk with hx | hx | hx
      · exact k1.hr.own _ _ _ _ hi ho hp1 hp2 k hx
      · exact absurd g1 (Nat.not_lt.2 hx)
      · exact g2 hx
  · intro i u o p i' u' o2 p' hi ho hp1 hp2 hi' ho' hp1' hp2' hne
    -- one that is new or was handed over, and one that stays
    have mixed : ∀ i u o p i' u' o2 p', (∃ j v o' u0, objs[j]? = some (v, o') ∧ backRef base L j v = some (i, u0) ∧ hget (hputs (backObjs (backRef base L) 0 objs) (hputs w1 hp)) i = some (u0, o'.mapRef (backRef base L))) →
        ((∀ (j : Nat) v o u, objs[j]? = some (v, o) → backRef base L j v ≠ some (i', u))) → hget (hputs w1 hp) i' = some (u', o2) →
        hget (hputs (backObjs (backRef base L) 0 objs) (hputs w1 hp)) i = some (u, o) → o.owned = true → backBeta base L β β' i u = some p → p.virt = false → o2.owned = true → backBeta base L β β' i' u' = some p' → p'.virt = false → p.blk ≠ p'.blk := by
      rintro i u o p i' u' o2 p' ⟨j, v, o', u0, h1, h2, h3⟩ h1' hi' hi ho hp1 hp2 ho' hp1' hp2' e
      rw [h3] at hi
      simp at hi
      obtain ⟨rfl, rfl⟩ := hi
      rw [owned_mapRef] at ho
      rw [backBeta_at hC hnb (hjo _ _ _ h1) h2 β β'] at hp1
      rw [hstayβ i' u' h1' ⟨_, hi'⟩] at hp1'
      obtain ⟨g1, g2⟩ := hoth _ _ _ _ hi' ho' hp1' hp2' (hstay i' h1')
      rw [← e] at g1 g2
      rcases r2.fr.ownf _ _ _ _ ((hgetF _ _ _).2 h1) ho hp1 hp2 with hx | hx
      · exact absurd g1 (Nat.not_lt.2 hx)
      · exact g2 hx
    rcases hhp i with hA | ⟨h1, h2⟩
    · rcases hhp i' with hA' | ⟨h1', h2'⟩
      · obtain ⟨j, v, o', u0, h1, h2, h3⟩ := hA
        obtain ⟨j', v', o'', u0', h1', h2', h3'⟩ := hA'
        rw [h3] at hi
        rw [h3'] at hi'
        simp at hi hi'
        obtain ⟨rfl, rfl⟩ := hi
        obtain ⟨rfl, rfl⟩ := hi'
        rw [owned_mapRef] at ho ho'
        rw [backBeta_at hC hnb (hjo _ _ _ h1) h2 β β'] at hp1
        rw [backBeta_at hC hnb (hjo _ _ _ h1') h2' β β'] at hp1'
        refine r2.hr.inj _ _ _ _ _ _ _ _ ((hgetF _ _ _).2 h1) ho hp1 hp2 ((hgetF _ _ _).2 h1') ho' hp1' hp2' (fun e => ?_)
        subst e
        apply hne
        by_cases c : j < L.length
        · have hxx := List.getElem?_eq_getElem c
          rw [backRef_lt L base j v _ hxx] at h2
          rw [backRef_lt L base j v' _ hxx] at h2'
          simp at h2 h2'
          omega
        · rw [backRef_ge L base j v (by omega)] at h2
          rw [backRef_ge L base j v' (by omega)] at h2'
          simp at h2 h2'
          omega
      · rw [h2'] at hi'
        exact mixed _ _ _ _ _ _ _ _ hA h1' hi' hi ho hp1 hp2 ho' hp1' hp2'
    · rw [h2] at hi
      rcases hhp i' with hA' | ⟨h1', h2'⟩
      · exact fun e => mixed _ _ _ _ _ _ _ _ hA' h1 hi hi' ho' hp1' hp2' ho hp1 hp2 e.symm
      · rw [h2'] at hi'
        rw [hstayβ i u h1 ⟨_, hi⟩] at hp1
        rw [hstayβ i' u' h1' ⟨_, hi'⟩] at hp1'
        exact k1.hr.inj _ _ _ _ _ _ _ _ hi ho hp1 hp2 hi' ho' hp1' hp2' hne
  · intro b hb hno
    have hlt : b < w.heap.size := Nat.lt_of_lt_of_le hb k1.fr.size
    refine (hblk b hlt (fun j id ver o p g1 g2 g3 g4 g5 => ?_)).trans (k1.fr.blocks b hb hno)
    subst g5
    rcases k1.fr.ownf _ _ _ _ (hC.get _ _ _ _ g1) g2 g3 g4 with hx | hx
    · omega
    · exact hno hx
  · exact Nat.le_trans k1.fr.size r2.fr.size
  · exact fun b k hs => hS _ _ (k1.fr.sub b k hs)
  · intro b k hs
    rcases r2.fr.fresh _ _ hs with hx | hx | hx
    · exact k1.fr.fresh b k hx
    · exact .inr (.inl (Nat.le_trans k1.fr.size hx))
    · obtain ⟨j, id, ver, o, p, g1, g2, g3, g4, rfl⟩ := hown _ hx
      exact .inr (k1.fr.ownf _ _ _ _ (hC.get _ _ _ _ g1) g2 g3 g4)
  · intro i u o p hi ho hp1 hp2
    rcases hhp i with ⟨j, v, o', u0, h1, h2, h3⟩ | ⟨h1, h2⟩
    · rw [h3] at hi
      simp at hi
      obtain ⟨rfl, rfl⟩ := hi
      rw [owned_mapRef] at ho
      rw [backBeta_at hC hnb (hjo _ _ _ h1) h2 β β'] at hp1
      rcases r2.fr.ownf _ _ _ _ ((hgetF _ _ _).2 h1) ho hp1 hp2 with hx | hx
      · exact .inl (Nat.le_trans k1.fr.size hx)
      · obtain ⟨j, id, ver, o, q, g1, g2, g3, g4, g5⟩ := hown _ hx
        rw [← g5]
        exact k1.fr.ownf _ _ _ _ (hC.get _ _ _ _ g1) g2 g3 g4
    · rw [h2] at hi
      rw [hstayβ i u h1 ⟨_, hi⟩] at hp1
      exact k1.fr.ownf _ _ _ _ hi ho hp1 hp2
  · exact ⟨r2.fr.out.1.trans k1.fr.out.1, r2.fr.out.2.trans k1.fr.out.2⟩
  · exact fun j p hj => hbi _ _ _ (k1.fr.beta0 j p hj)

end
end Go.Ax
end
section
namespace Go.Ax
set_option linter.unusedSimpArgs false
set_option linter.unusedVariables false

section
variable {P : Program} {E : Env} {en : Ent} {Fr : Nat → Prop} {β : Beta} {S : CellSet} {w : World} {hp : Heap} {base : Nat}
variable {ρc : Operand → Value} {ρ : Operand → Option AV}

theorem lenA_sound {t : TypeId} {ti : TI} (hT : TOk P t ti) {e : Nat} (hk : ti.kind = .slice e) {x : AV} {v : Value} {n : Int} (hx : AR β w S v x) (h : lenA x = some n) (ty : TypeId) :
    (Builtin.len_ #[t] ty #[v]).run P w = .ok (.int .i64 n) w := by
  obtain ⟨d, d1, d2⟩ := hT.und
  rw [hk] at d2
  simp only [KOk] at d2
  subst d2
  have key : ∀ a n c, (Builtin.len_ #[t] ty #[.slice a n c]).run P w = .ok (.int .i64 n) w := by
    intro a n c
    simp [Builtin.len_, run_underlying d1, goInt]
  unfold lenA at h
  split at h
  · cases h
    cases hx with
    | d _ _ hx =>
    cases hx with
    | nil => exact key _ _ _
    | sl a len cap _ _ xx hl => rw [hl]; exact key _ _ _
  · cases h
    rw [hx.lit_inv]; exact key _ _ _
  · cases h
    cases hx with
    | sv => exact key _ _ _
    | svn => exact key _ _ _
  · simp at h

theorem sliceTy_spec {tys : List Nat} {t : Nat} (h : sliceTy E tys = some (.slice t)) : ∃ ti e, E.T t = some ti ∧ ti.kind = .slice e ∧ tys = [t] := by
  unfold sliceTy at h
  split at h
  · rename_i t'
    split at h
    · rename_i hti
      cases h
      exact ⟨_, _, hti, rfl, rfl⟩
    · simp at h
  · simp at h
theorem sliceTy_other (E : Env) (tys : List Nat) : ¬ sliceTy E tys = some .other := by
  unfold sliceTy
  split
  · split <;> simp
  · simp

theorem maxs_sound : ∀ (l : List AV) (vs : List Value) (r : AV), maxs l = some r → ARs β w S vs l → ∃ v, (∀ ats ty, (Builtin.max_ ats ty vs.toArray).run P w = .ok v w) ∧ AR β w S v r
  | [], vs, r, h, hv => by simp [maxs] at h
  | [x], vs, r, h, hv => by
    simp [maxs] at h
    subst h
    obtain ⟨v, vs', rfl, h1, h2⟩ := hv.inv_cons
    rw [h2.inv_nil]
    exact ⟨v, fun ats ty => by simp [Builtin.max_], h1⟩
  | x :: y :: l, vs, r, h, hv => by
    unfold maxs at h
    split at h
    · simp at *
    · rename_i a b q hq
      cases hq
      obtain ⟨v, vs1, rfl, h1, h2⟩ := hv.inv_cons
      obtain ⟨u, vs2, rfl, h3, h4⟩ := h2.inv_cons
      obtain ⟨z, z1, z2⟩ := maxs_sound (.d (.lit (.int .i64 (if b > a then b else a))) :: l) (.int .i64 (if b > a then b else a) :: vs2) r h (ARs.cons_iff.2 ⟨AR.lit rfl, h4⟩)
      refine ⟨z, fun ats ty => ?_, z2⟩
      rw [h1.lit_inv, h3.lit_inv]
      have := z1 ats ty
      simpa [Builtin.max_, Builtin.max2] using this
    · simp at h
  termination_by l => l.length

theorem mins_sound : ∀ (l : List AV) (vs : List Value) (r : AV), mins l = some r → ARs β w S vs l → ∃ v, (∀ ats ty, (Builtin.min_ ats ty vs.toArray).run P w = .ok v w) ∧ AR β w S v r
  | [], vs, r, h, hv => by simp [mins] at h
  | [x], vs, r, h, hv => by
    simp [mins] at h
    subst h
    obtain ⟨v, vs', rfl, h1, h2⟩ := hv.inv_cons
    rw [h2.inv_nil]
    exact ⟨v, fun ats ty => by simp [Builtin.min_], h1⟩
  | x :: y :: l, vs, r, h, hv => by
    unfold mins at h
    split at h
    · simp at *
    · rename_i a b q hq
      cases hq
      obtain ⟨v, vs1, rfl, h1, h2⟩ := hv.inv_cons
      obtain ⟨u, vs2, rfl, h3, h4⟩ := h2.inv_cons
      obtain ⟨z, z1, z2⟩ := mins_sound (.d (.lit (.int .i64 (if b < a then b else a))) :: l) (.int .i64 (if b < a then b else a) :: vs2) r h (ARs.cons_iff.2 ⟨AR.lit rfl, h4⟩)
      refine ⟨z, fun ats ty => ?_, z2⟩
      rw [h1.lit_inv, h3.lit_inv]
      have := z1 ats ty
      simpa [Builtin.min_, Builtin.min2] using this
    · simp at h
  termination_by l => l.length

theorem wp_of_res {o : Oper} {a : Act} {next : Act → World → Prop} {Q : Exit → Act → World → Prop} {v : AV} {wr : Heap} (hr : OpRes P en Fr base β S w hp (execOp a.eval o) v wr)
    (hn : ∀ val β' S' w', AR β' w' S' val v → Hv en (Less Fr base) β' S' w' (hputs wr hp) → BIncl β β' → Incl S S' → Keeps w w' S → next (a.put o.dst val) w') : o.wp P a w next Q := by
  obtain ⟨β', S', w', val, h1, h2, h3, h4, h5, h6⟩ := hr
  unfold Oper.wp
  rcases h1 with h1 | ⟨h1, rfl⟩
  · rw [h1, Oper.upon_value]; exact hn _ _ _ _ h2 h3 h4 h5 h6
  · rw [h1, Oper.upon_skip]; exact hn _ _ _ _ h2 h3 h4 h5 h6

theorem evalOp0_wp (hE : EOk P E en) (h : Hv en Fr β S w hp) (hFr : ∀ k, base ≤ k → k < base + 32 → Fr k) {a : Act} (hρ : ∀ x v, ρ x = some v → AR β w S (a.eval x) v) {o : Oper} {v : AV} {wr : Heap} {l : List Nat}
    (he : evalOp0 E base ρ o.op (hget hp) = some ((v, wr), l)) {next : Act → World → Prop} {Q : Exit → Act → World → Prop}
    (hn : ∀ val β' S' w', AR β' w' S' val v → Hv en (Less Fr base) β' S' w' (hputs wr hp) → BIncl β β' → Incl S S' → Keeps w w' S → next (a.put o.dst val) w') : o.wp P a w next Q := by
  have hT := hE.toTyOk
  have hb := hFr base (Nat.le_refl _) (by omega)
  cases ho : o.op with
  | move x => rw [ho] at he; exact wp_of_res (op_move h hρ ho he) hn
  | assign x => rw [ho] at he; exact wp_of_res (op_assign h hρ ho he) hn
  | pick c x y => rw [ho] at he; exact wp_of_res (op_pick h hρ ho he) hn
  | alloc t => rw [ho] at he; exact wp_of_res (op_alloc hT h hb ho he) hn
  | box t x => rw [ho] at he; exact wp_of_res (op_box h hρ hb ho he) hn
  | build t parts => rw [ho] at he; exact wp_of_res (op_build hT h hρ ho he) hn
  | buildSlice t len parts => rw [ho] at he; exact wp_of_res (op_buildSlice hT h hρ hb ho he) hn
  | load t x => rw [ho] at he; exact wp_of_res (op_load hT h hρ ho he) hn
  | store t x y => rw [ho] at he; exact wp_of_res (op_store hT h hρ ho he) hn
  | nilCheck x => rw [ho] at he; exact wp_of_res (op_nilCheck h hρ ho he) hn
  | binOp op t x y t2 => rw [ho] at he; exact wp_of_res (op_binOp hT h hρ ho he) hn
  | unOp op t x => rw [ho] at he; exact wp_of_res (op_unOp h hρ ho he) hn
  | convert s t x => rw [ho] at he; exact wp_of_res (op_convert hT h hρ ho he) hn
  | makeFunc fn f c => rw [ho] at he; exact wp_of_res (op_makeFunc h hρ ho he) hn
  | makeSlice t x y => rw [ho] at he; exact wp_of_res (op_makeSlice hT h hρ hb ho he) hn
  | slice t x lo hi mx => rw [ho] at he; exact wp_of_res (op_slice hT h hρ ho he) hn
  | fieldAddr t x f => rw [ho] at he; exact wp_of_res (op_fieldAddr hT h hρ ho he) hn
  | field t x f => rw [ho] at he; exact wp_of_res (op_field hT h hρ ho he) hn
  | indexAddr t x i => rw [ho] at he; exact wp_of_res (op_indexAddr hT h hρ ho he) hn
  | extract x i => rw [ho] at he; exact wp_of_res (op_extract h hρ ho he) hn
  | call c =>
    rw [ho] at he
    simp only [evalOp0, M.bind_some, M.lift_some, Prod.exists, Prod.mk.injEq] at he
    obtain ⟨args, l1, v1, wr1, l2, ⟨h1, _⟩, h2, ⟨rfl, rfl⟩, _⟩ := he
    have hargs := evals_sound hρ _ _ h1
    cases hc : c.callee with
    | invoke r m => rw [hc] at h2; simp [M.fail] at h2
    | builtin b =>
      rw [hc] at h2
      simp only at h2
      have hrun : ∀ val w', (builtin b c.argTypes o.type (c.args.map fun | .const _ => true | _ => false) (c.args.map a.eval)).run P w = .ok (.value val) w' → (execOp a.eval o).run P w = .ok (.value val) w' := by
        intro val w' hr
        simp only [execOp, ho, resolve, hc, Sem.run_bind, Sem.run_pure, Result.andThen_ok, invoke]
        exact hr
      have hmap : c.args.map a.eval = (c.args.toList.map a.eval).toArray := by apply Array.ext'; simp
      have pureRes : ∀ val, (builtin b c.argTypes o.type (c.args.map fun | .const _ => true | _ => false) (c.args.map a.eval)).run P w = .ok (.value val) w → AR β w S val v → wr = [] → o.wp P a w next Q := by
        intro val hr ha hw
        subst hw
        exact wp_of_res (OpRes.pure h (hrun _ _ hr) ha) hn
      unfold builtinA at h2
      split at h2
      · -- len
        rename_i x hx
        simp only [M.bind_some, M.lift_some, M.pure_some, Prod.exists, Prod.mk.injEq] at h2
        obtain ⟨t, l3, v3, wr3, l4, ⟨h3, _⟩, ⟨n, l5, v5, wr5, l6, ⟨h4, _⟩, ⟨⟨rfl, rfl⟩, _⟩, ⟨⟨rfl, rfl⟩, _⟩⟩, ⟨⟨rfl, rfl⟩, _⟩⟩ := h2
        obtain ⟨v0, vs', e0, e1, e2⟩ := hargs.inv_cons
        rw [e2.inv_nil] at e0
        cases t with
        | slice tt =>
          obtain ⟨ti, e, g1, g2, g3⟩ := sliceTy_spec h3
          have hl := lenA_sound (hT.ty _ _ g1) g2 e1 h4 o.type
          refine pureRes _ ?_ (AR.lit rfl) rfl
          rw [hmap, e0]
          have : c.argTypes = #[tt] := by
            apply Array.ext'; simpa using g3
          rw [this]
          simp [builtin, hl]
        | other => exact absurd h3 (sliceTy_other _ _)
      · rename_i xs
        simp only [M.bind_some, M.lift_some, M.pure_some, Prod.exists, Prod.mk.injEq] at h2
        obtain ⟨n, l5, v5, wr5, l6, ⟨h4, _⟩, ⟨⟨rfl, rfl⟩, _⟩, ⟨⟨rfl, rfl⟩, _⟩⟩ := h2
        obtain ⟨z, z1, z2⟩ := maxs_sound (P := P) _ _ _ h4 hargs
        refine pureRes _ ?_ z2 rfl
        rw [hmap]
        simp [builtin, z1]
      · rename_i xs
        simp only [M.bind_some, M.lift_some, M.pure_some, Prod.exists, Prod.mk.injEq] at h2
        obtain ⟨n, l5, v5, wr5, l6, ⟨h4, _⟩, ⟨⟨rfl, rfl⟩, _⟩, ⟨⟨rfl, rfl⟩, _⟩⟩ := h2
        obtain ⟨z, z1, z2⟩ := mins_sound (P := P) _ _ _ h4 hargs
        refine pureRes _ ?_ z2 rfl
        rw [hmap]
        simp [builtin, z1]
      · rename_i s x
        simp only [M.bind_some, M.lift_some, M.need_some, Prod.exists, Prod.mk.injEq, decide_eq_true_eq] at h2
        obtain ⟨e, ti, l3, v3, wr3, l4, ⟨h3, _⟩, ⟨_, l5, v5, wr5, l6, ⟨h4, _⟩, h5, ⟨rfl, rfl⟩, _⟩, ⟨rfl, rfl⟩, _⟩ := h2
        obtain ⟨vs, vs', e0, e1, e2⟩ := hargs.inv_cons
        obtain ⟨vx, vs'', rfl, e3, e4⟩ := e2.inv_cons
        rw [e4.inv_nil] at e0
        have hty : c.argTypes = #[c.argTypes.toList.getD 0 0, c.argTypes.toList.getD 0 0] := by
          apply Array.ext'; exact h4
        obtain ⟨β', S', w', val, r1, r2, r3, r4, r5, r6⟩ := appendA_sound hT h hb h3 (ty := o.type) e1 e3 h5
        refine wp_of_res ⟨β', S', w', val, .inl (hrun _ _ ?_), r2, r3, r4, r5, r6⟩ hn
        rw [hmap, e0, hty]
        simp [builtin] at r1 ⊢
        rw [r1]
        rfl
      · simp [M.fail] at h2
    | value f =>
      rw [hc] at h2
      simp only [M.bind_some, M.lift_some, Prod.exists, Prod.mk.injEq] at h2
      obtain ⟨fv, l3, v3, wr3, l4, ⟨h3, _⟩, h4, ⟨rfl, rfl⟩, _⟩ := h2
      have hf := hρ f _ h3
      cases fv with
      | clo g caps =>
        simp only at h4
        generalize hfe : a.eval f = fval at hf
        cases hf with
        | clo _ vs _ hvn hvh =>
        have hcaps : ARs β w S vs.toList caps := ⟨by simpa using hvn, fun i v c hv hcc => hvh i v c (by simpa using hv) hcc⟩
        obtain ⟨⟨gf, g1, g2, g3⟩, g4⟩ := callM_sound hE h hFr ((normArgs_sound E _ _ _ hargs).append hcaps) h4
        have hexec : (execOp a.eval o).run P w = .ok (.enter g (c.args.toList.map a.eval ++ vs.toList).toArray) w := by
          have e : (#[] ++ c.args.map a.eval) ++ vs = (c.args.toList.map a.eval ++ vs.toList).toArray := by
            apply Array.ext'; simp
          simp only [execOp, ho, resolve, hc, Sem.run_bind, hfe, Deferred.ofValue, Sem.run_pure, Result.andThen_ok, invoke, callFunc, run_program, g1, g2, g3, e]
          simp
        unfold Oper.wp
        rw [hexec, Oper.upon_enter]
        refine g4.mono ?_
        rintro e w' ⟨β', S', val, rfl, r1, r2, r3, r4, r5⟩
        exact hn val β' S' w' r1 r2 r3 r4 r5
      | d => simp [M.fail] at h4
      | agg => simp [M.fail] at h4
      | tup => simp [M.fail] at h4
      | sv => simp [M.fail] at h4
      | ptr => simp [M.fail] at h4
      | fp => simp [M.fail] at h4
      | top => simp [M.fail] at h4
  | _ => rw [ho] at he; simp [evalOp0, M.fail] at he

end
end Go.Ax
end
section
namespace Go.Ax
set_option linter.unusedSimpArgs false
set_option linter.unusedVariables false

section ops
variable {P : Program} {E : Env} {en : Ent} {Fr : Nat → Prop} {β : Beta} {S : CellSet} {w : World} {hp : Heap} {base : Nat}
variable {ρc : Operand → Value} {ρ : Operand → Option AV}

theorem intAt_spec (hρ : ∀ x v, ρ x = some v → AR β w S (ρc x) v) (q : Option Operand) (n : Option Int) (hq : intAt ρ q = some n) : OptV n (q.map ρc) := by
  cases q with
  | none => simp [intAt] at hq; subst hq; exact .none
  | some y =>
    simp only [intAt] at hq
    cases hy : ρ y with
    | none => rw [hy] at hq; simp at hq
    | some z =>
      rw [hy] at hq
      simp only [optInt] at hq
      cases hz : asInt64 z with
      | none => rw [hz] at hq; simp at hq
      | some m =>
        rw [hz] at hq
        simp at hq
        subst hq
        obtain ⟨k, hk⟩ := asInt64_spec hz (hρ y z hy)
        simp only [Option.map_some, hk]
        exact .some m k

theorem run_sliceBounds3 {len cap l h m : Nat} {k k' k'' : IntKind} (h1 : l ≤ h) (h2 : h ≤ m) (h3 : m ≤ cap) :
    (Instr.sliceBounds true len cap (some (.int k (l : Int))) (some (.int k' (h : Int))) (some (.int k'' (m : Int)))).run P w = .ok (l, h, m) w := by
  simp [Instr.sliceBounds, run_sliceBound h1, run_sliceBound h2, run_sliceBound h3]

theorem run_sliceBoundsB {len cap : Nat} {lo hi : Option Int} {lov hiv : Option Value} {l h : Nat} (h1 : l ≤ h) (h2 : h ≤ cap) (hl : lo.getD 0 = l) (hh : hi.getD len = h) (hlo : OptV lo lov) (hhi : OptV hi hiv) :
    (Instr.sliceBounds true len cap lov hiv none).run P w = .ok (l, h, cap) w := by
  cases hlo with
  | none =>
    simp at hl
    have e1 : l = 0 := by omega
    subst e1
    cases hhi with
    | none => simp at hh; have e2 : len = h := by omega
              subst e2; simp [Instr.sliceBounds]
    | some n k =>
      simp at hh
      subst hh
      have hh := run_sliceBound (P := P) (w := w) (k := k) (code := .sliceAcap) h2
      simp [Instr.sliceBounds, hh]
  | some m k' =>
    simp at hl
    subst hl
    have hl := run_sliceBound (P := P) (w := w) (k := k') (code := .sliceB) h1
    cases hhi with
    | none =>
      simp at hh
      have e2 : len = h := by omega
      subst e2
      simp [Instr.sliceBounds, hl]
    | some n k =>
      simp at hh
      subst hh
      have hh := run_sliceBound (P := P) (w := w) (k := k) (code := .sliceAcap) h2
      simp [Instr.sliceBounds, hh, hl]

/-- what a value of a slice type is -/
theorem lenS_slice {x : AV} {v : Value} {n : Int} (ha : AR β w S v x) (h : lenS x = some n) : ∃ (a : Option Addr) (len cap : Nat), v = .slice a len cap ∧ n = len ∧ len ≤ cap := by
  unfold lenS at h
  split at h
  · cases h
    cases ha with
    | d _ _ hx =>
    cases hx with
    | nil => exact ⟨none, 0, 0, rfl, rfl, Nat.le_refl _⟩
    | sl a len cap _ _ _ hl hc => exact ⟨some a, len, cap, rfl, by rw [hl], hc⟩
  · cases h
    cases ha with
    | sv _ _ _ _ _ cap a p hp hv hz hc hb hx => exact ⟨some a, _, cap, rfl, rfl, hc⟩
    | svn _ _ _ _ p hp hv hz => exact ⟨none, 0, 0, rfl, rfl, Nat.le_refl _⟩
  · simp at h

theorem opX_slice3 (hT : TyOk P E) (h : Hv en Fr β S w hp) (hρ : ∀ x v, ρ x = some v → AR β w S (ρc x) v) {t : TypeId} {x : Operand} {lo hi : Option Operand} {mx : Operand} {v : AV} {wr : Heap} {l : List Nat} {o : Oper} (ho : o.op = .slice t x lo hi (some mx))
    (he : evalX E base ρ (.slice t x lo hi (some mx)) (hget hp) = some ((v, wr), l)) : OpRes P en Fr base β S w hp (execOp ρc o) v wr := by
  simp only [evalX, M.bind_some, M.lift_some, Prod.exists, Prod.mk.injEq] at he
  obtain ⟨e, ei, l1, v', wr', l2, ⟨h1, _⟩, ⟨a, l3, v3, wr3, l4, ⟨h2, _⟩, ⟨lv, l5, v5, wr5, l6, ⟨h3, _⟩, ⟨hv, l7, v7, wr7, l8, ⟨h4, _⟩, ⟨mv, l9, v9, wr9, l10, ⟨h5, _⟩, ⟨n, l11, v11, wr11, l12, ⟨h6, _⟩, h7, ⟨rfl, rfl⟩, _⟩, ⟨rfl, rfl⟩, _⟩, ⟨rfl, rfl⟩, _⟩, ⟨rfl, rfl⟩, _⟩, ⟨rfl, rfl⟩, _⟩, ⟨rfl, rfl⟩, _⟩ := he
  have o1 := intAt_spec hρ _ _ h3
  have o2 := intAt_spec hρ _ _ h4
  have o3 := intAt_spec hρ _ _ h5
  obtain ⟨hu, he1, _⟩ := elemOf_spec hT h1
  obtain ⟨ad, len, cap, e1, e2, e3⟩ := lenS_slice (hρ x a h2) h6
  cases lv with
  | none => simp [M.fail] at h7
  | some lv =>
  cases hv with
  | none => simp [M.fail] at h7
  | some hv =>
  cases mv with
  | none => simp [M.fail] at h7
  | some mv =>
  simp only [M.bind_some, M.need_some, M.pure_some, Prod.exists, Prod.mk.injEq, decide_eq_true_eq] at h7
  obtain ⟨_, l13, v13, wr13, l14, ⟨⟨b1, b2, b3, b4⟩, _⟩, ⟨⟨rfl, rfl⟩, _⟩, ⟨⟨rfl, rfl⟩, _⟩⟩ := h7
  generalize hlo : lo.map ρc = lov at o1
  generalize hhi : hi.map ρc = hiv at o2
  generalize hmx : (some mx).map ρc = mxv at o3
  cases o1 with
  | some _ k1 =>
  cases o2 with
  | some _ k2 =>
  cases o3 with
  | some _ k3 =>
  have hb := run_sliceBounds3 (P := P) (w := w) (len := len) (cap := cap) (l := lv.toNat) (h := hv.toNat) (m := mv.toNat) (k := k1) (k' := k2) (k'' := k3) (by omega) (by omega) (by omega)
  rw [show ((lv.toNat : Nat) : Int) = lv by omega, show ((hv.toNat : Nat) : Int) = hv by omega, show ((mv.toNat : Nat) : Int) = mv by omega] at hb
  refine OpRes.pure h (val := .slice (if mv.toNat = lv.toNat then ad else ad.map (·.add (lv.toNat * ei.size))) (hv.toNat - lv.toNat) (mv.toNat - lv.toNat)) ?_ (.top _)
  simp only [execOp, ho]
  have hmx' : ρc mx = .int k3 mv := by simpa using hmx
  rw [hlo, hhi]
  simp [Instr.sliceAt, Instr.slice, e1, run_underlying hu, hb, run_sizeOf' he1, hmx']

theorem opX_slice (hE : EOk P E en) (h : Hv en Fr β S w hp) (hρ : ∀ x v, ρ x = some v → AR β w S (ρc x) v) {t : TypeId} {x : Operand} {lo hi : Option Operand} {v : AV} {wr : Heap} {l : List Nat} {o : Oper} (ho : o.op = .slice t x lo hi none)
    (he : evalX E base ρ (.slice t x lo hi none) (hget hp) = some ((v, wr), l)) : OpRes P en Fr base β S w hp (execOp ρc o) v wr := by
  have hT := hE.toTyOk
  simp only [evalX, M.bind_some, M.lift_some, Prod.exists, Prod.mk.injEq] at he
  obtain ⟨e, ei, l1, v', wr', l2, ⟨h1, _⟩, ⟨a, l3, v3, wr3, l4, ⟨h2, _⟩, ⟨lv, l5, v5, wr5, l6, ⟨h3, _⟩, ⟨hv, l7, v7, wr7, l8, ⟨h4, _⟩, h5, ⟨rfl, rfl⟩, _⟩, ⟨rfl, rfl⟩, _⟩, ⟨rfl, rfl⟩, _⟩, ⟨rfl, rfl⟩, _⟩ := he
  have o1 := intAt_spec hρ _ _ h3
  have o2 := intAt_spec hρ _ _ h4
  obtain ⟨hu, he1, _⟩ := elemOf_spec hT h1
  cases hsl : sliceA ei.size a lv hv with
  | some r =>
    rw [hsl] at h5
    simp only [M.pure_some, Prod.mk.injEq] at h5
    obtain ⟨⟨rfl, rfl⟩, _⟩ := h5
    obtain ⟨val, r1, r2⟩ := sliceA_sound hT h1 o1 o2 (hρ x a h2) hsl
    exact OpRes.pure h (val := val) (by simp [execOp, ho]; rw [r1]; rfl) r2
  | none =>
    rw [hsl] at h5
    simp only at h5
    unfold sliceBig at h5
    split at h5
    · rename_i id ver sz off len
      simp only [M.bind_some, M.need_some, M.pure_some, Prod.exists, Prod.mk.injEq, decide_eq_true_eq] at h5
      obtain ⟨_, l9, v9, wr9, l10, ⟨⟨rfl, hz0⟩, _⟩, ⟨_, l11, v11, wr11, l12, ⟨⟨b1, b2⟩, _⟩, ⟨mx, l13, v13, wr13, l14, hm, ⟨_, l15, v15, wr15, l16, ⟨b3, _⟩, ⟨⟨rfl, rfl⟩, _⟩, ⟨⟨rfl, rfl⟩, _⟩⟩, ⟨rfl, rfl⟩, _⟩, ⟨rfl, rfl⟩, _⟩, ⟨rfl, rfl⟩, _⟩ := h5
      have hx := hρ x _ h2
      -- nothing beyond the capacity
      have hcap : ∀ p, β id ver = some p → p.sz = ei.size → (p.virt = false → p.base + mx * ei.size ≤ p.size) ∧ (p.virt = true → mx = 0) := by
        intro p hp1 hsz
        have hR : capR id ver (hget hp) = some (mx, l13) → (p.virt = false → p.base + mx * ei.size ≤ p.size) ∧ (p.virt = true → mx = 0) := by
          intro hm
          simp only [capR, M.bind_some, look_some, M.need_some, Prod.exists, Prod.mk.injEq, decide_eq_true_eq] at hm
          obtain ⟨v1, ob, l7, v7, l8, ⟨hg, _⟩, ⟨_, l9, v9, l10, ⟨rfl, _⟩, h6, rfl, _⟩, rfl, _⟩ := hm
          cases ob with
          | arr sz' rows =>
            simp only [M.pure_some, Prod.mk.injEq] at h6
            obtain ⟨hmx, _⟩ : rows.length = mx ∧ [] = l10 := by simpa [pure, M.pure] using h6
            obtain ⟨p', c1, c2, c3, c4, c5⟩ := h.hr.obj _ _ _ hg
            rw [hp1] at c1; cases c1
            refine ⟨fun hv1 => ?_, fun hv1 => by rw [← hmx, c4 hv1]; rfl⟩
            obtain ⟨c, t', d1, d2, d3, d4⟩ := c5 hv1
            have : sz' = ei.size := by rw [← hsz]; exact c2.symm
            subst this
            rw [← hmx]; exact d3
          | box => simp [M.fail] at h6
          | fro => simp [M.fail] at h6
          | dead => simp [M.fail] at h6
        unfold capM at hm
        cases hc : E.cap0 id with
        | none => rw [hc] at hm; exact hR hm
        | some c =>
          rw [hc] at hm
          by_cases hv0 : ver = 0
          · subst hv0
            obtain ⟨hmx, _⟩ : c = mx ∧ [] = l13 := by simpa [pure, M.pure] using hm
            subst hmx
            obtain ⟨q, q1, q2, q3, q4⟩ := hE.cap id _ hc
            have := h.fr.beta0 id q q1
            rw [hp1] at this
            cases this
            rw [hsz] at q4
            exact ⟨fun _ => by omega, fun hv => by rw [q2] at hv; simp at hv⟩
          · simp only [hv0, if_false] at hm
            exact hR hm
      generalize hL : lv.getD 0 = L at *
      generalize hH : hv.getD len = Hh at *
      have hrun : ∀ (a : Option Addr) (cap : Nat), Hh.toNat ≤ cap → (Instr.sliceAt t (.slice a len cap) (lo.map ρc) (hi.map ρc) none).run P w = .ok (.slice (if cap = L.toNat then a else a.map (·.add (L.toNat * ei.size))) (Hh.toNat - L.toNat) (cap - L.toNat)) w := by
        intro a cap hc
        have hb' := run_sliceBoundsB (P := P) (w := w) (len := len) (l := L.toNat) (h := Hh.toNat) (cap := cap) (by omega) hc (by rw [hL]; omega) (by rw [hH]; omega) o1 o2
        simp [Instr.sliceAt, Instr.slice, run_underlying hu, hb', run_sizeOf' he1]
      rw [show (Hh - L).toNat = Hh.toNat - L.toNat by omega]
      generalize hval : ρc x = xv at hx
      have fini : ∀ val, (Instr.sliceAt t xv (lo.map ρc) (hi.map ρc) none).run P w = .ok val w → AR β w S val (.sv id ver ei.size (off + L.toNat) (Hh.toNat - L.toNat)) → OpRes P en Fr base β S w hp (execOp ρc o) (.sv id ver ei.size (off + L.toNat) (Hh.toNat - L.toNat)) [] := by
        intro val r1 r2
        exact OpRes.pure h (val := val) (by simp [execOp, ho, hval]; rw [r1]; rfl) r2
      cases hx with
      | sv _ _ _ _ _ cap a p hp1 hv1 hz hc hbb ha =>
        have hcp := (hcap p hp1 hz).1 hv1
        have hle : Hh.toNat ≤ cap := by
          have h1 : mx * ei.size ≤ (off + cap) * ei.size := by omega
          have h2 := Nat.le_of_mul_le_mul_right h1 (by omega)
          omega
        refine fini _ (hrun (some a) cap hle) ?_
        have key : ∀ a', (cap - L.toNat ≠ 0 → a' = at_ p.blk (p.base + (off + L.toNat) * ei.size)) → AR β w S (.slice (some a') (Hh.toNat - L.toNat) (cap - L.toNat)) (.sv id ver ei.size (off + L.toNat) (Hh.toNat - L.toNat)) := by
          intro a' ha'
          exact .sv id ver ei.size (off + L.toNat) (Hh.toNat - L.toNat) (cap - L.toNat) a' p hp1 hv1 hz (by omega) (by rw [show off + L.toNat + (cap - L.toNat) = off + cap by omega]; exact hbb) ha'
        by_cases hcl : cap = L.toNat
        · rw [if_pos hcl]
          exact key a (fun hne => absurd (by omega) hne)
        · rw [if_neg hcl]
          refine key (a.add (L.toNat * ei.size)) (fun _ => ?_)
          rw [ha (by omega), at_add, Nat.add_mul, Nat.add_assoc]
      | svn _ _ _ _ p hp1 hv1 hz =>
        have hmx := (hcap p hp1 hz).2 hv1
        have e1 : Hh.toNat = 0 := by omega
        have e2 : L.toNat = 0 := by omega
        refine fini _ (hrun none 0 (by omega)) ?_
        rw [e1, e2]
        simpa using AR.svn id ver ei.size off p hp1 hv1 hz
    · simp [M.fail] at h5

theorem opX_binOp (hT : TyOk P E) (h : Hv en Fr β S w hp) (hρ : ∀ x v, ρ x = some v → AR β w S (ρc x) v) {op : BinOp} {t t2 : TypeId} {x y : Operand} {v : AV} {wr : Heap} {l : List Nat} {o : Oper} (ho : o.op = .binOp op t x y t2)
    (he : evalX E base ρ (.binOp op t x y t2) (hget hp) = some ((v, wr), l)) : OpRes P en Fr base β S w hp (execOp ρc o) v wr := by
  simp only [evalX, M.bind_some, M.lift_some, M.pure_some, Prod.exists, Prod.mk.injEq] at he
  obtain ⟨a, l1, v', wr', l2, ⟨h1, _⟩, ⟨b, l3, v3, wr3, l4, ⟨h2, _⟩, ⟨e, ei, l5, v5, wr5, l6, ⟨h3, _⟩, ⟨r, l7, v7, wr7, l8, ⟨h4, _⟩, ⟨⟨rfl, rfl⟩, _⟩, ⟨⟨rfl, rfl⟩, _⟩⟩, ⟨⟨rfl, rfl⟩, _⟩⟩, ⟨⟨rfl, rfl⟩, _⟩⟩, ⟨⟨rfl, rfl⟩, _⟩⟩ := he
  have ha := hρ x _ h1
  have hb := hρ y _ h2
  obtain ⟨hu, _, _⟩ := elemOf_spec hT h3
  have fini : ∀ (ad : Option Addr) (n c : Nat) (r : AV), ρc x = .slice ad n c → ρc y = .slice none 0 0 → nilCmp op ad.isNone = some r → OpRes P en Fr base β S w hp (execOp ρc o) r [] := by
    intro ad n c r e1 e2 hr
    have heq : (Op.equal t (.slice ad n c) (.slice none 0 0)).run P w = .ok ad.isNone w := by
      have hin : ∀ d : Nat, (Op.equalIn (d + 1) t (.slice ad n c) (.slice none 0 0)).run P w = .ok ad.isNone w := fun d => by
        cases ad <;> simp [Op.equalIn, run_underlying hu]
      exact hin 9999
    unfold nilCmp at hr
    split at hr
    · cases hr
      refine OpRes.pure h (val := .bool ad.isNone) ?_ (AR.lit rfl)
      have hg := run_eqGuard_lit (P := P) (w := w) BinOp.eql t x y (.slice ad n c) (.slice none 0 0) rfl
      simp only [execOp, ho, e1, e2]
      simp [hg, binOp, heq]
    · cases hr
      refine OpRes.pure h (val := .bool !ad.isNone) ?_ (AR.lit rfl)
      have hg := run_eqGuard_lit (P := P) (w := w) BinOp.neq t x y (.slice ad n c) (.slice none 0 0) rfl
      simp only [execOp, ho, e1, e2]
      simp [hg, binOp, heq]
    · simp at hr
  unfold nilEq at h4
  split at h4
  · rename_i sz row rows
    generalize hxv : ρc x = xv at ha
    cases ha with
    | d _ _ hx =>
    cases hx with
    | sl a len cap _ _ xx hl hc haa hr hs hxx =>
      exact fini (some a) len cap _ hxv hb.lit_inv h4
  · exact fini _ _ _ _ ha.lit_inv hb.lit_inv h4
  · simp at h4

theorem rows_store (P : Program) (h : Hv en Fr β S w hp) {id ver sz : Nat} {rows : List (List D)} {p : Place} (hg : hget hp id = some (ver, .arr sz rows)) (hp1 : β id ver = some p) (hv : p.virt = false)
    {off : Nat} (ho : off ≤ rows.length) {rows2 : List (List D)} {news : List Value} (n1 : news.length = rows2.length * sz) (hr2 : ∀ r ∈ rows2, r.length = sz)
    (n2 : ∀ (i j : Nat) r d, rows2[i]? = some r → r[j]? = some d → ∃ u, news[i * sz + j]? = some u ∧ FR w S u d)
    (hfit : p.base + (off + rows2.length) * sz ≤ p.size) (a : Addr) (ha : news ≠ [] → a = at_ p.blk (p.base + off * sz)) :
    ∃ w', (storeCells a news).run P w = .ok () w' ∧ Hv en Fr β S w' (hset id ver (.arr sz (rows.take off ++ rows2 ++ rows.drop (off + rows2.length))) hp) ∧ Keeps w w' S := by
  have hones := news_one n1 hr2 n2
  have hfit' : p.base + off * sz + news.length ≤ p.size := by rw [n1, Nat.add_assoc, ← Nat.add_mul]; exact hfit
  have hidf : ∀ i, Fr i → i ≠ id := by
    intro i hi e; subst e; rw [(h.hr.new _ hi).1] at hg; simp at hg
  obtain ⟨w', c, c', t', r1, r2, r3, r4, r5, r6, r7, r8, q1, q2, q3, q4⟩ := arr_store P h hg hp1 hv (p.base + off * sz) news hones (fun _ => hfit') a ha
  have hk := h.keeps r5
  have hlen3 : (rows.take off ++ rows2 ++ rows.drop (off + rows2.length)).length = if off + rows2.length ≤ rows.length then rows.length else off + rows2.length := by
    simp
    split <;> omega
  obtain ⟨g1, g2⟩ := h.put (Fr' := fun i => Fr i ∧ i ≠ id) (S' := S) (w' := w') id ver (.arr sz (rows.take off ++ rows2 ++ rows.drop (off + rows2.length))) (BIncl.refl β) (fun i v hi => rfl)
    (h.hr.ver _ _ _ hg) r5 (by omega) (Incl.refl S) (fun b k hs => .inl hs)
    (by
      refine ⟨p, hp1, q1, ?_, fun hvt => by rw [hv] at hvt; simp at hvt, fun _ => ⟨c', t', r2, r3, ?_, fun i j r d hi hj => ?_⟩⟩
      · intro r hr
        rcases List.mem_append.1 hr with hr | hr
        · rcases List.mem_append.1 hr with hr | hr
          · exact q2 r (List.mem_of_mem_take hr)
          · exact hr2 r hr
        · exact q2 r (List.mem_of_mem_drop hr)
      · rw [hlen3]
        split
        · exact q3
        · exact hfit
      · rw [r4]
        have hold : rows[i]? = some r → (i < off ∨ off + rows2.length ≤ i) → ∃ v, (if p.base + off * sz ≤ p.base + (i * sz + j) ∧ p.base + (i * sz + j) < p.base + off * sz + news.length then news[p.base + (i * sz + j) - (p.base + off * sz)]? else c[p.base + (i * sz + j)]?) = some v ∧ FR w' S v d := by
          intro hi' hor
          have hjl : j < sz := by rw [← q2 r (List.mem_of_getElem? hi')]; exact (List.getElem?_eq_some_iff.1 hj).1
          have hnot : ¬ (p.base + off * sz ≤ p.base + (i * sz + j) ∧ p.base + (i * sz + j) < p.base + off * sz + news.length) := by
            rw [n1]
            rcases hor with hor | hor
            · have hm := Nat.mul_le_mul_right sz (show i + 1 ≤ off from hor)
              rw [Nat.add_mul] at hm
              omega
            · have hm := Nat.mul_le_mul_right sz hor
              rw [Nat.add_mul] at hm
              omega
          rw [if_neg hnot]
          obtain ⟨u, u1, u2⟩ := q4 i j r d hi' hj
          exact ⟨u, u1, u2.mono hk (Incl.refl S)⟩
        by_cases h1' : i < off
        · rw [List.append_assoc, List.getElem?_append_left (by simp; omega), List.getElem?_take, if_pos h1'] at hi
          exact hold hi (.inl h1')
        · by_cases h2' : i < off + rows2.length
          · rw [List.append_assoc, List.getElem?_append_right (by simp; omega)] at hi
            have htl : (rows.take off).length = off := by simp; omega
            rw [htl, List.getElem?_append_left (by omega)] at hi
            have hjl : j < sz := by rw [← hr2 r (List.mem_of_getElem? hi)]; exact (List.getElem?_eq_some_iff.1 hj).1
            obtain ⟨k, rfl⟩ : ∃ k, i = off + k := ⟨i - off, by omega⟩
            rw [show off + k - off = k by omega] at hi
            have hkl : k < rows2.length := by omega
            have hm := Nat.mul_le_mul_right sz (show k + 1 ≤ rows2.length from hkl)
            rw [Nat.add_mul] at hm
            obtain ⟨u, u1, u2⟩ := n2 k j r d hi hj
            have e : p.base + ((off + k) * sz + j) = p.base + off * sz + (k * sz + j) := by rw [Nat.add_mul]; omega
            rw [e, if_pos (by omega), show p.base + off * sz + (k * sz + j) - (p.base + off * sz) = k * sz + j by omega]
            exact ⟨u, u1, u2.mono hk (Incl.refl S)⟩
          · rw [List.getElem?_append_right (by simp; omega)] at hi
            have htl : (rows.take off ++ rows2).length = off + rows2.length := by simp; omega
            rw [htl, List.getElem?_drop, show off + rows2.length + (i - (off + rows2.length)) = i by omega] at hi
            exact hold hi (.inr (by omega)))
    (fun _ p' hp' hv' => by
      rw [hp1] at hp'; cases hp'
      exact ⟨.inl ⟨ver, _, p, hg, rfl, hp1, hv, rfl⟩, fun k => h.hr.own _ _ _ _ hg rfl hp1 hv k⟩) ⟨r7, r8⟩ (fun i hi => hi)
  exact ⟨w', r1, g1.weakFr (fun i hi => ⟨hi, hidf i hi⟩), g2⟩

theorem cap_sound (hE : EOk P E en) (h : Hv en Fr β S w hp) {t e : TypeId} (hu : P.underlying t = some (.slice e)) {v : Value} {id sz off len n : Nat} (hs : AR β w S v (.sv id 0 sz off len)) (hn : E.cap0 id = some n) (hsz : sz ≠ 0) (hle : off ≤ n) (ty : TypeId) :
    (Builtin.cap_ #[t] ty #[v]).run P w = .ok (.int .i64 ((n - off : Nat) : Int)) w := by
  obtain ⟨q, q1, q2, q3, q4⟩ := hE.cap id n hn
  have hb0 := h.fr.beta0 id q q1
  cases hs with
  | svn _ _ _ _ p hp1 hv hz => rw [hb0] at hp1; cases hp1; rw [q2] at hv; simp at hv
  | sv _ _ _ _ _ cap a p hp1 hv hz hc hbb ha =>
    rw [hb0] at hp1; cases hp1
    rw [hz] at q4
    have h1 : n * sz = (off + cap) * sz := by omega
    have h2 : n = off + cap := Nat.eq_of_mul_eq_mul_right (by omega) h1
    subst h2
    simp [Builtin.cap_, run_underlying hu, goInt]

theorem clear_sound (hT : TyOk P E) (h : Hv en Fr β S w hp) {t e : TypeId} {ei : TI} (hel : Ax.elemOf E t = some (e, ei)) {v : Value} {x r : AV} {wr : Heap} {l : List Nat} (hs : AR β w S v x)
    (he : clearA ei x (hget hp) = some ((r, wr), l)) (ty : TypeId) :
    ∃ w' val, (Builtin.clear_ #[t] ty #[v]).run P w = .ok val w' ∧ AR β w' S val r ∧ Hv en Fr β S w' (hputs wr hp) ∧ Keeps w w' S := by
  obtain ⟨hu, hei, _⟩ := elemOf_spec hT hel
  obtain ⟨z, zs, z1, z2, z3, z4, z5⟩ := run_zeroValue (w := w) hei
  unfold clearA at he
  split at he
  · rename_i id ver sz off len
    simp only [M.bind_some, M.need_some, look_some, Prod.exists, Prod.mk.injEq, decide_eq_true_eq] at he
    obtain ⟨_, l5, v5, wr5, l6, ⟨rfl, _⟩, ⟨v1, ob, l7, v7, wr7, l8, ⟨hg, _⟩, ⟨_, l9, v9, wr9, l10, ⟨rfl, _⟩, h3, ⟨rfl, rfl⟩, _⟩, ⟨rfl, rfl⟩, _⟩, ⟨rfl, rfl⟩, _⟩ := he
    cases ob with
    | box => simp [M.fail] at h3
    | fro => simp [M.fail] at h3
    | dead => simp [M.fail] at h3
    | arr sz' rows =>
      have esz := sv_arr_sz h hg hs
      subst esz
      simp only [M.bind_some, M.need_some, M.pure_some, Prod.exists, Prod.mk.injEq, decide_eq_true_eq] at h3
      obtain ⟨_, l11, v11, wr11, l12, ⟨⟨hl0, hle⟩, _⟩, ⟨⟨rfl, rfl⟩, _⟩, ⟨⟨rfl, rfl⟩, _⟩⟩ := h3
      cases hs with
      | svn => exact absurd rfl hl0
      | sv _ _ _ _ _ cap a p hp1 hv hz hc hbb ha =>
        have hz' : FRs w S zs (normD ei.norm ei.zero) := FRs.norm _ _ _ (by rw [z3]; exact lits_FR z4)
        have hzr := zeros_rows (n := len) hz' z5 len (Nat.le_refl _)
        have hzs : z.cells.size = ei.size := by rw [z2]; simpa using z5
        have hzc : Builtin.zeroCells z.cells len = (Array.range (len * ei.size)).map (zs.toArray[· % zs.toArray.size]!) := by
          have hq : zs.toArray.size = ei.size := by simpa using z5
          unfold Builtin.zeroCells
          rw [z2, hq]
        have hcapm : (off + len) * ei.size ≤ (off + cap) * ei.size := Nat.mul_le_mul_right _ (by omega)
        have hdrop : rows.drop (off + (List.replicate len (normD ei.norm ei.zero)).length) = rows.drop (off + len) := by simp
        obtain ⟨w', g1, g2, g3⟩ := rows_store P h hg hp1 hv (off := off) (by omega) (rows2 := List.replicate len (normD ei.norm ei.zero)) (news := (Builtin.zeroCells z.cells len).toList)
          (by rw [hzc]; simp) hzr.1 (by
            intro i j r d hr hd
            obtain ⟨u, u1, u2⟩ := hzr.2 i j r d hr hd
            exact ⟨u, by rw [hzc, Array.getElem?_toList]; exact u1, u2⟩) (by simp; omega) a (fun _ => by rw [ha (by omega)])
        rw [hdrop] at g2
        refine ⟨w', .tuple #[], ?_, .tup _ _ rfl (by simp), by simpa [hputs] using g2, g3⟩
        obtain ⟨m, rfl⟩ : ∃ m, len = m + 1 := ⟨len - 1, by omega⟩
        simp [Builtin.clear_, run_underlying hu, z1, g1]
  · simp [M.fail] at he

/-- the first rows of a source -/
theorem rowsK_sound (h : Hv en Fr β S w hp) {sz k : Nat} {x : AV} {rows : List (List D)} {l : List Nat} {v : Value} {n : Int} (hx : AR β w S v x) (hn : lenS x = some n) (hk : (k : Int) ≤ n) (he : rowsK sz k x (hget hp) = some (rows, l)) :
    ∃ news : List Value, rows.length = k ∧ news.length = rows.length * sz ∧ (∀ r ∈ rows, r.length = sz) ∧ (∀ (i j : Nat) r d, rows[i]? = some r → r[j]? = some d → ∃ u, news[i * sz + j]? = some u ∧ FR w S u d) ∧
      ((v = .slice none 0 0 ∧ k = 0 ∧ news = []) ∨ ∃ a len c, v = .slice (some a) len c ∧ (len : Int) = n ∧ ∀ j u, news[j]? = some u → w.cell? (a.add j) = some u) := by
  unfold rowsK at he
  split at he
  · rename_i sz' rows'
    simp only [M.bind_some, M.need_some, M.pure_some, Prod.exists, Prod.mk.injEq, decide_eq_true_eq] at he
    obtain ⟨_, l1, a, l2, ⟨⟨rfl, hkl⟩, _⟩, ⟨rfl, _⟩, ⟨rfl, _⟩⟩ := he
    have hlen : (rows'.take k).length = k := by simp; omega
    cases hx with
    | d _ _ hx =>
    cases hx with
    | nil _ => exact ⟨[], by simp at hkl; simp [hkl], by simp, by simp, fun i j r d hi => by simp at hi, .inl ⟨rfl, by simpa using hkl, rfl⟩⟩
    | sl a len cap _ _ xx hl hc ha hr hs hxx =>
      subst hl
      have hsrc : SrcOk w S sz' (.slice (some a) k (max k cap)) (rows'.take k) := by
        have hfr : FR w S (.slice (some a) k (max k cap)) (.sl sz' (rows'.take k)) := by
          refine .sl a k (max k cap) sz' _ xx hlen.symm (by omega) (fun hne => ha (by intro e; subst e; simp at hne)) (fun r hr' => hr r (List.mem_of_mem_take hr')) ?_ ?_
          · intro i j r d hi hd
            rw [List.getElem?_take] at hi
            split at hi
            · exact hs i j r d hi hd
            · simp at hi
          · intro i j r d hi hd
            rw [List.getElem?_take] at hi
            split at hi
            · exact hxx i j r d hi hd
            · simp at hi
        refine rowsOf_sound (l := []) h (.d _ _ hfr) ?_
        simp [rowsOf, M.need, bind, M.bind, pure, M.pure]
      obtain ⟨news, n1, n2, n3⟩ := hsrc.list hsrc.len
      refine ⟨news, hlen, n1, hsrc.len, n2, .inr ⟨a, _, cap, rfl, by simp [lenS] at hn; exact hn, ?_⟩⟩
      rcases n3 with ⟨e, _⟩ | ⟨a', c', e, hc'⟩
      · cases e
      · injection e with e1 e2 e3
        injection e1 with e1
        subst e1
        exact hc'
  · rename_i id ver sz' off len
    simp only [M.bind_some, M.need_some, look_some, Prod.exists, Prod.mk.injEq, decide_eq_true_eq] at he
    obtain ⟨_, l1, a, l2, ⟨rfl, _⟩, ⟨v1, ob, l3, a3, l4, ⟨hg, hlg⟩, ⟨_, l5, a5, l6, ⟨rfl, _⟩, h3, rfl, _⟩, rfl, _⟩, rfl, _⟩ := he
    have hn' : n = len := by simp [lenS] at hn; exact hn.symm
    cases hx with
    | svn _ _ _ _ p hp1 hv hz =>
      have hk0 : k = 0 := by omega
      subst hk0
      refine ⟨[], ?_⟩
      have : rows = [] := by
        split at h3
        · simp [M.need, bind, M.bind, pure, M.pure] at h3
          split at h3 <;> simp at h3
          exact h3.1
        · simp [M.need, bind, M.bind, pure, M.pure] at h3
          split at h3 <;> simp at h3
          exact h3.1
        · simp [M.fail] at h3
      subst this
      exact ⟨rfl, by simp, by simp, fun i j r d hi => by simp at hi, .inl ⟨rfl, rfl, rfl⟩⟩
    | sv _ _ _ _ _ cap a p hp1 hv hz hc hbb ha =>
      have hsrc : SrcOk w S sz' (.slice (some a) k cap) rows := by
        have har : AR β w S (.slice (some a) k cap) (.sv id v1 sz' off k) := .sv id v1 sz' off k cap a p hp1 hv hz (by omega) hbb ha
        refine rowsOf_sound (l := [id]) h har ?_
        split at h3
        · rename_i sz2 rows2
          cases hq : decide (off + k ≤ rows2.length) with
          | false => simp [M.need, bind, M.bind, hq] at h3
          | true =>
            simp at hq
            simp [M.need, bind, M.bind, pure, M.pure, hq] at h3
            simp [rowsOf, Ax.look, M.need, bind, M.bind, pure, M.pure, hg, hq, h3.1]
        · rename_i sz2 rows2
          cases hq : decide (off + k ≤ rows2.length) with
          | false => simp [M.need, bind, M.bind, hq] at h3
          | true =>
            simp at hq
            simp [M.need, bind, M.bind, pure, M.pure, hq] at h3
            simp [rowsOf, Ax.look, M.need, bind, M.bind, pure, M.pure, hg, hq, h3.1]
        · simp [M.fail] at h3
      obtain ⟨news, n1, n2, n3⟩ := hsrc.list hsrc.len
      have hlen : rows.length = k := by
        rcases n3 with ⟨e, _⟩ | ⟨a', c', e, hc'⟩
        · cases e
        · cases e; rfl
      refine ⟨news, hlen, n1, hsrc.len, n2, .inr ⟨a, _, cap, rfl, hn'.symm, ?_⟩⟩
      rcases n3 with ⟨e, _⟩ | ⟨a', c', e, hc'⟩
      · cases e
      · cases e; exact hc'
  · simp [M.fail] at he

theorem copy_sound (hT : TyOk P E) (h : Hv en Fr β S w hp) {t e : TypeId} {ei : TI} (hel : Ax.elemOf E t = some (e, ei)) {vs vx : Value} {x y r : AV} {wr : Heap} {l : List Nat} (hs : AR β w S vs x) (hx : AR β w S vx y)
    (he : copyA ei x y (hget hp) = some ((r, wr), l)) (ty : TypeId) :
    ∃ w' val, (Builtin.copy_ #[t, t] ty #[vs, vx]).run P w = .ok val w' ∧ AR β w' S val r ∧ Hv en Fr β S w' (hputs wr hp) ∧ Keeps w w' S := by
  obtain ⟨hu, hei, _⟩ := elemOf_spec hT hel
  unfold copyA at he
  split at he
  · rename_i id ver sz off len
    simp only [M.bind_some, M.need_some, M.lift_some, look_some, Prod.exists, Prod.mk.injEq, decide_eq_true_eq] at he
    obtain ⟨n, l1, a1, b1, l2, ⟨hn, _⟩, ⟨_, l3, a3, b3, l4, ⟨hn0, _⟩, ⟨src, l13, a13, b13, l14, hsrc, ⟨_, l5, v5, wr5, l6, ⟨rfl, _⟩, ⟨v1, ob, l7, v7, wr7, l8, ⟨hg, _⟩, ⟨_, l9, v9, wr9, l10, ⟨rfl, _⟩, h3, ⟨rfl, rfl⟩, _⟩, ⟨rfl, rfl⟩, _⟩, ⟨rfl, rfl⟩, _⟩, ⟨rfl, rfl⟩, _⟩, ⟨rfl, rfl⟩, _⟩, ⟨rfl, rfl⟩, _⟩ := he
    cases ob with
    | box => simp [M.fail] at h3
    | fro => simp [M.fail] at h3
    | dead => simp [M.fail] at h3
    | arr sz' rows =>
      have esz := sv_arr_sz h hg hs
      subst esz
      simp only [M.bind_some, M.need_some, M.pure_some, Prod.exists, Prod.mk.injEq, decide_eq_true_eq] at h3
      obtain ⟨_, l11, v11, wr11, l12, ⟨⟨hl0, hle⟩, _⟩, ⟨⟨rfl, rfl⟩, _⟩, ⟨⟨rfl, rfl⟩, _⟩⟩ := h3
      cases hs with
      | svn => exact absurd rfl hl0
      | sv _ _ _ _ _ cap a p hp1 hv hz hc hbb ha =>
        obtain ⟨news, s0, s1, s2, s3, s4⟩ := rowsK_sound h hx hn (by omega) hsrc
        have hcapm : (off + src.length) * ei.size ≤ (off + cap) * ei.size := Nat.mul_le_mul_right _ (by omega)
        obtain ⟨w', g1, g2, g3⟩ := rows_store P h hg hp1 hv (off := off) hle (rows2 := src) (news := news) s1 s2 s3 (by omega) a (fun _ => by rw [ha (by omega)])
        refine ⟨w', .int .i64 ((min n.toNat len : Nat) : Int), ?_, AR.lit rfl, by simpa [hputs] using g2, g3⟩
        rcases s4 with ⟨rfl, hk0, rfl⟩ | ⟨ax, lx, c, rfl, hlx, hcells⟩
        · have hn' : n = 0 := by
            obtain ⟨ad, ln, cp, e1, e2, _⟩ := lenS_slice hx hn
            cases e1
            simpa using e2
          subst hn'
          simp [Builtin.copy_, run_underlying hu, run_sizeOf' hei, Builtin.lenOf, Builtin.firstCells, g1, goInt]
        · have hlx' : lx = n.toNat := by omega
          subst hlx'
          have hf := run_firstCells_some (P := P) w ei.size (min n.toNat len) ax n.toNat c news (by rw [s1, s0]) hcells
          simp [Builtin.copy_, run_underlying hu, run_sizeOf' hei, Builtin.lenOf, hf, g1, goInt]
  · simp [M.fail] at he

theorem run_append_zeros (P : Program) (w : World) (t t2 ty e : TypeId) (kk : IntKind) (i : TypeInfo) (z : Value) (ht : P.underlying t = some (.slice e)) (h2 : P.underlying t2 = some (.int kk)) (hi : P.info? e = some i) (hz : i.zero = some z)
    (b : Addr) (sLen sCap : Nat) (olds : List Value) (hlo : olds.length = sLen * i.size) (holds : ∀ j v, olds[j]? = some v → w.cell? (b.add j) = some v)
    (n : Nat) (hsz : z.cells.size = i.size) (hn0 : n * i.size ≠ 0)
    (hg : sCap < sLen + n) (h63 : ((sLen + n : Nat) : Int) ≤ 9223372036854775807) (hb : n * i.bytes ≤ 281474976710656) (hfit : Builtin.nextslicecap (sLen + n) sCap * i.bytes ≤ 281474976710656) :
    (Builtin.append_ #[t, t2] ty #[.slice (some b) sLen sCap, .int .i64 (n : Int)]).run P w =
      .ok (.slice (some ⟨w.heap.size, 0, none⟩) (sLen + n) (grownCap w (sLen + n) sCap e))
        (w.drew.alloc (.cells (olds.toArray ++ (Builtin.zeroCells z.cells n).toList.toArray ++ Builtin.zeroCells z.cells (grownCap w (sLen + n) sCap e - (sLen + n))) e)) := by
  have hn : ¬ (sLen + n ≤ sCap) := by omega
  have h63' : ¬ (9223372036854775807 < ((sLen : Int) + (n : Int))) := by omega
  have h48' : ¬ (281474976710656 < Builtin.nextslicecap (sLen + n) sCap * i.bytes) := by omega
  have hfo := run_firstCells_some (P := P) w.drew i.size sLen b sLen sCap olds hlo (by simpa using holds)
  have hw : IntKind.i64.wrap (n : Int) = n := by
    simp [IntKind.wrap, IntKind.bits, IntKind.signed]
    omega
  have hneg : ¬ ((n : Int) < 0) := by omega
  have hbig : ¬ ((281474976710656 : Int) < (n : Int) * (i.bytes : Int)) := by
    have : (n : Int) * (i.bytes : Int) = ((n * i.bytes : Nat) : Int) := by simp
    omega
  simp [Builtin.append_, run_underlying ht, run_underlying h2, sizeOf, typeInfo, zeroValue, hi, hz, asInt, asIntOf, hw, hneg, hbig, hn, h63', h48', Question.forced, hfo, newRow, grownCap, hn0]

theorem appendZ_sound (hE : EOk P E en) (h : Hv en Fr β S w hp) (hFr : Fr base) {t e t2 : TypeId} {ei ti2 : TI} {kk : IntKind} (hel : Ax.elemOf E t = some (e, ei)) (ht2 : E.T t2 = some ti2) (hk2 : ti2.kind = .int kk) {vs vx : Value} {x y r : AV} {wr : Heap} {l : List Nat}
    (hs : AR β w S vs x) (hx : AR β w S vx y) (he : appendZ E ei base x y (hget hp) = some ((r, wr), l)) (ty : TypeId) :
    ∃ β' w' val, (Builtin.append_ #[t, t2] ty #[vs, vx]).run P w = .ok val w' ∧ AR β' w' S val r ∧ Hv en (Less Fr base) β' S w' (hputs wr hp) ∧ BIncl β β' ∧ Keeps w w' S := by
  have hT := hE.toTyOk
  obtain ⟨hu, hei, _⟩ := elemOf_spec hT hel
  obtain ⟨ii, z, i1, i2, i3, i4, zs, i5, i6, i7, i8⟩ := hei.info
  obtain ⟨d2, u2, k2⟩ := (hT.ty _ _ ht2).und
  rw [hk2] at k2
  simp only [KOk] at k2
  subst k2
  unfold appendZ at he
  split at he
  · rename_i id sz off len k
    simp only [M.bind_some, M.need_some, M.lift_some, look_some, Prod.exists, Prod.mk.injEq, decide_eq_true_eq] at he
    obtain ⟨_, l1, a1, b1, l2, ⟨⟨rfl, hsz0, hby, hk0⟩, _⟩, ⟨c, l3, a3, b3, l4, ⟨hc, _⟩, ⟨v1, ob, l7, v7, wr7, l8, ⟨hg, _⟩, ⟨_, l9, v9, wr9, l10, ⟨rfl, _⟩, h3, ⟨rfl, rfl⟩, _⟩, ⟨rfl, rfl⟩, _⟩, ⟨rfl, rfl⟩, _⟩, ⟨rfl, rfl⟩, _⟩ := he
    cases ob with
    | box => simp [M.fail] at h3
    | fro => simp [M.fail] at h3
    | dead => simp [M.fail] at h3
    | arr sz' rows =>
      have esz := sv_arr_sz h hg hs
      subst esz
      simp only [M.bind_some, M.need_some, M.pure_some, Prod.exists, Prod.mk.injEq, decide_eq_true_eq] at h3
      obtain ⟨_, l11, v11, wr11, l12, ⟨⟨hle, hoc, hgt, hsum⟩, _⟩, ⟨⟨rfl, rfl⟩, _⟩, ⟨⟨rfl, rfl⟩, _⟩⟩ := h3
      obtain ⟨q, q1, q2, q3, q4⟩ := hE.cap id c hc
      have hb0 := h.fr.beta0 id q q1
      obtain ⟨n, rfl⟩ : ∃ n : Nat, k = n := ⟨k.toNat, by omega⟩
      simp only [Int.toNat_natCast] at *
      cases hs with
      | svn _ _ _ _ p hp1 hv hz => rw [hb0] at hp1; cases hp1; rw [q2] at hv; simp at hv
      | sv _ _ _ _ _ cap a p hp1 hv hz hcc hbb ha =>
        rw [hb0] at hp1; cases hp1
        rw [hz] at q4
        have hcap : c = off + cap := Nat.eq_of_mul_eq_mul_right (show 0 < ei.size by omega) (by omega)
        subst hcap
        obtain ⟨p', b1, b2, b3, b4, b5⟩ := h.hr.obj _ _ _ hg
        rw [hb0] at b1; cases b1
        obtain ⟨cc, t', c1, c2, c3, c4⟩ := b5 hv
        have hxv := hx.lit_inv
        subst hxv
        have hbb' : q.base + off * ei.size + cap * ei.size = q.size := by rw [← hbb, Nat.add_mul]; omega
        have hlc : len * ei.size ≤ cap * ei.size := Nat.mul_le_mul_right _ hcc
        have hcs : ((cc.toList.drop (q.base + off * ei.size)).take (len * ei.size)).length = len * ei.size := by simp; omega
        simp only [sumLen] at hsum
        have hb1 : (len + n) * ii.bytes ≤ 16777216 * 4096 := Nat.mul_le_mul hsum (by omega)
        have hb2 : n * ii.bytes ≤ 16777216 * 4096 := Nat.mul_le_mul (by omega) (by omega)
        have hn1 : n * ii.size ≠ 0 := by
          rw [i2]
          exact Nat.mul_ne_zero (by omega) hsz0
        have hzsz : z.cells.size = ei.size := by rw [i5]; simpa using i8
        have holds : ∀ j u, ((cc.toList.drop (q.base + off * ei.size)).take (len * ei.size))[j]? = some u → w.cell? (a.add j) = some u := by
          intro j u hj
          obtain ⟨hj1, hj2⟩ := drop_take_get hj
          have : cap ≠ 0 := by intro e; subst e; have : len = 0 := by omega
                               subst this; simp at hj1
          rw [ha this, at_add, cell_of_row w q.blk _ cc t' (0, 0) c1]
          simpa using hj2
        have hrun := run_append_zeros P w t t2 ty e kk ii z hu u2 i1 i4 a len cap _ (by rw [hcs, i2]) holds n (by rw [hzsz, i2]) hn1 (by omega) (by omega) (by omega) (growslice_fits (by omega) (by omega))
        have hcat : ((cc.toList.drop (q.base + off * ei.size)).take (len * ei.size)).toArray ++ (Builtin.zeroCells z.cells n).toList.toArray = ((cc.toList.drop (q.base + off * ei.size)).take (len * ei.size) ++ (Builtin.zeroCells z.cells n).toList).toArray := by simp
        rw [hcat] at hrun
        have hz' : FRs w S zs (normD ei.norm ei.zero) := FRs.norm _ _ _ (by rw [i6]; exact lits_FR i7)
        have hzr := zeros_rows (n := n) hz' i8 n (Nat.le_refl _)
        have hzc : Builtin.zeroCells z.cells n = (Array.range (n * ei.size)).map (zs.toArray[· % zs.toArray.size]!) := by
          have hq : zs.toArray.size = ei.size := by simpa using i8
          unfold Builtin.zeroCells
          rw [i5, hq]
        have hnl : (Builtin.zeroCells z.cells n).toList.length = n * ei.size := by simp [zeroCells_size, hzsz]
        have hlen2 : ((rows.drop off).take len ++ List.replicate n (normD ei.norm ei.zero)).length = len + n := by simp; omega
        obtain ⟨β', g1, g2, g3, g4⟩ := append_new (o := .dead) (rows := (rows.drop off).take len ++ List.replicate n (normD ei.norm ei.zero)) h (.inl ⟨(h.hr.new base hFr).1, hFr, rfl⟩) e hzsz ((cc.toList.drop (q.base + off * ei.size)).take (len * ei.size) ++ (Builtin.zeroCells z.cells n).toList) (len + n) (grownCap w (len + n) cap e) hlen2
          (by rw [List.length_append, hcs, hnl, Nat.add_mul]) (grownCap_le _ _ _ _)
          (by
            intro r hr
            rcases List.mem_append.1 hr with hr | hr
            · exact b3 r (List.mem_of_mem_drop (List.mem_of_mem_take hr))
            · exact hzr.1 r hr)
          (by
            intro i j r d hi hj
            have hdl : ((rows.drop off).take len).length = len := by simp; omega
            by_cases hil : i < len
            · rw [List.getElem?_append_left (by omega)] at hi
              obtain ⟨_, hi'⟩ := drop_take_get hi
              have hjl : j < ei.size := by rw [← b3 r (List.mem_of_getElem? hi')]; exact (List.getElem?_eq_some_iff.1 hj).1
              have hm := Nat.mul_le_mul_right ei.size (show i + 1 ≤ len from hil)
              rw [Nat.add_mul] at hm
              obtain ⟨u, u1, u2⟩ := c4 (off + i) j r d hi' hj
              refine ⟨u, ?_, u2⟩
              rw [List.getElem?_append_left (by omega), List.getElem?_take, if_pos (by omega), List.getElem?_drop]
              rw [← Array.getElem?_toList] at u1
              rw [← u1, Nat.add_mul]; congr 1; omega
            · rw [List.getElem?_append_right (by omega), hdl] at hi
              obtain ⟨k, rfl⟩ : ∃ k, i = len + k := ⟨i - len, by omega⟩
              rw [show len + k - len = k by omega] at hi
              obtain ⟨u, u1, u2⟩ := hzr.2 k j r d hi hj
              refine ⟨u, ?_, u2⟩
              rw [Nat.add_mul, List.getElem?_append_right (by omega), hcs, show len * ei.size + k * ei.size + j - len * ei.size = k * ei.size + j by omega, hzc, Array.getElem?_toList]
              exact u1)
        refine ⟨β', _, _, hrun, g4, ?_, g2, g3⟩
        have := g1.less (base := base) (Nat.le_refl _) (by omega)
        simpa [hputs] using this
  · simp [M.fail] at he

theorem run_overlaps_apart (P : Program) (w : World) {ps rs : Array TypeId} {t e : TypeId} {ei : TI} (hp0 : ps[0]? = some t) (hu : P.underlying t = some (.slice e)) (hei : TOk P e ei) (a b : Addr) (la ca lb cb : Nat)
    {cA cB : Array Value} {tA tB : TypeId} {frA : Nat × Nat} (h1 : w.heap[a.block]? = some (.cells cA tA frA)) (h2 : w.heap[b.block]? = some (.cells cB tB (0, 0))) (hne : a.block ≠ b.block) (hA : cA.size ≠ 0) :
    (Extern.SlicesOverlaps.overlaps ps rs #[.slice (some a) la ca, .slice (some b) lb cb]).run P w = .ok (.bool false) w := by
  have f2 : ∀ o, w.frozen? { block := b.block, off := o } = false := fun o => by simp [World.frozen?, h2]
  have f2' : w.frozen? b = false := by simp [World.frozen?, h2]
  have s1 : w.shape? a.block = some (tA, cA.size) := by simp [World.shape?, h1]
  have s2 : w.shape? b.block = some (tB, cB.size) := by simp [World.shape?, h2]
  have hb : (a.block == b.block) = false := by simpa using hne
  have hbody : Extern.SlicesOverlaps.overlaps ps rs #[.slice (some a) la ca, .slice (some b) lb cb] = (do
      let some t := ps[0]? | stuck "slices.overlaps: no parameter types"
      let .slice elem ← underlying t | stuck "slices.overlaps: slice type expected"
      let size ← sizeOf elem
      if la = 0 ∨ lb = 0 ∨ size = 0 then pure (.bool false)
      else if a.block != b.block && (← frozen a) && (← frozen b) then unsupported .addressObserved
      else do
        if a.block != b.block then do
          noView a; noView b
          if ← mayBeOne a b then return .bool ((← choose (.extern "sameAddr.stringBytes" 2)) == 1)
        pure (.bool (a.block == b.block && a.off < b.off + lb * size && b.off < a.off + la * size))) := rfl
  rw [hbody]
  simp only [hp0]
  cases hf1 : w.frozen? a <;> by_cases hz : la = 0 ∨ lb = 0 ∨ ei.size = 0 <;>
    simp [run_underlying hu, run_sizeOf' hei, hz, hb, hne, hf1, f2, f2', noView, viewAt, s1, s2, mayBeOne, stringish, hA]

theorem overlap_sound (h : Hv en Fr β S w hp) {f : FuncId} (hov : OvOk P f) {vx vy : Value} {x y r : AV} {wr : Heap} {l : List Nat} (hx : AR β w S vx x) (hy : AR β w S vy y)
    (he : overlapA x y (hget hp) = some ((r, wr), l)) : (callFunc f #[vx, vy]).run P w = .ok (.value (.bool false)) w ∧ r = .bool false ∧ wr = [] := by
  unfold overlapA at he
  split at he
  · rename_i sz row rows id ver sz' off len
    simp only [M.bind_some, M.need_some, look_some, Prod.exists, Prod.mk.injEq, decide_eq_true_eq] at he
    obtain ⟨_, l5, v5, wr5, l6, ⟨⟨rfl, hz0, hl0⟩, _⟩, ⟨v1, ob, l7, v7, wr7, l8, ⟨hg, _⟩, ⟨_, l9, v9, wr9, l10, ⟨rfl, _⟩, h3, ⟨rfl, rfl⟩, _⟩, ⟨rfl, rfl⟩, _⟩, ⟨rfl, rfl⟩, _⟩ := he
    cases ob with
    | box => simp [M.fail] at h3
    | fro => simp [M.fail] at h3
    | dead => simp [M.fail] at h3
    | arr sz' rows' =>
      have esz := sv_arr_sz h hg hy
      subst esz
      simp only [M.pure_some, Prod.mk.injEq] at h3
      obtain ⟨⟨rfl, rfl⟩, _⟩ := h3
      refine ⟨?_, rfl, rfl⟩
      cases hy with
      | svn => exact absurd rfl hl0
      | sv _ _ _ _ _ cap b p hp1 hv hz hc hbb ha =>
        obtain ⟨p', b1, b2, b3, b4, b5⟩ := h.hr.obj _ _ _ hg
        rw [hp1] at b1; cases b1
        obtain ⟨cc, t', c1, c2, c3, c4⟩ := b5 hv
        have hb := ha (by omega)
        cases hx with
        | d _ _ hx =>
        cases hx with
        | sl a la ca _ _ xx hla hca haa hrr hs hxx =>
          have hrl : row.length = sz' := hrr row (by simp)
          obtain ⟨d0, hd0⟩ : ∃ d0, row[0]? = some d0 := by
            cases row with
            | nil => simp at hrl; omega
            | cons d0 r => exact ⟨d0, rfl⟩
          obtain ⟨s1, s2⟩ := hs 0 0 row d0 (by simp) hd0
          have hne : a.block ≠ p.blk := fun e => h.hr.own _ _ _ _ hg rfl hp1 hv _ (e ▸ s1)
          have hcell : ∃ cA tA frA, w.heap[a.block]? = some (.cells cA tA frA) ∧ cA.size ≠ 0 := by
            unfold World.cell? at s2
            simp only at s2
            split at s2
            · rename_i cA tA frA hh
              refine ⟨cA, tA, frA, hh, ?_⟩
              simp at s2
              have := (Array.getElem?_eq_some_iff.1 s2).1
              omega
            · simp at s2
          obtain ⟨cA, tA, frA, k1, k2⟩ := hcell
          obtain ⟨g, g1, g2, g3, g4, ⟨rs, g5⟩, t, e, ei, g6, g7, g8⟩ := hov.func
          have hrun := run_overlaps_apart P w (rs := rs) g6 g7 g8 a b la ca len cap k1 (by rw [hb]; exact c1) (by rw [hb]; exact hne) k2
          have g4' : Extern.findNext g = none := by simpa using g4
          have g2' : ¬ g.name = "runtime.NumGoroutine" := by simpa using g2
          have g3' : g.body = none := by simpa using g3
          simp [callFunc, run_program, g1, g2', g3', g4', g5, hrun]
  · simp [M.fail] at he

theorem evalX_wp (hE : EOk P E en) (h : Hv en Fr β S w hp) (hFr : ∀ k, base ≤ k → k < base + 32 → Fr k) {a : Act} (hρ : ∀ x v, ρ x = some v → AR β w S (a.eval x) v) {o : Oper} {v : AV} {wr : Heap} {l : List Nat}
    (he : evalX E base ρ o.op (hget hp) = some ((v, wr), l)) {next : Act → World → Prop} {Q : Exit → Act → World → Prop}
    (hn : ∀ val β' S' w', AR β' w' S' val v → Hv en (Less Fr base) β' S' w' (hputs wr hp) → BIncl β β' → Incl S S' → Keeps w w' S → next (a.put o.dst val) w') : o.wp P a w next Q := by
  have hT := hE.toTyOk
  have hb := hFr base (Nat.le_refl _) (by omega)
  cases ho : o.op with
  | binOp op t x y t2 => rw [ho] at he; exact wp_of_res (opX_binOp hT h hρ ho he) hn
  | slice t x lo hi mx =>
    rw [ho] at he
    cases mx with
    | none => exact wp_of_res (opX_slice hE h hρ ho he) hn
    | some mx => exact wp_of_res (opX_slice3 hT h hρ ho he) hn
  | call c =>
    rw [ho] at he
    simp only [evalX, M.bind_some, M.lift_some, Prod.exists, Prod.mk.injEq] at he
    obtain ⟨args, l1, v1, wr1, l2, ⟨h1, _⟩, h2, ⟨rfl, rfl⟩, _⟩ := he
    have hargs := evals_sound hρ _ _ h1
    have hrunB : ∀ b val w', c.callee = .builtin b → (builtin b c.argTypes o.type (c.args.map fun | .const _ => true | _ => false) (c.args.map a.eval)).run P w = .ok (.value val) w' → (execOp a.eval o).run P w = .ok (.value val) w' := by
      intro b val w' hc hr
      simp only [execOp, ho, resolve, hc, Sem.run_bind, Sem.run_pure, Result.andThen_ok, invoke]
      exact hr
    have hmap : c.args.map a.eval = (c.args.toList.map a.eval).toArray := by apply Array.ext'; simp
    cases hc : c.callee with
    | invoke r m => rw [hc] at h2; simp [M.fail] at h2
    | builtin b =>
      rw [hc] at h2
      simp only at h2
      have keep : ∀ {w' : World} {val : Value} {rr : AV}, (builtin b c.argTypes o.type (c.args.map fun | .const _ => true | _ => false) (c.args.map a.eval)).run P w = .ok (.value val) w' → AR β w' S val rr → Hv en Fr β S w' (hputs wr hp) → Keeps w w' S → rr = v → o.wp P a w next Q := by
        intro w' val rr k1 k2 k3 k4 k5
        subst k5
        exact wp_of_res ⟨β, S, w', val, .inl (hrunB _ _ _ hc k1), k2, k3.weakFr (fun i hi => hi.1), BIncl.refl β, Incl.refl S, k4⟩ hn
      unfold builtinX at h2
      split at h2
      · -- cap
        rename_i x
        simp only [M.bind_some, M.lift_some, M.need_some, Prod.exists, Prod.mk.injEq, decide_eq_true_eq] at h2
        obtain ⟨e, ei, l3, v3, wr3, l4, ⟨h3, _⟩, ⟨_, l5, v5, wr5, l6, ⟨h4, _⟩, h5, ⟨rfl, rfl⟩, _⟩, ⟨rfl, rfl⟩, _⟩ := h2
        obtain ⟨vs, vs', e0, e1, e2⟩ := hargs.inv_cons
        rw [e2.inv_nil] at e0
        have hty : c.argTypes = #[c.argTypes.toList.getD 0 0] := by apply Array.ext'; exact h4
        obtain ⟨hu, _, _⟩ := elemOf_spec hT h3
        unfold capX at h5
        split at h5
        · rename_i id ver sz off len
          simp only [M.bind_some, M.lift_some, M.need_some, M.pure_some, Prod.exists, Prod.mk.injEq, decide_eq_true_eq] at h5
          obtain ⟨n, l7, v7, wr7, l8, ⟨h6, _⟩, ⟨_, l9, v9, wr9, l10, ⟨⟨rfl, h7, h8⟩, _⟩, ⟨⟨rfl, rfl⟩, _⟩, ⟨⟨rfl, rfl⟩, _⟩⟩, ⟨⟨rfl, rfl⟩, _⟩⟩ := h5
          have hr := cap_sound hE h hu e1 h6 h7 h8 o.type
          refine keep (w' := w) (val := .int .i64 ((n - off : Nat) : Int)) ?_ (AR.lit rfl) (by simpa [hputs] using h) (Keeps.refl w S) rfl
          rw [hmap, e0, hty]
          simp [builtin] at hr ⊢
          rw [hr]; rfl
        · simp [M.fail] at h5
      · -- copy
        rename_i x y
        simp only [M.bind_some, M.lift_some, M.need_some, Prod.exists, Prod.mk.injEq] at h2
        obtain ⟨e, ei, l3, v3, wr3, l4, ⟨h3, _⟩, ⟨_, l5, v5, wr5, l6, ⟨h4, _⟩, h5, ⟨rfl, rfl⟩, _⟩, ⟨rfl, rfl⟩, _⟩ := h2
        obtain ⟨vs, vs', e0, e1, e2⟩ := hargs.inv_cons
        obtain ⟨vx, vs'', rfl, e3, e4⟩ := e2.inv_cons
        rw [e4.inv_nil] at e0
        have hty : c.argTypes = #[c.argTypes.toList.getD 0 0, c.argTypes.toList.getD 0 0] := by apply Array.ext'; simpa [sameTys] using h4
        obtain ⟨w', val, r1, r2, r3, r4⟩ := copy_sound hT h h3 e1 e3 h5 o.type
        refine keep ?_ r2 r3 r4 rfl
        rw [hmap, e0, hty]
        simp [builtin] at r1 ⊢
        rw [r1]; rfl
      · -- clear
        rename_i x
        simp only [M.bind_some, M.lift_some, M.need_some, Prod.exists, Prod.mk.injEq, decide_eq_true_eq] at h2
        obtain ⟨e, ei, l3, v3, wr3, l4, ⟨h3, _⟩, ⟨_, l5, v5, wr5, l6, ⟨h4, _⟩, h5, ⟨rfl, rfl⟩, _⟩, ⟨rfl, rfl⟩, _⟩ := h2
        obtain ⟨vs, vs', e0, e1, e2⟩ := hargs.inv_cons
        rw [e2.inv_nil] at e0
        have hty : c.argTypes = #[c.argTypes.toList.getD 0 0] := by apply Array.ext'; exact h4
        obtain ⟨w', val, r1, r2, r3, r4⟩ := clear_sound hT h h3 e1 h5 o.type
        refine keep ?_ r2 r3 r4 rfl
        rw [hmap, e0, hty]
        simp [builtin] at r1 ⊢
        rw [r1]; rfl
      · -- append
        rename_i x y
        simp only [M.bind_some, M.lift_some, Prod.exists, Prod.mk.injEq] at h2
        obtain ⟨e, ei, l3, v3, wr3, l4, ⟨h3, _⟩, h5, ⟨rfl, rfl⟩, _⟩ := h2
        obtain ⟨vs, vs', e0, e1, e2⟩ := hargs.inv_cons
        obtain ⟨vx, vs'', rfl, e3, e4⟩ := e2.inv_cons
        rw [e4.inv_nil] at e0
        obtain ⟨hu, hei, _⟩ := elemOf_spec hT h3
        cases hem : isEmptyLit y with
        | true =>
          rw [hem] at h5
          simp only [M.bind_some, M.need_some, M.pure_some, Prod.exists, Prod.mk.injEq, Bool.and_eq_true] at h5
          obtain ⟨_, l7, v7, wr7, l8, ⟨⟨h6, h7⟩, _⟩, ⟨⟨rfl, rfl⟩, _⟩, ⟨⟨rfl, rfl⟩, _⟩⟩ := h5
          have hty : c.argTypes = #[c.argTypes.toList.getD 0 0, c.argTypes.toList.getD 0 0] := by apply Array.ext'; simpa [sameTys] using h6
          unfold isEmptyLit at hem
          split at hem
          · rename_i ad cp
            have hxv := e3.lit_inv
            subst hxv
            have hx1 := e1
            generalize hvs : vs = vs0 at hx1
            have hval : ∃ sb n cap, vs0 = .slice sb n cap ∧ n ≤ cap := by
              cases v with
              | sv => cases hx1 with
                | sv _ _ _ _ _ cap aa p hp1 hv hz hcc => exact ⟨_, _, _, rfl, hcc⟩
                | svn => exact ⟨_, _, _, rfl, Nat.le_refl _⟩
              | _ => simp [isSv] at h7
            obtain ⟨sb, n, cap, rfl, hcc⟩ := hval
            subst hvs
            have hrun := run_append_in (P := P) (w := w) (w' := w) (ty := o.type) hu hei sb n cap (.slice (some ad) 0 cp) 0 [] (by simp) (.inr ⟨ad, cp, rfl, fun j u hj => by simp at hj⟩) (by omega) (fun bb _ => by simp [storeCells]) (fun _ => rfl)
            refine keep (w' := w) (val := .slice sb n cap) ?_ e1 (by simpa [hputs] using h) (Keeps.refl w S) rfl
            rw [hmap, e0, hty]
            simp [builtin] at hrun ⊢
            rw [hrun]; rfl
          · simp at hem
        | false =>
          rw [hem] at h5
          simp only [M.bind_some, M.need_some, M.lift_some, Prod.exists, Prod.mk.injEq, decide_eq_true_eq] at h5
          obtain ⟨_, l7, v7, wr7, l8, ⟨h6, _⟩, ⟨ti2, l9, v9, wr9, l10, ⟨h7, _⟩, h8, ⟨rfl, rfl⟩, _⟩, ⟨rfl, rfl⟩, _⟩ := h5
          have hty : c.argTypes = #[c.argTypes.toList.getD 0 0, c.argTypes.toList.getD 1 0] := by apply Array.ext'; exact h6
          cases hk : ti2.kind with
          | int kk =>
            rw [hk] at h8
            obtain ⟨β', w', val, r1, r2, r3, r4, r5⟩ := appendZ_sound hE h hb h3 h7 hk e1 e3 h8 o.type
            refine wp_of_res ⟨β', S, w', val, .inl (hrunB _ _ _ hc ?_), r2, r3, r4, Incl.refl S, r5⟩ hn
            rw [hmap, e0, hty]
            simp [builtin] at r1 ⊢
            rw [r1]; rfl
          | _ => rw [hk] at h8; simp [M.fail] at h8
      · simp [M.fail] at h2
    | value f =>
      rw [hc] at h2
      simp only at h2
      unfold overX at h2
      split at h2
      · rename_i g
        split at h2
        · rename_i x y
          simp only [M.bind_some, M.need_some, Prod.exists, Prod.mk.injEq] at h2
          obtain ⟨_, l5, v5, wr5, l6, ⟨h4, _⟩, h5, ⟨rfl, rfl⟩, _⟩ := h2
          obtain ⟨vs, vs', e0, e1, e2⟩ := hargs.inv_cons
          obtain ⟨vx, vs'', rfl, e3, e4⟩ := e2.inv_cons
          rw [e4.inv_nil] at e0
          obtain ⟨r1, rfl, rfl⟩ := overlap_sound h (hE.ovl g h4) e1 e3 h5
          refine wp_of_res (OpRes.pure h (val := .bool false) ?_ (AR.lit rfl)) hn
          have e : (#[] ++ c.args.map a.eval) ++ #[] = #[vs, vx] := by
            rw [hmap, e0]; simp
          simp only [execOp, ho, resolve, hc, Sem.run_bind, Act.eval, Deferred.ofValue, Sem.run_pure, Result.andThen_ok, invoke]
          rw [e]
          exact r1
        · simp [M.fail] at h2
      · simp [M.fail] at h2
  | _ => rw [ho] at he; simp [evalX, M.fail] at he

theorem evalOp_wp (hE : EOk P E en) (h : Hv en Fr β S w hp) (hFr : ∀ k, base ≤ k → k < base + 32 → Fr k) {a : Act} (hρ : ∀ x v, ρ x = some v → AR β w S (a.eval x) v) {o : Oper} {v : AV} {wr : Heap} {l : List Nat}
    (he : evalOp E base ρ o.op (hget hp) = some ((v, wr), l)) {next : Act → World → Prop} {Q : Exit → Act → World → Prop}
    (hn : ∀ val β' S' w', AR β' w' S' val v → Hv en (Less Fr base) β' S' w' (hputs wr hp) → BIncl β β' → Incl S S' → Keeps w w' S → next (a.put o.dst val) w') : o.wp P a w next Q := by
  unfold evalOp at he
  cases hX : isX E ρ o.op with
  | true => rw [hX] at he; exact evalX_wp hE h hFr hρ he hn
  | false => rw [hX] at he; exact evalOp0_wp hE h hFr hρ he hn

end ops
end Go.Ax
end
section
namespace Go.Ax
set_option linter.unusedSimpArgs false
set_option linter.unusedVariables false

section
variable {P : Program} {E : Env} {en : Ent}

/-- the state inside a region -/
structure InvR (en : Ent) (N : Nat) (Fr : Nat → Prop) (β : Beta) (S : CellSet) (tm : Tm) (hp : Heap) (a : Act) (w : World) : Prop where
  tm : TR β w S tm a.tmps
  hv : Hv en Fr β S w hp
  size : a.tmps.size = N
  defers : a.defers = []

theorem evalO_sound {β w S tm} {a : Act} (h : TR β w S tm a.tmps) (x : Operand) (v : AV) (hx : evalO tm x = some v) : AR β w S (a.eval x) v := by
  cases x with
  | tmp t => exact h t v hx
  | const c => exact constAV_sound hx
  | func f =>
    simp [evalO] at hx
    subst hx
    exact .clo f #[] [] rfl (fun i v c hv => by simp at hv)
  | global g => simp [evalO] at hx

theorem TR.put {β β' w w' S S' tm tm' N} {a : Act} {dst : Option Tmp} {val : Value} {v : AV} (h : TR β w S tm a.tmps) (hs : a.tmps.size = N) (hp : putD N dst v tm = some tm')
    (hv : AR β' w' S' val v) (hb : BIncl β β') (hi : Incl S S') (hk : Keeps w w' S) : TR β' w' S' tm' (a.put dst val).tmps := by
  unfold putD at hp
  cases dst with
  | none =>
    simp at hp
    subst hp
    exact fun t u ht => (h t u ht).mono hb hk hi
  | some d =>
    simp only at hp
    cases hd : decide (d < N) with
    | false => rw [hd] at hp; simp at hp
    | true =>
      rw [hd] at hp
      simp at hp hd
      subst hp
      intro t u ht
      simp only [Act.put]
      by_cases e : t = d
      · subst e
        rw [tget_tset_same] at ht
        cases ht
        have : ((a.tmps.setIfInBounds t val).getD t undef) = val := by
          simp [Array.getD_eq_getD_getElem?, hs, hd]
        rw [this]; exact hv
      · rw [tget_tset_ne _ _ _ _ e] at ht
        have : ((a.tmps.setIfInBounds d val).getD t undef) = a.tmps.getD t undef := by
          simp [Array.getD_eq_getD_getElem?, Array.getElem?_setIfInBounds_ne (Ne.symm e)]
        rw [this]
        exact (h t u ht).mono hb hk hi

theorem put_size {a : Act} {dst : Option Tmp} {val : Value} : (a.put dst val).tmps.size = a.tmps.size := by
  cases dst <;> simp [Act.put]
theorem put_defers {a : Act} {dst : Option Tmp} {val : Value} : (a.put dst val).defers = a.defers := by
  cases dst <;> rfl

theorem yielded_of {β w S tm} {a : Act} {ops : Array Oper} {j : Nat} {b : Bool} (h : TR β w S tm a.tmps) (hg : guardOf ops.toList tm j = some b) : yielded ops a.tmps j = some b := by
  unfold guardOf at hg
  split at hg
  · rename_i t _ _ _ _ _ ho
    split at hg
    · rename_i b' ht
      cases hg
      have hv := (h t _ ht).lit_inv
      have hlt : t < a.tmps.size := by
        by_cases c : t < a.tmps.size
        · exact c
        · rw [Array.getD_eq_getD_getElem?, Array.getElem?_eq_none (Nat.le_of_not_lt c)] at hv
          simp [undef] at hv
      have hget : a.tmps[t]? = some (.bool b) := by
        rw [Array.getD_eq_getD_getElem?, Array.getElem?_eq_getElem hlt] at hv
        rw [Array.getElem?_eq_getElem hlt]
        simpa using hv
      rw [Array.getElem?_toList] at ho
      simp [yielded, ho, hget]
    · simp at hg
  · simp at hg

theorem step1_wp (hE : EOk P E en) {Fr : Nat → Prop} {β S tm hp} {a : Act} {w : World} (h : InvR en E.N Fr β S tm hp a w) {nxt i : Nat} (hFr : ∀ k, nxt + 32 * i ≤ k → k < nxt + 32 * i + 32 → Fr k) {o : Oper} {tm' : Tm} {hp' : Heap} {e : LogE}
    (he : step1 E nxt i o tm hp = some (tm', hp', e)) {next : Act → World → Prop} {Q : Exit → Act → World → Prop}
    (hn : ∀ β' S' a' w', InvR en E.N (Less Fr (nxt + 32 * i)) β' S' tm' hp' a' w' → next a' w') : o.wp P a w next Q := by
  unfold step1 at he
  split at he
  · simp at he
  · rename_i v wr l hev
    split at he
    · simp at he
    · rename_i tm1 hput
      simp at he
      obtain ⟨rfl, rfl, _⟩ := he
      refine evalOp_wp hE h.hv hFr (evalO_sound h.tm) hev (fun val β' S' w' h1 h2 h3 h4 h5 => ?_)
      exact hn β' S' _ w' ⟨h.tm.put h.size hput h1 h3 h4 h5, h2, by rw [put_size]; exact h.size, by rw [put_defers]; exact h.defers⟩

theorem skip_inv {Fr : Nat → Prop} {N β S tm hp} {a : Act} {w : World} (h : InvR en N Fr β S tm hp a w) {dst : Option Tmp} {tm' : Tm} (hp' : putD N dst .top tm = some tm') :
    InvR en N Fr β S tm' hp (a.put dst undef) w :=
  ⟨h.tm.put h.size hp' (.top _) (BIncl.refl β) (Incl.refl S) (Keeps.refl w S), h.hv, by rw [put_size]; exact h.size, by rw [put_defers]; exact h.defers⟩

theorem ops1_sound (hE : EOk P E en) {nxt : Nat} (all : Array Oper) {Q : Exit → Act → World → Prop} {K : Tm → Heap → List LogE → Prop}
    (hK : ∀ tm hp log β S a w, K tm hp log → InvR en E.N (fun id => nxt + 32 * all.size ≤ id) β S tm hp a w → Q .normal a w) :
    ∀ (r : List Oper) (i : Nat) (tm : Tm) (hp : Heap) (log : List LogE) (β : Beta) (S : CellSet) (a : Act) (w : World), (∀ j : Nat, r[j]? = all[i + j]?) → i + r.length = all.size →
      ops1 E nxt all.toList i r tm hp log K → InvR en E.N (fun id => nxt + 32 * i ≤ id) β S tm hp a w → wpOps P all Q (List.range' i r.length) a w
  | [], i, tm, hp, log, β, S, a, w, hr, hl, h, hi => by
    simp at hl
    subst hl
    exact hK tm hp log β S a w h hi
  | o :: r, i, tm, hp, log, β, S, a, w, hr, hl, h, hi => by
    have h0 : all[i]? = some o := by have := hr 0; simpa using this.symm
    have hr' : ∀ j : Nat, r[j]? = all[(i + 1) + j]? := by
      intro j
      have := hr (j + 1)
      rw [show i + 1 + j = i + (j + 1) by omega]
      simpa using this
    have hl' : i + 1 + r.length = all.size := by simp at hl; omega
    have goStep : ∀ {tm' hp' e}, step1 E nxt i o tm hp = some (tm', hp', e) → ops1 E nxt all.toList (i + 1) r tm' hp' (e :: log) K → o.wp P a w (wpOps P all Q (List.range' (i + 1) r.length)) Q := by
      intro tm' hp' e he hk
      refine step1_wp hE hi (fun k h1 h2 => h1) he (fun β' S' a' w' hi' => ?_)
      exact ops1_sound hE all hK r (i + 1) tm' hp' (e :: log) β' S' a' w' hr' hl' hk ⟨hi'.tm, hi'.hv.weakFr (fun id hid => ⟨by omega, by omega⟩), hi'.size, hi'.defers⟩
    simp only [List.length_cons, List.range'_succ, wpOps, h0]
    simp only [ops1] at h
    cases hg : o.guard with
    | none =>
      rw [hg] at h
      have hw : Region.wanted o (yielded all a.tmps) = true := by simp [Region.wanted, hg]
      rw [if_pos hw]
      simp only at h
      cases hs : step1 E nxt i o tm hp with
      | none => rw [hs] at h; exact h.elim
      | some x =>
        obtain ⟨tm', hp', e⟩ := x
        rw [hs] at h
        exact .inl (goStep hs h)
    | some x =>
      obtain ⟨j, want⟩ := x
      rw [hg] at h
      simp only at h
      cases hgo : guardOf all.toList tm j with
      | none => rw [hgo] at h; exact h.elim
      | some b =>
        rw [hgo] at h
        simp only at h
        have hy := yielded_of hi.tm hgo
        by_cases hb : b = want
        · rw [if_pos hb] at h
          have hw : Region.wanted o (yielded all a.tmps) = true := by simp [Region.wanted, hg, hy, hb]
          rw [if_pos hw]
          cases hs : step1 E nxt i o tm hp with
          | none => rw [hs] at h; exact h.elim
          | some x =>
            obtain ⟨tm', hp', e⟩ := x
            rw [hs] at h
            exact .inl (goStep hs h)
        · rw [if_neg hb] at h
          have hw : ¬ Region.wanted o (yielded all a.tmps) = true := by simp [Region.wanted, hg, hy, hb]
          rw [if_neg hw]
          cases hp' : putD E.N o.dst .top tm with
          | none => rw [hp'] at h; exact h.elim
          | some tm' =>
            rw [hp'] at h
            have hi' := skip_inv hi hp'
            exact ops1_sound hE all hK r (i + 1) tm' hp log β S _ w hr' hl' h ⟨hi'.tm, hi'.hv.weakFr (fun id hid => by omega), hi'.size, hi'.defers⟩

end
end Go.Ax
end
