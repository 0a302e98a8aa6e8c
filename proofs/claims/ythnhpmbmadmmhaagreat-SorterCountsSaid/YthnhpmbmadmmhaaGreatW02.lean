/- Part 3 of this claim: an abstract interpreter over the model, its soundness, and what is run in it. -/
import Derived.Test.YthnhpmbmadmmhaaGreatW01
set_option maxRecDepth 20000
set_option linter.unusedSimpArgs false
set_option linter.unusedVariables false
/- Loads, stores, addresses. -/
namespace Wab
open Go

theorem putAt_some {cs : List AVal} {off : Nat} {vs cs' : List AVal} (h : putAt cs off vs = some cs') : off + vs.length ≤ cs.length ∧ cs'.length = cs.length ∧
    ∀ (j : Nat), cs'[j]? = if off ≤ j ∧ j < off + vs.length then vs[j - off]? else cs[j]? := by
  unfold putAt at h
  cases hb : Nat.ble (off + vs.length) cs.length with
  | false => simp [hb] at h
  | true =>
    have hle := Nat.le_of_ble_eq_true hb
    simp only [hb, cond_true, Option.some.injEq] at h
    subst h
    have e1 : (cs.take off).length = off := by simp; omega
    refine ⟨hle, by simp; omega, fun j => ?_⟩
    by_cases c1 : j < off
    · rw [if_neg (by omega), List.append_assoc, List.getElem?_append_left (by omega), List.getElem?_take, if_pos c1]
    · by_cases c2 : j < off + vs.length
      · rw [if_pos ⟨by omega, c2⟩, List.append_assoc, List.getElem?_append_right (by omega), e1, List.getElem?_append_left (by omega)]
      · rw [if_neg (by omega), List.getElem?_append_right (by simp; omega)]
        simp only [List.length_append, e1, List.getElem?_drop]
        congr 1; omega

section
variable {P : Program} {n nt : Nat} {C : Ctx} {Lm : Nat → Option Nat} {s : St} {a : Act} {w : World}

/-- The cells of a block behind a write into them. -/
theorem cells_after {C' : Ctx} (hw : w.heap = C.H) {b ty : Nat} {fr : Nat × Nat} {arr : Array Value} (hb : C.H[b]? = some (.cells arr ty fr)) {p : Nat} {cs : List AVal} (hp : p + cs.length ≤ arr.size)
    (hc : ∀ j (h : j < cs.length), holds C b (p + j) cs[j]) {nv : List AVal} {vvs : List Value} (rv : vrels C nv vvs) (ov : nv.all one = true) {off : Nat} {cs' : List AVal} (hput : putAt cs off nv = some cs')
    (v : V C C') (hC' : C'.H = (w.setCells b (p + off) vvs).heap) :
    ∃ arr', C'.H[b]? = some (.cells arr' ty fr) ∧ arr'.size = arr.size ∧ p + cs'.length ≤ arr'.size ∧ ∀ j (h : j < cs'.length), holds C' b (p + j) cs'[j] := by
  obtain ⟨q1, q2, q3⟩ := putAt_some hput
  obtain ⟨arr', e1, e2, e3⟩ := setCells_block b ty fr vvs (p + off) w arr (by rw [hw]; exact hb)
  have hl := vrels_length rv
  refine ⟨arr', by rw [hC']; exact e1, e2, by omega, fun j hj => ?_⟩
  have hj' : j < cs.length := by omega
  have hx := q3 j
  have hx2 : cs'[j]? = some cs'[j] := by simp
  rw [hx2] at hx
  have hcell : ∀ o, cellH C'.H b o = arr'[o]? := by
    intro o; rw [hC']; simp only [cellH]; rw [e1]
  by_cases c : off ≤ j ∧ j < off + nv.length
  · rw [if_pos c] at hx
    obtain ⟨u, hu, ru⟩ := vrels_get rv (j - off) _ hx.symm
    refine ⟨?_, u, ?_, vrel_mono v _ _ ru⟩
    · rw [List.all_eq_true] at ov
      exact ov _ (List.mem_of_getElem? hx.symm)
    · rw [hcell, e3 _ (by omega), if_pos (by omega)]
      rw [show p + j - (p + off) = j - off from by omega]; exact hu
  · rw [if_neg c] at hx
    have hj2 : cs[j]? = some cs[j] := by simp [hj']
    rw [hj2] at hx
    injection hx with hx
    obtain ⟨o1, u, hu, ru⟩ := hc j hj'
    rw [hx]
    refine ⟨o1, u, ?_, vrel_mono v _ _ ru⟩
    rw [hcell, e3 _ (by omega), if_neg (by omega)]
    simpa [cellH, hb] using hu

theorem storeVar_ok (hw : w.heap = C.H) {t : TypeId} {m : Nat} (hn : sizeP P t = some m) {b o : Nat} {v : Value} (hs : v.cells.size = m)
    (hc : ∀ j, j < m → (cellH C.H b (o + j)).isSome = true) (hf : ∀ j, j < m → w.frozen? ⟨b, o + j, none⟩ = false) (h1 : ∀ u ∈ v.cells.toList, u.oneCell' = true) :
    (storeVar t ⟨b, o, none⟩ v).run P w = .ok () (w.setCells b o v.cells.toList) := by
  have hr := run_storeCells_cells (P := P) b o v.cells.toList 0 w (fun j hj => by rw [cell_eq hw]; simpa using hc j (by simpa [hs] using hj)) (fun j hj => by simpa using hf j (by simpa [hs] using hj)) h1
  simp only [Nat.add_zero] at hr
  simp [storeVar, sizeP_run hn, hs, hr]

theorem vrels_one {xs : List AVal} {vs : List Value} (r : vrels C xs vs) (h : xs.all one = true) : ∀ u ∈ vs, u.oneCell' = true := by
  induction xs generalizing vs with
  | nil => cases vs <;> simp [vrels] at r; simp
  | cons x xs ih =>
    cases vs with
    | nil => simp [vrels] at r
    | cons v vs =>
      simp only [vrels] at r
      simp only [List.all_cons, Bool.and_eq_true] at h
      intro u hu
      rcases List.mem_cons.1 hu with rfl | hu
      · exact one_cell h.1 r.1
      · exact ih r.2 h.2 u hu

theorem frozen_eq (hw : w.heap = C.H) {b ty : Nat} {fr : Nat × Nat} {arr : Array Value} (hb : C.H[b]? = some (.cells arr ty fr)) (o : Nat) : w.frozen? ⟨b, o, none⟩ = (decide (fr.1 ≤ o) && decide (o < fr.2)) := by
  obtain ⟨lo, hi⟩ := fr
  simp [World.frozen?, hw, hb]

/-- What the abstract heap says of a block. -/
theorem block_of (i : Inv n nt C Lm s a w) {id ver ty fz : Nat} {cs : List AVal} {sx : Bool} (h : s.h.cells? id ver = some (ty, cs, fz, sx)) :
    C.live id ∧ C.ver id = ver ∧ C.known id = cs.length ∧ C.σ.m.get id = some (.cells ver ty cs fz sx) ∧ ∃ arr fr, C.H[(C.mu id).blk]? = some (.cells arr ty fr) ∧ (C.mu id).off + cs.length ≤ arr.size ∧
      (∀ j (h : j < cs.length), holds C (C.mu id).blk ((C.mu id).off + j) cs[j]) ∧ frOk fr (C.mu id).off fz sx arr.size := by
  rw [← i.σ] at h
  have hg := cells?_some h
  simp only at hg
  have hlt := live_of_get hg
  obtain ⟨hv, hk⟩ := live_ver h
  obtain ⟨b, hb1, hb2⟩ := i.hr.here id hlt
  rw [hg] at hb1
  injection hb1 with hb1
  subst hb1
  simp only [blockRel] at hb2
  exact ⟨hlt, hv, hk, hg, hb2⟩

theorem read_ok (i : Inv n nt C Lm s a w) {t : TypeId} {g : Bool} {m : Nat} (hg : aggP P t = some g) (hn : sizeP P t = some m) {t' : Nat} {u : AVal} {av : Value} (r : trel C Lm s.l t' u av)
    {z : AVal} (hz : readA s g m u = some z) : ∃ p v, av = .pointer (some p) ∧ (loadVar t p).run P w = .ok v w ∧ vrel C z v := by
  unfold readA at hz
  split at hz
  · rename_i d off
    obtain ⟨⟨bx, hb, _⟩, b, hL, hv⟩ := r.1 d off rfl
    rw [hb] at hz
    simp only at hz
    cases hl : getAt bx.cells off m with
    | none => simp [hl] at hz
    | some l =>
      rw [hl, Option.bind_some] at hz
      obtain ⟨b', hL', arr, k1, k2, k3⟩ := i.lo d bx hb
      rw [hL] at hL'; injection hL' with hL'; subst hL'
      obtain ⟨v, h1, h2⟩ := loadVar_ok (P := P) i.heap hg hn (b := b) (o := 0) (cs := bx.cells) (fun j x hx => by rw [Nat.zero_add]; exact k3 j x hx) hl hz
      exact ⟨_, v, hv, by simpa using h1, h2⟩
  · rename_i id ver off
    split at hz
    · rename_i ty cs fz sx hc
      obtain ⟨b1, b2, b3, b4, arr, fr, b5, b6, b7, b8⟩ := block_of i hc
      cases hl : getAt cs off m with
      | none => simp [hl] at hz
      | some l =>
        rw [hl, Option.bind_some] at hz
        have rv := r.2 (by intros; simp)
        simp only [vrel] at rv
        obtain ⟨_, _, p, p', hp, rp⟩ := rv
        obtain ⟨rfl, rfl⟩ := rp b2.symm
        obtain ⟨v, h1, h2⟩ := loadVar_ok (P := P) i.heap hg hn (b := (C.mu id).blk) (o := (C.mu id).off) (cs := cs) (fun j x hx => by
          have hj := (List.getElem?_eq_some_iff.1 hx)
          obtain ⟨hj, e⟩ := hj
          rw [← e]; exact b7 j hj) hl hz
        exact ⟨_, v, hp, h1, h2⟩
    · cases hz
  · rename_i cx off
    have rv := r.2 (by intros; simp)
    simp only [vrel] at rv
    obtain ⟨b, p, hp, hc⟩ := rv
    cases hl : getAt cx off m with
    | none => simp [hl] at hz
    | some l =>
      rw [hl, Option.bind_some] at hz
      obtain ⟨v, h1, h2⟩ := loadVar_ok (P := P) i.heap hg hn (b := b) (o := p) (cs := cx) (fun j x hx => (cellsAt_get hc j x hx).2.2) hl hz
      exact ⟨_, v, hp, h1, h2⟩
  · cases hz

theorem ok_load (i : Inv n nt C Lm s a w) {o : Oper} {t : TypeId} {x : Operand} (ho : o.op = .load t x) {g : Bool} {m : Nat} (hg : aggP P t = some g) (hn : sizeP P t = some m) {y : AOpd} (hx : trOpd x = some y)
    {z : AVal} (hz : readA s g m (evalO s.t y) = some z) : OpOk P n nt o C a w s z := by
  obtain ⟨t', r⟩ := eval_trel i hx
  obtain ⟨p, v, h1, h2, h3⟩ := read_ok i hg hn r hz
  exact OpOk.pure i (v := v) (by simp only [execOp, ho]; exact run_v (by simp [Instr.loadAt, h1, Instr.sureAddr, h2])) h3

theorem ok_store (i : Inv n nt C Lm s a w) {o : Oper} {t : TypeId} {x v : Operand} (ho : o.op = .store t x v) {m : Nat} (hn : sizeP P t = some m) {y u : AOpd} (hx : trOpd x = some y) (hv : trOpd v = some u)
    {z : AVal} (hz : nlO s.t u = some z) {s' : St} (hw' : writeA s m (evalO s.t y) z = some s') : OpOk P n nt o C a w s' noRes := by
  have rz := (nlO_rel i hv hz).2
  have fin : ∀ p w', a.eval x = .pointer (some p) → (storeVar t p (a.eval v)).run P w = .ok () w' → (execOp a.eval o).run P w = .ok .skip w' := by
    intro p w' h1 h2
    simp only [execOp, ho]; exact run_u (by simp [Instr.storeAt, h1, Instr.sureAddr, h2])
  obtain ⟨t', r⟩ := eval_trel i hx
  generalize hy : evalO s.t y = q at hw' r
  unfold writeA at hw'
  cases hc0 : (Nat.beq z.cells.length m && oneV z) with
  | false => simp [hc0] at hw'
  | true =>
  simp only [hc0, cond_true] at hw'
  simp only [Bool.and_eq_true] at hc0
  have hzl := Nat.eq_of_beq_eq_true hc0.1
  obtain ⟨oz, rzs⟩ := cells_rel hc0.2 rz
  have hvs : (a.eval v).cells.size = m := by have := vrels_length rzs; simp at this; omega
  have hone := vrels_one rzs oz
  split at hw'
  · rename_i d off
    obtain ⟨⟨bx, hb, hd⟩, b, hL, hp⟩ := r.1 d off rfl
    rw [hb] at hw'
    simp only [Option.map_eq_some_iff] at hw'
    obtain ⟨cs', hput, rfl⟩ := hw'
    obtain ⟨b', hL', arr, k1, k2, k3⟩ := i.lo d bx hb
    rw [hL] at hL'; injection hL' with hL'; subst hL'
    obtain ⟨q1, q2, q3⟩ := putAt_some hput
    obtain ⟨lb1, lb2, lb3⟩ := i.lb d b hL
    let w' := w.setCells b off (a.eval v).cells.toList
    have hrun := storeVar_ok (P := P) (t := t) i.heap hn (b := b) (o := off) hvs (fun j hj => by
        obtain ⟨_, u, hu, _⟩ := k3 (off + j) _ (List.getElem?_eq_getElem (by omega))
        rw [hu]; rfl) (fun j hj => by rw [frozen_eq i.heap k1]; simp) hone
    have same : ∀ k, k ≠ b → w'.heap[k]? = C.H[k]? := fun k hk => by rw [setCells_other b k hk, i.heap]
    have hsz : w'.heap.size = C.H.size := by rw [setCells_size, i.heap]
    have hV := setL_V i.hr lb3 same
    have hH := setL_H i.hr lb3 same hsz
    obtain ⟨g1, g2, g3⟩ := setCells_os b (a.eval v).cells.toList off w
    refine OpOk.skip (fin _ _ hp hrun) (C' := { C with H := w'.heap }) (Lm' := Lm) ?_ (setL_S i.hr n lb3 same hsz lb1 g1 g2 g3)
    obtain ⟨arr', f1, f2, f3, f4⟩ := cells_after (C' := { C with H := w'.heap }) i.heap (b := b) (p := 0) k1 (cs := bx.cells) (by omega) (fun j hj => by rw [Nat.zero_add]; exact k3 j _ (List.getElem?_eq_getElem hj)) rzs oz hput hV (by simp [w'])
    refine ⟨rfl, i.σ, hH, by show n ≤ w'.heap.size; rw [hsz]; exact i.base, i.size, fun t => ?_, fun d' bx' hb' => ?_, fun d' b' hb' => ?_, i.li, defRel_mono hV _ _ i.de⟩
    · refine ⟨fun d' off' e => ?_, fun hx => vrel_mono hV _ _ ((i.tm t).2 hx)⟩
      obtain ⟨⟨bx', p1, p2⟩, p3⟩ := (i.tm t).1 d' off' e
      refine ⟨?_, p3⟩
      simp only [Tr.get_set]
      by_cases hdd : d' = d
      · subst hdd; rw [if_pos rfl]; rw [hb] at p1; injection p1 with p1; subst p1; exact ⟨_, rfl, p2⟩
      · rw [if_neg hdd]; exact ⟨bx', p1, p2⟩
    · simp only [Tr.get_set] at hb'
      by_cases hdd : d' = d
      · subst hdd; rw [if_pos rfl] at hb'; injection hb' with hb'; subst hb'
        refine ⟨b, hL, arr', f1, by show arr'.size = cs'.length; omega, fun j x hx => ?_⟩
        obtain ⟨hj, e⟩ := List.getElem?_eq_some_iff.1 hx
        rw [← e]; have := f4 j hj; rwa [Nat.zero_add] at this
      · rw [if_neg hdd] at hb'
        obtain ⟨b', hb1, hb2⟩ := i.lo d' bx' hb'
        have hne : b' ≠ b := fun e => hdd (i.li d' d b' hb1 (by rw [e]; exact hL))
        exact ⟨b', hb1, boxRel_mono hV (same b' hne) hb2⟩
    · obtain ⟨p1, p2, p3⟩ := i.lb d' b' hb'
      exact ⟨p1, by show b' < w'.heap.size; rw [hsz]; exact p2, p3⟩
  · rename_i id ver off
    cases hlk : Nat.ble s.h.lock id with
    | false => simp [hlk] at hw'
    | true =>
    simp only [hlk, cond_true] at hw'
    have hlk := Nat.le_of_ble_eq_true hlk
    split at hw'
    · rename_i v' ty cs fz sx hgt
      cases hvf : (Nat.beq v' ver && Nat.ble fz off) with
      | false => simp [hvf] at hw'
      | true =>
      simp only [hvf, cond_true, Option.map_eq_some_iff] at hw'
      simp only [Bool.and_eq_true] at hvf
      have hv1 := Nat.eq_of_beq_eq_true hvf.1
      have hv2 := Nat.le_of_ble_eq_true hvf.2
      subst hv1
      obtain ⟨cs', hput, rfl⟩ := hw'
      have hcl : s.h.cells? id v' = some (ty, cs, fz, sx) := by unfold AHeap.cells?; rw [hgt]; simp
      obtain ⟨b1, b2, b3, b4, arr, fr, b5, b6, b7, b8⟩ := block_of i hcl
      have rv := r.2 (by intros; simp)
      simp only [vrel] at rv
      obtain ⟨_, _, p, p', hp, rp⟩ := rv
      obtain ⟨rfl, rfl⟩ := rp b2.symm
      obtain ⟨q1, q2, q3⟩ := putAt_some hput
      let w' := w.setCells (C.mu id).blk ((C.mu id).off + off) (a.eval v).cells.toList
      have hrun := storeVar_ok (P := P) (t := t) i.heap hn (b := (C.mu id).blk) (o := (C.mu id).off + off) hvs (fun j hj => by
          obtain ⟨_, u, hu, _⟩ := b7 (off + j) (by omega)
          rw [show (C.mu id).off + off + j = (C.mu id).off + (off + j) from by omega, hu]; rfl) (fun j hj => by
          rw [frozen_eq i.heap b5]
          rcases b8 with h | h | h
          · simp; omega
          · simp; omega
          · simp; omega) hone
      have same : ∀ k, k ≠ (C.mu id).blk → w'.heap[k]? = C.H[k]? := fun k hk => by rw [setCells_other _ k hk, i.heap]
      have hsz : w'.heap.size = C.H.size := by rw [setCells_size, i.heap]
      obtain ⟨arr0, z1, z2, _⟩ := setCells_block (C.mu id).blk ty fr (a.eval v).cells.toList ((C.mu id).off + off) w arr (by rw [i.heap]; exact b5)
      have po : PutOk C id (.cells v' ty cs' fz sx) (C.mu id) w'.heap := by
        refine ⟨b1, by rw [hsz]; exact Nat.le_refl _, fun k _ hk => same k hk, .inl rfl, ?_, by simp [bver, b2], fun _ => ⟨rfl, by simp [bknown, b3, q2], ?_⟩⟩
        · rintro ⟨es, c, hm⟩; rw [b4] at hm; cases hm
        · simp only [sizeH, Ctx.asize, w']; rw [z1, b5]; exact z2
      have hV := put_V i.hr po
      obtain ⟨g1, g2, g3⟩ := setCells_os (C.mu id).blk (a.eval v).cells.toList ((C.mu id).off + off) w
      obtain ⟨arr', f1, f2, f3, f4⟩ := cells_after (C' := C.upd id (.cells v' ty cs' fz sx) (C.mu id) w'.heap) i.heap b5 b6 b7 rzs oz hput hV rfl
      have hH := put_H i.hr po (by
        simp only [blockRel]
        exact ⟨arr', fr, f1, f3, f4, by rw [f2]; exact b8⟩)
      refine OpOk.skip (fin _ _ hp hrun) (C' := C.upd id (.cells v' ty cs' fz sx) (C.mu id) w'.heap) (Lm' := Lm) ?_ (put_S i.hr n i.base po (by rw [i.σ]; exact hlk) g1 g2 g3)
      refine i.step hV hH (by show C.H.size ≤ w'.heap.size; rw [hsz]; exact Nat.le_refl _) rfl (by simp [Ctx.upd, i.σ]) (fun d b hb => ⟨same b ?_, (i.lb d b hb).2.2⟩)
      intro e
      exact i.hr.free id b1 (e ▸ (i.lb d b hb).2.2)
    · cases hw'
  · cases hw'
end
end Wab
/- Addresses of parts, reading of strings and arrays, nil checks, type assertions. -/
namespace Wab
open Go

section
variable {P : Program} {n nt : Nat} {C : Ctx} {Lm : Nat → Option Nat} {s : St} {a : Act} {w : World}

theorem natOf_some {x : AVal} {k : Nat} (h : natOf x = some k) : ∃ j, x = .int j (k : Int) := by
  unfold natOf at h
  split at h
  · rename_i j m
    cases m with
    | ofNat m => simp at h; subst h; exact ⟨j, rfl⟩
    | negSucc m => simp at h
  · cases h

theorem nat_rel (i : Inv n nt C Lm s a w) {x : Operand} {y : AOpd} (hx : trOpd x = some y) {k : Nat} (h : natOf (evalO s.t y) = some k) : ∃ j, a.eval x = .int j (k : Int) := by
  obtain ⟨j, e⟩ := natOf_some h
  have := eval_rel i hx e (by intros; simp)
  simp only [vrel] at this
  exact ⟨j, this⟩

/-- The address of a part: a pointer with a place added. -/
theorem ok_addr (i : Inv n nt C Lm s a w) {o : Oper} {x : Operand} {y : AOpd} (hx : trOpd x = some y) {off : Nat} {z : AVal}
    (hz : (∃ d q bx k, evalO s.t y = .loc d q ∧ s.l.get d = some bx ∧ o.dst = some k ∧ k ∈ bx.der ∧ z = .loc d (q + off)) ∨ (∃ id ver q, evalO s.t y = .ptr id ver q ∧ z = .ptr id ver (q + off)) ∨
      (∃ g q, evalO s.t y = .gptr g q ∧ z = .gptr g (q + off)) ∨ (∃ c q, evalO s.t y = .iptr c q ∧ z = .iptr c (q + off)))
    (hr : ∀ b q, a.eval x = .pointer (some ⟨b, q, none⟩) → (execOp a.eval o).run P w = .ok (.value (.pointer (some ⟨b, q + off, none⟩))) w) : OpOk P n nt o C a w s z := by
  obtain ⟨t', r⟩ := eval_trel i hx
  rcases hz with ⟨d, q, bx, k, e, hb, hd, hk, rfl⟩ | ⟨id, ver, q, e, rfl⟩ | ⟨g, q, e, rfl⟩ | ⟨c, q, e, rfl⟩
  · rw [e] at r
    obtain ⟨_, b, hL, hv⟩ := r.1 d q rfl
    refine OpOk.value (hr b q hv) i (fun d' hd' => ?_) (Stp.refl _ _ _)
    rw [hd] at hd'; injection hd' with hd'; subst hd'
    refine ⟨fun d1 o1 e1 => ?_, fun h => absurd rfl (h d (q + off))⟩
    injection e1 with e1 e2; subst e1; subst e2
    exact ⟨⟨bx, hb, .inr hk⟩, b, hL, rfl⟩
  · have rv := eval_rel i hx e (by intros; simp)
    simp only [vrel] at rv
    obtain ⟨v1, v2, b, p, v3, v4⟩ := rv
    refine OpOk.pure i (hr _ _ v3) ?_
    simp only [vrel]
    exact ⟨v1, v2, b, p + off, rfl, fun hv => ⟨(v4 hv).1, by have := (v4 hv).2; omega⟩⟩
  · have rv := eval_rel i hx e (by intros; simp)
    simp only [vrel] at rv
    exact OpOk.pure i (hr _ _ rv) (by simp only [vrel])
  · have rv := eval_rel i hx e (by intros; simp)
    simp only [vrel] at rv
    obtain ⟨b, p, v3, v4⟩ := rv
    exact OpOk.pure i (hr _ _ v3) (by simp only [vrel]; exact ⟨b, p, by rw [Nat.add_assoc], v4⟩)

theorem fieldPlace_ok {f : Field} {m : Nat} (hm : sizeP P f.type = some m) (h0 : 0 < m) (p : Addr) : (fieldPlace p f).run P w = .ok (p.add f.offset) w := by
  have : m ≠ 0 := by omega
  simp [fieldPlace, sizeP_run hm, this]

theorem fieldAt_ok {st : TypeId} {fs : Array Field} {k : Nat} {f : Field} {m : Nat} (hu : P.underlying st = some (.struct fs)) (hf : fs[k]? = some f) (hm : sizeP P f.type = some m) (h0 : 0 < m) (p : Addr) :
    (Instr.fieldAt st (.pointer (some p)) k).run P w = .ok (.pointer (some (p.add f.offset))) w := by
  simp [Instr.fieldAt, run_underlying hu, hf, Instr.sureAddr, fieldPlace_ok hm h0]

theorem ok_fieldAddr (i : Inv n nt C Lm s a w) {o : Oper} {st : TypeId} {x : Operand} {k : Nat} (ho : o.op = .fieldAddr st x k) {fs : Array Field} (hu : P.underlying st = some (.struct fs)) {f : Field} (hf : fs[k]? = some f)
    {m : Nat} (hm : sizeP P f.type = some m) (h0 : 0 < m) {y : AOpd} (hx : trOpd x = some y) {d : Nat} (hd : o.dst = some d) {C0 : Oracle} {z : AVal} {s' : St} (hz : aop C0 s (.fieldAddr f.offset y d) = some (z, s')) :
    s' = s ∧ OpOk P n nt o C a w s z := by
  have base : ∀ b q, a.eval x = .pointer (some ⟨b, q, none⟩) → (execOp a.eval o).run P w = .ok (.value (.pointer (some ⟨b, q + f.offset, none⟩))) w := by
    intro b q hv
    simp only [execOp, ho]
    exact run_v (by rw [hv, fieldAt_ok hu hf hm h0, add_eq])
  simp only [aop] at hz
  split at hz
  · rename_i b q e
    split at hz
    · rename_i bx hb
      cases hc : bx.der.contains d with
      | false => rw [hc] at hz; simp at hz
      | true =>
        rw [hc] at hz; simp at hz
        obtain ⟨rfl, rfl⟩ := hz
        exact ⟨rfl, ok_addr i hx (.inl ⟨b, q, bx, d, e, hb, hd, by simpa using hc, rfl⟩) base⟩
    · cases hz
  · rename_i id ver q e
    simp at hz; obtain ⟨rfl, rfl⟩ := hz
    exact ⟨rfl, ok_addr i hx (.inr (.inl ⟨id, ver, q, e, rfl⟩)) base⟩
  · rename_i g q e
    simp at hz; obtain ⟨rfl, rfl⟩ := hz
    exact ⟨rfl, ok_addr i hx (.inr (.inr (.inl ⟨g, q, e, rfl⟩))) base⟩
  · rename_i c q e
    simp at hz; obtain ⟨rfl, rfl⟩ := hz
    exact ⟨rfl, ok_addr i hx (.inr (.inr (.inr ⟨c, q, e, rfl⟩))) base⟩
  · cases hz

theorem indexAt_arr {t e : TypeId} {len esz k : Nat} {j : IntKind} (hu : P.underlying t = some (.array len e)) (he : sizeP P e = some esz) (hk : k < len) (p : Addr) :
    (Instr.indexAt t (.pointer (some p)) (.int j (k : Int))).run P w = .ok (.pointer (some (p.add (k * esz)))) w := by
  have h1 : (0 : Int) ≤ (k : Int) ∧ (k : Int) < (len : Int) := ⟨by omega, by omega⟩
  simp [Instr.indexAt, run_underlying hu, sizeP_run he, asIntOf, Instr.sureAddr, hk]

theorem ok_indexAddrArr (i : Inv n nt C Lm s a w) {o : Oper} {t e : TypeId} {x ix : Operand} (ho : o.op = .indexAddr t x ix) {len esz : Nat} (hu : P.underlying t = some (.array len e)) (he : sizeP P e = some esz)
    {y iy : AOpd} (hx : trOpd x = some y) (hix : trOpd ix = some iy) {d : Nat} (hd : o.dst = some d) {C0 : Oracle} {z : AVal} {s' : St} (hz : aop C0 s (.indexAddrArr len esz y iy d) = some (z, s')) :
    s' = s ∧ OpOk P n nt o C a w s z := by
  simp only [aop] at hz
  split at hz
  · rename_i k hk
    obtain ⟨j, hj⟩ := nat_rel i hix hk
    cases hb : Nat.blt k len with
    | false => rw [hb] at hz; cases hz
    | true =>
    rw [hb] at hz
    simp only [cond_true] at hz
    have hlt : k < len := by simpa [Nat.blt_eq] using hb
    have base : ∀ b q, a.eval x = .pointer (some ⟨b, q, none⟩) → (execOp a.eval o).run P w = .ok (.value (.pointer (some ⟨b, q + k * esz, none⟩))) w := by
      intro b q hv
      simp only [execOp, ho]
      exact run_v (by rw [hv, hj, indexAt_arr hu he hlt, add_eq])
    split at hz
    · rename_i b q e'
      split at hz
      · rename_i bx hb
        cases hc : bx.der.contains d with
        | false => rw [hc] at hz; simp at hz
        | true =>
          rw [hc] at hz; simp at hz
          obtain ⟨rfl, rfl⟩ := hz
          exact ⟨rfl, ok_addr i hx (.inl ⟨b, q, bx, d, e', hb, hd, by simpa using hc, rfl⟩) base⟩
      · cases hz
    · rename_i id ver q e'
      simp at hz; obtain ⟨rfl, rfl⟩ := hz
      exact ⟨rfl, ok_addr i hx (.inr (.inl ⟨id, ver, q, e', rfl⟩)) base⟩
    · rename_i g q e'
      simp at hz; obtain ⟨rfl, rfl⟩ := hz
      exact ⟨rfl, ok_addr i hx (.inr (.inr (.inl ⟨g, q, e', rfl⟩))) base⟩
    · rename_i c q e'
      simp at hz; obtain ⟨rfl, rfl⟩ := hz
      exact ⟨rfl, ok_addr i hx (.inr (.inr (.inr ⟨c, q, e', rfl⟩))) base⟩
    · cases hz
  · cases hz

theorem ok_indexAddrSl (i : Inv n nt C Lm s a w) {o : Oper} {t e : TypeId} {x ix : Operand} (ho : o.op = .indexAddr t x ix) {esz : Nat} (hu : P.underlying t = some (.slice e)) (he : sizeP P e = some esz)
    {y iy : AOpd} (hx : trOpd x = some y) (hix : trOpd ix = some iy) {C0 : Oracle} {z : AVal} {s' : St} (hz : aop C0 s (.indexAddrSl esz y iy) = some (z, s')) :
    s' = s ∧ OpOk P n nt o C a w s z := by
  simp only [aop] at hz
  split at hz
  · rename_i k hk
    obtain ⟨j, hj⟩ := nat_rel i hix hk
    have base : ∀ b q len c, a.eval x = .slice (some ⟨b, q, none⟩) len c → k < len → (execOp a.eval o).run P w = .ok (.value (.pointer (some ⟨b, q + k * esz, none⟩))) w := by
      intro b q len c hv hlt
      simp only [execOp, ho]
      refine run_v ?_
      rw [hv, hj]
      simp [Instr.indexAt, run_underlying hu, sizeP_run he, asIntOf, hlt, add_eq]
    split at hz
    · rename_i e' xs ex hy
      split at hz
      · rename_i c hc
        rw [cond_beq] at hz
        split at hz
        · rename_i hee
          subst hee
          injection hz with hz; injection hz with hz1 hz2; subst hz1; subst hz2
          have rv := eval_rel i hx hy (by intros; simp)
          simp only [vrel] at rv
          obtain ⟨b, q, cap, sp, v1, v0, v2, v3, v4⟩ := rv
          obtain ⟨hklt, _⟩ := List.getElem?_eq_some_iff.1 hc
          have hsp : sp = none := v0 (fun e => by rw [e] at hklt; simp at hklt)
          subst hsp
          refine ⟨rfl, OpOk.pure i (base b q _ cap v1 hklt) ?_⟩
          simp only [vrel]
          exact ⟨b, q + k * e', by simp, (elemsAt_get v4 k c hc).2⟩
        · cases hz
      · cases hz
    · rename_i id ver off len cap e' hy
      cases hb : (Nat.blt k len && Nat.beq e' esz) with
      | false => rw [hb] at hz; cases hz
      | true =>
        rw [hb] at hz
        simp only [cond_true, Option.some.injEq, Prod.mk.injEq] at hz
        obtain ⟨rfl, rfl⟩ := hz
        simp only [Bool.and_eq_true] at hb
        have hlt : k < len := by simpa [Nat.blt_eq] using hb.1
        have hee := Nat.eq_of_beq_eq_true hb.2
        subst hee
        have rv := eval_rel i hx hy (by intros; simp)
        simp only [vrel] at rv
        obtain ⟨v1, v2, v3, b, q, c, v4, v5, v6, v7⟩ := rv
        refine ⟨rfl, OpOk.pure i (base b q _ c v4 hlt) ?_⟩
        simp only [vrel]
        exact ⟨v1, v2, b, _, rfl, fun hv => ⟨(v7 hv).2.1, by have := (v7 hv).2.2.1; omega⟩⟩
    · cases hz
  · cases hz

theorem cellsAt_of' {b : Nat} : ∀ {xs : List AVal} {o : Nat}, (∀ (i : Nat) (x : AVal), xs[i]? = some x → ¬ C.Own b ∧ (¬ C.F b ∧ pureC x = true) ∧ holds C b (o + i) x) → cellsAt C b o xs
  | [], _, _ => by simp [cellsAt]
  | y :: ys, o, r => by
    have h0 := r 0 y (by simp)
    simp only [cellsAt]
    refine ⟨⟨h0.2.2.1, h0.1, h0.2.1, h0.2.2.2⟩, cellsAt_of' fun i x h => ?_⟩
    rw [show o + 1 + i = o + (i + 1) from by omega]; exact r (i + 1) x (by simpa using h)

theorem ok_arrPtr (i : Inv n nt C Lm s a w) {o : Oper} {t e : TypeId} {x : Operand} (ho : o.op = .sliceToArrayPointer t x) {len esz : Nat} (hu : P.underlying t = some (.array len e))
    {y : AOpd} (hx : trOpd x = some y) {C0 : Oracle} {z : AVal} {s' : St} (hz : aop C0 s (.arrPtr len esz y) = some (z, s')) : s' = s ∧ OpOk P n nt o C a w s z := by
  simp only [aop] at hz
  have base : ∀ p l c, a.eval x = .slice p l c → len ≤ l → (execOp a.eval o).run P w = .ok (.value (.pointer p)) w := by
    intro p l c hv hle
    simp only [execOp, ho]
    refine run_v ?_
    rw [hv]
    have : ¬ l < len := by omega
    simp [Instr.arrayAt, run_underlying hu, this]
  split at hz
  · rename_i e' xs ex hy
    cases hb : (Nat.beq e' esz && (Nat.ble len xs.length && Nat.blt 0 xs.length)) with
    | false => rw [hb] at hz; cases hz
    | true =>
      rw [hb] at hz
      simp only [cond_true, Option.some.injEq, Prod.mk.injEq] at hz
      obtain ⟨rfl, rfl⟩ := hz
      simp only [Bool.and_eq_true] at hb
      have hle := Nat.le_of_ble_eq_true hb.2.1
      have h0 : 0 < xs.length := Nat.le_of_ble_eq_true hb.2.2
      have rv := eval_rel i hx hy (by intros; simp)
      simp only [vrel] at rv
      obtain ⟨b, q, cap, sp, v1, v0, v2, v3, v4⟩ := rv
      have hsp : sp = none := v0 (fun e => by rw [e] at h0; simp at h0)
      subst hsp
      refine ⟨rfl, OpOk.pure i (base _ _ _ v1 hle) ?_⟩
      simp only [vrel]
      exact ⟨b, q, by simp, cellsAt_of' (elemsAt_flat v4).2⟩
  · rename_i id ver off l cap e' hy
    cases hb : (Nat.beq e' esz && Nat.ble len l) with
    | false => rw [hb] at hz; cases hz
    | true =>
      rw [hb] at hz
      simp only [cond_true, Option.some.injEq, Prod.mk.injEq] at hz
      obtain ⟨rfl, rfl⟩ := hz
      simp only [Bool.and_eq_true] at hb
      have hle := Nat.le_of_ble_eq_true hb.2
      have rv := eval_rel i hx hy (by intros; simp)
      simp only [vrel] at rv
      obtain ⟨v1, v2, v3, b, q, c, v4, v5, v6, v7⟩ := rv
      refine ⟨rfl, OpOk.pure i (base _ _ _ v4 hle) ?_⟩
      simp only [vrel]
      exact ⟨v1, v2, b, q, rfl, fun hv => ⟨(v7 hv).2.1, (v7 hv).2.2.1⟩⟩
  · cases hz

theorem ok1_some {r : Option AVal} {z : AVal} {s' : St} (h : ok1 s r = some (z, s')) : r = some z ∧ s' = s := by
  cases r with
  | none => cases h
  | some v => simp [ok1] at h; exact ⟨by rw [h.1], h.2.symm⟩

theorem ok_field (i : Inv n nt C Lm s a w) {o : Oper} {t : TypeId} {x : Operand} {k : Nat} (ho : o.op = .field t x k) {fs : Array Field} (hu : P.underlying t = some (.struct fs)) {f : Field} (hf : fs[k]? = some f)
    {m : Nat} {ag : Bool} (hm : sizeP P f.type = some m) (hg : aggP P f.type = some ag) {y : AOpd} (hx : trOpd x = some y) {C0 : Oracle} {z : AVal} {s' : St} (hz : aop C0 s (.field ag f.offset m y) = some (z, s')) :
    s' = s ∧ OpOk P n nt o C a w s z := by
  simp only [aop] at hz
  split at hz
  · rename_i cs hy
    obtain ⟨h1, rfl⟩ := ok1_some hz
    obtain ⟨o1, arr, v1, rv⟩ := vrel_agg (eval_rel i hx hy (by intros; simp))
    obtain ⟨v, p1, p2⟩ := part_ok hg hm rv o1 h1 w
    refine ⟨rfl, OpOk.pure i (v := v) ?_ p2⟩
    simp only [execOp, ho]
    refine run_v ?_
    rw [v1]
    simp [Instr.field, run_underlying hu, hf, asAgg, p1]
  · cases hz

theorem ok_indexArr (i : Inv n nt C Lm s a w) {o : Oper} {t e : TypeId} {x ix : Operand} (ho : o.op = .index t x ix) {len esz : Nat} {ag : Bool} (hu : P.underlying t = some (.array len e)) (he : sizeP P e = some esz) (hg : aggP P e = some ag)
    {y iy : AOpd} (hx : trOpd x = some y) (hix : trOpd ix = some iy) {C0 : Oracle} {z : AVal} {s' : St} (hz : aop C0 s (.indexArr ag len esz y iy) = some (z, s')) :
    s' = s ∧ OpOk P n nt o C a w s z := by
  simp only [aop] at hz
  split at hz
  · rename_i k cs hk hy
    obtain ⟨j, hj⟩ := nat_rel i hix hk
    cases hb : Nat.blt k len with
    | false => rw [hb] at hz; cases hz
    | true =>
    rw [hb] at hz
    simp only [cond_true] at hz
    have hlt : k < len := by simpa [Nat.blt_eq] using hb
    obtain ⟨h1, rfl⟩ := ok1_some hz
    obtain ⟨o1, arr, v1, rv⟩ := vrel_agg (eval_rel i hx hy (by intros; simp))
    obtain ⟨v, p1, p2⟩ := part_ok hg he rv o1 h1 w
    refine ⟨rfl, OpOk.pure i (v := v) ?_ p2⟩
    simp only [execOp, ho]
    refine run_v ?_
    rw [v1, hj]
    simp [Instr.index, run_underlying hu, asIntOf, hlt, sizeP_run he, p1]
  · cases hz

theorem ok_indexStr (i : Inv n nt C Lm s a w) {o : Oper} {t : TypeId} {x ix : Operand} (ho : o.op = .index t x ix) (hu : P.underlying t = some .string)
    {y iy : AOpd} (hx : trOpd x = some y) (hix : trOpd ix = some iy) {C0 : Oracle} {z : AVal} {s' : St} (hz : aop C0 s (.indexStr y iy) = some (z, s')) :
    s' = s ∧ OpOk P n nt o C a w s z := by
  simp only [aop] at hz
  split at hz
  · rename_i k b hk hy
    obtain ⟨j, hj⟩ := nat_rel i hix hk
    split at hz
    · rename_i c hc
      simp at hz
      obtain ⟨rfl, rfl⟩ := hz
      have rv := eval_rel i hx hy (by intros; simp)
      simp only [vrel] at rv
      obtain ⟨st, v1, v2⟩ := rv
      rw [← v2] at hc
      simp only [List.getElem?_map, Option.map_eq_some_iff] at hc
      obtain ⟨u, hu1, rfl⟩ := hc
      have hget : st[k]? = some u := by
        obtain ⟨hlt, e⟩ := List.getElem?_eq_some_iff.1 hu1
        have hlt' : k < st.size := by have := hlt; rw [Array.length_toList] at this; exact this
        rw [getElem?_pos st k hlt']
        congr 1
      refine ⟨rfl, OpOk.pure i (v := .int .u8 u.toNat) ?_ (by simp [vrel])⟩
      simp only [execOp, ho]
      refine run_v ?_
      rw [v1, hj]
      simp [Instr.index, run_underlying hu, asIntOf, hget]
    · cases hz
  · cases hz

theorem ok_nilCheck (i : Inv n nt C Lm s a w) {o : Oper} {x : Operand} (ho : o.op = .nilCheck x) {y : AOpd} (hx : trOpd x = some y) {C0 : Oracle} {z : AVal} {s' : St} (hz : aop C0 s (.nilCheck y) = some (z, s')) :
    s' = s ∧ OpOk P n nt o C a w s z := by
  simp only [aop] at hz
  have key : ∀ v, a.eval x = v → (∀ f b c, v ≠ .func (.method f) b c) → v ≠ .pointer none → v ≠ .nilIface → v ≠ .nilFunc → (execOp a.eval o).run P w = .ok (.value v) w := by
    intro v hv h1 h2 h3 h4
    simp only [execOp, ho, hv]
    cases v <;> first
      | rfl
      | (exact absurd rfl h3)
      | (exact absurd rfl h4)
      | (rename_i p; cases p <;> first | rfl | exact absurd rfl h2)
      | (rename_i f b c; cases f <;> first | rfl | exact absurd rfl (h1 _ _ _))
  split at hz
  · rename_i p q r' hy
    simp at hz; obtain ⟨rfl, rfl⟩ := hz
    obtain ⟨_, rv⟩ := nlO_rel i hx hy
    have rv' := rv
    simp only [vrel] at rv
    obtain ⟨_, _, b, q, v1, _⟩ := rv
    exact ⟨rfl, OpOk.pure i (key _ v1 (by simp) (by simp) (by simp) (by simp)) (by rw [← v1]; exact rv')⟩
  · rename_i p q hy
    simp at hz; obtain ⟨rfl, rfl⟩ := hz
    obtain ⟨_, rv⟩ := nlO_rel i hx hy
    have rv' := rv
    simp only [vrel] at rv
    exact ⟨rfl, OpOk.pure i (key _ rv (by simp) (by simp) (by simp) (by simp)) (by rw [← rv]; exact rv')⟩
  · rename_i p q hy
    simp at hz; obtain ⟨rfl, rfl⟩ := hz
    obtain ⟨_, rv⟩ := nlO_rel i hx hy
    have rv' := rv
    simp only [vrel] at rv
    obtain ⟨b, q, v1, _⟩ := rv
    exact ⟨rfl, OpOk.pure i (key _ v1 (by simp) (by simp) (by simp) (by simp)) (by rw [← v1]; exact rv')⟩
  · rename_i f p q hy
    simp at hz; obtain ⟨rfl, rfl⟩ := hz
    obtain ⟨_, rv⟩ := nlO_rel i hx hy
    have rv' := rv
    simp only [vrel] at rv
    obtain ⟨b, q, v1, _⟩ := rv
    exact ⟨rfl, OpOk.pure i (key _ v1 (by simp) (by simp) (by simp) (by simp)) (by rw [← v1]; exact rv')⟩
  · cases hz

theorem zeroP_ok {t : TypeId} {z : AVal} (h : zeroP P t = some z) : ∃ v, (zeroValue t).run P w = .ok v w ∧ vrel C z v := by
  unfold zeroP at h
  cases hi : P.info? t with
  | none => simp [hi] at h
  | some ti =>
    cases hzr : ti.zero with
    | none => simp [hi, hzr] at h
    | some v =>
      simp [hi, hzr] at h
      exact ⟨v, by simp [zeroValue, run_typeInfo' hi, hzr], trVal_rel C _ _ _ h⟩

theorem ok_assertC (i : Inv n nt C Lm s a w) {o : Oper} {x : Operand} {xt t : TypeId} {ok : Bool} (ho : o.op = .typeAssert x xt t ok) {d : TypeDesc} (hu : P.underlying t = some d) (hd : ∀ ms, d ≠ .interface ms)
    {y : AOpd} (hx : trOpd x = some y) {z0 : AVal} (hz0 : zeroP P t = some z0) {C0 : Oracle} {z : AVal} {s' : St} (hz : aop C0 s (.assertC t z0 y ok) = some (z, s')) : s' = s ∧ OpOk P n nt o C a w s z := by
  simp only [aop] at hz
  obtain ⟨zv, zr, zrel⟩ := zeroP_ok (P := P) (C := C) (w := w) hz0
  have fails : ∀ v, a.eval x = v → (v = .nilIface ∨ ∃ u q, v = .iface u q ∧ u ≠ t) → ok = true → (execOp a.eval o).run P w = .ok (.value (.tuple #[zv, .bool false])) w := by
    intro v hv h hk
    simp only [execOp, ho, hv, hk]
    refine run_v ?_
    rcases h with rfl | ⟨u, q, rfl, hne⟩
    · cases d <;> first | exact absurd rfl (hd _) | simp [Instr.typeAssert, run_underlying hu, zr]
    · cases d <;> first | exact absurd rfl (hd _) | simp [Instr.typeAssert, run_underlying hu, zr, hne]
  have relF : vrel C (.tup [z0, .bool false]) (.tuple #[zv, .bool false]) := by
    simp only [vrel]; exact ⟨_, rfl, by simp only [vrels, vrel]; exact ⟨zrel, trivial, trivial⟩⟩
  split at hz
  · rename_i hy
    have rv := eval_rel i hx hy (by intros; simp)
    simp only [vrel] at rv
    cases ok with
    | false => cases hz
    | true =>
      simp at hz; obtain ⟨rfl, rfl⟩ := hz
      exact ⟨rfl, OpOk.pure i (fails _ rv (.inl rfl) rfl) relF⟩
  · rename_i u v hy
    have rv := eval_rel i hx hy (by intros; simp)
    simp only [vrel] at rv
    obtain ⟨q, v1, v2⟩ := rv
    rw [cond_beq] at hz
    split at hz
    · rename_i hut
      subst hut
      have hrun : (execOp a.eval o).run P w = .ok (.value (if ok then .tuple #[q, .bool true] else q)) w := by
        simp only [execOp, ho, v1]
        refine run_v ?_
        cases d <;> first | exact absurd rfl (hd _) | simp [Instr.typeAssert, run_underlying hu]
      cases ok with
      | false => simp at hz; obtain ⟨rfl, rfl⟩ := hz; exact ⟨rfl, OpOk.pure i hrun (by simpa using v2)⟩
      | true =>
        simp at hz; obtain ⟨rfl, rfl⟩ := hz
        exact ⟨rfl, OpOk.pure i hrun (by simp only [vrel, if_true]; exact ⟨_, rfl, by simp only [vrels, vrel]; exact ⟨v2, trivial, trivial⟩⟩)⟩
    · rename_i hut
      cases ok with
      | false => cases hz
      | true =>
        simp at hz; obtain ⟨rfl, rfl⟩ := hz
        exact ⟨rfl, OpOk.pure i (fails _ v1 (.inr ⟨u, q, rfl, hut⟩) rfl) relF⟩
  · cases hz
end
end Wab
/- Operations that make memory. -/
namespace Wab
open Go

theorem clearT_get : ∀ (ks : List Nat) (t : Tr AVal) (j : Nat), (clearT ks t).get j = if j ∈ ks then some .dead else t.get j
  | [], t, j => by simp [clearT]
  | k :: ks, t, j => by
    rw [clearT, clearT_get ks, Tr.get_set]
    by_cases h1 : j ∈ ks
    · simp [h1]
    · by_cases h2 : j = k
      · simp [h2]
      · simp [h1, h2]

section
variable {P : Program} {n nt : Nat} {C : Ctx} {Lm : Nat → Option Nat} {s : St} {a : Act} {w : World}

/-- The frame's own box anew. -/
theorem newLoc_inv (i : Inv n nt C Lm s a w) (d : Nat) (der : List Nat) {cs : List AVal} {arr : Array Value} {ty : Nat} (rv : vrels C cs arr.toList) (ov : cs.all one = true) :
    Inv n nt (C.newL (.cells arr ty (0, 0))) (fun x => if x = d then some C.H.size else Lm x) (newLoc s d der ty cs) a { w with heap := w.heap.push (.cells arr ty (0, 0)) } := by
  have hV := newL_V i.hr (.cells arr ty (0, 0))
  have hH := newL_H i.hr (.cells arr ty (0, 0))
  have hold : ∀ b, b < C.H.size → (C.newL (.cells arr ty (0, 0))).H[b]? = C.H[b]? := fun b hb => by
    simp only [Ctx.newL]; rw [Array.getElem?_push, if_neg (by omega)]
  refine ⟨by simp [Ctx.newL, i.heap], i.σ, hH, by simp only [Ctx.newL, Array.size_push]; have := i.base; omega, i.size, fun t => ?_, fun d' bx hb => ?_, fun d' b hb => ?_, fun d1 d2 b h1 h2 => ?_, defRel_mono hV _ _ i.de⟩
  · simp only [newLoc, clearT_get]
    by_cases hc : t ∈ d :: oldDer s.l d
    · rw [if_pos hc]
      exact ⟨fun d' off e => (by cases e), fun _ => by simp [vrel]⟩
    · rw [if_neg hc]
      refine ⟨fun d' off e => ?_, fun hx => vrel_mono hV _ _ ((i.tm t).2 hx)⟩
      obtain ⟨⟨bx, p1, p2⟩, b, p3, p4⟩ := (i.tm t).1 d' off e
      have hne : d' ≠ d := by
        intro e'; subst e'
        have hod : oldDer s.l d' = bx.der := by unfold oldDer; rw [p1]
        rw [hod] at hc
        rcases p2 with p2 | p2
        · exact hc (by simp [p2])
        · exact hc (by simp [p2])
      refine ⟨⟨bx, by rw [Tr.get_set, if_neg hne]; exact p1, p2⟩, b, by show (if d' = d then some C.H.size else Lm d') = some b; rw [if_neg hne]; exact p3, p4⟩
  · simp only [newLoc, Tr.get_set] at hb
    by_cases hdd : d' = d
    · subst hdd
      rw [if_pos rfl] at hb; injection hb with hb; subst hb
      refine ⟨C.H.size, by simp, arr, by simp [Ctx.newL], by have := vrels_length rv; simp at this; simp; omega, fun j x hx => ?_⟩
      obtain ⟨u, hu, ru⟩ := vrels_get rv j x hx
      refine ⟨?_, u, ?_, vrel_mono hV _ _ ru⟩
      · rw [List.all_eq_true] at ov; exact ov _ (List.mem_of_getElem? hx)
      · simp only [Ctx.newL]; rw [cellH_push_new]; simpa using hu
    · rw [if_neg hdd] at hb
      obtain ⟨b, h1, h2⟩ := i.lo d' bx hb
      exact ⟨b, by show (if d' = d then some C.H.size else Lm d') = some b; rw [if_neg hdd]; exact h1, boxRel_mono hV (hold b (i.lb d' b h1).2.1) h2⟩
  · by_cases hdd : d' = d
    · rw [if_pos hdd] at hb; injection hb with hb; subst hb
      exact ⟨i.base, by simp [Ctx.newL], .inr rfl⟩
    · rw [if_neg hdd] at hb
      obtain ⟨h1, h2, h3⟩ := i.lb d' b hb
      exact ⟨h1, by simp only [Ctx.newL, Array.size_push]; omega, .inl h3⟩
  · by_cases e1 : d1 = d <;> by_cases e2 : d2 = d
    · rw [e1, e2]
    · rw [if_pos e1] at h1; rw [if_neg e2] at h2; injection h1 with h1; have := (i.lb d2 b h2).2.1; omega
    · rw [if_neg e1] at h1; rw [if_pos e2] at h2; injection h2 with h2; have := (i.lb d1 b h1).2.1; omega
    · rw [if_neg e1] at h1; rw [if_neg e2] at h2; exact i.li d1 d2 b h1 h2

theorem newLoc_ok (i : Inv n nt C Lm s a w) {o : Oper} {d : Nat} (hd : o.dst = some d) (der : List Nat) {cs : List AVal} {arr : Array Value} {ty : Nat} (rv : vrels C cs arr.toList) (ov : cs.all one = true)
    (hr : (execOp a.eval o).run P w = .ok (.value (.pointer (some ⟨w.heap.size, 0, none⟩))) { w with heap := w.heap.push (.cells arr ty (0, 0)) }) : OpOk P n nt o C a w (newLoc s d der ty cs) (.loc d 0) := by
  refine OpOk.value hr (newLoc_inv i d der rv ov) (fun d' hd' => ?_) (newL_S i.hr n i.base _ rfl rfl rfl)
  rw [hd] at hd'; injection hd' with hd'; subst hd'
  refine ⟨fun d1 off e => ?_, fun h => absurd rfl (h d 0)⟩
  injection e with e1 e2; subst e1; subst e2
  refine ⟨⟨{ cells := cs, der := der, ty := ty }, by simp [newLoc, Tr.get_set], .inl rfl⟩, C.H.size, by simp, by rw [i.heap]⟩

/-- A step that makes a block nobody writes. -/
theorem plain_V (h : HRel C) (o : Obj) : V C { C with H := C.H.push o } := by
  refine ⟨fun _ h => h, fun _ _ m => m, fun id hi => ⟨Nat.le_refl _, fun _ => ⟨rfl, Nat.le_refl _, ?_⟩⟩, fun k hk h1 h2 => ⟨?_, h1, h2⟩⟩
  · have := h.blk_lt hi
    simp only [Ctx.asize, sizeH]
    rw [Array.getElem?_push, if_neg (by omega)]
  · show (C.H.push o)[k]? = _
    rw [Array.getElem?_push, if_neg (by omega)]

theorem plain_H (h : HRel C) (o : Obj) : HRel { C with H := C.H.push o } := by
  have v := plain_V h o
  refine ⟨fun id hi => ?_, h.gone, h.inj, h.free, fun k hk => ?_, h.lock⟩
  · obtain ⟨b, g, r⟩ := h.here id hi
    refine ⟨b, g, blockRel_mono v ?_ r⟩
    have := h.blk_lt hi
    show (C.H.push o)[(C.mu id).blk]? = _
    rw [Array.getElem?_push, if_neg (by omega)]
  · have := h.small k hk; simp only [Array.size_push]; omega

theorem plain_S (h : HRel C) (n : Nat) (hn : n ≤ C.H.size) (o : Obj) {w w' : World} (h1 : w'.os = w.os) (h2 : w'.tape = w.tape) (h3 : w'.output = w.output) : Stp n C w { C with H := C.H.push o } w' := by
  refine ⟨h1, h2, h3, by simp, Nat.le_refl _, plain_V h o, fun k hk ho => ⟨?_, ho⟩, fun _ _ => Iff.rfl, rfl, fun _ _ => ⟨rfl, rfl⟩⟩
  show (C.H.push o)[k]? = _
  rw [Array.getElem?_push, if_neg (by omega)]

theorem plain_inv (i : Inv n nt C Lm s a w) (o : Obj) : Inv n nt { C with H := C.H.push o } Lm s a { w with heap := w.heap.push o } := by
  have := i.step (C' := { C with H := C.H.push o }) (w' := { w with heap := w.heap.push o }) (plain_V i.hr o) (plain_H i.hr o) (by simp) (by simp [i.heap]) (h' := s.h) i.σ (fun d b hb => by
    obtain ⟨h1, h2, h3⟩ := i.lb d b hb
    exact ⟨by show (C.H.push o)[b]? = _; rw [Array.getElem?_push, if_neg (by omega)], h3⟩)
  exact this

/-- A step that makes a block of the abstract heap's. -/
theorem push_inv (i : Inv n nt C Lm s a w) {o : Obj} {b : ABlock} (hb : blockRel (C.push o b) ⟨C.H.size, 0⟩ b) {w' : World} (hw : w'.heap = w.heap.push o) :
    Inv n nt (C.push o b) Lm { s with h := s.h.push b } a w' := by
  refine i.step (push_V i.hr o b) (push_H i.hr o b hb) (by simp [Ctx.pushAt]) (by rw [hw, i.heap]; rfl) ?_ (fun d k hk => ?_)
  · rw [← i.σ]; rfl
  · obtain ⟨h1, h2, h3⟩ := i.lb d k hk
    exact ⟨by simp only [Ctx.pushAt]; rw [Array.getElem?_push, if_neg (by omega)], h3⟩

theorem push_block (h : HRel C) {arr : Array Value} {cs : List AVal} {ty : Nat} {fr : Nat × Nat} {sx : Bool} (hle : cs.length ≤ arr.size)
    (hc : ∀ (i : Nat) (x : AVal), cs[i]? = some x → one x = true ∧ ∃ v, arr[i]? = some v ∧ vrel C x v) (hfr : frOk fr 0 0 sx arr.size) :
    blockRel (C.push (.cells arr ty fr) (.cells 0 ty cs 0 sx)) ⟨C.H.size, 0⟩ (.cells 0 ty cs 0 sx) := by
  have v := push_V h (.cells arr ty fr) (.cells 0 ty cs 0 sx)
  simp only [blockRel]
  refine ⟨arr, fr, by simp [Ctx.pushAt], by simpa using hle, fun j hj => ?_, hfr⟩
  obtain ⟨h1, u, h2, h3⟩ := hc j cs[j] (by simp)
  refine ⟨h1, u, ?_, vrel_mono v _ _ h3⟩
  show cellH (C.H.push _) C.H.size (0 + j) = some u
  rw [cellH_push_new, Nat.zero_add]; exact h2

theorem push_facts (_h : HRel C) (o : Obj) (b : ABlock) : (C.push o b).live C.σ.next ∧ (C.push o b).mu C.σ.next = ⟨C.H.size, 0⟩ ∧ (C.push o b).σ.m.get C.σ.next = some b := by
  refine ⟨pushAt_live.2 (.inl rfl), by simp [Ctx.pushAt], by rw [pushAt_get, if_pos rfl]⟩

theorem cells_hyp {cs : List AVal} {arr : Array Value} (rv : vrels C cs arr.toList) (ov : cs.all one = true) : ∀ (i : Nat) (x : AVal), cs[i]? = some x → one x = true ∧ ∃ v, arr[i]? = some v ∧ vrel C x v := by
  intro j x hx
  obtain ⟨u, hu, ru⟩ := vrels_get rv j x hx
  exact ⟨by rw [List.all_eq_true] at ov; exact ov _ (List.mem_of_getElem? hx), u, by simpa using hu, ru⟩

/-- A variable of the heap's. -/
theorem newVar_ok (i : Inv n nt C Lm s a w) {o : Oper} {cs : List AVal} {arr : Array Value} {ty : Nat} (rv : vrels C cs arr.toList) (ov : cs.all one = true)
    (hr : (execOp a.eval o).run P w = .ok (.value (.pointer (some ⟨w.heap.size, 0, none⟩))) { w with heap := w.heap.push (.cells arr ty (0, 0)) }) :
    OpOk P n nt o C a w { s with h := s.h.push (.cells 0 ty cs 0 false) } (.ptr s.h.next 0 0) := by
  have hl := vrels_length rv
  have hb := push_block (ty := ty) (fr := (0, 0)) (sx := false) i.hr (by simp at hl; omega) (cells_hyp rv ov) (.inl rfl)
  refine OpOk.value hr (push_inv i hb rfl) (fun d _ => trel_of_vrel ?_) (push_S i.hr n i.base _ _ rfl rfl rfl)
  obtain ⟨f1, f2, f3⟩ := push_facts i.hr (.cells arr ty (0, 0)) (.cells 0 ty cs 0 false)
  simp only [vrel]
  rw [← i.σ]
  refine ⟨f1, Nat.zero_le _, _, _, rfl, fun _ => ?_⟩
  rw [f2]
  exact ⟨by rw [i.heap], rfl⟩

theorem zeroC_ok' {t : TypeId} {cs : List AVal} (h : zeroC P t = some cs) : ∃ ti v m, P.info? t = some ti ∧ ti.zero = some v ∧ sizeP P t = some m ∧ ti.size = m ∧ cs.length = m ∧ (∀ w : World, (zeroValue t).run P w = .ok v w) ∧ (∀ C : Ctx, vrels C cs v.cells.toList) ∧ cs.all one = true := by
  unfold zeroC at h
  cases hi : P.info? t with
  | none => simp [hi] at h
  | some ti =>
    cases hz : ti.zero with
    | none => simp [hi, hz] at h
    | some v =>
      have hs : sizeP P t = some ti.size := by simp [sizeP, hi]
      simp only [hi, Option.bind_some, hz, hs] at h
      cases hv : trVals depthV v.cells.toList with
      | none => simp [hv] at h
      | some l =>
        rw [hv] at h
        cases ho : (l.all one && Nat.beq l.length ti.size) with
        | false => simp only [ho, cond_false] at h; cases h
        | true =>
          simp only [ho, cond_true, Option.some.injEq] at h
          subst h
          rw [Bool.and_eq_true] at ho
          exact ⟨ti, v, ti.size, rfl, hz, hs, rfl, Nat.eq_of_beq_eq_true ho.2, fun w => by simp [zeroValue, run_typeInfo' hi, hz], fun C => trVals_rel C _ _ _ hv, ho.1⟩

theorem zeroC_ok {t : TypeId} {cs : List AVal} (h : zeroC P t = some cs) : ∃ v, (∀ w : World, (zeroValue t).run P w = .ok v w) ∧ (∀ C : Ctx, vrels C cs v.cells.toList) ∧ cs.all one = true := by
  obtain ⟨ti, v, m, _, _, _, _, _, h1, h2, h3⟩ := zeroC_ok' h
  exact ⟨v, h1, h2, h3⟩

theorem zeroC_len {t : TypeId} {cs : List AVal} (h : zeroC P t = some cs) {m : Nat} (hm : sizeP P t = some m) : cs.length = m := by
  obtain ⟨ti, v, k, _, _, h1, _, h2, _⟩ := zeroC_ok' h
  rw [h1] at hm; injection hm with hm; omega

theorem ok_alloc (i : Inv n nt C Lm s a w) {o : Oper} {e : TypeId} (ho : o.op = .alloc e) {zs : List AVal} (hz : zeroC P e = some zs) {d : Nat} (hd : o.dst = some d) (der : List Nat) :
    OpOk P n nt o C a w (newLoc s d der e zs) (.loc d 0) ∧ OpOk P n nt o C a w { s with h := s.h.push (.cells 0 e zs 0 false) } (.ptr s.h.next 0 0) := by
  obtain ⟨v, h1, h2, h3⟩ := zeroC_ok hz
  have hr : (execOp a.eval o).run P w = .ok (.value (.pointer (some ⟨w.heap.size, 0, none⟩))) { w with heap := w.heap.push (.cells v.cells e (0, 0)) } := by
    simp only [execOp, ho]
    exact run_v (by simp [Instr.alloc, h1, newVar, newRow])
  exact ⟨newLoc_ok i hd der (h2 C) h3 hr, newVar_ok i (h2 C) h3 hr⟩

theorem ok_box (i : Inv n nt C Lm s a w) {o : Oper} {e : TypeId} {x : Operand} (ho : o.op = .box e x) {y : AOpd} (hx : trOpd x = some y) {z : AVal} (hz : nlO s.t y = some z) (ov : oneV z = true) {d : Nat} (hd : o.dst = some d) (der : List Nat) :
    OpOk P n nt o C a w (newLoc s d der e z.cells) (.loc d 0) ∧ OpOk P n nt o C a w { s with h := s.h.push (.cells 0 e z.cells 0 false) } (.ptr s.h.next 0 0) := by
  obtain ⟨h1, h2⟩ := cells_rel ov (nlO_rel i hx hz).2
  have hr : (execOp a.eval o).run P w = .ok (.value (.pointer (some ⟨w.heap.size, 0, none⟩))) { w with heap := w.heap.push (.cells (a.eval x).cells e (0, 0)) } := by
    simp only [execOp, ho]
    exact run_v (by simp [Instr.box, newVar, newRow])
  exact ⟨newLoc_ok i hd der h2 h1 hr, newVar_ok i h2 h1 hr⟩
end
end Wab
/- Literals; new slices, maps, iterators. -/
namespace Wab
open Go

theorem foldset (off : Nat) : ∀ (l : List Value) (k : Nat) (arr : Array Value), off + k + l.length ≤ arr.size →
    ((l.zipIdx k).foldl (fun cs p => cs.setIfInBounds (off + p.2) p.1) arr).size = arr.size ∧
    ∀ i : Nat, ((l.zipIdx k).foldl (fun cs p => cs.setIfInBounds (off + p.2) p.1) arr)[i]? = if off + k ≤ i ∧ i < off + k + l.length then l[i - (off + k)]? else arr[i]?
  | [], k, arr, h => ⟨rfl, fun i => by rw [if_neg (by simp only [List.length_nil]; omega)]; rfl⟩
  | v :: l, k, arr, h => by
    simp only [List.length_cons] at h
    obtain ⟨h1, h2⟩ := foldset off l (k + 1) (arr.setIfInBounds (off + k) v) (by simp; omega)
    simp only [List.zipIdx_cons, List.foldl_cons]
    refine ⟨by simpa using h1, fun i => ?_⟩
    rw [h2 i]
    by_cases c : off + (k + 1) ≤ i ∧ i < off + (k + 1) + l.length
    · rw [if_pos c, if_pos (by simp only [List.length_cons]; omega)]
      rw [show i - (off + k) = (i - (off + (k + 1))) + 1 from by omega]; simp
    · rw [if_neg c, Array.getElem?_setIfInBounds]
      by_cases e : off + k = i
      · subst e
        rw [if_pos rfl, if_pos (by omega), if_pos (by simp only [List.length_cons]; omega)]; simp
      · rw [if_neg e, if_neg (by simp only [List.length_cons]; omega)]

section
variable {P : Program} {n nt : Nat} {C : Ctx} {Lm : Nat → Option Nat} {s : St} {a : Act} {w : World}

theorem fill_ok (i : Inv n nt C Lm s a w) {place : Nat → Option (Nat × Nat)} : ∀ (ops : List (Nat × Operand)) (parts : List (Nat × Nat × AOpd)) (cs cs' : List AVal) (arr : Array Value),
    trParts place ops = some parts → fillP s.t parts cs = some cs' → vrels C cs arr.toList → cs.all one = true →
    ∃ arr', Instr.fill place arr (ops.map fun p => (p.1, a.eval p.2)) = some arr' ∧ vrels C cs' arr'.toList ∧ cs'.all one = true ∧ cs'.length = cs.length
  | [], parts, cs, cs', arr, h1, h2, rv, ov => by
    simp [trParts] at h1; subst h1
    simp [fillP] at h2; subst h2
    exact ⟨arr, rfl, rv, ov, rfl⟩
  | (k, x) :: ops, parts, cs, cs', arr, h1, h2, rv, ov => by
    unfold trParts at h1
    cases e1 : place k with
    | none => simp [e1] at h1
    | some p =>
    obtain ⟨off, m⟩ := p
    cases e2 : trOpd x with
    | none => simp [e1, e2] at h1
    | some y =>
    cases e3 : trParts place ops with
    | none => simp [e1, e2, e3] at h1
    | some r =>
    simp only [e1, e2, e3, Option.some.injEq] at h1
    subst h1
    unfold fillP at h2
    cases e4 : nlO s.t y with
    | none => simp [e4] at h2
    | some v =>
    rw [e4] at h2
    simp only at h2
    cases e5 : (Nat.beq v.cells.length m && oneV v) with
    | false => simp [e5] at h2
    | true =>
    simp only [e5, cond_true] at h2
    simp only [Bool.and_eq_true] at e5
    have hm := Nat.eq_of_beq_eq_true e5.1
    cases e6 : putAt cs off v.cells with
    | none => simp [e6] at h2
    | some cs1 =>
    rw [e6] at h2
    simp only at h2
    obtain ⟨q1, q2, q3⟩ := putAt_some e6
    obtain ⟨c1, c2⟩ := cells_rel e5.2 (nlO_rel i e2 e4).2
    have hl := vrels_length c2
    have hl2 := vrels_length rv
    simp only [Array.length_toList] at hl hl2
    obtain ⟨f1, f2⟩ := foldset off (a.eval x).cells.toList 0 arr (by simp; omega)
    have hfold : (a.eval x).cells.zipIdx.foldl (fun cs p => cs.setIfInBounds (off + p.2) p.1) arr = ((a.eval x).cells.toList.zipIdx 0).foldl (fun cs p => cs.setIfInBounds (off + p.2) p.1) arr := by
      rw [← Array.foldl_toList, Array.toList_zipIdx]
    have rv1 : vrels C cs1 ((a.eval x).cells.zipIdx.foldl (fun cs p => cs.setIfInBounds (off + p.2) p.1) arr).toList := by
      rw [hfold]
      refine vrels_of (by simp only [Array.length_toList]; omega) fun j z u hz hu => ?_
      rw [Array.getElem?_toList, f2 j] at hu
      rw [q3 j] at hz
      simp only [Nat.add_zero, Array.length_toList] at hu
      by_cases c : off ≤ j ∧ j < off + v.cells.length
      · rw [if_pos c] at hz
        rw [if_pos (by omega)] at hu
        obtain ⟨u', hu', ru⟩ := vrels_get c2 _ z hz
        rw [hu'] at hu; injection hu with hu; subst hu; exact ru
      · rw [if_neg c] at hz
        rw [if_neg (by omega)] at hu
        obtain ⟨u', hu', ru⟩ := vrels_get rv _ z hz
        rw [Array.getElem?_toList] at hu'
        rw [hu'] at hu; injection hu with hu; subst hu; exact ru
    have ov1 : cs1.all one = true := by
      rw [List.all_eq_true]
      intro z hz
      obtain ⟨j, hj, e⟩ := List.getElem_of_mem hz
      have := q3 j
      rw [List.getElem?_eq_getElem hj, e] at this
      rw [List.all_eq_true] at ov c1
      by_cases c : off ≤ j ∧ j < off + v.cells.length
      · rw [if_pos c] at this; exact c1 z (List.mem_of_getElem? this.symm)
      · rw [if_neg c] at this; exact ov z (List.mem_of_getElem? this.symm)
    obtain ⟨arr', g1, g2, g3, g4⟩ := fill_ok i ops r cs1 cs' _ e3 h2 rv1 ov1
    refine ⟨arr', ?_, g2, g3, by omega⟩
    simp only [List.map_cons, Instr.fill, e1]
    rw [if_neg]
    · exact g1
    · simp; omega

theorem mapM_sizes : ∀ (fs : List Field), (fs.map fun f => (sizeP P f.type).map fun n => (f.offset, n)).all Option.isSome = true →
    ∃ l : List (Nat × Nat), (∀ w : World, (fs.mapM (fun f => do pure (f.offset, ← Go.sizeOf f.type) : Field → Sem (Nat × Nat))).run P w = .ok l w) ∧ l.map some = fs.map fun f => (sizeP P f.type).map fun n => (f.offset, n)
  | [], _ => ⟨[], fun w => by simp, rfl⟩
  | f :: fs, h => by
    simp only [List.map_cons, List.all_cons, Bool.and_eq_true] at h
    obtain ⟨l, h1, h2⟩ := mapM_sizes fs h.2
    cases hm : sizeP P f.type with
    | none => simp [hm] at h
    | some m => exact ⟨(f.offset, m) :: l, fun w => by simp only [List.mapM_cons, Sem.run_bind, sizeP_run hm, Result.andThen_ok, Sem.run_pure, h1], by simp [hm, h2]⟩

theorem parts_map (ps : Array (Nat × Operand)) (ρ : Operand → Value) : (ps.map fun (i, x) => (i, ρ x)).toList = ps.toList.map fun p => (p.1, ρ p.2) := by
  simp

theorem ok_build_struct (i : Inv n nt C Lm s a w) {o : Oper} {t : TypeId} {parts : Array (Nat × Operand)} (ho : o.op = .build t parts) {zs : List AVal} (hz : zeroC P t = some zs) {fs : Array Field} (hu : P.underlying t = some (.struct fs))
    (hf : (fieldsP P fs).all Option.isSome = true) {ps : List (Nat × Nat × AOpd)} (hp : trParts (fun i => ((fieldsP P fs)[i]?).bind id) parts.toList = some ps) {cs : List AVal} (hc : fillP s.t ps zs = some cs) : OpOk P n nt o C a w s (.agg cs) := by
  obtain ⟨v, h1, h2, h3⟩ := zeroC_ok hz
  obtain ⟨l, l1, l2⟩ := mapM_sizes (P := P) fs.toList hf
  have hplace : (fun i => ((fieldsP P fs)[i]?).bind id) = fun (i : Nat) => (l.toArray[i]? : Option (Nat × Nat)) := by
    funext k
    unfold fieldsP
    rw [← l2]
    simp only [List.getElem?_map, List.getElem?_toArray]
    cases l[k]? <;> rfl
  rw [hplace] at hp
  obtain ⟨arr', g1, g2, g3, g4⟩ := fill_ok i _ ps zs cs v.cells hp hc (h2 C) h3
  refine OpOk.pure i (v := .agg arr') ?_ (by simp only [vrel]; exact ⟨g3, _, rfl, g2⟩)
  simp only [execOp, ho]
  refine run_v ?_
  have hm : (fs.mapM (fun f => do pure (f.offset, ← Go.sizeOf f.type) : Field → Sem (Nat × Nat))).run P w = .ok l.toArray w := by
    rw [Array.mapM_eq_mapM_toList, Sem.run_map, l1]; rfl
  simp only [Instr.build, Sem.run_bind, h1, Result.andThen_ok, run_underlying hu, hm, parts_map, g1, Sem.run_pure]

theorem ok_build_array (i : Inv n nt C Lm s a w) {o : Oper} {t e : TypeId} {parts : Array (Nat × Operand)} (ho : o.op = .build t parts) {zs : List AVal} (hz : zeroC P t = some zs) {len m : Nat} (hu : P.underlying t = some (.array len e))
    (he : sizeP P e = some m) {ps : List (Nat × Nat × AOpd)} (hp : trParts (fun i => some (i * m, m)) parts.toList = some ps) {cs : List AVal} (hc : fillP s.t ps zs = some cs) : OpOk P n nt o C a w s (.agg cs) := by
  obtain ⟨v, h1, h2, h3⟩ := zeroC_ok hz
  obtain ⟨arr', g1, g2, g3, g4⟩ := fill_ok i _ ps zs cs v.cells hp hc (h2 C) h3
  refine OpOk.pure i (v := .agg arr') ?_ (by simp only [vrel]; exact ⟨g3, _, rfl, g2⟩)
  simp only [execOp, ho]
  refine run_v ?_
  simp only [Instr.build, Sem.run_bind, h1, Result.andThen_ok, run_underlying hu, sizeP_run he, parts_map, g1, Sem.run_pure]

/-- zero cells, over and over -/
theorem rep_cells {zs : List AVal} {zc : Array Value} (r : vrels C zs zc.toList) {m : Nat} (hm : zs.length = m) (h0 : 0 < m) (k : Nat) : vrels C (List.replicate k zs).flatten (((Array.range (k * m)).map (zc[· % zc.size]!)).toList) := by
  have hl := vrels_length r
  simp only [Array.length_toList] at hl
  refine vrels_of (by simp [hm]) fun j z u hz hu => ?_
  simp only [Array.toList_map, List.getElem?_map, Array.getElem?_toList, Option.map_eq_some_iff] at hu
  obtain ⟨j', hj', rfl⟩ := hu
  have hjj : j' = j ∧ j < k * m := by
    rw [Array.getElem?_eq_some_iff] at hj'
    obtain ⟨h, e⟩ := hj'
    simp at h e
    exact ⟨e.symm, h⟩
  obtain ⟨rfl, hjk⟩ := hjj
  have hz' : zs[j' % m]? = some z := by
    clear hj' r hl
    induction k generalizing j' with
    | zero => omega
    | succ k ih =>
      rw [List.replicate_succ, List.flatten_cons, List.getElem?_append] at hz
      split at hz
      · rename_i hlt
        rw [Nat.mod_eq_of_lt (by omega)]; exact hz
      · rename_i hge
        rw [hm] at hge hz
        have := ih (j' - m) hz (by rw [Nat.succ_mul] at hjk; omega)
        rw [← Nat.sub_add_cancel (show m ≤ j' by omega), Nat.add_mod_right]; exact this
  obtain ⟨u, hu, ru⟩ := vrels_get r _ z hz'
  have hlt : j' % zc.size < zc.size := Nat.mod_lt _ (by omega)
  rw [Array.getElem?_toList] at hu
  have : zc[j' % zc.size]! = u := by
    rw [← hl, hm]
    rw [getElem!_def, hu]
  rw [this]; exact ru

theorem rep_one {zs : List AVal} (h : zs.all one = true) (k : Nat) : (List.replicate k zs).flatten.all one = true := by
  rw [List.all_eq_true] at h ⊢
  intro x hx
  obtain ⟨l, hl, hx⟩ := List.mem_flatten.1 hx
  rw [List.mem_replicate] at hl
  exact h x (hl.2 ▸ hx)

theorem chunks_get : ∀ (k e : Nat) (l : List AVal) (i : Nat), i < k → (chunks k e l)[i]? = some ((l.drop (i * e)).take e)
  | 0, _, _, i, h => by omega
  | k + 1, e, l, 0, h => by simp [chunks]
  | k + 1, e, l, i + 1, h => by
    simp only [chunks, List.getElem?_cons_succ]
    rw [chunks_get k e (l.drop e) i (by omega), List.drop_drop, Nat.succ_mul, Nat.add_comm e]

theorem chunks_length : ∀ (k e : Nat) (l : List AVal), (chunks k e l).length = k
  | 0, _, _ => rfl
  | k + 1, e, l => by simp [chunks, chunks_length k]

/-- A literal slice, in both of its abstract forms. -/
theorem ok_buildSlice (i : Inv n nt C Lm s a w) {o : Oper} {t e : TypeId} {len : Nat} {parts : Array (Nat × Operand)} (ho : o.op = .buildSlice t len parts) {m : Nat} (hu : P.underlying t = some (.slice e)) (he : sizeP P e = some m) {zs : List AVal}
    (hz : zeroC P e = some zs) (hzl : zs.length = m) (h0 : 0 < m) (hle : len * m ≤ 16777216) {ps : List (Nat × Nat × AOpd)} (hp : trParts (fun i => some (i * m, m)) parts.toList = some ps) {cs : List AVal} (hc : fillP s.t ps (List.replicate len zs).flatten = some cs) :
    OpOk P n nt o C a w { s with h := s.h.push (.cells 0 e cs 0 false) } (.sl s.h.next 0 0 len (some len) m) ∧ (cs.all pureC = true → OpOk P n nt o C a w s (.imm m (chunks len m cs) true)) := by
  obtain ⟨v, h1, h2, h3⟩ := zeroC_ok hz
  have hz0 := rep_cells (h2 C) hzl h0 len
  have hone := rep_one h3 len
  obtain ⟨arr', g1, g2, g3, g4⟩ := fill_ok i _ ps _ cs _ hp hc hz0 hone
  have hcl : cs.length = len * m := by rw [g4]; simp [hzl]
  have hal : arr'.size = len * m := by have := vrels_length g2; simp at this; omega
  have hr : (execOp a.eval o).run P w = .ok (.value (.slice (some ⟨w.heap.size, 0, none⟩) len len)) { w with heap := w.heap.push (.cells arr' e (0, 0)) } := by
    simp only [execOp, ho]
    refine run_v ?_
    have hnot : ¬ len * m > 2 ^ 24 := by
      have : (2 : Nat) ^ 24 = 16777216 := by decide
      omega
    by_cases hlz : len * m = 0
    · have hlen : len = 0 := by
        rcases Nat.mul_eq_zero.1 hlz with h | h
        · exact h
        · omega
      subst hlen
      have hr0 : ∀ z : Array Value, (Array.range (0 * m)).map (fun i => z[i % z.size]!) = #[] := fun z => by simp
      rw [hr0] at g1
      have hn2 : ¬ 0 * m > 2 ^ 24 := by omega
      simp only [Instr.buildSlice, Sem.run_bind, run_underlying hu, Result.andThen_ok, sizeP_run he, hlz, if_true, Sem.run_pure, Sem.run_ite, parts_map]
      rw [Nat.zero_mul] at hr0
      simp only [hr0, g1]
      simp [newRow]
    · simp only [Instr.buildSlice, Sem.run_bind, run_underlying hu, Result.andThen_ok, sizeP_run he, if_neg hnot, if_neg hlz, h1, Sem.run_pure, Sem.run_ite, parts_map, g1]
      simp [newRow]
  constructor
  · have hb := push_block (ty := e) (fr := (0, 0)) (sx := false) i.hr (by omega) (cells_hyp g2 g3) (.inl rfl)
    refine OpOk.value hr (push_inv i hb rfl) (fun d _ => trel_of_vrel ?_) (push_S i.hr n i.base _ _ rfl rfl rfl)
    obtain ⟨f1, f2, f3⟩ := push_facts i.hr (.cells arr' e (0, 0)) (.cells 0 e cs 0 false)
    simp only [vrel]
    rw [← i.σ]
    refine ⟨f1, Nat.zero_le _, h0, _, _, _, rfl, Nat.le_refl _, fun k hk => by injection hk with hk, fun _ => ?_⟩
    have hkn : (C.push (.cells arr' e (0, 0)) (.cells 0 e cs 0 false)).known C.σ.next = cs.length := by simp [Ctx.known, f3]
    rw [f2, hkn]
    refine ⟨by omega, by rw [i.heap], rfl, by omega⟩
  · intro hpc
    refine OpOk.value hr (plain_inv i _) (fun d _ => trel_of_vrel ?_) (plain_S i.hr n i.base _ rfl rfl rfl)
    simp only [vrel]
    refine ⟨w.heap.size, 0, len, none, by rw [chunks_length], fun _ => rfl, by rw [chunks_length]; exact Nat.le_refl _, fun _ => by rw [chunks_length], ?_⟩
    have hV := plain_V i.hr (.cells arr' e (0, 0))
    have hown : ¬ (({ C with H := C.H.push (.cells arr' e (0, 0)) } : Ctx)).Own w.heap.size := by
      rintro ⟨id, hi, hb⟩
      have := i.hr.blk_lt (id := id) hi
      rw [i.heap] at hb
      simp only at hb
      omega
    have hF : ¬ C.F w.heap.size := fun h => by have := i.hr.small _ h; rw [i.heap] at this; omega
    refine elemsAt_of fun k x hx => ?_
    have hk : k < len := by
      have := (List.getElem?_eq_some_iff.1 hx).1
      rwa [chunks_length] at this
    rw [chunks_get len m cs k hk] at hx
    injection hx with hx
    subst hx
    have hkm : k * m + m ≤ len * m := by rw [← Nat.succ_mul]; exact Nat.mul_le_mul_right _ hk
    refine ⟨by simp; omega, cellsAt_of hown hF fun j z hz => ?_⟩
    rw [List.getElem?_take] at hz
    split at hz
    · rw [List.getElem?_drop] at hz
      obtain ⟨q1, u, q2, q3⟩ := cells_hyp g2 g3 _ z hz
      refine ⟨by rw [List.all_eq_true] at hpc; exact hpc z (List.mem_of_getElem? hz), q1, u, ?_, vrel_mono hV _ _ q3⟩
      show cellH (C.H.push _) w.heap.size _ = some u
      rw [i.heap, cellH_push_new, Nat.zero_add]; exact q2
    · simp at hz
end
end Wab
/- Slice expressions; lengths; conversions; iterators over strings. -/
namespace Wab
open Go

section
variable {P : Program} {n nt : Nat} {C : Ctx} {Lm : Nat → Option Nat} {s : St} {a : Act} {w : World}

theorem trOO_none {x : Option Operand} {y : Option AOpd} (h : trOO x = some y) : (x = none ∧ y = none) ∨ ∃ z u, x = some z ∧ y = some u ∧ trOpd z = some u := by
  cases x with
  | none => simp [trOO] at h; exact .inl ⟨rfl, h.symm⟩
  | some z =>
    simp only [trOO, Option.map_eq_some_iff] at h
    obtain ⟨u, h1, h2⟩ := h
    exact .inr ⟨z, u, rfl, h2.symm, h1⟩

theorem sliceBound_ok {j : IntKind} {k y : Nat} (h : k ≤ y) (code : BoundsCode) : (Instr.sliceBound (.int j (k : Int)) y code).run P w = .ok k w := by
  have h1 : (0 : Int) ≤ (k : Int) ∧ (k : Int) ≤ (y : Int) := ⟨by omega, by omega⟩
  simp [Instr.sliceBound, asIntOf, h]

/-- The bounds come out as the abstract ones say; the capacity may be greater than is known. -/
theorem sliceBounds_ok (i : Inv n nt C Lm s a w) {lo hi mx : Option Operand} {lo' hi' mx' : Option AOpd} (h1 : trOO lo = some lo') (h2 : trOO hi = some hi') (h3 : trOO mx = some mx') {len K c l h m : Nat} (hb : boundsA s.t len K lo' hi' mx' = some (l, h, m))
    (hK : K ≤ c) (sl : Bool) :
    l ≤ h ∧ h ≤ m ∧ m ≤ K ∧ (mx' = none → m = K) ∧ ∃ m', (Instr.sliceBounds sl len c (lo.map a.eval) (hi.map a.eval) (mx.map a.eval)).run P w = .ok (l, h, m') w ∧ h ≤ m' ∧ (mx' = none → m' = c) ∧ (mx' ≠ none → m' = m) := by
  unfold boundsA at hb
  split at hb
  · cases hb
  · rename_i m0 hm0
    split at hb
    · cases hb
    · rename_i h0 hh0
      split at hb
      · cases hb
      · rename_i l0 hl0
        cases hc : (Nat.ble m0 K && Nat.ble h0 m0 && Nat.ble l0 h0) with
        | false => rw [hc] at hb; cases hb
        | true =>
        rw [hc] at hb
        simp only [cond_true, Option.some.injEq, Prod.mk.injEq] at hb
        obtain ⟨rfl, rfl, rfl⟩ := hb
        simp only [Bool.and_eq_true] at hc
        obtain ⟨⟨c1, c2⟩, c3⟩ := hc
        have c1 := Nat.le_of_ble_eq_true c1
        have c2 := Nat.le_of_ble_eq_true c2
        have c3 := Nat.le_of_ble_eq_true c3
        rcases trOO_none h3 with ⟨rfl, rfl⟩ | ⟨zm, um, rfl, rfl, tm⟩
        · simp only [Option.some.injEq] at hm0
          subst hm0
          refine ⟨c3, c2, c1, fun _ => rfl, c, ?_, by omega, fun _ => rfl, fun h => absurd rfl h⟩
          rcases trOO_none h2 with ⟨rfl, rfl⟩ | ⟨zh, uh, rfl, rfl, th⟩
          · simp only [Option.some.injEq] at hh0
            subst hh0
            rcases trOO_none h1 with ⟨rfl, rfl⟩ | ⟨zl, ul, rfl, rfl, tl⟩
            · simp only [Option.some.injEq] at hl0
              subst hl0
              simp [Instr.sliceBounds]
            · obtain ⟨j, hj⟩ := nat_rel i tl hl0
              simp [Instr.sliceBounds, hj, sliceBound_ok c3]
          · obtain ⟨jh, hjh⟩ := nat_rel i th hh0
            have hhc : h0 ≤ c := by omega
            rcases trOO_none h1 with ⟨rfl, rfl⟩ | ⟨zl, ul, rfl, rfl, tl⟩
            · simp only [Option.some.injEq] at hl0
              subst hl0
              simp [Instr.sliceBounds, hjh, sliceBound_ok hhc]
            · obtain ⟨j, hj⟩ := nat_rel i tl hl0
              simp [Instr.sliceBounds, hjh, sliceBound_ok hhc, hj, sliceBound_ok c3]
        · obtain ⟨jm, hjm⟩ := nat_rel i tm hm0
          have hmc : m0 ≤ c := by omega
          refine ⟨c3, c2, c1, (fun h => by cases h), m0, ?_, c2, (fun h => by cases h), fun _ => rfl⟩
          rcases trOO_none h2 with ⟨rfl, rfl⟩ | ⟨zh, uh, rfl, rfl, th⟩
          · cases hh0
          · obtain ⟨jh, hjh⟩ := nat_rel i th hh0
            rcases trOO_none h1 with ⟨rfl, rfl⟩ | ⟨zl, ul, rfl, rfl, tl⟩
            · simp only [Option.some.injEq] at hl0
              subst hl0
              simp [Instr.sliceBounds, hjh, hjm, sliceBound_ok hmc, sliceBound_ok c2]
            · obtain ⟨j, hj⟩ := nat_rel i tl hl0
              simp [Instr.sliceBounds, hjh, hjm, sliceBound_ok hmc, sliceBound_ok c2, hj, sliceBound_ok c3]

theorem ok_sliceSl (i : Inv n nt C Lm s a w) {o : Oper} {t e : TypeId} {x : Operand} {lo hi mx : Option Operand} (ho : o.op = .slice t x lo hi mx) {esz : Nat} (hu : P.underlying t = some (.slice e)) (he : sizeP P e = some esz)
    {y : AOpd} (hx : trOpd x = some y) {lo' hi' mx' : Option AOpd} (h1 : trOO lo = some lo') (h2 : trOO hi = some hi') (h3 : trOO mx = some mx') {z : AVal} (hz : sliceSlA esz (evalO s.t y) s.t lo' hi' mx' = some z) : OpOk P n nt o C a w s z := by
  have base : ∀ p len c l h m', a.eval x = .slice p len c → (Instr.sliceBounds true len c (lo.map a.eval) (hi.map a.eval) (mx.map a.eval)).run P w = .ok (l, h, m') w →
      (execOp a.eval o).run P w = .ok (.value (.slice (if m' = l then p else p.map (·.add (l * esz))) (h - l) (m' - l))) w := by
    intro p len c l h m' hv hb
    simp only [execOp, ho]
    refine run_v ?_
    rw [hv]
    simp [Instr.sliceAt, Instr.slice, run_underlying hu, sizeP_run he, hb]
  generalize hy : evalO s.t y = u at hz
  unfold sliceSlA at hz
  split at hz
  · have rv := eval_rel i hx hy (by intros; simp)
    simp only [vrel] at rv
    split at hz
    · rename_i b hb
      obtain ⟨l, h, m⟩ := b
      injection hz with hz; subst hz
      obtain ⟨q1, q2, q3, q4, m', q5, q6, q7, q8⟩ := sliceBounds_ok (P := P) i h1 h2 h3 hb (Nat.le_refl 0) true
      refine OpOk.pure i (base none 0 0 l h m' rv q5) ?_
      simp only [vrel]
      have : m' = 0 := by
        by_cases hm : mx' = none
        · exact q7 hm
        · have := q8 hm; omega
      subst this
      have : h = 0 := by omega
      subst this
      have : l = 0 := by omega
      subst this
      simp
    · cases hz
  · rename_i e' xs ex
    have rv := eval_rel i hx hy (by intros; simp)
    simp only [vrel] at rv
    obtain ⟨b, q, c, sp, v1, v0, v2, v3, v4⟩ := rv
    split at hz
    · rename_i l h m hb
      rw [cond_beq] at hz
      split at hz
      · rename_i hee
        subst hee
        injection hz with hz; subst hz
        obtain ⟨q1, q2, q3, q4, m', q5, q6, q7, q8⟩ := sliceBounds_ok (P := P) i h1 h2 h3 hb v2 true
        refine OpOk.pure i (base _ _ _ l h m' v1 q5) ?_
        have hlen : ((xs.take h).drop l).length = h - l := by simp; omega
        simp only [vrel]
        by_cases hml : m' = l
        · rw [if_pos hml]
          have hxs : (xs.take h).drop l = [] := List.eq_nil_of_length_eq_zero (by rw [hlen]; omega)
          refine ⟨b, q, m' - l, sp, by rw [hlen], fun h => absurd hxs h, by rw [hlen]; omega, fun _ => by rw [hlen]; omega, ?_⟩
          rw [hxs]; simp [elemsAt]
        · rw [if_neg hml]
          have hbase : ∃ sp', (({ block := b, off := q, spot := sp } : Addr).add (l * e')) = { block := b, off := q + l * e', spot := sp' } ∧ ((xs.take h).drop l ≠ [] → sp' = none) := by
            by_cases hx0 : xs = []
            · subst hx0
              have : l = 0 := by simp at q2 q3 ⊢; omega
              subst this
              exact ⟨sp, by simp [Addr.add], fun h => by simp at h⟩
            · have := v0 hx0
              subst this
              exact ⟨none, by simp [add_eq], fun _ => rfl⟩
          obtain ⟨sp', hb1, hb2⟩ := hbase
          refine ⟨b, q + l * e', m' - l, sp', by rw [hlen]; simp [hb1], hb2, by rw [hlen]; omega, fun hex => ?_, elemsAt_drop (elemsAt_take v4 h) l⟩
          rw [hlen]
          cases hmx : mx' with
          | none =>
            rw [hmx] at hex
            simp only [Bool.and_eq_true] at hex
            have e1 := v3 hex.1
            have e2 := Nat.eq_of_beq_eq_true hex.2
            have := q7 hmx
            omega
          | some mm =>
            rw [hmx] at hex
            have e2 := Nat.eq_of_beq_eq_true hex
            have := q8 (by rw [hmx]; simp)
            omega
      · cases hz
    · cases hz
  · rename_i id ver off len cap e'
    have rv := eval_rel i hx hy (by intros; simp)
    simp only [vrel] at rv
    obtain ⟨v1, v2, v3, b, q, c, v4, v5, v6, v7⟩ := rv
    split at hz
    · rename_i l h m hb
      rw [cond_beq] at hz
      split at hz
      · rename_i hee
        subst hee
        have hK : cap.getD len ≤ c := by
          cases cap with
          | none => simpa using v5
          | some k => have := v6 k rfl; simp; omega
        obtain ⟨q1, q2, q3, q4, m', q5, q6, q7, q8⟩ := sliceBounds_ok (P := P) i h1 h2 h3 hb hK true
        have hrun := base _ _ _ l h m' v4 q5
        -- the case of a known capacity, or of a max of its own
        have exact : (cap ≠ none ∨ mx' ≠ none) → z = .sl id ver (cond (Nat.beq m l) off (off + l * e')) (h - l) (some (m - l)) e' → OpOk P n nt o C a w s z := by
          intro hcm hzz
          subst hzz
          have hmm : m' = m := by
            by_cases hmx : mx' = none
            · have hcap : cap ≠ none := hcm.resolve_right (fun h => h hmx)
              cases cap with
              | none => exact absurd rfl hcap
              | some k => have := v6 k rfl; have := q7 hmx; have := q4 hmx; simp at *; omega
            · exact q8 hmx
          subst hmm
          refine OpOk.pure i hrun ?_
          simp only [vrel]
          have hval : (if m' = l then some (⟨b, q, none⟩ : Addr) else (some (⟨b, q, none⟩ : Addr)).map (·.add (l * e'))) = some ⟨b, (if m' = l then q else q + l * e'), none⟩ := by
            split <;> simp [add_eq]
          refine ⟨v1, v2, v3, b, (if m' = l then q else q + l * e'), m' - l, by rw [hval], by omega, fun k hk => by injection hk with hk, fun hv => ?_⟩
          obtain ⟨u1, u2, u3, u4⟩ := v7 hv
          rw [cond_beq]
          have hkn : off + m' * e' ≤ C.known id := by
            cases cap with
            | none =>
              have : m' ≤ len := by simpa using q3
              have := Nat.mul_le_mul_right e' this
              omega
            | some k =>
              have : m' ≤ k := by simpa using q3
              have := Nat.mul_le_mul_right e' this
              simp only at u4
              omega
          have hh : h * e' ≤ m' * e' := Nat.mul_le_mul_right e' q2
          have hl : l * e' ≤ h * e' := Nat.mul_le_mul_right e' q1
          have d1 : (h - l) * e' = h * e' - l * e' := Nat.sub_mul _ _ _
          have d2 : (m' - l) * e' = m' * e' - l * e' := Nat.sub_mul _ _ _
          by_cases hml : m' = l
          · rw [if_pos hml, if_pos hml]
            have : h = l := by omega
            subst this; subst hml
            simp only [Nat.sub_self, Nat.zero_mul]
            refine ⟨by omega, u2, u3, by omega⟩
          · rw [if_neg hml, if_neg hml]
            refine ⟨by omega, u2, by omega, by omega⟩
        split at hz
        · -- no capacity known, no max
          have hmc := q7 rfl
          subst hmc
          cases hbb : (Nat.beq h l && Nat.blt 0 l) with
          | true =>
            rw [hbb] at hz
            simp only [cond_true, Option.some.injEq] at hz
            subst hz
            simp only [Bool.and_eq_true] at hbb
            have := Nat.eq_of_beq_eq_true hbb.1
            subst this
            refine OpOk.pure i hrun ?_
            simp only [vrel, List.length_nil, Nat.sub_self, elemsAt]
            by_cases hml : m' = h
            · rw [if_pos hml]; exact ⟨b, q, m' - h, none, rfl, fun _ => rfl, Nat.zero_le _, (fun h => by cases h), trivial⟩
            · rw [if_neg hml]; simp only [Option.map_some, add_eq]; exact ⟨b, q + h * e', m' - h, none, rfl, fun _ => rfl, Nat.zero_le _, (fun h => by cases h), trivial⟩
          | false =>
            rw [hbb] at hz
            simp only [cond_false, Option.some.injEq] at hz
            subst hz
            refine OpOk.pure i hrun ?_
            simp only [vrel]
            have hval : (if m' = l then some (⟨b, q, none⟩ : Addr) else (some (⟨b, q, none⟩ : Addr)).map (·.add (l * e'))) = some ⟨b, q + l * e', none⟩ := by
              split
              · rename_i hml
                have hhl : h = l := by omega
                have hl0 : l = 0 := by
                  by_cases hl0 : l = 0
                  · exact hl0
                  · have hb1 : Nat.blt 0 l = true := by rw [Nat.blt_eq]; omega
                    rw [hhl, hb1] at hbb; simp at hbb
                subst hl0; simp
              · simp only [Option.map_some, add_eq]
            refine ⟨v1, v2, v3, b, q + l * e', m' - l, by rw [hval], by omega, fun k hk => (by cases hk), fun hv => ?_⟩
            obtain ⟨u1, u2, u3, u4⟩ := v7 hv
            simp only at u4
            have hlen : h ≤ len := by have := q4 rfl; simp at this; omega
            have d0 : h * e' ≤ len * e' := Nat.mul_le_mul_right e' hlen
            have hl : l * e' ≤ h * e' := Nat.mul_le_mul_right e' q1
            have hm' : l * e' ≤ m' * e' := Nat.mul_le_mul_right e' (by omega)
            have d1 : (h - l) * e' = h * e' - l * e' := Nat.sub_mul _ _ _
            have d2 : (m' - l) * e' = m' * e' - l * e' := Nat.sub_mul _ _ _
            exact ⟨by omega, u2, by omega, by omega⟩
        · rename_i hno
          injection hz with hz
          refine exact ?_ hz.symm
          cases cap with
          | some k => exact .inl (by simp)
          | none =>
            cases mx' with
            | some k => exact .inr (by simp)
            | none => exact absurd rfl (hno rfl)
      · cases hz
    · cases hz
  · cases hz
end
end Wab
