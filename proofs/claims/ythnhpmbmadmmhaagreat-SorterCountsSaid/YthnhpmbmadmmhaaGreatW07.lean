/- Part 8 of this claim: an abstract interpreter over the model, its soundness, and what is run in it. -/
import Derived.IntWalk
import Derived.ChangeArms
import Derived.ReadAgain
import Derived.Below
import Derived.ProofKit
import Derived.Test.YthnhpmbmadmmhaaGreatW06
set_option maxRecDepth 20000
set_option linter.unusedSimpArgs false
set_option linter.unusedVariables false
/- The sum of bytes: the loop. -/
namespace Wab
open Go
set_option maxRecDepth 100000

theorem bin_xor_u8 {a b : Nat} (ha : a < 256) (hb : b < 256) : intBin .xor .u8 (Int.ofNat a) (Int.ofNat b) = some (.int .u8 (Int.ofNat (a ^^^ b))) := by
  have hx : a ^^^ b < 2 ^ 8 := Nat.xor_lt_two_pow ha hb
  have h0 : intBin .xor .u8 (Int.ofNat a) (Int.ofNat b) = some (.int .u8 (wrapI .u8 (Int.ofNat (BitVec.ofNat 8 a ^^^ BitVec.ofNat 8 b).toNat))) := rfl
  rw [h0, wrap_u8, BitVec.toNat_xor, BitVec.toNat_ofNat, BitVec.toNat_ofNat, Nat.mod_eq_of_lt (show a < 2 ^ 8 from ha), Nat.mod_eq_of_lt (show b < 2 ^ 8 from hb), Nat.mod_eq_of_lt hx]

theorem bin_xor_u32 {a b : Nat} (ha : a < 4294967296) (hb : b < 4294967296) : intBin .xor .u32 (Int.ofNat a) (Int.ofNat b) = some (.int .u32 (Int.ofNat (a ^^^ b))) := by
  have hx : a ^^^ b < 2 ^ 32 := Nat.xor_lt_two_pow ha hb
  have h0 : intBin .xor .u32 (Int.ofNat a) (Int.ofNat b) = some (.int .u32 (wrapI .u32 (Int.ofNat (BitVec.ofNat 32 a ^^^ BitVec.ofNat 32 b).toNat))) := rfl
  rw [h0, wrap_u32, BitVec.toNat_xor, BitVec.toNat_ofNat, BitVec.toNat_ofNat, Nat.mod_eq_of_lt (show a < 2 ^ 32 from ha), Nat.mod_eq_of_lt (show b < 2 ^ 32 from hb), Nat.mod_eq_of_lt hx]

theorem shl8_u32 (a : Nat) : shiftA .shl .u32 (Int.ofNat a) (Int.ofNat 8) = some (.int .u32 (Int.ofNat (a * 256 % 4294967296))) := by
  have : shiftA .shl .u32 (Int.ofNat a) (Int.ofNat 8) = some (.int .u32 (wrapI .u32 (Int.ofNat (a * 256)))) := rfl
  rw [this, wrap_u32]
theorem shr24_u32 (a : Nat) : shiftA .shr .u32 (Int.ofNat a) (Int.ofNat 24) = some (.int .u32 (Int.ofNat (a / 16777216))) := by
  have h0 : shiftA .shr .u32 (Int.ofNat a) (Int.ofNat 24) = some (.int .u32 (Int.fdiv (Int.ofNat a) (Int.ofNat 16777216))) := by kernel_rfl
  rw [h0, Int.fdiv_eq_ediv_of_nonneg _ (by simp)]; rfl

theorem crcTab_lt (i : Nat) : crcTab i < 4294967296 := Nat.mod_lt _ (by decide)
theorem crc1_lt (s c : Nat) : crc1 s c < 4294967296 := Nat.xor_lt_two_pow (n := 32) (Nat.mod_lt _ (by decide)) (crcTab_lt _)

theorem crcTabA_len : crcTabA.length = 256 := by simp [crcTabA]
theorem crcTabA_get {i : Nat} (hi : i < 256) : getAt crcTabA (0 + i * 1) 1 = some [.int .u32 (.ofNat (crcTab i))] := by
  unfold getAt
  rw [show 0 + i * 1 = i from by omega, crcTabA_len, show Nat.ble (i + 1) 256 = true from Nat.ble_eq_true_of_le hi]
  simp only [cond_true]
  unfold crcTabA
  rw [← List.map_drop, ← List.map_take]
  have : ((List.range 256).drop i).take 1 = [i] := by
    rw [List.take_one]
    have : ((List.range 256).drop i).head? = some i := by
      rw [List.head?_drop]; simp [hi]
    rw [this]; rfl
  rw [this]; rfl

theorem crc_cells (ty : Nat) : (crcHeap ty).cells? 0 0 = some (ty, crcTabA, 0, false) := rfl

theorem bin_add_one (k : Nat) (h : k + 1 ≤ 9223372036854775807) : intBin .add .i64 (Int.ofNat k) (Int.ofNat 1) = some (.int .i64 (Int.ofNat (k + 1))) := by
  have : intBin .add .i64 (Int.ofNat k) (Int.ofNat 1) = some (.int .i64 (IntKind.i64.wrap ((k + 1 : Nat) : Int))) := rfl
  rw [this]
  have hw : IntKind.i64.wrap ((k + 1 : Nat) : Int) = ((k + 1 : Nat) : Int) := IntWalk.i64_in _ (by omega)
  rw [hw]; rfl

theorem bin_lss (k : IntKind) (a b : Int) : intBin .lss k a b = some (.bool (decide (a < b))) := rfl
theorem same_kind (k : IntKind) : decide (k = k) = true := by simp

theorem crc_round (C : Oracle) (n ty : Nat) (t : Tr AVal) (k s len b : Nat) (xs : List (List AVal)) (ex : Bool)
    (h5 : t.get 5 = some (.ptr 0 0 0)) (h0 : t.get 0 = some (.int .u32 (.ofNat s))) (h9 : t.get 9 = some (.imm 1 xs ex)) (h10 : t.get 10 = some (.int .i64 (.ofNat len))) (h11 : t.get 11 = some (.int .i64 (.ofNat k)))
    (hk : k < len) (hl : len ≤ 9223372036854775807) (hx : xs[k]? = some [.int .u8 (.ofNat b)]) (hs : s < 4294967296) (hb : b < 256) :
    ∃ t', aexec C n crcBody ⟨t, .lf, crcHeap ty, []⟩ = some (.normal, ⟨t', .lf, crcHeap ty, []⟩) ∧
      t'.get 5 = some (.ptr 0 0 0) ∧ t'.get 0 = some (.int .u32 (.ofNat (crc1 s b))) ∧ t'.get 9 = some (.imm 1 xs ex) ∧ t'.get 10 = some (.int .i64 (.ofNat len)) ∧ t'.get 11 = some (.int .i64 (.ofNat (k + 1))) := by
  have hlt : decide (Int.ofNat k < Int.ofNat len) = true := by simp; omega
  have hs24 : s / 16777216 < 256 := by omega
  have h1 : (s / 16777216) % 256 = s / 16777216 := Nat.mod_eq_of_lt hs24
  have hx8 : s / 16777216 ^^^ b < 256 := Nat.xor_lt_two_pow (n := 8) hs24 hb
  have hble : Nat.blt (s / 16777216 ^^^ b) 256 = true := Nat.ble_eq_true_of_le hx8
  have g1 : getAt [AVal.int .u8 (Int.ofNat b)] 0 1 = some [AVal.int .u8 (Int.ofNat b)] := rfl
  have a1 := bin_add_one k (by omega)
  have a2 := bin_xor_u8 hs24 hb
  have a3 := bin_xor_u32 (Nat.mod_lt (s * 256) (show 4294967296 > 0 by decide)) (crcTab_lt (s / 16777216 ^^^ b))
  have hcell := crcTabA_get hx8
  apply Exists.intro
  apply And.intro
  · simp only [crcBody, aexec, arun, guardA, aop, evalO, nlO, nl, ok1, binA, St.put, get_nd, cond_true, cond_false, Option.getD_some, h5, h0, h9, h10, h11, natOf, hx, readA, Nat.beq, decide_true, hlt, bin_lss, g1, Option.bind_some, ofCells, shl8_u32, shr24_u32, wrap_u8, h1, a1, a2, a3, hble, crc_cells, hcell]
    exact rfl
  · simp only [get_nd, cond_true, cond_false, Nat.beq, h5, h9, h10]
    exact ⟨trivial, rfl, trivial, trivial, trivial⟩
end Wab
/- The sum of bytes: the whole function, known wherever it is called. -/
namespace Wab
open Go
set_option maxRecDepth 100000

def bytesA (bs : List Nat) : List (List AVal) := bs.map fun b => [AVal.int .u8 (.ofNat b)]

theorem bytesA_get (bs : List Nat) (k b : Nat) (h : bs[k]? = some b) : (bytesA bs)[k]? = some [.int .u8 (.ofNat b)] := by
  simp [bytesA, h]

theorem crc_loop (C : Oracle) (n ty : Nat) (bs : List Nat) (ex : Bool) (hb : ∀ b ∈ bs, b < 256) (hl : bs.length ≤ 9223372036854775807) : ∀ (rest : List Nat) (k m s : Nat) (t : Tr AVal), bs.drop k = rest → k + rest.length = bs.length → rest.length < m → s < 4294967296 →
    t.get 5 = some (.ptr 0 0 0) → t.get 0 = some (.int .u32 (.ofNat s)) → t.get 9 = some (.imm 1 (bytesA bs) ex) → t.get 10 = some (.int .i64 (.ofNat bs.length)) → t.get 11 = some (.int .i64 (.ofNat k)) →
    ∃ t', loopN (aexec C n crcBody) m ⟨t, .lf, crcHeap ty, []⟩ = some (.exit 0, ⟨t', .lf, crcHeap ty, []⟩) ∧ t'.get 0 = some (.int .u32 (.ofNat (crcN s rest)))
  | [], k, m, s, t, _, hk, hm, _, h5, h0, h9, h10, h11 => by
    obtain ⟨m, rfl⟩ : ∃ j, m = j + 1 := ⟨m - 1, by simp at hm; omega⟩
    have hlt : decide (Int.ofNat k < Int.ofNat bs.length) = false := by simp at hk ⊢; omega
    apply Exists.intro
    apply And.intro
    · simp only [loopN, crcBody, aexec, arun, guardA, aop, evalO, nlO, nl, ok1, binA, St.put, get_nd, cond_true, Option.getD_some, h10, h11, Nat.beq, decide_true, hlt, bin_lss]
      exact rfl
    · simp only [get_nd, cond_false, Nat.beq, h0, crcN]
  | b :: rest, k, m, s, t, hd, hk, hm, hs, h5, h0, h9, h10, h11 => by
    obtain ⟨m, rfl⟩ : ∃ j, m = j + 1 := ⟨m - 1, by simp at hm; omega⟩
    simp only [List.length_cons] at hk hm
    have hg : bs[k]? = some b := by
      have : (bs.drop k)[0]? = some b := by rw [hd]; rfl
      simpa using this
    obtain ⟨t1, e1, r5, r0, r9, r10, r11⟩ := crc_round C n ty t k s bs.length b (bytesA bs) ex h5 h0 h9 h10 h11 (by omega) hl (bytesA_get bs k b hg) hs (hb b (List.mem_of_getElem? hg))
    have hd' : bs.drop (k + 1) = rest := by
      rw [← List.drop_drop, hd]; rfl
    obtain ⟨t2, e2, q0⟩ := crc_loop C n ty bs ex hb hl rest (k + 1) m (crc1 s b) t1 hd' (by omega) (by omega) (crc1_lt s b) r5 r0 r9 r10 r11
    refine ⟨t2, ?_, q0⟩
    unfold loopN
    rw [e1]
    exact e2

theorem crc_more (C D : Oracle) (fMade ty : Nat) (hmade : C fMade [] h00 = some (.ptr 0 0 0, crcHeap ty)) (s : Nat) (hs : s < 4294967296) (bs : List Nat) (ex : Bool) (hb : ∀ b ∈ bs, b < 256) (hl : bs.length ≤ 9223372036854775807) (n : Nat) (hn : bs.length + 1 < n) :
    runFn C D n (crcMoreA fMade) [.int .u32 (.ofNat s), .imm 1 (bytesA bs) ex] h00 = some (.int .u32 (.ofNat (crcN s bs)), h00) := by
  have hh : ({ h00 with lock := h00.next } : AHeap) = h00 := rfl
  have hlen : (bytesA bs).length = bs.length := by simp [bytesA]
  obtain ⟨n, rfl⟩ : ∃ j, n = j + 1 := ⟨n - 1, by omega⟩
  obtain ⟨t', e1, e2⟩ := crc_loop C (n + 1) ty bs ex hb hl bs 0 (n + 1) s
    ((((((Tr.lf.set 0 (some (.int .u32 (.ofNat s)))).set 1 (some (.imm 1 (bytesA bs) ex))).set 4 (some (.int .u32 (.ofNat 0)))).set 8 (some (.ptr 0 0 0))).set 5 (some (.ptr 0 0 0))).set 9 (some (.imm 1 (bytesA bs) ex)) |>.set 10 (some (.int .i64 (.ofNat bs.length))) |>.set 11 (some (.int .i64 (.ofNat 0))))
    rfl (by omega) (by omega) hs (by simp [get_nd, Nat.beq]) (by simp [get_nd, Nat.beq]) (by simp [get_nd, Nat.beq]) (by simp [get_nd, Nat.beq]) (by simp [get_nd, Nat.beq])
  simp only [runFn, runBody, crcMoreA, initT, cond_true, hh, aexec, arun, guardA, aop, evalO, nlO, nl, nlAll, ok1, callA, List.append_nil, hmade, St.put, get_nd, cond_false, Option.getD_some, Nat.beq, lenA, hlen, e1, e2, runDef, finish, resA, packRes, freeze, Nat.zero_add]
end Wab
/- Bytes that lie on the abstract heap, read as a list by a call that knows nothing of it; the sum of bytes as what is known. -/
namespace Wab
open Go

def isListV : AVal → Bool
  | .imm _ _ _ | .sl _ _ _ _ _ _ => true
  | _ => false

theorem bytesOf_cons {cs : List AVal} {bs : List Nat} (h : bytesOf cs = some bs) : cs = bs.map (fun b => AVal.int .u8 (.ofNat b)) ∧ ∀ b ∈ bs, b < 256 := by
  induction cs generalizing bs with
  | nil => simp [bytesOf] at h; subst h; simp
  | cons x cs ih =>
    unfold bytesOf at h
    split at h
    · rename_i e; cases e
    · rename_i b r e
      injection e with e1 e2
      subst e1; subst e2
      cases hb : Nat.blt b 256 with
      | false => rw [hb] at h; cases h
      | true =>
        rw [hb] at h
        simp only [cond_true] at h
        split at h
        · rename_i l hl
          injection h with h; subst h
          obtain ⟨h1, h2⟩ := ih hl
          refine ⟨by rw [h1]; rfl, fun c hc => ?_⟩
          rcases List.mem_cons.1 hc with rfl | hc
          · exact Nat.le_of_ble_eq_true hb
          · exact h2 c hc
        · cases h
    · cases h

theorem flat_singles : ∀ (xs : List (List AVal)) (bs : List Nat), (∀ x ∈ xs, x.length = 1) → xs.flatten = bs.map (fun b => AVal.int .u8 (.ofNat b)) → xs = bytesA bs
  | [], [], _, _ => rfl
  | [], _ :: _, _, h => by simp at h
  | x :: xs, bs, hl, h => by
    have h1 := hl x List.mem_cons_self
    match x, h1 with
    | [c], _ =>
      cases bs with
      | nil => simp at h
      | cons b bs =>
        simp only [List.flatten_cons, List.singleton_append, List.map_cons, List.cons.injEq] at h
        rw [h.1, flat_singles xs bs (fun y hy => hl y (List.mem_cons_of_mem _ hy)) h.2]
        rfl

theorem cellsAt_bare_of {C : Ctx} {b : Nat} (hf : ¬ C.F b) : ∀ (l : List AVal) (o : Nat), (∀ x ∈ l, flatV x = true ∧ pureC x = true) → (∀ (j : Nat) (x : AVal), l[j]? = some x → holds C b (o + j) x) → cellsAt (C.bare C.F) b o l
  | [], _, _, _ => by simp [cellsAt]
  | x :: l, o, h1, h2 => by
    simp only [cellsAt]
    obtain ⟨q1, v, q2, q3⟩ := h2 0 x rfl
    obtain ⟨p1, p2⟩ := h1 x List.mem_cons_self
    refine ⟨⟨q1, bare_own, ⟨hf, p2⟩, v, q2, vrel_flat _ _ p1 q3⟩, cellsAt_bare_of hf l (o + 1) (fun y hy => h1 y (List.mem_cons_of_mem _ hy)) fun j y hj => ?_⟩
    have := h2 (j + 1) y (by simpa using hj)
    rw [show o + 1 + j = o + (j + 1) from by omega]; exact this

theorem elemsAt_bytes {C : Ctx} {b : Nat} (hf : ¬ C.F b) : ∀ (bs : List Nat) (o : Nat), (∀ (j c : Nat), bs[j]? = some c → holds C b (o + j) (.int .u8 (.ofNat c))) → elemsAt (C.bare C.F) 1 b o (bytesA bs)
  | [], _, _ => by simp [bytesA, elemsAt]
  | c :: bs, o, h => by
    simp only [bytesA, List.map_cons, elemsAt]
    refine ⟨rfl, cellsAt_bare_of hf _ _ (fun x hx => ?_) (fun j x hj => ?_), elemsAt_bytes hf bs (o + 1) fun j d hj => ?_⟩
    · simp at hx; subst hx; exact ⟨rfl, rfl⟩
    · cases j with
      | zero => simp at hj; subst hj; exact h 0 c rfl
      | succ j => simp at hj
    · have := h (j + 1) d (by simpa using hj)
      rw [show o + 1 + j = o + (j + 1) from by omega]; exact this

theorem elems_len {C : Ctx} {e b : Nat} : ∀ (xs : List (List AVal)) (o : Nat), elemsAt C e b o xs → ∀ x ∈ xs, x.length = e
  | [], _, _, x, hx => by cases hx
  | y :: ys, o, h, x, hx => by
    simp only [elemsAt] at h
    rcases List.mem_cons.1 hx with rfl | hx
    · exact h.1
    · exact elems_len ys _ h.2.2 x hx

theorem bytes_bare {C : Ctx} (h : HRel C) {x : AVal} {v : Value} (r : vrel C x v) {cs : List AVal} {k : Nat} (hs : srcCells C.σ 1 x = some (cs, k)) {bs : List Nat} (hb : bytesOf cs = some bs) (hx : isListV x = true) :
    (∃ ex, vrel (C.bare C.F) (.imm 1 (bytesA bs) ex) v) ∧ ∀ b ∈ bs, b < 256 := by
  obtain ⟨hcs, hlt⟩ := bytesOf_cons hb
  refine ⟨?_, hlt⟩
  cases x <;> simp only [isListV, Bool.false_eq_true] at hx
  case imm e xs ex =>
    simp only [srcCells, cond_beq] at hs
    split at hs
    · rename_i he
      subst he
      injection hs with hs; injection hs with h1 h2
      simp only [vrel] at r
      obtain ⟨b, o, cap, sp, hv, c0, c1, c2, c3⟩ := r
      have hxs : xs = bytesA bs := flat_singles xs bs (elems_len xs o c3) (by rw [h1, hcs])
      subst hxs
      refine ⟨ex, ?_⟩
      simp only [vrel]
      refine ⟨b, o, cap, sp, hv, c0, c1, c2, ?_⟩
      cases bs with
      | nil => simp [bytesA, elemsAt]
      | cons c bs' =>
        have hF : ¬ C.F b := by
          simp only [bytesA, List.map_cons, elemsAt, cellsAt] at c3
          exact c3.2.1.1.2.2.1.1
        refine elemsAt_bytes hF (c :: bs') o fun j d hj => ?_
        have := elemsAt_get c3 j [.int .u8 (.ofNat d)] (bytesA_get _ _ _ hj)
        have q := cellsAt_get this.2 0 (.int .u8 (.ofNat d)) rfl
        have q2 := q.2.2
        rw [show o + j * 1 + 0 = o + j from by omega] at q2
        exact q2
    · cases hs
  case sl id ver off len cap e =>
    simp only [srcCells, cond_beq] at hs
    split at hs
    · rename_i he
      subst he
      split at hs
      · rename_i ty cs0 fz sx hc
        have hg := cells?_some hc
        simp only at hg
        have hlive := live_of_get hg
        obtain ⟨hv1, hk1⟩ := live_ver hc
        obtain ⟨blk, hb1, hb2⟩ := h.here id hlive
        rw [hg] at hb1
        injection hb1 with hb1
        subst hb1
        simp only [blockRel] at hb2
        obtain ⟨arr, fr, g1, g2, g3, g4⟩ := hb2
        simp only [vrel] at r
        obtain ⟨r1, r2, r3, b, q, c, r4, r5, r6, r7⟩ := r
        obtain ⟨s1, s2, s3, s4⟩ := r7 hv1.symm
        cases hl : getAt cs0 off (len * 1) with
        | none => rw [hl] at hs; simp at hs
        | some cs1 =>
          rw [hl] at hs
          simp only [Option.map_some, Option.some.injEq, Prod.mk.injEq] at hs
          obtain ⟨e1, e2⟩ := hs
          subst e1; subst e2
          have hlen : bs.length = len := by
            have : cs1.length = len * 1 := by
              unfold getAt at hl
              cases hble : Nat.ble (off + len * 1) cs0.length with
              | false => rw [hble] at hl; cases hl
              | true =>
                rw [hble] at hl
                simp only [cond_true, Option.some.injEq] at hl
                have := Nat.le_of_ble_eq_true hble
                subst hl; simp; omega
            rw [hcs] at this; simp at this; omega
          refine ⟨false, ?_⟩
          simp only [vrel]
          refine ⟨b, q, c, none, by rw [r4]; simp [bytesA, hlen], fun _ => rfl, by simp [bytesA, hlen]; exact r5, (fun h => by cases h), ?_⟩
          subst s2; subst s3
          refine elemsAt_bytes (h.free id hlive) bs _ fun j d hj => ?_
          have hjl : j < len := by have := (List.getElem?_eq_some_iff.1 hj).1; omega
          have hcell : cs0[off + j]? = some (.int .u8 (.ofNat d)) := by
            have h1 : cs1[j]? = some (.int .u8 (.ofNat d)) := by rw [hcs]; simp [hj]
            unfold getAt at hl
            cases hble : Nat.ble (off + len * 1) cs0.length with
            | false => rw [hble] at hl; cases hl
            | true =>
              rw [hble] at hl
              simp only [cond_true, Option.some.injEq] at hl
              subst hl
              rw [List.getElem?_take] at h1
              split at h1
              · simpa using h1
              · cases h1
          obtain ⟨hj2, e3⟩ := List.getElem?_eq_some_iff.1 hcell
          have := g3 (off + j) hj2
          rw [e3] at this
          rw [show (C.mu id).off + off + j = (C.mu id).off + (off + j) from by omega]
          exact this
      · cases hs
    · cases hs

/-- The sum of bytes, as what is known. -/
def crcG (args : List AVal) (h : AHeap) : Option (AVal × AHeap) :=
  match args with
  | [.int .u32 (.ofNat s), x] => cond (isListV x) (match srcCells h 1 x with
    | some (cs, _) => match bytesOf cs with
      | some bs => cond (Nat.blt s 4294967296 && Nat.ble bs.length 9223372036854775807) (some (.int .u32 (.ofNat (crcN s bs)), h)) none
      | none => none
    | none => none) none
  | _ => none

theorem crcG_pure {args : List AVal} {h h' : AHeap} {r : AVal} (hz : crcG args h = some (r, h')) : h' = h := by
  unfold crcG at hz
  split at hz
  · rename_i s x
    cases hx : isListV x with
    | false => rw [hx] at hz; cases hz
    | true =>
      rw [hx] at hz
      simp only [cond_true] at hz
      split at hz
      · split at hz
        · rename_i bs _
          cases hc : (Nat.blt s 4294967296 && Nat.ble bs.length 9223372036854775807) with
          | false => rw [hc] at hz; cases hz
          | true => rw [hc] at hz; injection hz with hz; injection hz with _ e; exact e.symm
        · cases hz
      · cases hz
  · cases hz

theorem crcG_sound {P : Program} {P' : Tr AFunc} {S : Known} (hO : ∀ n, OSound P (acallS P' S n)) {fMore : Nat} (hrun : ∀ (s : Nat) (bs : List Nat) (ex : Bool), s < 4294967296 → (∀ b ∈ bs, b < 256) → bs.length ≤ 9223372036854775807 → ∃ n, acallS P' S n fMore [.int .u32 (.ofNat s), .imm 1 (bytesA bs) ex] h00 = some (.int .u32 (.ofNat (crcN s bs)), h00)) :
    ∀ args h r h', crcG args h = some (r, h') → ∀ (C : Ctx) (cargs : Array Value) (w : World), w.heap = C.H → C.σ = h → HRel C → vrels C args cargs.toList → CallOk P fMore cargs w (Post C w r h') := by
  intro args h r h' hz C cargs w hw hσ h0 ra
  have hp := crcG_pure hz
  subst hp
  subst hσ
  unfold crcG at hz
  split at hz
  · rename_i s x
    cases hx : isListV x with
    | false => rw [hx] at hz; cases hz
    | true =>
      rw [hx] at hz
      simp only [cond_true] at hz
      split at hz
      · rename_i cs k hs
        split at hz
        · rename_i bs hb
          cases hc : (Nat.blt s 4294967296 && Nat.ble bs.length 9223372036854775807) with
          | false => rw [hc] at hz; cases hz
          | true =>
            rw [hc] at hz
            injection hz with hz; injection hz with e1 e2
            subst e1
            simp only [Bool.and_eq_true] at hc
            match hcl : cargs.toList, ra with
            | [u, v], ra =>
              simp only [vrels] at ra
              obtain ⟨⟨ex, q1⟩, q2⟩ := bytes_bare h0 ra.2.1 hs hb hx
              obtain ⟨n, hn⟩ := hrun s bs ex (Nat.le_of_ble_eq_true hc.1) q2 (Nat.le_of_ble_eq_true hc.2)
              refine known_flat (hO n) hn rfl hw h0 ?_
              rw [hcl]
              simp only [vrels]
              exact ⟨by simpa [vrel] using ra.1, q1, trivial⟩
            | [], ra => simp [vrels] at ra
            | [_], ra => simp [vrels] at ra
            | _ :: _ :: _ :: _, ra => simp [vrels] at ra
        · cases hz
      · cases hz
  · cases hz
end Wab
/- Small things for runs of a program. -/
namespace Wab
open Go

def hpOf (r : Option (AVal × AHeap)) : AHeap := match r with
  | some (_, h) => h
  | none => h00

theorem acallS_step {P : Tr AFunc} {S : Known} {f : Nat} {fn : AFunc} (hs : S f = none) (hf : P.get f = some fn) (n : Nat) (args : List AVal) (h : AHeap) :
    acallS P S (n + 1) f args h = runFn (acallS P S n) (acall0 P (acallS P S n) n) n fn args h := by
  conv => lhs; unfold acallS
  rw [hs]
  simp only
  rw [hf]

theorem acallS_known {P : Tr AFunc} {S : Known} {f : Nat} {g : List AVal → AHeap → Option (AVal × AHeap)} (hs : S f = some g) (n : Nat) (args : List AVal) (h : AHeap) :
    acallS P S (n + 1) f args h = g args h := by
  conv => lhs; unfold acallS
  rw [hs]

theorem bin_gtr (k : IntKind) (a b : Int) : intBin .gtr k a b = some (.bool (decide (a > b))) := rfl
theorem bin_geq (k : IntKind) (a b : Int) : intBin .geq k a b = some (.bool (decide (a ≥ b))) := rfl
theorem bin_leq (k : IntKind) (a b : Int) : intBin .leq k a b = some (.bool (decide (a ≤ b))) := rfl
theorem bin_eql (k : IntKind) (a b : Int) : intBin .eql k a b = some (.bool (a == b)) := rfl
theorem bin_neq (k : IntKind) (a b : Int) : intBin .neq k a b = some (.bool (a != b)) := rfl
theorem nl_bool (b : Bool) : nl (.bool b) = some (.bool b) := rfl
theorem nl_int (k : IntKind) (n : Int) : nl (.int k n) = some (.int k n) := rfl
theorem nl_str (b : List Nat) : nl (.str b) = some (.str b) := rfl
theorem nl_nilp : nl .nilp = some .nilp := rfl
theorem nl_ptr (a b c : Nat) : nl (.ptr a b c) = some (.ptr a b c) := rfl
theorem nl_gptr (a b : Nat) : nl (.gptr a b) = some (.gptr a b) := rfl
theorem nl_iptr (x : List AVal) (a : Nat) : nl (.iptr x a) = some (.iptr x a) := rfl
theorem nl_nils : nl .nils = some .nils := rfl
theorem nl_imm (e : Nat) (xs : List (List AVal)) (x : Bool) : nl (.imm e xs x) = some (.imm e xs x) := rfl
theorem nl_sl (a b c d : Nat) (e : Option Nat) (f : Nat) : nl (.sl a b c d e f) = some (.sl a b c d e f) := rfl
theorem nl_nilm : nl .nilm = some .nilm := rfl
theorem nl_mp (a : Nat) : nl (.mp a) = some (.mp a) := rfl
theorem nl_func (f : Fn) (a b : List AVal) : nl (.func f a b) = some (.func f a b) := rfl
theorem nl_nilf : nl .nilf = some .nilf := rfl
theorem nl_iface (t : Nat) (v : AVal) : nl (.iface t v) = some (.iface t v) := rfl
theorem nl_nili : nl .nili = some .nili := rfl
theorem nl_agg (l : List AVal) : nl (.agg l) = some (.agg l) := rfl
theorem nl_tup (l : List AVal) : nl (.tup l) = some (.tup l) := rfl
theorem len_str (h : AHeap) (b : List Nat) : lenA h 0 (.str b) = some (.int .i64 (Int.ofNat b.length)) := rfl
theorem len_nils (h : AHeap) : lenA h 1 .nils = some (.int .i64 (Int.ofNat 0)) := rfl
theorem len_imm (h : AHeap) (e : Nat) (xs : List (List AVal)) (x : Bool) : lenA h 1 (.imm e xs x) = some (.int .i64 (Int.ofNat xs.length)) := rfl
theorem len_sl (h : AHeap) (a b c n : Nat) (e : Option Nat) (f : Nat) : lenA h 1 (.sl a b c n e f) = some (.int .i64 (Int.ofNat n)) := rfl
theorem b_add (L : Nat → Nat → Bool) (k : EqK) (j : IntKind) (a b : Int) : binA L .add k (.int j a) (.int j b) = some (.int j (wrapI j (a + b))) := by cases j <;> rfl
theorem b_sub (L : Nat → Nat → Bool) (k : EqK) (j : IntKind) (a b : Int) : binA L .sub k (.int j a) (.int j b) = some (.int j (wrapI j (a - b))) := by cases j <;> rfl
theorem b_mul (L : Nat → Nat → Bool) (k : EqK) (j : IntKind) (a b : Int) : binA L .mul k (.int j a) (.int j b) = some (.int j (wrapI j (a * b))) := by cases j <;> rfl
theorem b_lss (L : Nat → Nat → Bool) (k : EqK) (j : IntKind) (a b : Int) : binA L .lss k (.int j a) (.int j b) = some (.bool (decide (a < b))) := by cases j <;> rfl
theorem b_leq (L : Nat → Nat → Bool) (k : EqK) (j : IntKind) (a b : Int) : binA L .leq k (.int j a) (.int j b) = some (.bool (decide (a ≤ b))) := by cases j <;> rfl
theorem b_gtr (L : Nat → Nat → Bool) (k : EqK) (j : IntKind) (a b : Int) : binA L .gtr k (.int j a) (.int j b) = some (.bool (decide (a > b))) := by cases j <;> rfl
theorem b_geq (L : Nat → Nat → Bool) (k : EqK) (j : IntKind) (a b : Int) : binA L .geq k (.int j a) (.int j b) = some (.bool (decide (a ≥ b))) := by cases j <;> rfl
theorem b_eql (L : Nat → Nat → Bool) (k : EqK) (j : IntKind) (a b : Int) : binA L .eql k (.int j a) (.int j b) = some (.bool (a == b)) := by cases j <;> rfl
theorem b_neq (L : Nat → Nat → Bool) (k : EqK) (j : IntKind) (a b : Int) : binA L .neq k (.int j a) (.int j b) = some (.bool (a != b)) := by cases j <;> rfl
theorem b_quo (L : Nat → Nat → Bool) (k : EqK) (j : IntKind) (a b : Int) : binA L .quo k (.int j a) (.int j b) = intBin .quo j a b := by cases j <;> rfl
theorem b_rem (L : Nat → Nat → Bool) (k : EqK) (j : IntKind) (a b : Int) : binA L .rem k (.int j a) (.int j b) = intBin .rem j a b := by cases j <;> rfl
theorem b_and (L : Nat → Nat → Bool) (k : EqK) (j : IntKind) (a b : Int) : binA L .and k (.int j a) (.int j b) = intBin .and j a b := by cases j <;> rfl
theorem b_or (L : Nat → Nat → Bool) (k : EqK) (j : IntKind) (a b : Int) : binA L .or k (.int j a) (.int j b) = intBin .or j a b := by cases j <;> rfl
theorem b_xor (L : Nat → Nat → Bool) (k : EqK) (j : IntKind) (a b : Int) : binA L .xor k (.int j a) (.int j b) = intBin .xor j a b := by cases j <;> rfl
theorem b_andNot (L : Nat → Nat → Bool) (k : EqK) (j : IntKind) (a b : Int) : binA L .andNot k (.int j a) (.int j b) = intBin .andNot j a b := by cases j <;> rfl
theorem b_shl (L : Nat → Nat → Bool) (k : EqK) (i j : IntKind) (a b : Int) : binA L .shl k (.int i a) (.int j b) = shiftA .shl i a b := rfl
theorem b_shr (L : Nat → Nat → Bool) (k : EqK) (i j : IntKind) (a b : Int) : binA L .shr k (.int i a) (.int j b) = shiftA .shr i a b := rfl
theorem s_add (L : Nat → Nat → Bool) (k : EqK) (a b : List Nat) : binA L .add k (.str a) (.str b) = strBin .add a b := rfl
theorem s_eql (L : Nat → Nat → Bool) (k : EqK) (a b : List Nat) : binA L .eql k (.str a) (.str b) = strBin .eql a b := rfl
theorem s_neq (L : Nat → Nat → Bool) (k : EqK) (a b : List Nat) : binA L .neq k (.str a) (.str b) = strBin .neq a b := rfl
theorem s_lss (L : Nat → Nat → Bool) (k : EqK) (a b : List Nat) : binA L .lss k (.str a) (.str b) = strBin .lss a b := rfl
theorem s_leq (L : Nat → Nat → Bool) (k : EqK) (a b : List Nat) : binA L .leq k (.str a) (.str b) = strBin .leq a b := rfl
theorem s_gtr (L : Nat → Nat → Bool) (k : EqK) (a b : List Nat) : binA L .gtr k (.str a) (.str b) = strBin .gtr a b := rfl
theorem s_geq (L : Nat → Nat → Bool) (k : EqK) (a b : List Nat) : binA L .geq k (.str a) (.str b) = strBin .geq a b := rfl
theorem n_eql_nilp (L : Nat → Nat → Bool) : binA L .eql .ptr .nilp .nilp = some (.bool true) := rfl
theorem n_eql_gptr (L : Nat → Nat → Bool) (a b : Nat) : binA L .eql .ptr (.gptr a b) .nilp = some (.bool false) := rfl
theorem n_eql_iptr (L : Nat → Nat → Bool) (x : List AVal) (a : Nat) : binA L .eql .ptr (.iptr x a) .nilp = some (.bool false) := rfl
theorem n_eql_nils (L : Nat → Nat → Bool) : binA L .eql .slice .nils .nils = some (.bool true) := rfl
theorem n_eql_imm (L : Nat → Nat → Bool) (e : Nat) (xs : List (List AVal)) (x : Bool) : binA L .eql .slice (.imm e xs x) .nils = some (.bool false) := rfl
theorem n_eql_nilm (L : Nat → Nat → Bool) : binA L .eql .map .nilm .nilm = some (.bool true) := rfl
theorem n_eql_mp (L : Nat → Nat → Bool) (a : Nat) : binA L .eql .map (.mp a) .nilm = some (.bool false) := rfl
theorem n_eql_nilf (L : Nat → Nat → Bool) : binA L .eql .func .nilf .nilf = some (.bool true) := rfl
theorem n_eql_func (L : Nat → Nat → Bool) (f : Fn) (a b : List AVal) : binA L .eql .func (.func f a b) .nilf = some (.bool false) := rfl
theorem n_eql_nili (L : Nat → Nat → Bool) : binA L .eql .iface .nili .nili = some (.bool true) := rfl
theorem n_eql_iface (L : Nat → Nat → Bool) (t : Nat) (v : AVal) : binA L .eql .iface (.iface t v) .nili = some (.bool false) := rfl
theorem n_eql_ptr (L : Nat → Nat → Bool) (i u q : Nat) (h : L i u = true) : binA L .eql .ptr (.ptr i u q) .nilp = some (.bool false) := by simp [binA, eqLive, ptrEq, nilOf, nilEq2, h]
theorem n_eql_sl (L : Nat → Nat → Bool) (i u q n : Nat) (c : Option Nat) (e : Nat) (h : L i u = true) : binA L .eql .slice (.sl i u q n c e) .nils = some (.bool false) := by simp [binA, eqLive, nilOf, nilEq2, h]
theorem n_neq_nilp (L : Nat → Nat → Bool) : binA L .neq .ptr .nilp .nilp = some (.bool false) := rfl
theorem n_neq_gptr (L : Nat → Nat → Bool) (a b : Nat) : binA L .neq .ptr (.gptr a b) .nilp = some (.bool true) := rfl
theorem n_neq_iptr (L : Nat → Nat → Bool) (x : List AVal) (a : Nat) : binA L .neq .ptr (.iptr x a) .nilp = some (.bool true) := rfl
theorem n_neq_nils (L : Nat → Nat → Bool) : binA L .neq .slice .nils .nils = some (.bool false) := rfl
theorem n_neq_imm (L : Nat → Nat → Bool) (e : Nat) (xs : List (List AVal)) (x : Bool) : binA L .neq .slice (.imm e xs x) .nils = some (.bool true) := rfl
theorem n_neq_nilm (L : Nat → Nat → Bool) : binA L .neq .map .nilm .nilm = some (.bool false) := rfl
theorem n_neq_mp (L : Nat → Nat → Bool) (a : Nat) : binA L .neq .map (.mp a) .nilm = some (.bool true) := rfl
theorem n_neq_nilf (L : Nat → Nat → Bool) : binA L .neq .func .nilf .nilf = some (.bool false) := rfl
theorem n_neq_func (L : Nat → Nat → Bool) (f : Fn) (a b : List AVal) : binA L .neq .func (.func f a b) .nilf = some (.bool true) := rfl
theorem n_neq_nili (L : Nat → Nat → Bool) : binA L .neq .iface .nili .nili = some (.bool false) := rfl
theorem n_neq_iface (L : Nat → Nat → Bool) (t : Nat) (v : AVal) : binA L .neq .iface (.iface t v) .nili = some (.bool true) := rfl
theorem n_neq_ptr (L : Nat → Nat → Bool) (i u q : Nat) (h : L i u = true) : binA L .neq .ptr (.ptr i u q) .nilp = some (.bool true) := by simp [binA, eqLive, ptrEq, nilOf, nilEq2, h]
theorem n_neq_sl (L : Nat → Nat → Bool) (i u q n : Nat) (c : Option Nat) (e : Nat) (h : L i u = true) : binA L .neq .slice (.sl i u q n c e) .nils = some (.bool true) := by simp [binA, eqLive, nilOf, nilEq2, h]
theorem ble_yes {a b : Nat} (h : a ≤ b) : Nat.ble a b = true := Nat.ble_eq_true_of_le h
theorem ble_no {a b : Nat} (h : b < a) : Nat.ble a b = false := by
  cases hb : Nat.ble a b with
  | false => rfl
  | true => have := Nat.le_of_ble_eq_true hb; omega
theorem blt_yes {a b : Nat} (h : a < b) : Nat.blt a b = true := Nat.ble_eq_true_of_le h
theorem blt_no {a b : Nat} (h : b ≤ a) : Nat.blt a b = false := ble_no (Nat.lt_succ_of_le h)
/-- A literal of one part. -/
theorem fill_one {t : Tr AVal} {y : AOpd} {v : AVal} {n : Nat} {cs : List AVal} (hv : nlO t y = some v) (hn : v.cells.length = n) (ho : oneV v = true) (hc : cs.length = n) : fillP t [(0, n, y)] cs = some v.cells := by
  subst hn
  simp only [fillP, hv, ho, Nat.beq_refl, Bool.and_self, cond_true, putAt, Nat.zero_add, hc, ble_yes (Nat.le_refl _), List.take_zero, List.nil_append]
  rw [← hc, List.drop_length, List.append_nil]
theorem on_lt (a b : Nat) : decide (Int.ofNat a < Int.ofNat b) = decide (a < b) := by simp
theorem on_le (a b : Nat) : decide (Int.ofNat a ≤ Int.ofNat b) = decide (a ≤ b) := by simp
theorem on_gt (a b : Nat) : decide (Int.ofNat a > Int.ofNat b) = decide (b < a) := by simp
theorem on_ge (a b : Nat) : decide (Int.ofNat a ≥ Int.ofNat b) = decide (b ≤ a) := by simp
theorem on_eq (a b : Nat) : (Int.ofNat a == Int.ofNat b) = decide (a = b) := by
  by_cases h : a = b
  · subst h; simp
  · have : (Int.ofNat a == Int.ofNat b) = false := by
      rw [beq_eq_false_iff_ne]
      exact fun e => h (Int.ofNat.inj e)
    rw [this]; simp [h]
theorem on_ne (a b : Nat) : (Int.ofNat a != Int.ofNat b) = !decide (a = b) := by
  unfold bne; rw [on_eq]
theorem bnd_nn (t : Tr AVal) (len cap : Nat) : boundsA t len cap none none none = cond (Nat.ble cap cap && Nat.ble len cap && Nat.ble 0 len) (some (0, len, cap)) none := by
  unfold boundsA; dsimp only
theorem bnd_ny (t : Tr AVal) (len cap : Nat) (y : AOpd) : boundsA t len cap none (some y) none = (match natOf (evalO t y) with
    | some h => cond (Nat.ble cap cap && Nat.ble h cap && Nat.ble 0 h) (some (0, h, cap)) none
    | none => none) := by
  unfold boundsA; dsimp only; cases natOf (evalO t y) <;> rfl
theorem bnd_yn (t : Tr AVal) (len cap : Nat) (y : AOpd) : boundsA t len cap (some y) none none = (match natOf (evalO t y) with
    | some l => cond (Nat.ble cap cap && Nat.ble len cap && Nat.ble l len) (some (l, len, cap)) none
    | none => none) := by
  unfold boundsA; dsimp only; cases natOf (evalO t y) <;> rfl
theorem bnd_yy (t : Tr AVal) (len cap : Nat) (x y : AOpd) : boundsA t len cap (some x) (some y) none = (match natOf (evalO t y) with
    | some h => (match natOf (evalO t x) with
      | some l => cond (Nat.ble cap cap && Nat.ble h cap && Nat.ble l h) (some (l, h, cap)) none
      | none => none)
    | none => none) := by
  unfold boundsA; dsimp only; cases natOf (evalO t y) <;> cases natOf (evalO t x) <;> rfl
end Wab
/- Rules by which a run of the abstract interpreter over open values is stepped through. -/
namespace Wab
open Go

/-- Some run of code ends so. -/
def WC (C : Oracle) (n : Nat) (c : ACode) (s : St) (Q : AExit → St → Prop) : Prop := ∃ e s', aexec C n c s = some (e, s') ∧ Q e s'
/-- Some run of operations ends so. -/
def WR (C : Oracle) (ops : List AOper) (s : St) (Q : St → Prop) : Prop := ∃ s', arun C ops s = some s' ∧ Q s'

section
variable {C : Oracle} {n : Nat}

theorem WC.mono {c : ACode} {s : St} {Q R : AExit → St → Prop} (h : WC C n c s Q) (hq : ∀ e s, Q e s → R e s) : WC C n c s R := by
  obtain ⟨e, s', h1, h2⟩ := h; exact ⟨e, s', h1, hq _ _ h2⟩

theorem wr_nil {s : St} {Q : St → Prop} (h : Q s) : WR C [] s Q := ⟨s, rfl, h⟩
theorem wr_some {t t1 : Tr AVal} {l l1 : Tr Box} {h h1 : AHeap} {d d1 : List (AVal × List AVal)} {k : Nat} {op : AOp} {os : List AOper} {v : AVal} {Q : St → Prop}
    (ho : aop C ⟨t, l, h, d⟩ op = some (v, ⟨t1, l1, h1, d1⟩)) (hq : WR C os ⟨t1.set k (some v), l1, h1, d1⟩ Q) : WR C (⟨some k, op, none⟩ :: os) ⟨t, l, h, d⟩ Q := by
  obtain ⟨s', a, b⟩ := hq
  exact ⟨s', by simp only [arun, guardA, ho, St.put]; exact a, b⟩
theorem wr_none {t t1 : Tr AVal} {l l1 : Tr Box} {h h1 : AHeap} {d d1 : List (AVal × List AVal)} {op : AOp} {os : List AOper} {v : AVal} {Q : St → Prop}
    (ho : aop C ⟨t, l, h, d⟩ op = some (v, ⟨t1, l1, h1, d1⟩)) (hq : WR C os ⟨t1, l1, h1, d1⟩ Q) : WR C (⟨none, op, none⟩ :: os) ⟨t, l, h, d⟩ Q := by
  obtain ⟨s', a, b⟩ := hq
  exact ⟨s', by simp only [arun, guardA, ho, St.put]; exact a, b⟩
theorem wr_yes {t t1 : Tr AVal} {l l1 : Tr Box} {h h1 : AHeap} {d d1 : List (AVal × List AVal)} {k j : Nat} {b : Bool} {op : AOp} {os : List AOper} {v : AVal} {Q : St → Prop}
    (hg : t.get j = some (.bool b)) (ho : aop C ⟨t, l, h, d⟩ op = some (v, ⟨t1, l1, h1, d1⟩)) (hq : WR C os ⟨t1.set k (some v), l1, h1, d1⟩ Q) : WR C (⟨some k, op, some (j, b)⟩ :: os) ⟨t, l, h, d⟩ Q := by
  obtain ⟨s', a, e⟩ := hq
  exact ⟨s', by simp only [arun, guardA, hg, beq_self_eq_true, ho, St.put]; exact a, e⟩
theorem wr_no {t : Tr AVal} {l : Tr Box} {h : AHeap} {d : List (AVal × List AVal)} {k j : Nat} {b : Bool} {op : AOp} {os : List AOper} {Q : St → Prop}
    (hg : t.get j = some (.bool (!b))) (hq : WR C os ⟨t.set k (some noRes), l, h, d⟩ Q) : WR C (⟨some k, op, some (j, b)⟩ :: os) ⟨t, l, h, d⟩ Q := by
  obtain ⟨s', a, e⟩ := hq
  refine ⟨s', ?_, e⟩
  cases b <;> simp only [arun, guardA, hg, St.put] <;> exact a
theorem wr_off {t : Tr AVal} {l : Tr Box} {h : AHeap} {d : List (AVal × List AVal)} {k j : Nat} {b : Bool} {op : AOp} {os : List AOper} {vs : List AVal} {Q : St → Prop}
    (hg : t.get j = some (.tup vs)) (hq : WR C os ⟨t.set k (some noRes), l, h, d⟩ Q) : WR C (⟨some k, op, some (j, b)⟩ :: os) ⟨t, l, h, d⟩ Q := by
  obtain ⟨s', a, e⟩ := hq
  exact ⟨s', by simp only [arun, guardA, hg, St.put]; exact a, e⟩

theorem wc_skip {s : St} {Q : AExit → St → Prop} (h : Q .normal s) : WC C n .skip s Q := ⟨_, _, rfl, h⟩
theorem wc_exit {i : Nat} {s : St} {Q : AExit → St → Prop} (h : Q (.exit i) s) : WC C n (.exit i) s Q := ⟨_, _, rfl, h⟩
theorem wc_ret {s : St} {Q : AExit → St → Prop} (h : Q .ret s) : WC C n .ret s Q := ⟨_, _, rfl, h⟩
theorem wc_region {ops : List AOper} {s : St} {Q : AExit → St → Prop} (h : WR C ops s (Q .normal)) : WC C n (.region ops) s Q := by
  obtain ⟨s', a, b⟩ := h
  exact ⟨.normal, s', by simp only [aexec, a], b⟩
theorem wc_regionD {b : List Nat} {ops : List AOper} {s s' : St} {Q : AExit → St → Prop} (h : arunD C b ops s = some s') (hq : Q .normal s') : WC C n (.regionD b ops) s Q :=
  ⟨.normal, s', by simp only [aexec, h], hq⟩
theorem wc_promote {ds : List Nat} {s s' : St} {Q : AExit → St → Prop} (h : promoteL ds s = some s') (hq : Q .normal s') : WC C n (.promote ds) s Q :=
  ⟨.normal, s', by simp only [aexec, h], hq⟩

def seqK (C : Oracle) (n : Nat) (b : ACode) (Q : AExit → St → Prop) : AExit → St → Prop
  | .normal, s => WC C n b s Q
  | .exit i, s => Q (.exit i) s
  | .ret, s => Q .ret s
theorem wc_seq {a b : ACode} {s : St} {Q : AExit → St → Prop} (h : WC C n a s (seqK C n b Q)) : WC C n (.seq a b) s Q := by
  obtain ⟨e, s1, h1, h2⟩ := h
  cases e with
  | normal =>
    obtain ⟨e', s', h3, h4⟩ := h2
    exact ⟨e', s', by simp only [aexec, h1]; exact h3, h4⟩
  | exit i => exact ⟨.exit i, s1, by simp only [aexec, h1], h2⟩
  | ret => exact ⟨.ret, s1, by simp only [aexec, h1], h2⟩
theorem sk_normal {b : ACode} {s : St} {Q : AExit → St → Prop} (h : WC C n b s Q) : seqK C n b Q .normal s := h
theorem sk_exit {b : ACode} {i : Nat} {s : St} {Q : AExit → St → Prop} (h : Q (.exit i) s) : seqK C n b Q (.exit i) s := h
theorem sk_ret {b : ACode} {s : St} {Q : AExit → St → Prop} (h : Q .ret s) : seqK C n b Q .ret s := h

def blockK (id : Nat) (Q : AExit → St → Prop) : AExit → St → Prop
  | .normal, s => Q .normal s
  | .exit i, s => if i = id then Q .normal s else Q (.exit i) s
  | .ret, s => Q .ret s
theorem wc_block {id : Nat} {b : ACode} {s : St} {Q : AExit → St → Prop} (h : WC C n b s (blockK id Q)) : WC C n (.block id b) s Q := by
  obtain ⟨e, s1, h1, h2⟩ := h
  cases e with
  | normal => exact ⟨.normal, s1, by simp only [aexec, h1], h2⟩
  | exit i =>
    simp only [blockK] at h2
    by_cases hi : i = id
    · rw [if_pos hi] at h2
      exact ⟨.normal, s1, by simp only [aexec, h1, cond_beq, if_pos hi], h2⟩
    · rw [if_neg hi] at h2
      exact ⟨.exit i, s1, by simp only [aexec, h1, cond_beq, if_neg hi], h2⟩
  | ret => exact ⟨.ret, s1, by simp only [aexec, h1], h2⟩
theorem bk_normal {id : Nat} {s : St} {Q : AExit → St → Prop} (h : Q .normal s) : blockK id Q .normal s := h
theorem bk_here {id : Nat} {s : St} {Q : AExit → St → Prop} (h : Q .normal s) : blockK id Q (.exit id) s := by
  simp only [blockK, if_true]; exact h
theorem bk_other {id i : Nat} {s : St} {Q : AExit → St → Prop} (hi : Nat.beq i id = false) (h : Q (.exit i) s) : blockK id Q (.exit i) s := by
  simp only [blockK]; rw [if_neg (Nat.ne_of_beq_eq_false hi)]; exact h
theorem bk_ret {id : Nat} {s : St} {Q : AExit → St → Prop} (h : Q .ret s) : blockK id Q .ret s := h

theorem wc_true {c : AOpd} {x y : ACode} {s : St} {Q : AExit → St → Prop} (hc : evalO s.t c = .bool true) (h : WC C n x s Q) : WC C n (.cond c x y) s Q := by
  obtain ⟨e, s', a, b⟩ := h
  exact ⟨e, s', by simp only [aexec, hc]; exact a, b⟩
theorem wc_false {c : AOpd} {x y : ACode} {s : St} {Q : AExit → St → Prop} (hc : evalO s.t c = .bool false) (h : WC C n y s Q) : WC C n (.cond c x y) s Q := by
  obtain ⟨e, s', a, b⟩ := h
  exact ⟨e, s', by simp only [aexec, hc]; exact a, b⟩

theorem wc_if {c : AOpd} {x y : ACode} {s : St} {Q : AExit → St → Prop} {b : Bool} (hc : evalO s.t c = .bool b) (h1 : b = true → WC C n x s Q) (h2 : b = false → WC C n y s Q) : WC C n (.cond c x y) s Q := by
  cases b with
  | true => exact wc_true hc (h1 rfl)
  | false => exact wc_false hc (h2 rfl)

/-- A loop: what holds at each round's head, and a number that every round lowers. -/
theorem wc_loop {b : ACode} {Q : AExit → St → Prop} (I : Nat → St → Prop) (hr : ∀ k s, I k s → WC C n b s (fun e s' => match e with
      | .normal => ∃ j, j < k ∧ I j s'
      | e => Q e s')) (k : Nat) (hk : k < n) {s : St} (h0 : I k s) : WC C n (.loop b) s Q := by
  have go : ∀ (m k : Nat) (s : St), k < m → I k s → ∃ e s', loopN (aexec C n b) m s = some (e, s') ∧ Q e s' := by
    intro m
    induction m with
    | zero => intro k s h; omega
    | succ m ih =>
      intro k s hk hi
      obtain ⟨e, s1, h1, h2⟩ := hr k s hi
      unfold loopN
      rw [h1]
      cases e with
      | normal =>
        obtain ⟨j, hj, hi'⟩ := h2
        exact ih j s1 (by omega) hi'
      | exit i => exact ⟨.exit i, s1, rfl, h2⟩
      | ret => exact ⟨.ret, s1, rfl, h2⟩
  obtain ⟨e, s', h1, h2⟩ := go n k s hk h0
  exact ⟨e, s', by simp only [aexec]; exact h1, h2⟩

/-- What is told at a pure function's end. -/
def retP (n : Nat) (res : List ARes) (h : AHeap) (r : AVal) (e : AExit) (s : St) : Prop := (e = .normal ∨ e = .ret) ∧ s.d = [] ∧ ∃ vs, resA s res = some vs ∧ Wab.freeze s.h h.next n false (packRes vs) = some r
/-- What is told at another function's end. -/
def retI (res : List ARes) (R : AVal → AHeap → Prop) (e : AExit) (s : St) : Prop := (e = .normal ∨ e = .ret) ∧ s.d = [] ∧ ∃ vs, resA s res = some vs ∧ R (packRes vs) s.h

theorem fn_pure {D : Oracle} {code : ACode} {res : List ARes} {args : List AVal} {h : AHeap} {r : AVal}
    (hw : WC C n code ⟨initT args 0 .lf, .lf, { h with lock := h.next }, []⟩ (retP n res h r)) : runFn C D n ⟨true, code, res, 0⟩ args h = some (r, h) := by
  obtain ⟨e, ⟨t, l, hh, d⟩, h1, he, hd, vs, h2, h3⟩ := hw
  simp only at hd
  subst hd
  have hb : runBody C n ⟨true, code, res, 0⟩ args h = some ⟨t, l, hh, []⟩ := by
    unfold runBody
    simp only [cond_true]
    rcases he with rfl | rfl <;> rw [h1]
  simp only at h3
  simp only [runFn, hb, runDef, finish, h2, cond_true, h3]
theorem fn_impure {D : Oracle} {code : ACode} {res : List ARes} {args : List AVal} {h : AHeap} {R : AVal → AHeap → Prop}
    (hw : WC C n code ⟨initT args 0 .lf, .lf, h, []⟩ (retI res R)) : ∃ r h', runFn C D n ⟨false, code, res, 0⟩ args h = some (r, h') ∧ R r h' := by
  obtain ⟨e, ⟨t, l, hh, d⟩, h1, he, hd, vs, h2, h3⟩ := hw
  simp only at hd
  subst hd
  have hb : runBody C n ⟨false, code, res, 0⟩ args h = some ⟨t, l, hh, []⟩ := by
    unfold runBody
    simp only [cond_false]
    rcases he with rfl | rfl <;> rw [h1]
  refine ⟨_, _, ?_, h3⟩
  simp only [runFn, hb, runDef, finish, h2, cond_false]

/-- What is told at a pure function's end, of some kind. -/
def retQ (n : Nat) (res : List ARes) (h : AHeap) (R : AVal → Prop) (e : AExit) (s : St) : Prop := ∃ r, retP n res h r e s ∧ R r
theorem fn_pureR {D : Oracle} {code : ACode} {res : List ARes} {args : List AVal} {h : AHeap} {R : AVal → Prop}
    (hw : WC C n code ⟨initT args 0 .lf, .lf, { h with lock := h.next }, []⟩ (retQ n res h R)) : ∃ r, runFn C D n ⟨true, code, res, 0⟩ args h = some (r, h) ∧ R r := by
  obtain ⟨e, s, h1, r, h2, h3⟩ := hw
  exact ⟨r, fn_pure ⟨e, s, h1, h2⟩, h3⟩

theorem retQ_mk {res : List ARes} {h : AHeap} {R : AVal → Prop} {e : AExit} {t : Tr AVal} {l : Tr Box} {h2 : AHeap} {vs : List AVal} {r : AVal} (he : e = .normal ∨ e = .ret) (hres : resA ⟨t, l, h2, []⟩ res = some vs)
    (hfr : Wab.freeze h2 h.next n false (packRes vs) = some r) (hR : R r) : retQ n res h R e ⟨t, l, h2, []⟩ := ⟨r, ⟨he, rfl, vs, hres, hfr⟩, hR⟩

/-- A guard, either way. -/
theorem wr_split {t : Tr AVal} {l : Tr Box} {h : AHeap} {d : List (AVal × List AVal)} {k : Option Nat} {j : Nat} {b c : Bool} {op : AOp} {os : List AOper} {Q : St → Prop}
    (hg : t.get j = some (.bool c)) (h1 : c = true → WR C (⟨k, op, some (j, b)⟩ :: os) ⟨t, l, h, d⟩ Q) (h2 : c = false → WR C (⟨k, op, some (j, b)⟩ :: os) ⟨t, l, h, d⟩ Q) : WR C (⟨k, op, some (j, b)⟩ :: os) ⟨t, l, h, d⟩ Q := by
  cases c with
  | true => exact h1 rfl
  | false => exact h2 rfl
end
end Wab
/- What comes in, as abstract values: arguments of booleans, integers, strings, slices and structs. -/
namespace Wab
open Go

/-- A type's shape; of a struct each field's cells. -/
inductive Sh where
  | bool
  | int (k : IntKind)
  | str
  | sl (n : Nat) (e : Sh)
  | st (fs : List (Nat × Sh))

def shFs (P : Program) (g : TypeId → Option Sh) : Nat → List Field → Option (List (Nat × Sh))
  | _, [] => some []
  | off, f :: fs => match g f.type, shFs P g (off + P.cellsOf f.type) fs with
    | some s, some r => cond (Nat.beq f.offset off) (some ((P.cellsOf f.type, s) :: r)) none
    | _, _ => none

def sumFs (fs : List (Nat × Sh)) : Nat := match fs with
  | [] => 0
  | (n, _) :: r => n + sumFs r

def shOf (P : Program) : Nat → TypeId → Option Sh
  | 0, _ => none
  | n + 1, t => match P.underlying t with
    | some .bool => some .bool
    | some (.int k) => some (.int k)
    | some .string => some .str
    | some (.slice e) => match shOf P n e with
      | some s => cond (Nat.blt 0 (P.cellsOf e)) (some (.sl (P.cellsOf e) s)) none
      | none => none
    | some (.struct fs) => match shFs P (shOf P n) 0 fs.toList with
      | some l => cond (Nat.beq (sumFs l) (P.cellsOf t)) (some (.st l)) none
      | none => none
    | _ => none

mutual
/-- Cells that read as a shape says. -/
def wfA : Sh → List AVal → Prop
  | .bool, xs => ∃ b, xs = [.bool b]
  | .int k, xs => ∃ n, xs = [.int k n] ∧ (Lit.int k n).wf = true
  | .str, xs => ∃ b : List Nat, xs = [.str b] ∧ b.length ≤ maxLen ∧ ∀ c ∈ b, c < 256
  | .sl n e, xs => xs = [.nils] ∨ ∃ ys ex, xs = [.imm n ys ex] ∧ ys.length ≤ maxLen ∧ ∀ y ∈ ys, wfA e y
  | .st fs, xs => wfFs fs xs
def wfFs : List (Nat × Sh) → List AVal → Prop
  | [], xs => xs = []
  | (n, s) :: fs, xs => wfA s (xs.take n) ∧ wfFs fs (xs.drop n)
end

/-- The context that a call begins in. -/
def Ctx.init (w : World) : Ctx := { σ := h00, H := w.heap, mu := fun _ => ⟨0, 0⟩, F := fun _ => False }

theorem init_live {w : World} {id : Nat} : ¬ (Ctx.init w).live id := by
  unfold Ctx.live Ctx.init h00; simp [Tr.get]
theorem init_own {w : World} {b : Nat} : ¬ (Ctx.init w).Own b := fun ⟨_, h, _⟩ => init_live h
theorem init_H (w : World) : HRel (Ctx.init w) :=
  ⟨fun _ h => absurd h init_live, fun _ _ => rfl, fun _ _ h => absurd h init_live, fun _ h => absurd h init_live, fun _ h => h.elim, Nat.le_refl _⟩

theorem choose_list {α : Type} {Q : Nat → α → Prop} : ∀ n, (∀ i, i < n → ∃ x, Q i x) → ∃ l : List α, l.length = n ∧ ∀ i x, l[i]? = some x → Q i x
  | 0, _ => ⟨[], rfl, fun i x h => by simp at h⟩
  | n + 1, h => by
    obtain ⟨l, h1, h2⟩ := choose_list n fun i hi => h i (by omega)
    obtain ⟨x, hx⟩ := h n (by omega)
    refine ⟨l ++ [x], by simp [h1], fun i y hy => ?_⟩
    rw [List.getElem?_append] at hy
    split at hy
    · exact h2 i y hy
    · rename_i hge
      have : i = n := by
        have := (List.getElem?_eq_some_iff.1 hy).1
        simp at this; omega
      subst this
      simp [h1] at hy
      subst hy; exact hx

theorem vrels_split {C : Ctx} {xs ys : List AVal} {vs ws : List Value} (h1 : vrels C xs vs) (h2 : vrels C ys ws) : vrels C (xs ++ ys) (vs ++ ws) := vrels_append h1 h2

section
variable {H : Type} {enc : TypeId × Value → H} {P : Program} {w : World}

def okCells (xs : List AVal) : Prop := ∀ x ∈ xs, one x = true ∧ pureC x = true

theorem cells_of {a : Addr} {n : Nat} {cs : List Value} (h : w.cells? 0 a n = some cs) : cs.length = n ∧ (0 < n → a.spot = none) ∧ ∀ (j : Nat) (v : Value), cs[j]? = some v → cellH w.heap a.block (a.off + j) = some v := by
  unfold World.cells? at h
  rw [if_pos (Nat.zero_le _)] at h
  have hl : cs.length = n := by simpa using mapM_some_length h
  have hg : ∀ j, j < n → w.cell? (a.add j) = cs[j]? := fun j hj => mapM_some_get h j j (by simp [hj])
  have cell : ∀ (p : Addr) (v : Value), w.cell? p = some v → p.spot = none ∧ cellH w.heap p.block p.off = some v := by
    intro p v hv
    unfold World.cell? at hv
    split at hv
    · rename_i c _ _ hb
      split at hv
      · cases hv
      · rename_i hs
        refine ⟨by simpa using hs, ?_⟩
        unfold cellH; rw [hb]; exact hv
    · cases hv
  refine ⟨hl, fun hn => ?_, fun j v hj => ?_⟩
  · have h0 := hg 0 hn
    have : ∃ v, cs[0]? = some v := ⟨cs[0]'(by omega), by simp⟩
    obtain ⟨v, hv⟩ := this
    rw [hv] at h0
    have := (cell _ _ h0).1
    simpa [Addr.add] using this
  · have hjn : j < n := by have := (List.getElem?_eq_some_iff.1 hj).1; omega
    have h0 := hg j hjn
    rw [hj] at h0
    have := (cell _ _ h0).2
    unfold Addr.add at this
    by_cases hz : j = 0
    · subst hz; simpa using this
    · rw [if_neg hz] at this; exact this

theorem cellsAt_init {b : Nat} : ∀ {xs : List AVal} {vs : List Value} {o : Nat}, vrels (Ctx.init w) xs vs → okCells xs → (∀ (j : Nat) (v : Value), vs[j]? = some v → cellH w.heap b (o + j) = some v) → cellsAt (Ctx.init w) b o xs
  | [], _, _, _, _, _ => by simp [cellsAt]
  | _ :: _, [], _, r, _, _ => by simp [vrels] at r
  | x :: xs, v :: vs, o, r, ho, h => by
    simp only [vrels] at r
    simp only [cellsAt]
    obtain ⟨h1, h2⟩ := ho x List.mem_cons_self
    refine ⟨⟨h1, init_own, ⟨fun h => h, h2⟩, v, h 0 v rfl, r.1⟩, cellsAt_init r.2 (fun y hy => ho y (List.mem_cons_of_mem _ hy)) fun j u hj => ?_⟩
    have := h (j + 1) u (by simpa using hj)
    rw [show o + 1 + j = o + (j + 1) from by omega]; exact this

/-- What is read of an argument, as abstract cells. -/
theorem trod_abs : ∀ (m : Nat) (t : TypeId) (s : Sh), shOf P m t = some s → ∀ (fuel : Nat) (cs : List Value) (x : DataW H × List MemPlace), DataW.trod enc P w 0 (fun _ => true) true fuel t cs = some x →
    ∃ xs, wfA s xs ∧ vrels (Ctx.init w) xs cs ∧ okCells xs
  | 0, t, s, hs, _, _, _, _ => by simp [shOf] at hs
  | m + 1, t, s, hs, fuel, cs, x, h => by
    unfold shOf at hs
    split at hs
    · rename_i hu
      injection hs with hs; subst hs
      obtain ⟨b, rfl, _⟩ := DataW.trod_bool hu h
      exact ⟨[.bool b], by simp only [wfA]; exact ⟨b, rfl⟩, by simp [vrels, vrel], fun x hx => by simp at hx; subst hx; exact ⟨rfl, rfl⟩⟩
    · rename_i k hu
      injection hs with hs; subst hs
      obtain ⟨n, rfl, _, hw⟩ := DataW.trod_int hu h
      exact ⟨[.int k n], by simp only [wfA]; exact ⟨n, rfl, hw⟩, by simp [vrels, vrel], fun x hx => by simp at hx; subst hx; exact ⟨rfl, rfl⟩⟩
    · rename_i hu
      injection hs with hs; subst hs
      obtain ⟨st, rfl, _, hw⟩ := DataW.trod_string hu h
      refine ⟨[.str (st.data.toList.map (·.toNat))], by simp only [wfA]; exact ⟨_, rfl, by simpa using hw, fun c hc => by
        obtain ⟨b, _, rfl⟩ := List.mem_map.1 hc; exact b.toNat_lt⟩, by simp [vrels, vrel], fun x hx => by simp at hx; subst hx; exact ⟨rfl, rfl⟩⟩
    · rename_i e hu
      split at hs
      · rename_i se hse
        cases hc : Nat.blt 0 (P.cellsOf e) with
        | false => rw [hc] at hs; cases hs
        | true =>
          rw [hc] at hs
          have hc := Nat.le_of_ble_eq_true hc
          injection hs with hs; subst hs
          rcases DataW.trod_slice hu h with ⟨rfl, _⟩ | ⟨a, len, cap, elems, rest, n, _, rfl, _, _, hl, hcm, hel, hg, _⟩
          · exact ⟨[.nils], by simp only [wfA]; exact Or.inl trivial, by simp [vrels, vrel], fun x hx => by simp at hx; subst hx; exact ⟨rfl, rfl⟩⟩
          · have one : ∀ i, i < len → ∃ y, wfA se y ∧ y.length = P.cellsOf e ∧ cellsAt (Ctx.init w) a.block (a.off + i * P.cellsOf e) y ∧ a.spot = none := by
              intro i hi
              have hi' := hg i hi
              rw [List.getElem?_eq_getElem (by omega)] at hi'
              simp only [Option.bind_eq_some_iff] at hi'
              obtain ⟨cs', h1, h2⟩ := hi'
              obtain ⟨y, y1, y2, y3⟩ := trod_abs m e se hse n cs' _ h2
              obtain ⟨g1, g2, g3⟩ := cells_of h1
              have hoff : (a.add (i * P.cellsOf e)).off = a.off + i * P.cellsOf e ∧ (a.add (i * P.cellsOf e)).block = a.block := by
                unfold Addr.add
                by_cases hz : i * P.cellsOf e = 0
                · rw [if_pos hz]; exact ⟨by omega, rfl⟩
                · rw [if_neg hz]; exact ⟨rfl, rfl⟩
              rw [hoff.1, hoff.2] at g3
              refine ⟨y, y1, by rw [vrels_length y2, g1], cellsAt_init y2 y3 g3, ?_⟩
              -- the first element's place
              have h0 := hg 0 (by omega)
              rw [List.getElem?_eq_getElem (by omega)] at h0
              simp only [Option.bind_eq_some_iff] at h0
              obtain ⟨c0, k1, _⟩ := h0
              have := (cells_of k1).2.1 hc
              simpa [Addr.add] using this
            obtain ⟨ys, hyl, hys⟩ := choose_list len one
            refine ⟨[.imm (P.cellsOf e) ys false], by
              simp only [wfA]
              refine .inr ⟨ys, false, rfl, by omega, fun y hy => ?_⟩
              obtain ⟨i, hi⟩ := List.getElem?_of_mem hy
              exact (hys i y hi).1, ?_, fun x hx => by simp at hx; subst hx; exact ⟨rfl, rfl⟩⟩
            simp only [vrels, vrel, and_true]
            refine ⟨a.block, a.off, cap, a.spot, by rw [hyl], fun hne => ?_, by omega, fun h => (by cases h), elemsAt_of fun i y hi => ⟨(hys i y hi).2.1, (hys i y hi).2.2.1⟩⟩
            cases ys with
            | nil => exact absurd rfl hne
            | cons y ys => exact (hys 0 y rfl).2.2.2
      · cases hs
    · rename_i fs hu
      split at hs
      · rename_i l hl
        rw [cond_beq] at hs
        split at hs
        · rename_i hsum
          injection hs with hs; subst hs
          obtain ⟨xs, n, _, _, hlen, hxl, hf⟩ := DataW.trod_struct hu h
          have go : ∀ (gs : List Field) (off : Nat) (l : List (Nat × Sh)), shFs P (shOf P m) off gs = some l → (∀ f ∈ gs, ∃ y, DataW.trod enc P w 0 (fun _ => true) true n f.type ((cs.drop f.offset).take (P.cellsOf f.type)) = some y) → off + sumFs l = cs.length →
              ∃ ys, wfFs l ys ∧ vrels (Ctx.init w) ys (cs.drop off) ∧ okCells ys := by
            intro gs
            induction gs with
            | nil =>
              intro off l h1 _ h3
              simp [shFs] at h1; subst h1
              simp [sumFs] at h3
              exact ⟨[], by simp [wfFs], by rw [List.drop_eq_nil_of_le (by omega)]; simp [vrels], fun x hx => by cases hx⟩
            | cons f gs ih =>
              intro off l h1 h2 h3
              simp only [shFs] at h1
              split at h1
              · rename_i s1 r1 g1 g2
                rw [cond_beq] at h1
                split at h1
                · rename_i ho
                  injection h1 with h1; subst h1
                  simp only [sumFs] at h3
                  obtain ⟨y, hy⟩ := h2 f List.mem_cons_self
                  obtain ⟨zs, z1, z2, z3⟩ := trod_abs m f.type s1 g1 n _ y hy
                  obtain ⟨ys, y1, y2, y3⟩ := ih (off + P.cellsOf f.type) r1 g2 (fun f' hf' => h2 f' (List.mem_cons_of_mem _ hf')) (by omega)
                  have hzl : zs.length = P.cellsOf f.type := by
                    rw [vrels_length z2, List.length_take, List.length_drop, ho]; omega
                  refine ⟨zs ++ ys, ?_, ?_, fun x hx => (List.mem_append.1 hx).elim (z3 x) (y3 x)⟩
                  · simp only [wfFs]
                    rw [← hzl, List.take_left, List.drop_left]
                    exact ⟨z1, y1⟩
                  · rw [show cs.drop off = (cs.drop off).take (P.cellsOf f.type) ++ cs.drop (off + P.cellsOf f.type) from by rw [← List.drop_drop, List.take_append_drop]]
                    rw [ho] at z2
                    exact vrels_append z2 y2
                · cases h1
              · cases h1
          obtain ⟨ys, y1, y2, y3⟩ := go fs.toList 0 l hl (fun f hf' => by
            obtain ⟨i, hi⟩ := List.getElem?_of_mem hf'
            have hi2 : fs[i]? = some f := by simpa using hi
            have := hf i f hi2
            have hil : i < xs.length := by
              have := (Array.getElem?_eq_some_iff.1 hi2).1; omega
            exact ⟨xs[i], by rw [this, List.getElem?_eq_getElem hil]⟩) (by omega)
          exact ⟨ys, by simp only [wfA]; exact y1, by simpa using y2, y3⟩
        · cases hs
      · cases hs
    · cases hs
end
end Wab
/- The last step: a law's run, told as its row wants it. -/
namespace Wab
open Go Go.ChangeShapes Go.WideShapes Go.ChangeAt Go.RowKit

section
variable {H : Type} {enc : TypeId × Value → H} {P : Program}

theorem trodAll_keep {W W' : World} {T : TypeId → Prop} (K : Kids P T) (hz : ∀ t e, T t → P.underlying t = some (.slice e) → 0 < P.cellsOf e) (hb : Below W.heap.size W W') {sp : Nat → Bool} {ts : List TypeId} {vs : List Value} {ds : List (DataW H)} {ps : List MemPlace}
    (hT : ∀ t ∈ ts, T t) (h : DataW.TrodAll enc P W 0 (fun _ => true) true ts vs ds ps) (hlt : ∀ p ∈ ps, p.block < W.heap.size) (hs : ∀ p ∈ ps, sp p.block = true) : DataW.TrodAll enc P W' 0 sp true ts vs ds ps := by
  have h1 := DataW.TrodAll.respare K hz hT h hs
  have carry : ∀ {ts : List TypeId} {vs : List Value} {ds : List (DataW H)} {ps : List MemPlace}, (∀ p ∈ ps, p.block < W.heap.size) → DataW.TrodAll enc P W 0 sp true ts vs ds ps → DataW.TrodAll enc P W' 0 sp true ts vs ds ps := by
    intro ts
    induction ts with
    | nil =>
      intro vs ds ps _ h
      cases vs <;> cases ds <;> first | exact h | exact h.elim
    | cons t ts ih =>
      intro vs ds ps hlt h
      cases vs <;> cases ds <;> try exact h.elim
      obtain ⟨p, q, ⟨n, hp⟩, hq, e⟩ := h
      subst e
      refine ⟨p, q, ⟨n, DataW.trod_carry n _ _ _ hp fun x hx => ?_⟩, ih (fun x hx => hlt x (List.mem_append_right _ hx)) hq, rfl⟩
      have hx' := hlt x (List.mem_append_left _ hx)
      cases x with
      | cell b o => exact (hb.cell (p := ⟨b, o, none⟩) hx')
      | map b => exact hb.block b hx'
  exact carry hlt h1

/-- A law that answered true, and left all that was. -/
theorem post_true {fn : Func} {s : ChangeSpec} {apart fresh handsOn again : Bool} {W W' : World} {args : Array Value} {ds gs : List (DataW H)} {before : List MemPlace} {tb : TypeId}
    (K : Kids P (· < P.types.size)) (hz : ∀ t e, t < P.types.size → P.underlying t = some (.slice e) → 0 < P.cellsOf e) (hps : ∀ t ∈ fn.params.toList, t < P.types.size)
    (hv : s.vars = []) (hfn : s.fn H ds = { results := [.lit (.bool true)], args := ds }) (hr : fn.resultTypes = #[tb]) (hu : P.underlying tb = some .bool)
    (hW : DataW.Whole enc P fn.params.toList s.vars apart W args.toList ds gs before) (hb : Below W.heap.size W W') :
    s.post enc P fn apart fresh handsOn again W args (.bool true) W' := by
  have hlt : ∀ p ∈ before, p.block < W.heap.size := fun p hp => hW.lt p hp
  have hW2 := hW
  obtain ⟨p, q, hA, hV, rfl, hfz, hnd⟩ := hW
  rw [hv] at hV
  obtain ⟨rfl, rfl⟩ := trodVars_none hV
  rw [List.append_nil] at hlt hfz hnd hW2
  have res : ∀ (b : Nat) (sp : Nat → Bool) (hd : Bool), DataW.TrodAll enc P W' b sp hd fn.resultTypes.toList ((Value.bool true).resultList fn.resultTypes.size) (s.fn H (ds ++ [])).results [] := by
    intro b sp hd
    rw [List.append_nil, hfn, hr]
    exact trodAll_mk1 (shut_bool hu true)
  have args' : ∀ sp : Nat → Bool, (∀ x ∈ p, sp x.block = true) → DataW.TrodAll enc P W' 0 sp true fn.params.toList args.toList (s.fn H (ds ++ [])).args p := by
    intro sp hs
    rw [List.append_nil, hfn]
    exact trodAll_keep K hz hb hps hA hlt hs
  have vars' : ∀ sp : Nat → Bool, DataW.TrodVars enc P W' sp s.vars (s.fn H (ds ++ [])).vars [] := by
    intro sp
    rw [List.append_nil, hfn, hv]
    exact rfl
  refine ⟨ds, [], p, [], p, [], hW2, res _ _ _, args' _ (fun x hx => by simpa using hlt x hx), vars' _, World.keptBut_mono (fun x hx => ⟨hx, .inr (.inl hx)⟩) (hb.frame (· ∈ p)), fun _ => ⟨fun j t r ht hrr => ?_, _, _, ([] ++ p) ++ [], ⟨[] ++ p, [], trodAll_append (args' _ (fun _ _ => rfl)) (res _ _ _), vars' _, rfl, ?_, ?_⟩, ?_⟩⟩
  · rw [hr] at ht hrr
    rcases j with _ | j
    · simp at ht; subst ht
      simp [Value.resultList] at hrr; subst hrr
      exact okWide_bool_mk hu true
    · simp at ht
  · intro b off hp
    simp only [List.nil_append, List.append_nil] at hp
    rw [hb.frozen (hlt _ hp)]
    exact hfz b off hp
  · intro ha
    simpa using hnd ha
  · intro x hx _
    simpa using hx
end
end Wab
/- A law's run, as a call of the model. -/
namespace Wab
open Go Go.ChangeShapes Go.WideShapes Go.ChangeAt Go.RowKit

theorem law_calls {P : Program} {O : Oracle} (hO : OSound P O) {f : Nat} {fn : Func} (hf : P.funcs[f]? = some fn) (hb : fn.body.isSome = true) (hn : (fn.name == "runtime.NumGoroutine") = false) {avs : List AVal} {h' : AHeap} {W : World} {args : Array Value}
    (hrun : O f avs h00 = some (.bool true, h')) (hargs : vrels (Ctx.init W) avs args.toList) : Calls P f args W fun e W' => e = .returned (.bool true) ∧ Below W.heap.size W W' := by
  have post : ∀ v w', Post (Ctx.init W) W (.bool true) h' v w' → v = .bool true ∧ Below W.heap.size W w' := by
    rintro v w' ⟨C', p1, _, _, p4, p5, _⟩
    simp only [vrel] at p4
    exact ⟨p4, p5.os, p5.tape, p5.output, by rw [p1]; exact p5.size, fun k hk => by rw [p1]; exact (p5.old k hk init_own).1⟩
  obtain ⟨c, hc⟩ := Option.isSome_iff_exists.1 hb
  have hen := callFunc_enter hf hc hn args W
  rcases hO f avs h00 _ h' hrun (Ctx.init W) args W rfl rfl (init_H W) hargs with ⟨v, w', q1, _⟩ | ⟨_, q2⟩
  · rw [hen] at q1; cases q1
  · refine Calls.mono q2 fun e w' he => ?_
    cases e with
    | returned v => obtain ⟨e1, e2⟩ := post v w' he; subst e1; exact ⟨rfl, e2⟩
    | panicked _ => exact he.elim
    | outgrown => exact he.elim

/-- An argument, as an abstract value: of a type that is one cell. -/
theorem arg_abs {H : Type} {enc : TypeId × Value → H} {P : Program} {w : World} {m : Nat} {t : TypeId} {s : Sh} (hs : shOf P m t = some s) {v : Value} {d : DataW H} {ps : List MemPlace} (h : DataW.Trod enc P w 0 (fun _ => true) true t v d ps) :
    ∃ xs, wfA s xs ∧ vrels (Ctx.init w) xs v.cells.toList ∧ okCells xs := by
  obtain ⟨fuel, h⟩ := h
  exact trod_abs m t s hs fuel _ _ h

theorem wfA_one {s : Sh} (hs : ∀ fs, s ≠ .st fs) {xs : List AVal} (h : wfA s xs) : ∃ x, xs = [x] := by
  cases s <;> simp only [wfA] at h
  · obtain ⟨b, rfl⟩ := h; exact ⟨_, rfl⟩
  · obtain ⟨b, rfl, _⟩ := h; exact ⟨_, rfl⟩
  · obtain ⟨b, rfl, _⟩ := h; exact ⟨_, rfl⟩
  · rcases h with rfl | ⟨ys, ex, rfl, _⟩ <;> exact ⟨_, rfl⟩
  · exact absurd rfl (hs _)

theorem sh_plain {P : Program} {m : Nat} {t : TypeId} {s : Sh} (hs : shOf P m t = some s) (hn : ∀ fs, s ≠ .st fs) {w : World} {r : Reach} {base : Nat} {v : Value} (hok : Value.okWide P w r base t v) : v.cells = #[v] := by
  cases m with
  | zero => simp [shOf] at hs
  | succ m =>
    unfold Value.okWide at hok
    unfold shOf at hs
    split at hs
    · rename_i hu; rw [hu] at hok; cases v <;> first | rfl | (simp [Cell.okWide, Cell.ok, hu] at hok)
    · rename_i k hu; rw [hu] at hok; cases v <;> first | rfl | (simp [Cell.okWide, Cell.ok, hu] at hok)
    · rename_i hu; rw [hu] at hok; cases v <;> first | rfl | (simp [Cell.okWide, Cell.ok, hu] at hok)
    · rename_i e hu; rw [hu] at hok; cases v <;> first | rfl | (simp [Cell.okWide, Cell.ok, hu] at hok)
    · split at hs
      · rw [cond_beq] at hs
        split at hs
        · injection hs with hs; exact absurd hs.symm (hn _)
        · cases hs
      · cases hs
    · cases hs

/-- An argument of one cell. -/
theorem arg_one {H : Type} {enc : TypeId × Value → H} {P : Program} {w : World} {m : Nat} {t : TypeId} {s : Sh} (hs : shOf P m t = some s) (hn : ∀ fs, s ≠ .st fs) {v : Value} {d : DataW H} {ps : List MemPlace} {r : Reach} {base : Nat} (hok : Value.okWide P w r base t v)
    (h : DataW.Trod enc P w 0 (fun _ => true) true t v d ps) : ∃ x, wfA s [x] ∧ vrel (Ctx.init w) x v ∧ pureC x = true := by
  obtain ⟨xs, x1, x2, x3⟩ := arg_abs hs h
  obtain ⟨x, rfl⟩ := wfA_one hn x1
  rw [sh_plain hs hn hok] at x2
  simp only [vrels] at x2
  exact ⟨x, x1, x2.1, (x3 x (by simp)).2⟩

/-- An argument that is a struct. -/
theorem arg_st {H : Type} {enc : TypeId × Value → H} {P : Program} {w : World} {m : Nat} {t : TypeId} {fs : List (Nat × Sh)} (hs : shOf P m t = some (.st fs)) {gs : Array Field} (hu : P.underlying t = some (.struct gs)) {v : Value} {d : DataW H} {ps : List MemPlace} {r : Reach} {base : Nat} (hok : Value.okWide P w r base t v)
    (h : DataW.Trod enc P w 0 (fun _ => true) true t v d ps) : ∃ xs, wfA (.st fs) xs ∧ vrel (Ctx.init w) (.agg xs) v ∧ okCells xs := by
  obtain ⟨xs, x1, x2, x3⟩ := arg_abs hs h
  unfold Value.okWide at hok
  rw [hu] at hok
  obtain ⟨cs, rfl, _⟩ := hok
  refine ⟨xs, x1, ?_, x3⟩
  simp only [vrel]
  exact ⟨List.all_eq_true.2 fun x hx => (x3 x hx).1, cs, rfl, x2⟩
end Wab
