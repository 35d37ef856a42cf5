/-
  The abstract machine is sound: operations (second part). (No statement of the claim's own is proved here.)
-/
import Derived.Test.YtdkbkilgmmenkaaGreatDoorAm2
import Derived.Laws.Tables
set_option linter.all false
namespace Go.Am

section
variable {P : Program} {o : Oper} {ev : Operand → AV} {hp : List OB} {nid : Nat}
variable {m : Mem} {β : Plc}

/-- An operation that makes one block. -/
theorem OpSem.push {v : AV} {r : List Nat} {ob : OB} (h : ∀ (w0 : World) (m0 : Mem) (O : Nat → Prop) (hp₁ : List OB) (m : Mem) (β : Plc) (w : World) (a : Act),
    (∀ x ∈ o.op.operands, Rel m β (ev x) (a.eval x)) → State w0 m0 O m β w hp₁ → (∀ b ∈ r, hp₁[b]? = hp[b]?) → β nid = none →
    ∃ u w' obj k cap, (execOp a.eval o).run P w = .ok (.value u) w' ∧ (w'.heap = w.heap.push obj ∧ IO0 w w') ∧ (m w.heap.size = none → OBRel m (upd β nid ⟨w.heap.size, k, cap⟩) w' nid ob) ∧ Rel m (upd β nid ⟨w.heap.size, k, cap⟩) v u)
    (hlt : ∀ b ∈ r, b < hp.length := by first | (intro b hb; simp at hb; done) | (intro q hq; simp only [List.mem_singleton] at hq; subst hq; first | exact (Live.of_cells (by assumption)).lt | exact (Live.of_map (by assumption)).lt)) :
    OpSem P o ev hp nid { v, n := [ob], r } := by
  refine ⟨by simp, hlt, ?_⟩
  intro w0 m0 O hp₁ m β w a next Q hops hS hr hfr hn
  have hf : hp₁[nid]? = some .fresh := by simpa using hfr 0 (by simp)
  have hβ : β nid = none := hS.blocks nid _ hf
  obtain ⟨u, w', obj, k, cap, hrun, ⟨hheap, hio⟩, hob, hrel⟩ := h w0 m0 O hp₁ m β w a hops hS hr hβ
  unfold Oper.wp
  rw [hrun]
  have hm : m w.heap.size = none := by
    cases h : m w.heap.size with
    | none => rfl
    | some o => have := hS.mem_lt h; omega
  exact hn u w' m _ (Mem.le_refl m) (upd_le _ hβ) hrel (hS.push hf hheap hio (hob hm))

theorem rel_constAV (v : Value) : Rel m β (constAV v) v := by
  unfold constAV
  split
  · simp [Rel]
  · rename_i cs
    simp only [Rel]
    refine ⟨cs.toList, by simp, RelL.of_get (by simp) fun i x u hx hu => ?_⟩
    rw [List.getElem?_map, hu] at hx
    simp at hx; subst hx
    split <;> simp [Rel]
  · simp [Rel]

theorem oneCell_of {x : AV} {v : Value} (h : AV.one x = true) (hr : Rel m β x v) : v.oneCell' = true := by
  cases x with
  | val u => simp only [Rel] at hr; subst hr; cases v <;> simp_all [AV.one, Value.oneCell']
  | top => simp [AV.one] at h
  | nil => simp only [Rel] at hr; subst hr; rfl
  | agg _ => simp [AV.one] at h
  | tup _ => simp [AV.one] at h
  | sl _ _ => simp only [Rel] at hr; obtain ⟨a, cap, rfl, _⟩ := hr; rfl
  | ref _ => simp only [Rel] at hr; obtain ⟨a, c, e, fz, rfl, _⟩ := hr; rfl
  | osl _ _ _ => simp only [Rel] at hr; obtain ⟨L, j, cap, _, rfl, _⟩ := hr; rfl
  | optr _ _ _ => simp only [Rel] at hr; obtain ⟨L, _, rfl⟩ := hr; rfl
  | fn _ _ => simp only [Rel] at hr; obtain ⟨vs, rfl, _⟩ := hr; rfl
  | mv _ _ => simp only [Rel] at hr; obtain ⟨vs, rfl, _⟩ := hr; rfl
  | omap _ => simp only [Rel] at hr; obtain ⟨L, _, rfl⟩ := hr; rfl

/-- The cells of a value. -/
theorem cells_rel {x : AV} {v : Value} (h : x.cells.all AV.one = true) (hr : Rel m β x v) : RelL m β x.cells v.cells.toList ∧ ∀ u ∈ v.cells.toList, u.oneCell' = true := by
  have key : ∀ {xs : List AV} {vs : List Value}, xs.all AV.one = true → RelL m β xs vs → ∀ u ∈ vs, u.oneCell' = true := by
    intro xs vs h1 h2 u hu
    obtain ⟨i, hi, rfl⟩ := List.getElem_of_mem hu
    have hl := h2.length
    obtain ⟨v, hv, hR⟩ := h2.get (i := i) (x := xs[i]) (List.getElem?_eq_getElem (by omega))
    rw [List.getElem?_eq_getElem hi] at hv; cases hv
    rw [List.all_eq_true] at h1
    exact oneCell_of (h1 _ (List.getElem_mem _)) hR
  have single : ∀ {x : AV}, AV.one x = true → Rel m β x v → RelL m β [x] v.cells.toList := by
    intro x h1 hr
    have := oneCell_of h1 hr
    have e : v.cells = #[v] := by cases v <;> simp_all [Value.cells, Value.oneCell']
    rw [e]; simp only [RelL]; exact ⟨v, [], rfl, hr, rfl⟩
  have hR : RelL m β x.cells v.cells.toList := by
    cases x with
    | agg cs =>
      simp only [Rel] at hr
      obtain ⟨vs, rfl, h2⟩ := hr
      simpa [AV.cells, Value.cells] using h2
    | _ => exact single (by simpa [AV.cells] using h) hr
  exact ⟨hR, key h hR⟩

/-- What is needed of a block of cells that has just been laid. -/
theorem OBRel.laid {w w' : World} {b k cap : Nat} {rows : List (List AV)} {c : Array Value} {e : TypeId} {β' : Plc} (hb : β' b = some ⟨w.heap.size, k, cap⟩) (hk : 0 < k) (hw : w'.heap = w.heap.push (.cells c e)) (hc : c.size = cap * k) (hr : rows.length ≤ cap)
    (hm : m w.heap.size = none) (hR : RelRows m β' k rows c.toList) : OBRel m β' w' b (.cells e k rows) :=
  ⟨_, c, (0, 0), hb, rfl, hk, by rw [hw]; simp, .inl (Nat.le_refl _), hc, hr, hm, hR⟩

theorem RelRows.single {k : Nat} {cs : List AV} {vs : List Value} (h : RelL m β cs vs) (h1 : cs.all AV.one = true) (hk : cs.length = k) : RelRows m β k [cs] vs := by
  simp only [RelRows, and_true]
  refine ⟨⟨hk, h1⟩, ?_⟩
  rw [List.take_of_length_le (by rw [← h.length]; omega)]; exact h

theorem run_zeroValue' {t : TypeId} {z : AV} (h : zeroAV P t = some z) (w : World) : ∃ zv, (zeroValue t).run P w = .ok zv w ∧ z = constAV zv := by
  unfold zeroAV at h
  cases hi : P.info? t with
  | none => simp [hi] at h
  | some i =>
    cases hz : i.zero with
    | none => simp [hi, hz] at h
    | some zv => simp [hi, hz] at h; exact ⟨zv, by simp [zeroValue, typeInfo, hi, hz], h.symm⟩
end

section
variable {P : Program} {C : FuncId → List AV → List OB → AV → List OB → Prop} {d : Option Tmp} {t : TypeId} {p : String} {af : Array Edge} {g : Option (Nat × Bool)} {ev : Operand → AV} {hp : List OB}

theorem snd_box (e x) : Snd P C ⟨d, .box e x, t, p, af, g⟩ ev hp := fun K h => by
  simp only [aop] at h
  obtain ⟨h0, h1, h2, hK⟩ := h
  refine ⟨_, hK, .push fun w0 m0 O hp₁ m β w a hops hS hrd hβ => ?_⟩
  have e1 := hops x (by simp [Op.operands])
  have hle := upd_le ⟨w.heap.size, szOf P e, 1⟩ hβ
  obtain ⟨hR, _⟩ := cells_rel h2 (e1.mono (Mem.le_refl m) hle)
  refine ⟨.pointer (some ⟨w.heap.size, 0, none⟩), { w with heap := w.heap.push (.cells (a.eval x).cells e) }, _, szOf P e, 1, ?_, ⟨rfl, rfl, rfl⟩, fun hm => ?_, ?_⟩
  · simp [execOp, Instr.box, newVar, newRow]
  · refine OBRel.laid (upd_self _ _ _) h0 rfl ?_ (by simp) hm (RelRows.single hR h2 h1)
    have hlen := hR.length; simp only [Array.length_toList] at hlen; rw [← hlen]; omega
  · simp only [Rel]; exact ⟨_, upd_self _ _ _, by simp⟩

theorem relRows_chunk {m : Mem} {β : Plc} {k : Nat} : ∀ (n : Nat) {cs : List AV} {vs : List Value}, RelL m β cs vs → cs.all AV.one = true → cs.length = n * k → RelRows m β k (chunk k n cs) vs
  | 0, _, _, _, _, _ => by simp [chunk, RelRows]
  | n + 1, cs, vs, h, h1, hl => by
    rw [Nat.succ_mul] at hl
    simp only [chunk, RelRows]
    rw [List.all_eq_true] at h1
    refine ⟨⟨by rw [List.length_take]; omega, ?_⟩, h.take k, relRows_chunk n (h.drop k) ?_ (by rw [List.length_drop]; omega)⟩
    · rw [List.all_eq_true]; exact fun x hx => h1 x (List.mem_of_mem_take hx)
    · rw [List.all_eq_true]; exact fun x hx => h1 x (List.mem_of_mem_drop hx)
theorem chunk_length (k : Nat) : ∀ (n : Nat) (cs : List AV), (chunk k n cs).length = n
  | 0, _ => rfl
  | n + 1, cs => by simp [chunk, chunk_length k n]

theorem snd_alloc (e) : Snd P C ⟨d, .alloc e, t, p, af, g⟩ ev hp := fun K h => by
  simp only [aop] at h
  split at h
  · rename_i n el ha
    split at h
    · rename_i z hz
      obtain ⟨h0, h1, h2, hK⟩ := h
      refine ⟨_, hK, .push fun w0 m0 O hp₁ m β w a hops hS hrd hβ => ?_⟩
      obtain ⟨zv, hrun, rfl⟩ := run_zeroValue' hz w
      obtain ⟨hR, _⟩ := cells_rel h2 (rel_constAV (m := m) (β := upd β hp.length ⟨w.heap.size, szOf P el, n⟩) zv)
      refine ⟨.pointer (some ⟨w.heap.size, 0, none⟩), { w with heap := w.heap.push (.cells zv.cells e) }, _, szOf P el, n, ?_, ⟨rfl, rfl, rfl⟩, fun hm => ?_, ?_⟩
      · simp [execOp, Instr.alloc, newVar, newRow, hrun]
      · refine OBRel.laid (upd_self _ _ _) h0 rfl ?_ (by rw [chunk_length]; exact Nat.le_refl _) hm (relRows_chunk n hR h2 h1)
        have hlen := hR.length; simp only [Array.length_toList] at hlen; rw [← hlen]; omega
      · simp only [Rel]; exact ⟨_, upd_self _ _ _, by simp⟩
    · exact h.elim
  · split at h
    · rename_i z hz
      obtain ⟨h0, h1, h2, hK⟩ := h
      refine ⟨_, hK, .push fun w0 m0 O hp₁ m β w a hops hS hrd hβ => ?_⟩
      obtain ⟨zv, hrun, rfl⟩ := run_zeroValue' hz w
      obtain ⟨hR, _⟩ := cells_rel h2 (rel_constAV (m := m) (β := upd β hp.length ⟨w.heap.size, szOf P e, 1⟩) zv)
      refine ⟨.pointer (some ⟨w.heap.size, 0, none⟩), { w with heap := w.heap.push (.cells zv.cells e) }, _, szOf P e, 1, ?_, ⟨rfl, rfl, rfl⟩, fun hm => ?_, ?_⟩
      · simp [execOp, Instr.alloc, newVar, newRow, hrun]
      · refine OBRel.laid (upd_self _ _ _) h0 rfl ?_ (by simp) hm (RelRows.single hR h2 h1)
        have hlen := hR.length; simp only [Array.length_toList] at hlen; rw [← hlen]; omega
      · simp only [Rel]; exact ⟨_, upd_self _ _ _, by simp⟩
    · exact h.elim

/-- Zero cells, row by row. -/
theorem RelRows.zeros {m : Mem} {β : Plc} {k n : Nat} {cs : List AV} {zero : Array Value} (h : RelL m β cs zero.toList) (h1 : cs.all AV.one = true) (hk : cs.length = k) (hk0 : 0 < k) :
    RelRows m β k (List.replicate n cs) ((Array.range (n * k)).map (zero[· % zero.size]!)).toList := by
  have hz : zero.size = k := by rw [← Array.length_toList, ← h.length]; exact hk
  refine RelRows.of_get fun i r hr => ?_
  have hi : i < n := by
    rcases Nat.lt_or_ge i n with h' | h'
    · exact h'
    · rw [List.getElem?_eq_none (by simpa using h')] at hr; cases hr
  rw [List.getElem?_replicate, if_pos hi] at hr
  cases hr
  refine ⟨⟨hk, h1⟩, RelL.of_get ?_ fun j x v hx hv => ?_⟩
  · have : (i + 1) * k ≤ n * k := Nat.mul_le_mul_right k hi
    rw [Nat.succ_mul] at this
    simp only [List.length_take, List.length_drop, Array.length_toList, Array.size_map, Array.size_range]; omega
  · rw [mid_get] at hv
    split at hv
    · rename_i hj
      have : (i + 1) * k ≤ n * k := Nat.mul_le_mul_right k hi
      rw [Nat.succ_mul] at this
      have hlt : i * k + j < n * k := by omega
      obtain ⟨u, hu, hR⟩ := h.get hx
      simp [hlt] at hv
      have hmod : (i * k + j) % zero.size = j := by
        rw [hz, Nat.mul_comm, Nat.mul_add_mod]; exact Nat.mod_eq_of_lt hj
      rw [hmod] at hv
      rw [Array.getElem?_toList] at hu
      rw [getElem!_pos zero j (by omega)] at hv
      rw [Array.getElem?_eq_getElem (by omega)] at hu
      cases hu; rw [← hv]; exact hR
    · cases hv

theorem wrap_of {k : IntKind} {n : Int} (h : k.min ≤ n ∧ n ≤ k.max) : k.wrap n = n := by
  obtain ⟨h1, h2⟩ := h
  cases k <;> simp only [IntKind.min, IntKind.max, IntKind.bits, IntKind.signed, IntKind.wrap, if_true, Bool.true_and, Bool.false_and, Bool.false_eq_true, if_false, Int.reducePow, Nat.reduceSub, Int.reduceNeg, Int.reduceSub, ge_iff_le, decide_eq_true_eq] at *
  · split
    · omega
    · omega
  · split <;> omega
  · split <;> omega
  · split <;> omega
  all_goals omega

theorem snd_makeSlice (u l c) : Snd P C ⟨d, .makeSlice u l c, t, p, af, g⟩ ev hp := fun K h => by
  simp only [aop] at h
  split at h
  · rename_i e k1 n k2 n' hel hl hc
    split at h
    · rename_i z hz
      obtain ⟨h0, h1, h2, h3, h4, h5, h6, hK⟩ := h
      refine ⟨_, hK, .push fun w0 m0 O hp₁ m β w a hops hS hrd hβ => ?_⟩
      have e1 := hops l (by simp [Op.operands])
      have e2 := hops c (by simp [Op.operands])
      rw [hl] at e1; rw [hc] at e2; simp only [Rel] at e1 e2
      obtain ⟨zv, hrun, rfl⟩ := run_zeroValue' hz w
      obtain ⟨i, hi, hsz⟩ := info_of_sz h0
      have hby : bytesOf P e = i.bytes := by simp [bytesOf, hi]
      obtain ⟨hR, _⟩ := cells_rel h2 (rel_constAV (m := m) (β := upd β hp.length ⟨w.heap.size, szOf P e, n'.toNat⟩) zv)
      have hw1 : IntKind.i64.wrap n = n := wrap_of (by simp only [IntKind.min, IntKind.max, IntKind.bits, IntKind.signed, if_true]; omega)
      have hw2 : IntKind.i64.wrap n' = n' := wrap_of (by simp only [IntKind.min, IntKind.max, IntKind.bits, IntKind.signed, if_true]; omega)
      have hb1 : ¬ (i.bytes : Int) * n' > 2 ^ 48 := by
        rw [hby, Int.mul_comm] at h5; omega
      have hcond : ((n' < 0 || decide ((i.bytes : Int) * n' > 2 ^ 48)) || decide (n < 0) || decide (n > n')) = false := by
        simp only [Bool.or_eq_false_iff, decide_eq_false_iff_not]; omega
      refine ⟨.slice (some ⟨w.heap.size, 0, none⟩) n.toNat n'.toNat, { w with heap := w.heap.push (.cells ((Array.range (n'.toNat * szOf P e)).map (zv.cells[· % zv.cells.size]!)) e) }, _, szOf P e, n'.toNat, ?_, ⟨rfl, rfl, rfl⟩, fun hm => ?_, ?_⟩
      · by_cases hzero : n'.toNat = 0
        · have hrange : (Array.range (n'.toNat * szOf P e)).map (zv.cells[· % zv.cells.size]!) = #[] := by simp [hzero]
          simp only [hrange]
          simp only [execOp, Instr.makeSlice, e1, e2, asInt, asIntOf, Sem.run_bind, Sem.run_pure, Result.andThen_ok, run_underlying' (slElem_eq hel), typeInfo, run_program, hi, hw1, hw2, hcond]
          simp [run_sizeOf' h0, hzero, newRow]
          rw [Array.eq_empty_of_size_eq_zero (xs := Array.map (fun _ => default) (Array.range 0)) (by simp)]
        · simp only [execOp, Instr.makeSlice, e1, e2, asInt, asIntOf, Sem.run_bind, Sem.run_pure, Result.andThen_ok, run_underlying' (slElem_eq hel), typeInfo, run_program, hi, hw1, hw2, hcond]
          have hne : n'.toNat * szOf P e ≠ 0 := Nat.mul_ne_zero hzero (by omega)
          simp [run_sizeOf' h0, hne, newRow, hrun]
      · refine OBRel.laid (upd_self _ _ _) h0 rfl (by simp) (by simp) hm (RelRows.zeros hR h2 h1 h0)
      · simp only [Rel]; exact ⟨_, 0, n'.toNat, upd_self _ _ _, by simp, by omega, by simp, .inl rfl⟩
    · exact h.elim
  · exact h.elim
end
end Go.Am
namespace Go.Am

section
variable {P : Program} {m : Mem} {β : Plc}

theorem splice_nil (vs : List Value) (p : Nat) : splice vs p [] = vs := by simp [splice]
theorem splice_cons {vs : List Value} {p : Nat} {c : Value} {l : List Value} (h : p + 1 + l.length ≤ vs.length) : splice vs p (c :: l) = splice (vs.set p c) (p + 1) l := by
  apply List.ext_getElem?
  intro i
  rw [splice_get (by simp; omega), splice_get (by simp; omega)]
  simp only [List.length_cons]
  by_cases h1 : i < p
  · simp only [if_pos h1, if_pos (show i < p + 1 by omega), List.getElem?_set_ne (show p ≠ i by omega)]
  · by_cases h2 : i = p
    · subst h2
      simp only [if_neg h1, if_pos (show i < i + (l.length + 1) by omega), if_pos (show i < i + 1 by omega), List.getElem?_set_self (show i < vs.length by omega)]
      simp
    · by_cases h3 : i < p + (l.length + 1)
      · simp only [if_neg h1, if_pos h3, if_neg (show ¬ i < p + 1 by omega), if_pos (show i < p + 1 + l.length by omega)]
        rw [show i - p = (i - (p + 1)) + 1 by omega, List.getElem?_cons_succ]
      · simp only [if_neg h1, if_neg h3, if_neg (show ¬ i < p + 1 by omega), if_neg (show ¬ i < p + 1 + l.length by omega), List.getElem?_set_ne (show p ≠ i by omega)]

theorem foldl_splice : ∀ (l : List Value) (j off : Nat) (cs : Array Value), off + j + l.length ≤ cs.size →
    ((l.zipIdx j).foldl (fun cs x => cs.setIfInBounds (off + x.2) x.1) cs).toList = splice cs.toList (off + j) l
  | [], j, off, cs, _ => by simp [splice_nil]
  | v :: l, j, off, cs, h => by
    simp only [List.zipIdx_cons, List.foldl_cons, List.length_cons] at h ⊢
    rw [foldl_splice l (j + 1) off _ (by simp; omega), splice_cons (by simp; omega)]
    simp [Nat.add_assoc]

theorem fill_step (v : Value) (off : Nat) (cs : Array Value) (h : off + v.cells.size ≤ cs.size) :
    (v.cells.zipIdx.foldl (fun cs x => cs.setIfInBounds (off + x.2) x.1) cs).toList = splice cs.toList off v.cells.toList := by
  rw [← Array.foldl_toList, Array.toList_zipIdx]
  exact foldl_splice v.cells.toList 0 off cs (by simpa using h)

theorem RelL.splice {xs ys : List AV} {vs ws : List Value} {p : Nat} (h : RelL m β xs vs) (h' : RelL m β ys ws) : RelL m β (setSeg xs p ys) (Am.splice vs p ws) := by
  unfold setSeg Am.splice
  rw [h'.length]
  exact ((h.take p).append h').append (h.drop _)

theorem fillParts_sound {t : TypeId} {ev : Operand → AV} {ρ : Operand → Value} {fs : Array Field} (hu : P.underlying t = some (.struct fs)) {places : List (Nat × Nat)}
    (hp : fs.toList.mapM (fun f => (P.info? f.type).map fun i => (f.offset, i.size)) = some places) :
    ∀ (parts : List (Nat × Operand)) (cs cs' : List AV) (c : Array Value), fillParts P t ev parts cs = some cs' → (∀ q ∈ parts, Rel m β (ev q.2) (ρ q.2)) → RelL m β cs c.toList →
      ∃ c', Instr.fill (places.toArray[·]?) c (parts.map fun q => (q.1, ρ q.2)) = some c' ∧ RelL m β cs' c'.toList
  | [], cs, cs', c, h, _, hR => by simp [fillParts] at h; subst h; exact ⟨c, rfl, hR⟩
  | (i, x) :: parts, cs, cs', c, h, hops, hR => by
    simp only [fillParts] at h
    split at h
    · rename_i o ft hf
      split at h
      · rename_i hc
        obtain ⟨h1, h2, h3, h4⟩ := hc
        obtain ⟨fs', fl, hu', hfl, ho, hft⟩ := fld_eq hf
        rw [hu] at hu'; cases hu'
        have hplace : places[i]? = some (o, szOf P ft) := by
          have key : ∀ (l : List Field) (ps : List (Nat × Nat)), l.mapM (fun f => (P.info? f.type).map fun i => (f.offset, i.size)) = some ps → ∀ (i : Nat) (f : Field), l[i]? = some f → ∃ inf, P.info? f.type = some inf ∧ ps[i]? = some (f.offset, inf.size) := by
            intro l
            induction l with
            | nil => intro ps _ i f hf; simp at hf
            | cons g l ih =>
              intro ps hps i f hf
              simp only [List.mapM_cons, Option.bind_eq_bind, Option.pure_def] at hps
              cases hi : P.info? g.type with
              | none => simp [hi] at hps
              | some inf =>
                cases hr : l.mapM (fun f => (P.info? f.type).map fun i => (f.offset, i.size)) with
                | none => simp [hi, hr] at hps
                | some rest =>
                  simp [hi, hr] at hps
                  subst hps
                  cases i with
                  | zero => simp at hf; subst hf; exact ⟨inf, hi, rfl⟩
                  | succ i => simp at hf; simpa using ih rest hr i f hf
          obtain ⟨inf, hi, hq⟩ := key _ _ hp i fl (by simpa using hfl)
          rw [hq, ho]
          rw [hft] at hi
          simp [szOf, hi]
        have hx := hops (i, x) (by simp)
        obtain ⟨hcR, _⟩ := cells_rel h2 hx
        have hsz : (ρ x).cells.size = szOf P ft := by rw [← h1, hcR.length, Array.length_toList]
        have hcs : cs.length = c.size := by rw [hR.length, Array.length_toList]
        have hfit : o + (ρ x).cells.size ≤ c.size := by omega
        obtain ⟨c', hc', hR'⟩ := fillParts_sound hu hp parts _ cs' ((ρ x).cells.zipIdx.foldl (fun cs x => cs.setIfInBounds (o + x.2) x.1) c) h (fun q hq => hops q (by simp [hq])) (by
          rw [fill_step _ _ _ hfit]; exact hR.splice hcR)
        refine ⟨c', ?_, hR'⟩
        have hne : ¬ ((decide ((ρ x).cells.size ≠ szOf P ft) || decide (o + (ρ x).cells.size > c.size)) = true) := by simp [hsz]; omega
        simp only [List.map_cons, Instr.fill, List.getElem?_toArray, hplace]
        rw [if_neg hne]
        simpa using hc'
      · cases h
    · cases h

theorem fillElems_sound {k : Nat} {ev : Operand → AV} {ρ : Operand → Value} :
    ∀ (parts : List (Nat × Operand)) (cs cs' : List AV) (c : Array Value), fillElems k ev parts cs = some cs' → (∀ q ∈ parts, Rel m β (ev q.2) (ρ q.2)) → RelL m β cs c.toList →
      ∃ c', Instr.fill (fun i => some (i * k, k)) c (parts.map fun q => (q.1, ρ q.2)) = some c' ∧ RelL m β cs' c'.toList
  | [], cs, cs', c, h, _, hR => by simp [fillElems] at h; subst h; exact ⟨c, rfl, hR⟩
  | (i, x) :: parts, cs, cs', c, h, hops, hR => by
    simp only [fillElems] at h
    split at h
    · rename_i hc
      obtain ⟨h1, h2, h3, h4⟩ := hc
      have hx := hops (i, x) (by simp)
      obtain ⟨hcR, _⟩ := cells_rel h2 hx
      have hsz : (ρ x).cells.size = k := by rw [← h1, hcR.length, Array.length_toList]
      have hcs : cs.length = c.size := by rw [hR.length, Array.length_toList]
      have hfit : i * k + (ρ x).cells.size ≤ c.size := by omega
      obtain ⟨c', hc', hR'⟩ := fillElems_sound parts _ cs' ((ρ x).cells.zipIdx.foldl (fun cs x => cs.setIfInBounds (i * k + x.2) x.1) c) h (fun q hq => hops q (by simp [hq])) (by
        rw [fill_step _ _ _ hfit]; exact hR.splice hcR)
      refine ⟨c', ?_, hR'⟩
      have hne : ¬ ((decide ((ρ x).cells.size ≠ k) || decide (i * k + (ρ x).cells.size > c.size)) = true) := by simp [hsz]; omega
      simp only [List.map_cons, Instr.fill]
      rw [if_neg hne]
      simpa using hc'
    · cases h

theorem fillRows_sound {k : Nat} {ev : Operand → AV} {ρ : Operand → Value} :
    ∀ (parts : List (Nat × Operand)) (rs rs' : List (List AV)) (c : Array Value), fillRows k ev parts rs = some rs' → (∀ q ∈ parts, Rel m β (ev q.2) (ρ q.2)) → RelRows m β k rs c.toList → rs.length * k = c.size →
      ∃ c', Instr.fill (fun i => some (i * k, k)) c (parts.map fun q => (q.1, ρ q.2)) = some c' ∧ RelRows m β k rs' c'.toList ∧ c'.size = c.size ∧ rs'.length = rs.length
  | [], rs, rs', c, h, _, hR, _ => by simp [fillRows] at h; subst h; exact ⟨c, rfl, hR, rfl, rfl⟩
  | (i, x) :: parts, rs, rs', c, h, hops, hR, hl => by
    simp only [fillRows] at h
    split at h
    · rename_i hc
      obtain ⟨h1, h2, h3⟩ := hc
      have hx := hops (i, x) (by simp)
      obtain ⟨hcR, _⟩ := cells_rel h2 hx
      have hsz : (ρ x).cells.size = k := by rw [← h1, hcR.length, Array.length_toList]
      have hik : i * k + k ≤ c.size := by
        have : (i + 1) * k ≤ rs.length * k := Nat.mul_le_mul_right k h3
        rw [Nat.succ_mul] at this; omega
      have hfit : i * k + (ρ x).cells.size ≤ c.size := by omega
      have hstep := fill_step (ρ x) (i * k) c hfit
      have hset : RelRows m β k (rs.set i (ev x).cells) (splice c.toList (i * k) (ρ x).cells.toList) := by
        have := RelRows.store hR (i := i) (o := 0) (row := rs[i]) (List.getElem?_eq_getElem h3) hcR h2 (by omega) (by have h9 : c.toList.length = c.size := Array.length_toList; rw [h9]; omega)
        simp only [List.take_zero, List.nil_append, Nat.zero_add, Nat.add_zero] at this
        obtain ⟨⟨hrl, _⟩, _⟩ := hR.get (List.getElem?_eq_getElem h3)
        rw [List.drop_of_length_le (by omega), List.append_nil] at this
        exact this
      obtain ⟨c', hc', hR', hs', hl'⟩ := fillRows_sound parts _ rs' ((ρ x).cells.zipIdx.foldl (fun cs x => cs.setIfInBounds (i * k + x.2) x.1) c) h (fun q hq => hops q (by simp [hq])) (by
          rw [hstep]; exact hset) (by
          rw [List.length_set, ← Array.length_toList, hstep, splice_length (by simpa using hfit), Array.length_toList]; exact hl)
      refine ⟨c', ?_, hR', ?_, by rw [hl', List.length_set]⟩
      · have hne : ¬ ((decide ((ρ x).cells.size ≠ k) || decide (i * k + (ρ x).cells.size > c.size)) = true) := by simp [hsz]; omega
        simp only [List.map_cons, Instr.fill]
        rw [if_neg hne]
        exact hc'
      · rw [hs', ← Array.length_toList, hstep, splice_length (by simpa using hfit), Array.length_toList]
    · cases h
end

section
variable {P : Program} {C : FuncId → List AV → List OB → AV → List OB → Prop} {d : Option Tmp} {t : TypeId} {p : String} {af : Array Edge} {g : Option (Nat × Bool)} {ev : Operand → AV} {hp : List OB}

theorem snd_build (u parts) : Snd P C ⟨d, .build u parts, t, p, af, g⟩ ev hp := fun K h => by
  simp only [aop] at h
  split at h
  · rename_i n el ha
    split at h
    · rename_i z hz
      split at h
      · rename_i cs hcs
        obtain ⟨⟨hag, hel0⟩, hK⟩ := h
        refine ⟨_, hK, .value fun _ _ _ _ m β w a hops _ _ => ?_⟩
        obtain ⟨zv, hrun, rfl⟩ := run_zeroValue' hz w
        have hzR : RelL m β (constAV zv).cells zv.cells.toList := by
          have := rel_constAV (m := m) (β := β) zv
          split at hag
          · rename_i cs0 he
            rw [he] at this ⊢
            simp only [Rel] at this
            obtain ⟨vs, rfl, h2⟩ := this
            simpa [AV.cells, Value.cells] using h2
          · cases hag
        obtain ⟨c', hc', hR'⟩ := fillElems_sound (m := m) (β := β) (ρ := a.eval) parts.toList _ cs zv.cells hcs (fun q hq => hops q.2 (by
          simp only [Op.operands]
          simp only [List.mem_toArray, List.mem_map]
          exact ⟨q, hq, rfl⟩)) hzR
        refine ⟨.agg c', by simp only [Rel]; exact ⟨c'.toList, by simp, hR'⟩, ?_⟩
        have hsz : (sizeOf el).run P w = .ok (szOf P el) w := run_sizeOf' hel0
        have hb : Instr.fill (fun i => some (i * szOf P el, szOf P el)) zv.cells (parts.map fun (i, x) => (i, a.eval x)).toList = some c' := by
          simpa using hc'
        simp [execOp, Instr.build, hrun, run_underlying' (arrElem_eq ha), hsz]
        simp at hb
        rw [hb]; simp
      · exact h.elim
    · exact h.elim
  · split at h
    · rename_i z hz
      split at h
      · rename_i cs hcs
        obtain ⟨hf, hag, hK⟩ := h
        unfold fieldsOk at hf
        split at hf
        · rename_i fs hu
          obtain ⟨places, hpl⟩ := Option.isSome_iff_exists.1 hf
          refine ⟨_, hK, .value fun _ _ _ _ m β w a hops _ _ => ?_⟩
          unfold zeroAV at hz
          cases hi : P.info? u with
          | none => simp [hi] at hz
          | some i =>
            cases hz0 : i.zero with
            | none => simp [hi, hz0] at hz
            | some zv =>
              simp [hi, hz0] at hz
              subst hz
              have hzR : RelL m β (constAV zv).cells zv.cells.toList := by
                have := rel_constAV (m := m) (β := β) zv
                split at hag
                · rename_i cs0 he
                  rw [he] at this ⊢
                  simp only [Rel] at this
                  obtain ⟨vs, rfl, h2⟩ := this
                  simpa [AV.cells, Value.cells] using h2
                · cases hag
              obtain ⟨c', hc', hR'⟩ := fillParts_sound (m := m) (β := β) (ρ := a.eval) hu hpl parts.toList _ cs zv.cells hcs (fun q hq => hops q.2 (by
                simp only [Op.operands]
                simp only [List.mem_toArray, List.mem_map]
                exact ⟨q, hq, rfl⟩)) hzR
              refine ⟨.agg c', by simp only [Rel]; exact ⟨c'.toList, by simp, hR'⟩, ?_⟩
              have hb : P.built u (parts.map fun (i, x) => (i, a.eval x)).toList = some c' := by
                simp only [Program.built, hi, hu, hz0, hpl]
                simpa using hc'
              simp [execOp, run_build w u _ c' hb]
        · cases hf
      · exact h.elim
    · exact h.elim

theorem snd_buildSlice (u n parts) : Snd P C ⟨d, .buildSlice u n parts, t, p, af, g⟩ ev hp := fun K h => by
  simp only [aop] at h
  split at h
  · rename_i e hel
    split at h
    · rename_i z hz
      split at h
      · rename_i rs hrs
        obtain ⟨h0, h1, h2, h3, hK⟩ := h
        refine ⟨_, hK, .push fun w0 m0 O hp₁ m β w a hops hS hrd hβ => ?_⟩
        obtain ⟨zv, hrun, rfl⟩ := run_zeroValue' hz w
        have hle := upd_le ⟨w.heap.size, szOf P e, n⟩ hβ
        obtain ⟨hR, _⟩ := cells_rel h2 (rel_constAV (m := m) (β := upd β hp.length ⟨w.heap.size, szOf P e, n⟩) zv)
        have hz0 := RelRows.zeros (n := n) hR h2 h1 h0
        obtain ⟨c', hc', hR', hs', hl'⟩ := fillRows_sound (ρ := a.eval) parts.toList _ rs _ hrs (fun q hq => (hops q.2 (by
              simp only [Op.operands]
              simp only [List.mem_toArray, List.mem_map]
              exact ⟨q, hq, rfl⟩)).mono (Mem.le_refl m) hle) hz0 (by simp)
        simp at hs' hl'
        refine ⟨.slice (some ⟨w.heap.size, 0, none⟩) n n, { w with heap := w.heap.push (.cells c' e) }, _, szOf P e, n, ?_, ⟨rfl, rfl, rfl⟩, fun hm => ?_, ?_⟩
        · have hni : ¬ (n * szOf P e > 2 ^ 24) := by omega
          by_cases hn : n = 0
          · subst hn
            have hc2 : Instr.fill (fun i => some (i * szOf P e, szOf P e)) #[] (List.map (fun q => (q.1, a.eval q.2)) parts.toList) = some c' := by
              rw [← hc']; congr 1; exact (Array.eq_empty_of_size_eq_zero (by simp)).symm
            simp [execOp, Instr.buildSlice, run_underlying' (slElem_eq hel), run_sizeOf' h0, newRow]
            rw [Array.eq_empty_of_size_eq_zero (xs := Array.map (fun _ => default) (Array.range 0)) (by simp)]
            rw [hc2]; simp
          · have hne : n * szOf P e ≠ 0 := Nat.mul_ne_zero hn (by omega)
            have hne2 : ¬ (n = 0 ∨ szOf P e = 0) := by omega
            simp only [execOp, Instr.buildSlice, Sem.run_bind, run_underlying' (slElem_eq hel), Result.andThen_ok, run_sizeOf' h0, if_neg hni, if_neg hne, Sem.run_pure, hrun]
            have hc2 : Instr.fill (fun i => some (i * szOf P e, szOf P e)) (Array.map (fun x => zv.cells[x % zv.cells.size]!) (Array.range (n * szOf P e))) (Array.map (fun x => (x.1, a.eval x.2)) parts).toList = some c' := by
              simpa using hc'
            rw [hc2]
            simp [newRow]
        · exact OBRel.laid (upd_self _ _ _) h0 rfl (by rw [hs']) (by omega) hm hR'
        · simp only [Rel]; exact ⟨_, 0, n, upd_self _ _ _, by simp, by omega, by simp, .inl rfl⟩
      · exact h.elim
    · exact h.elim
  · exact h.elim
end
end Go.Am
namespace Go.Am

section
variable {P : Program} {m : Mem} {β : Plc}

theorem run_store1 {w : World} {B o : Nat} {c : Array Value} {e : TypeId} {fz : Nat × Nat} {v : Value} (h : w.heap[B]? = some (.cells c e fz)) (ho : o < c.size) (hf : fz.2 ≤ fz.1 ∨ c.size ≤ fz.1) (hv : v.oneCell' = true) :
    ∃ w', (store ⟨B, o, none⟩ v).run P w = .ok () w' ∧ w'.heap.size = w.heap.size ∧ (∀ B', B' ≠ B → w'.heap[B']? = w.heap[B']?) ∧ w'.heap[B]? = some (.cells (c.setIfInBounds o v) e fz) ∧ IO0 w w' := by
  refine ⟨w.setCell ⟨B, o, none⟩ v, ?_, by simp [World.setCell], fun B' hB => ?_, ?_, rfl, rfl⟩
  · rw [run_store P w _ v _ hv]
    have h1 : w.cell? ⟨B, o, none⟩ = some c[o] := by rw [cell_of h, Array.getElem?_eq_getElem ho]
    have h2 : w.frozen? ⟨B, o, none⟩ = false := by
      simp only [World.frozen?, h]
      obtain ⟨lo, hi⟩ := fz
      simp only at hf
      simp only [Bool.and_eq_false_iff, decide_eq_false_iff_not]
      omega
    simp [h1, h2]
  · simp only [World.setCell, Array.getElem?_modify]
    rw [if_neg (fun e => hB e.symm)]
  · simp [World.setCell, Array.getElem?_modify, h]

theorem run_storeCells' {B o : Nat} {e : TypeId} {fz : Nat × Nat} : ∀ (vs : List Value) (i : Nat) (w : World) (c : Array Value), w.heap[B]? = some (.cells c e fz) → o + i + vs.length ≤ c.size → (fz.2 ≤ fz.1 ∨ c.size ≤ fz.1) → (∀ v ∈ vs, v.oneCell' = true) →
    ∃ w' c', (storeCells ⟨B, o, none⟩ vs i).run P w = .ok () w' ∧ w'.heap.size = w.heap.size ∧ (∀ B', B' ≠ B → w'.heap[B']? = w.heap[B']?) ∧ w'.heap[B]? = some (.cells c' e fz) ∧ c'.toList = splice c.toList (o + i) vs ∧ IO0 w w'
  | [], i, w, c, h, _, _, _ => ⟨w, c, rfl, rfl, fun _ _ => rfl, h, by rw [splice_nil], IO0.refl _⟩
  | v :: vs, i, w, c, h, hl, hf, h1 => by
    simp only [List.length_cons] at hl
    obtain ⟨w1, hr1, hs1, ho1, hc1, io1⟩ := run_store1 (P := P) (o := o + i) h (by omega) hf (h1 v (by simp))
    obtain ⟨w2, c2, hr2, hs2, ho2, hc2, hsp, io2⟩ := run_storeCells' (o := o) vs (i + 1) w1 _ hc1 (by simp; omega) (by simpa using hf) (fun u hu => h1 u (by simp [hu]))
    refine ⟨w2, c2, ?_, by rw [hs2, hs1], fun B' hB => by rw [ho2 B' hB, ho1 B' hB], hc2, ?_, io1.trans io2⟩
    · simp [storeCells, add_off, hr1, hr2]
    · rw [hsp, splice_cons (by rw [Array.length_toList (xs := c)]; omega)]
      simp [Nat.add_assoc]

theorem splice_drop {vs : List Value} {p : Nat} {l ws : List Value} : splice vs p (l ++ ws) = vs.take p ++ (l ++ (ws ++ vs.drop (p + (l.length + ws.length)))) := by
  simp [splice]
end

section
variable {P : Program} {C : FuncId → List AV → List OB → AV → List OB → Prop} {d : Option Tmp} {t : TypeId} {p : String} {af : Array Edge} {g : Option (Nat × Bool)} {ev : Operand → AV} {hp : List OB}

theorem relRows_splice {m : Mem} {β : Plc} {k i n : Nat} {rows : List (List AV)} {vs ws : List Value} {cs : List AV} (h : RelRows m β k rows vs) (hl : rows.length * k ≤ vs.length) (hin : i + n ≤ rows.length) (hcs : RelL m β cs ws) (h1 : cs.all AV.one = true) (hn : cs.length = n * k) :
    RelRows m β k (rows.take i ++ chunk k n cs ++ rows.drop (i + n)) (Am.splice vs (i * k) ws) := by
  have hws : ws.length = n * k := by rw [← hcs.length]; exact hn
  have hik : (i + n) * k ≤ rows.length * k := Nat.mul_le_mul_right k hin
  rw [Nat.add_mul] at hik
  have a1 : (rows.take i).length = i := by rw [List.length_take]; omega
  have e1 : RelRows m β k (rows.take i) (vs.take (i * k)) := by
    have := (h.take i).more (by rw [a1]; omega) []
    rw [a1, List.append_nil] at this; exact this
  have e2 := relRows_chunk n hcs h1 hn
  have e3 : RelRows m β k (rows.drop (i + n)) (vs.drop (i * k + ws.length)) := by
    have := h.drop (i + n); rwa [Nat.add_mul, ← hws] at this
  have l1 : (vs.take (i * k)).length = i * k := by rw [List.length_take]; omega
  have c1 := e1.append e2 (by rw [a1, l1]; exact Nat.le_refl _)
  rw [a1, List.take_take, Nat.min_self] at c1
  have c2 := c1.append e3 (by rw [List.length_append, a1, chunk_length, List.length_append, l1, hws, Nat.add_mul]; exact Nat.le_refl _)
  rw [List.length_append, a1, chunk_length, List.take_of_length_le (l := vs.take (i * k) ++ ws) (by rw [List.length_append, l1, hws, Nat.add_mul]; exact Nat.le_refl _)] at c2
  exact c2

theorem snd_store (u x y) : Snd P C ⟨d, .store u x y, t, p, af, g⟩ ev hp := fun K h => by
  simp only [aop] at h
  split at h
  · rename_i b i f hv
    split at h
    · rename_i el k rows hb
      have hlt : ∀ (q : Nat), q ∈ [b] → q < hp.length := fun q hq => by
        simp only [List.mem_singleton] at hq; subst hq
        exact (Live.of_cells hb).lt
      split at h
      · rename_i n hra
        obtain ⟨⟨rfl, hin, h1, h2⟩, hK⟩ := h
        obtain ⟨el2, hu, hsz2, hn2, hk0, hszt⟩ := rowArr_eq hra
        refine ⟨_, hK, fun q hq => hlt _ (by simpa using congrArg (·.1) (List.mem_singleton.1 hq)), hlt, ?_⟩
        intro w0 m0 O hp₁ m β w a next Q hops hS hr _ hn
        have e1 := hops x (by simp [Op.operands])
        have e2 := hops y (by simp [Op.operands])
        rw [hv] at e1; simp only [Rel] at e1
        obtain ⟨L, hL, e1⟩ := e1
        have hb' : hp₁[b]? = some (.cells el k rows) := by rw [hr b (by simp)]; exact hb
        obtain ⟨L', c, fz, g0, g1, g2, g3, g4, g5, g6, g7, g8⟩ := hS.blocks b _ hb'
        rw [hL] at g0; cases g0
        obtain ⟨hcR, hone⟩ := cells_rel h2 e2
        have hsz : (a.eval y).cells.toList.length = szOf P u := by rw [← hcR.length, h1, hszt]
        have hfit : i * k + n * k ≤ c.size := by
          have : (i + n) * k ≤ L.cap * k := Nat.mul_le_mul_right k (by omega)
          rw [Nat.add_mul] at this; omega
        obtain ⟨w', c', hrun, hs, ho, hc, hsp, hio⟩ := run_storeCells' (P := P) (B := L.blk) (o := i * k) (a.eval y).cells.toList 0 w c g3 (by omega) g4 hone
        unfold Oper.wp
        have h0 : 0 < szOf P u := by rw [hszt]; exact Nat.mul_pos (by omega) hk0
        have hrun' : (execOp a.eval ⟨d, .store u x y, t, p, af, g⟩).run P w = .ok .skip w' := by
          rw [Array.length_toList] at hsz
          simp [execOp, Instr.storeAt, e1, Instr.sureAddr, storeVar, run_sizeOf' h0, hsz, g1, hrun]
        rw [hrun']
        have hcs : c'.size = c.size := by
          have e3 : c'.toList.length = c.toList.length := by
            rw [hsp, splice_length]
            rw [hsz, Array.length_toList (xs := c)]; omega
          rw [Array.length_toList (xs := c'), Array.length_toList (xs := c)] at e3; exact e3
        refine hn undef w' m β (Mem.le_refl m) (Plc.le_refl β) (by simp [Rel]) ?_
        simp only [List.append_nil, news, setAll]
        refine hS.change (Live.of_cells hb') hL ho hs hio ⟨L, c', fz, hL, g1, g2, hc, ?_, ?_, ?_, g7, ?_⟩
        · rw [hcs]; exact g4
        · rw [hcs]; exact g5
        · rw [List.length_append, List.length_append, chunk_length, List.length_take, List.length_drop]; omega
        · rw [hsp, Nat.add_zero]
          exact relRows_splice g8 (by have h9 : c.toList.length = c.size := Array.length_toList
                                      rw [h9, g5]; exact Nat.mul_le_mul_right k g6) hin hcR h2 h1
      · split at h
        · rename_i row hrow
          obtain ⟨h1, h2, h3, h0, hK⟩ := h
          refine ⟨_, hK, fun q hq => hlt _ (by simpa using congrArg (·.1) (List.mem_singleton.1 hq)), hlt, ?_⟩
          intro w0 m0 O hp₁ m β w a next Q hops hS hr _ hn
          have e1 := hops x (by simp [Op.operands])
          have e2 := hops y (by simp [Op.operands])
          rw [hv] at e1; simp only [Rel] at e1
          obtain ⟨L, hL, e1⟩ := e1
          have hb' : hp₁[b]? = some (.cells el k rows) := by rw [hr b (by simp)]; exact hb
          obtain ⟨L', c, fz, g0, g1, g2, g3, g4, g5, g6, g7, g8⟩ := hS.blocks b _ hb'
          rw [hL] at g0; cases g0
          obtain ⟨_, _, _, _, _, _, q3, q4, _⟩ := hS.row hb' hrow hL
          obtain ⟨hcR, hone⟩ := cells_rel h2 e2
          have hsz : (a.eval y).cells.toList.length = szOf P u := by rw [← hcR.length, h1]
          have hil : i * k + k ≤ c.size := by
            have hi : i < rows.length := by
              rcases Nat.lt_or_ge i rows.length with h' | h'
              · exact h'
              · rw [List.getElem?_eq_none h'] at hrow; cases hrow
            have : (i + 1) * k ≤ L.cap * k := Nat.mul_le_mul_right k (by omega)
            rw [Nat.succ_mul] at this; omega
          obtain ⟨w', c', hrun, hs, ho, hc, hsp, hio⟩ := run_storeCells' (P := P) (B := L.blk) (o := i * k + f) (a.eval y).cells.toList 0 w c g3 (by omega) g4 hone
          unfold Oper.wp
          have hrun' : (execOp a.eval ⟨d, .store u x y, t, p, af, g⟩).run P w = .ok .skip w' := by
            rw [Array.length_toList] at hsz
            simp [execOp, Instr.storeAt, e1, Instr.sureAddr, storeVar, run_sizeOf' h0, hsz, g1, hrun]
          rw [hrun']
          have hcs : c'.size = c.size := by
            have e3 : c'.toList.length = c.toList.length := by
              rw [hsp, splice_length]
              rw [hsz, Array.length_toList (xs := c)]; omega
            rw [Array.length_toList (xs := c'), Array.length_toList (xs := c)] at e3; exact e3
          refine hn undef w' m β (Mem.le_refl m) (Plc.le_refl β) (by simp [Rel]) ?_
          simp only [List.append_nil, news, setAll]
          refine hS.change (Live.of_cells hb') hL ho hs hio ⟨L, c', fz, hL, g1, g2, hc, ?_, ?_, ?_, g7, ?_⟩
          · rw [hcs]; exact g4
          · rw [hcs]; exact g5
          · rw [List.length_set]; exact g6
          · rw [hsp, Nat.add_zero]
            exact RelRows.store (o := f) g8 hrow hcR h2 (by omega) (by
              have h9 : c.toList.length = c.size := Array.length_toList
              rw [h9, g5]; exact Nat.mul_le_mul_right k g6)
        · exact h.elim
    · exact h.elim
  · exact h.elim

theorem growBy_le (newLen : Nat) : ∀ (r c : Nat), 256 ≤ c → c ≤ 2 * newLen → Builtin.growBy newLen r c ≤ 2 * newLen
  | 0, c, _, h => h
  | r + 1, c, h1, h2 => by
    unfold Builtin.growBy
    split
    · exact h2
    · exact growBy_le newLen r _ (by omega) (by omega)
theorem nextslicecap_le {need cap : Nat} (h : cap < need) : Builtin.nextslicecap need cap ≤ 2 * need := by
  unfold Builtin.nextslicecap
  split
  · omega
  · split
    · omega
    · exact growBy_le need 4 cap (by omega) (by omega)

theorem rowsOf_lt {y : AV} {more : List (List AV)} {r : List Nat} (h : rowsOf hp y = some (more, r)) : ∀ b ∈ r, b < hp.length := by
  unfold rowsOf at h
  split at h
  · cases h; simp
  · cases h; simp
  · split at h
    · rename_i b i n _ el k rows hb
      split at h
      · cases h
        intro q hq
        simp only [List.mem_singleton] at hq; subst hq
        exact (Live.of_cells hb).lt
      · cases h
    · cases h
  · cases h; simp
  · cases h

/-- What is appended. -/
theorem run_first {hp₁ : List OB} {w0 : World} {m0 : Mem} {O : Nat → Prop} {m : Mem} {β : Plc} {w : World} (hS : State w0 m0 O m β w hp₁) {y : AV} {v : Value} {more : List (List AV)} {r : List Nat} {size : Nat} (hrows : rowsOf hp y = some (more, r))
    (hr : ∀ b ∈ r, hp₁[b]? = hp[b]?) (hv : Rel m β y v) (hk : ∀ q ∈ more, q.length = size) :
    (Builtin.lenOf v).run P w = .ok more.length w ∧ ∃ arr : Array Value, (∀ w' : World, w'.heap = w.heap → (Builtin.firstCells size more.length v).run P w' = .ok arr w') ∧ arr.size = more.length * size ∧ RelRows m β size more arr.toList := by
  unfold rowsOf at hrows
  split at hrows
  · cases hrows
    simp only [Rel] at hv; subst hv
    exact ⟨by simp [Builtin.lenOf], #[], fun w' _ => by simp [Builtin.firstCells], by simp, by simp [RelRows]⟩
  · rename_i k rows
    cases hrows
    simp only [Rel] at hv
    obtain ⟨ad, cap, rfl, _, hrw⟩ := hv
    refine ⟨by simp [Builtin.lenOf], ?_⟩
    rcases hrw with rfl | ⟨a0, c, el, fz, rfl, g1, g2, g3, g4⟩
    · refine ⟨#[], fun w' _ => ?_, by simp, by simp [RelRows]⟩
      cases ad with
      | none => simp [Builtin.firstCells]
      | some a0 =>
        have := run_loadCells_list (P := P) (w := w') a0 [] (by simp)
        simp at this
        simp [Builtin.firstCells, this]
    · cases hre : more with
      | nil =>
        subst hre
        refine ⟨#[], fun w' _ => ?_, by simp, by simp [RelRows]⟩
        have := run_loadCells_list (P := P) (w := w') a0 [] (by simp)
        simp at this
        simp [Builtin.firstCells, this]
      | cons q qs =>
        have hks : k = size := by
          obtain ⟨⟨h1, _⟩, _⟩ := g4.get (i := 0) (r := q) (by rw [hre]; rfl)
          rw [← h1]; exact hk q (by rw [hre]; simp)
        rw [← hre]
        subst hks
        obtain ⟨B, off, sp⟩ := a0
        simp only at g1 g2 g3 g4; subst g1
        have hlist := fun (w' : World) (hw' : w'.heap = w.heap) => run_loadCells_list (P := P) (w := w') ⟨B, off, none⟩ ((c.toList.drop off).take (more.length * k)) (fun j v hj => by
          rw [add_off, cell_of (by rw [hw']; exact hS.agree _ _ g2), ← Array.getElem?_toList]
          rw [mid_get] at hj; split at hj
          · exact hj
          · cases hj)
        have hl : ((c.toList.drop off).take (more.length * k)).length = more.length * k := by
          rw [List.length_take, List.length_drop, Array.length_toList (xs := c)]; omega
        simp only [hl] at hlist
        refine ⟨((c.toList.drop off).take (more.length * k)).toArray, fun w' hw' => by simp [Builtin.firstCells, hlist w' hw'], by simpa using hl, ?_⟩
        have := RelRows.more g4 (by rw [List.length_drop, Array.length_toList (xs := c)]; omega) []
        simpa using this
  · rename_i b i n
    split at hrows
    · rename_i el k rows hb
      split at hrows
      · rename_i hin
        cases hrows
        simp only [Rel] at hv
        obtain ⟨L, j, cap, hL, rfl, hcap, hic, hj⟩ := hv
        have hb' := hr b (by simp)
        rw [hb] at hb'
        obtain ⟨L', c, fz, q1, q2, q3, q4, q5, q6, q7, q8, q9⟩ := hS.blocks b _ hb'
        rw [hL] at q1; cases q1
        have hlen : ((rows.drop i).take n).length = n := by rw [List.length_take, List.length_drop]; omega
        rw [hlen]
        refine ⟨by simp [Builtin.lenOf], ?_⟩
        by_cases hn : n = 0
        · subst hn
          refine ⟨#[], fun w' _ => ?_, by simp, by simp [RelRows]⟩
          have := run_loadCells_list (P := P) (w := w') ⟨L.blk, j * L.k, none⟩ [] (by simp)
          simp at this
          simp [Builtin.firstCells, this]
        · have hji : j = i := by omega
          subst hji
          have hgt : ∃ q, ((rows.drop j).take n)[0]? = some q := by
            rw [List.getElem?_eq_getElem (by omega)]; exact ⟨_, rfl⟩
          obtain ⟨q, hq⟩ := hgt
          have hR := (q9.drop j).take n
          have hks : k = size := by
            obtain ⟨⟨h1, _⟩, _⟩ := hR.get hq
            rw [← h1]; exact hk q (List.mem_of_getElem? hq)
          subst hks
          have hsz : (j + n) * k ≤ L.cap * k := Nat.mul_le_mul_right k (by omega)
          rw [Nat.add_mul] at hsz
          have hlist := fun (w' : World) (hw' : w'.heap = w.heap) => run_loadCells_list (P := P) (w := w') ⟨L.blk, j * L.k, none⟩ ((c.toList.drop (j * k)).take (n * k)) (fun jj v hj => by
            rw [add_off, cell_of (by rw [hw']; exact q4), ← Array.getElem?_toList]
            rw [mid_get] at hj; split at hj
            · rw [q2]; exact hj
            · cases hj)
          have hl : ((c.toList.drop (j * k)).take (n * k)).length = n * k := by
            rw [List.length_take, List.length_drop, Array.length_toList (xs := c)]; omega
          simp only [hl] at hlist
          refine ⟨((c.toList.drop (j * k)).take (n * k)).toArray, fun w' hw' => by simp [Builtin.firstCells, hlist w' hw'], by simpa using hl, ?_⟩
          have := RelRows.more hR (by rw [hlen, List.length_drop, Array.length_toList (xs := c)]; omega) []
          rw [hlen] at this
          simpa using this
      · cases hrows
    · cases hrows
  · rename_i s
    cases hrows
    simp only [Rel] at hv; subst hv
    refine ⟨by simp [Builtin.lenOf, size_bytes], ((bytes s).map fun c => Value.int .u8 c.toNat).toArray, fun w' _ => ?_, ?_, ?_⟩
    · simp only [List.length_map, ← size_bytes, Builtin.firstCells]
      simp [bytes]
      rw [← Array.toList_map, Array.toArray_toList]
    · cases hb : bytes s with
      | nil => simp
      | cons c cs =>
        have := hk [AV.int .u8 c.toNat] (by simp [hb])
        simp at this
        simp [← this]
    · refine RelRows.of_get fun i q hq => ?_
      rw [List.getElem?_map] at hq
      cases hi : (bytes s)[i]? with
      | none => simp [hi] at hq
      | some c =>
        simp [hi] at hq
        subst hq
        have hs1 : size = 1 := by
          have := hk [AV.int .u8 c.toNat] (List.mem_map.2 ⟨c, List.mem_of_getElem? hi, rfl⟩)
          simpa using this.symm
        subst hs1
        refine ⟨⟨rfl, by simp [AV.one]⟩, ?_⟩
        simp only [Nat.mul_one, RelL]
        refine ⟨.int .u8 c.toNat, [], ?_, by simp [Rel], rfl⟩
        apply List.ext_getElem?
        intro j
        rw [mid_get]
        cases j with
        | zero => simp [hi]
        | succ j => simp
  · cases hrows
end
end Go.Am
namespace Go.Am

section
variable {P : Program}

theorem notInt_cases {ty : Array TypeId} (h : notInt P ty = true) : ty[1]? = none ∨ ∃ xt d, ty[1]? = some xt ∧ P.underlying xt = some d ∧ (match d with | .int _ => true | _ => false) = false := by
  unfold notInt at h
  cases h1 : ty[1]? with
  | none => exact .inl rfl
  | some xt =>
    simp only [h1] at h
    cases hu : P.underlying xt with
    | none => simp [hu] at h
    | some dd => exact .inr ⟨xt, dd, rfl, hu, by cases dd <;> simp_all⟩

/-- An append within the room that there is. -/
theorem run_append_in {ty : Array TypeId} {u e t : TypeId} {base : Option Addr} {sLen sCap n : Nat} {yv : Value} {arr : Array Value} {w : World} (hu0 : ty[0]? = some u) (hel : slElem P u = some e) (hz : notInt P ty = true) (h0 : 0 < szOf P e)
    (hlen : (Builtin.lenOf yv).run P w = .ok n w) (hfirst : (Builtin.firstCells (szOf P e) n yv).run P w = .ok arr w) (hneed : sLen + n ≤ sCap) :
    (Builtin.append_ ty t #[.slice base sLen sCap, yv]).run P w = (match base with
      | some a => ((storeCells (a.add (sLen * szOf P e)) arr.toList).run P w).andThen fun _ w' => .ok (.slice base (sLen + n) sCap) w'
      | none => .ok (.slice base (sLen + n) sCap) w) := by
  unfold Builtin.append_
  rcases notInt_cases hz with h1 | ⟨xt, dd, h1, h2, h3⟩
  · simp only [List.getElem?_toArray, List.getElem?_cons_zero, List.getElem?_cons_succ, hu0, h1, Sem.run_bind, Sem.run_pure, run_underlying' (slElem_eq hel), Result.andThen_ok, run_sizeOf' h0, Bool.false_eq_true, if_false, hlen, if_pos hneed, Bool.not_false, if_true, hfirst]
    cases base <;> simp
  · cases dd <;> first
      | (simp at h3; done)
      | (simp only [List.getElem?_toArray, List.getElem?_cons_zero, List.getElem?_cons_succ, hu0, h1, Sem.run_bind, Sem.run_pure, run_underlying' (slElem_eq hel), run_underlying' h2, Result.andThen_ok, run_sizeOf' h0, Bool.false_eq_true, if_false, hlen, if_pos hneed, Bool.not_false, if_true, hfirst]
         cases base <;> simp)

/-- An append that makes a new block. -/
theorem run_append_out {ty : Array TypeId} {u e t : TypeId} {base : Option Addr} {sLen sCap n : Nat} {yv : Value} {old arr : Array Value} {w : World} (hu0 : ty[0]? = some u) (hel : slElem P u = some e) (hz : notInt P ty = true) (h0 : 0 < szOf P e)
    (hby : 0 < bytesOf P e) {zv : Value} (hzv : ∀ w, (zeroValue e).run P w = .ok zv w) (hzs : zv.cells.size = szOf P e) (hlen : (Builtin.lenOf yv).run P w = .ok n w) (hfirst : ∀ w' : World, w'.heap = w.heap → (Builtin.firstCells (szOf P e) n yv).run P w' = .ok arr w')
    (hold : ∀ w' : World, w'.heap = w.heap → (Builtin.firstCells (szOf P e) sLen (.slice base sLen sCap)).run P w' = .ok old w') (hneed : ¬ sLen + n ≤ sCap) (hbytes : (sLen + n) * bytesOf P e ≤ 2 ^ 47) :
    ∃ (newCap : Nat) (w' : World) (rest : Array Value), sLen + n ≤ newCap ∧ rest.size = (newCap - (sLen + n)) * szOf P e ∧ (w'.heap = w.heap.push (.cells (old ++ arr ++ rest) e) ∧ IO0 w w') ∧
      (Builtin.append_ ty t #[.slice base sLen sCap, yv]).run P w = .ok (.slice (some ⟨w.heap.size, 0, none⟩) (sLen + n) newCap) w' := by
  obtain ⟨i, hi, hsz⟩ := info_of_sz h0
  have hib : bytesOf P e = i.bytes := by simp [bytesOf, hi]
  rw [hib] at hby hbytes
  have hcut : (Question.appendCap (sLen + n) sCap e).cut (w.tape w.drawn (Question.appendCap (sLen + n) sCap e)) = sLen + n + (w.tape w.drawn (Question.appendCap (sLen + n) sCap e)) % (2 ^ 63 - (sLen + n)) := rfl
  refine ⟨(Question.appendCap (sLen + n) sCap e).cut (w.tape w.drawn (Question.appendCap (sLen + n) sCap e)), { w with drawn := w.drawn + 1, heap := w.heap.push (.cells (old ++ arr ++ Builtin.zeroCells zv.cells ((Question.appendCap (sLen + n) sCap e).cut (w.tape w.drawn (Question.appendCap (sLen + n) sCap e)) - (sLen + n))) e) }, _, by rw [hcut]; omega, ?_, ⟨rfl, rfl, rfl⟩, ?_⟩
  · simp [Builtin.zeroCells, hzs]
  · have hc1 : ¬ (((sLen + n : Nat) : Int) > IntKind.i64.max ∧ (False ∨ i.bytes = 0)) := by
      rintro ⟨_, h | h⟩
      · exact h
      · omega
    have hc2 : ¬ (Builtin.nextslicecap (sLen + n) sCap * i.bytes > 2 ^ 48) := by
      have := nextslicecap_le (need := sLen + n) (cap := sCap) (by omega)
      have := Nat.mul_le_mul_right i.bytes this
      rw [Nat.mul_assoc] at this
      omega
    have ht : ∀ w', (typeInfo e).run P w' = .ok i w' := fun w' => by simp [typeInfo, hi]
    unfold Builtin.append_
    rcases notInt_cases hz with h1 | ⟨xt, dd, h1, h2, h3⟩
    · simp only [List.getElem?_toArray, List.getElem?_cons_zero, List.getElem?_cons_succ, hu0, h1, Sem.run_bind, Sem.run_pure, run_underlying' (slElem_eq hel), Result.andThen_ok, run_sizeOf' h0, Bool.false_eq_true, if_false, hlen, if_neg hneed, Bool.not_false, if_true, ht, if_neg hc1, if_neg hc2, run_choose, Question.forced, run_askRoom]
      have e1 := hold { w with drawn := w.drawn + 1 } rfl
      have e2 := hfirst { w with drawn := w.drawn + 1 } rfl
      simp only [e1, e2, Result.andThen_ok, hzv, newRow, Sem.run_bind, run_newObj, Sem.run_pure]
    · cases dd <;> first
        | (simp at h3; done)
        | (simp only [List.getElem?_toArray, List.getElem?_cons_zero, List.getElem?_cons_succ, hu0, h1, Sem.run_bind, Sem.run_pure, run_underlying' (slElem_eq hel), run_underlying' h2, Result.andThen_ok, run_sizeOf' h0, Bool.false_eq_true, if_false, hlen, if_neg hneed, Bool.not_false, if_true, ht, if_neg hc1, if_neg hc2, run_choose, Question.forced, run_askRoom]
           have e1 := hold { w with drawn := w.drawn + 1 } rfl
           have e2 := hfirst { w with drawn := w.drawn + 1 } rfl
           simp only [e1, e2, Result.andThen_ok, hzv, newRow, Sem.run_bind, run_newObj, Sem.run_pure])
end

section
variable {P : Program} {C : FuncId → List AV → List OB → AV → List OB → Prop} {d : Option Tmp} {t : TypeId} {p : String} {af : Array Edge} {g : Option (Nat × Bool)} {ev : Operand → AV} {hp : List OB}

theorem snd_append (x y ty) : Snd P C ⟨d, .call ⟨.builtin .append, #[x, y], ty⟩, t, p, af, g⟩ ev hp := fun K h => by
  simp only [aop] at h
  split at h
  · rename_i e more r hel hrows
    split at h
    · rename_i z hz
      obtain ⟨⟨h0, hby, hzl, hni⟩, hall, h⟩ := h
      have hk : ∀ q ∈ more, q.length = szOf P e := by
        rw [List.all_eq_true] at hall
        exact fun q hq => by simpa using hall q hq
      obtain ⟨u, hu0, hue⟩ : ∃ u, ty[0]? = some u ∧ slElem P u = some e := by
        cases hu : ty[0]? with
        | none => simp [hu] at hel
        | some u => exact ⟨u, rfl, by simpa [hu] using hel⟩
      have hzv : ∃ zv, (∀ w, (zeroValue e).run P w = .ok zv w) ∧ zv.cells.size = szOf P e := by
        unfold zeroAV at hz
        cases hi : P.info? e with
        | none => simp [hi] at hz
        | some i =>
          cases hz0 : i.zero with
          | none => simp [hi, hz0] at hz
          | some zv =>
            simp [hi, hz0] at hz
            refine ⟨zv, fun w => by simp [zeroValue, typeInfo, hi, hz0], ?_⟩
            rw [← hzl, ← hz]
            unfold constAV
            split <;> simp [AV.cells, Value.cells]
      obtain ⟨zv, hzrun, hzsz⟩ := hzv
      have hx : x ∈ (Op.call ⟨.builtin .append, #[x, y], ty⟩).operands := by simp [Op.operands, Call.operands]
      have hy : y ∈ (Op.call ⟨.builtin .append, #[x, y], ty⟩).operands := by simp [Op.operands, Call.operands]
      have hexec : ∀ (a : Act) (w : World), (execOp a.eval ⟨d, .call ⟨.builtin .append, #[x, y], ty⟩, t, p, af, g⟩).run P w = ((Builtin.append_ ty t #[a.eval x, a.eval y]).run P w).andThen fun v w' => .ok (.value v) w' := by
        intro a w
        simp [execOp, resolve, invoke, builtin]
      split at h
      · rename_i hv
        obtain ⟨hb, hne, hK⟩ := h
        refine ⟨_, hK, .push (hlt := rowsOf_lt hrows) fun w0 m0 O hp₁ m β w a hops hS hrd hβ => ?_⟩
        have e1 := hops x hx
        have e2 := hops y hy
        rw [hv] at e1; simp only [Rel] at e1
        obtain ⟨hlen, arr, hfirst, hasz, haR⟩ := run_first (P := P) hS hrows hrd e2 hk
        have hml : 0 < more.length := List.length_pos_iff.2 hne
        obtain ⟨nc, w', rest, hnc, hrs, ⟨hheap, hio⟩, hrun⟩ := run_append_out (P := P) (t := t) (base := none) (sLen := 0) (sCap := 0) (old := #[]) hu0 hue hni h0 hby hzrun hzsz hlen
          hfirst (fun w' _ => by simp [Builtin.firstCells]) (by omega) (by simpa using hb)
        refine ⟨.slice (some ⟨w.heap.size, 0, none⟩) more.length nc, w', _, szOf P e, nc, ?_, ⟨hheap, hio⟩, fun hm => ?_, ?_⟩
        · rw [hexec, e1, hrun]; simp
        · refine OBRel.laid (upd_self _ _ _) h0 hheap ?_ (by omega) hm ?_
          · simp only [Array.size_append, hasz, hrs]
            have : (nc - more.length) * szOf P e + more.length * szOf P e = nc * szOf P e := by rw [← Nat.add_mul]; congr 1; omega
            simp; omega
          · have hle := upd_le ⟨w.heap.size, szOf P e, nc⟩ hβ
            have := RelRows.more (haR.mono (Mem.le_refl m) hle) (by rw [Array.length_toList (xs := arr), hasz]; exact Nat.le_refl _) rest.toList
            have ht : arr.toList.take (more.length * szOf P e) = arr.toList := List.take_of_length_le (by rw [Array.length_toList (xs := arr), hasz]; exact Nat.le_refl _)
            rw [ht] at this
            simpa using this
        · simp only [Rel]; exact ⟨_, 0, nc, upd_self _ _ _, by simp, by omega, by simp, .inl rfl⟩
      · rename_i b n hv
        split at h
        · rename_i e' k rows hb
          obtain ⟨⟨rfl, he'⟩, hnr, hbb, hK⟩ := h
          have hb := he' ▸ hb
          clear he'
          refine ⟨_, hK, fun q hq => by
            simp only [List.mem_singleton] at hq; subst hq
            exact (Live.of_cells hb).lt, fun q hq => by
            simp only [List.mem_cons] at hq
            rcases hq with rfl | hq
            · exact (Live.of_cells hb).lt
            · exact rowsOf_lt hrows q hq, ?_⟩
          intro w0 m0 O hp₁ m β w a next Q hops hS hr hfr hn
          have hf : hp₁[hp.length]? = some .fresh := by simpa using hfr 0 (by simp)
          have hβ : β hp.length = none := hS.blocks _ _ hf
          have e1 := hops x hx
          have e2 := hops y hy
          rw [hv] at e1; simp only [Rel] at e1
          obtain ⟨L, j, cap, hL, e1, hcap, hic, hj⟩ := e1
          have hrd : ∀ b' ∈ r, hp₁[b']? = hp[b']? := fun b' hb' => hr b' (by simp [hb'])
          have hb' : hp₁[b]? = some (.cells e (szOf P e) rows) := by rw [hr b (by simp)]; exact hb
          obtain ⟨L', c, fz, q1, q2, q3, q4, q5, q6, q7, q8, q9⟩ := hS.blocks b _ hb'
          rw [hL] at q1; cases q1
          have hlive := Live.of_cells hb'
          obtain ⟨hlen, arr, hfirst, hasz, haR⟩ := run_first (P := P) hS hrows hrd e2 hk
          have hne : b ≠ hp.length := by rintro rfl; rw [hb'] at hf; cases hf
          have hsize : (rows.take n).length = n := by rw [List.length_take]; omega
          have hncap : n * szOf P e ≤ c.size := by rw [q6]; exact Nat.mul_le_mul_right _ (by omega)
          have hkill := hS.kill b
          have hf' : (hp₁.set b .dead)[hp.length]? = some .fresh := by rw [List.getElem?_set_ne hne]; exact hf
          have hfirst0 := hfirst
          have hno : ∀ x K, Live (hp₁.set b .dead) x → β x = some K → K.blk ≠ L.blk := fun x' K' hx' hK' e => by
            by_cases hxb : x' = b
            · subst hxb
              obtain ⟨o, h1, h2⟩ := hx'
              rw [List.getElem?_set_self hlive.lt] at h1; cases h1; exact h2
            · exact hxb (hS.inj x' b K' L ((Live.set_ne hxb).1 hx') hlive hK' hL e)
          have hcells : ∀ (w' : World) (c' : Array Value), w'.heap[L.blk]? = some (.cells c' e fz) → c'.size = c.size → RelRows m β (szOf P e) (rows.take n ++ more) c'.toList → n + more.length ≤ L.cap → OBRel m (upd β hp.length L) w' hp.length (.cells e (szOf P e) (rows.take n ++ more)) := by
            intro w' c' g1 g2 g3 g4
            refine ⟨L, c', fz, upd_self _ _ _, q2, q3, g1, by rw [g2]; exact q5, by rw [g2]; exact q6, ?_, q8, g3.mono (Mem.le_refl m) (upd_le L hβ)⟩
            rw [List.length_append, hsize]; exact g4
          by_cases hneed : n + more.length ≤ cap
          · have hrun := run_append_in (P := P) (t := t) (base := some ⟨L.blk, j * L.k, none⟩) hu0 hue hni h0 hlen (hfirst w rfl) hneed
            have hgo : ∃ w' c', ((storeCells ((⟨L.blk, j * L.k, none⟩ : Addr).add (n * szOf P e)) arr.toList).run P w) = .ok () w' ∧ w'.heap.size = w.heap.size ∧ (∀ B', B' ≠ L.blk → w'.heap[B']? = w.heap[B']?) ∧ w'.heap[L.blk]? = some (.cells c' e fz) ∧ c'.size = c.size ∧ IO0 w w' ∧
                RelRows m β (szOf P e) (rows.take n ++ more) c'.toList := by
              by_cases hm0 : more = []
              · have ha0 : arr.toList = [] := List.eq_nil_of_length_eq_zero (by rw [Array.length_toList (xs := arr), hasz, hm0]; simp)
                rw [ha0]
                exact ⟨w, c, rfl, rfl, fun _ _ => rfl, q4, rfl, IO0.refl _, by rw [hm0, List.append_nil]; exact q9.take n⟩
              · have hml : 0 < more.length := List.length_pos_iff.2 hm0
                have hj0 : j = 0 := by omega
                subst hj0
                rw [Nat.zero_mul, add_off, Nat.zero_add]
                have hbnd : n * szOf P e + more.length * szOf P e ≤ c.size := by
                  rw [← Nat.add_mul, q6]; exact Nat.mul_le_mul_right _ (by omega)
                have hal : arr.toList.length = more.length * szOf P e := by rw [Array.length_toList (xs := arr), hasz]
                have hone : ∀ v ∈ arr.toList, v.oneCell' = true := by
                  intro v hv'
                  obtain ⟨ii, hii, rfl⟩ := List.getElem_of_mem hv'
                  have hlt : ii < more.length * szOf P e := by omega
                  have hq : ii / szOf P e < more.length := Nat.div_lt_of_lt_mul (by rw [Nat.mul_comm]; exact hlt)
                  obtain ⟨⟨hr1, hr2⟩, hr3⟩ := haR.get (List.getElem?_eq_getElem hq)
                  have hmod := Nat.mod_lt ii h0
                  have hx1 : (more[ii / szOf P e])[ii % szOf P e]? = some ((more[ii / szOf P e])[ii % szOf P e]'(by omega)) := List.getElem?_eq_getElem _
                  obtain ⟨v', hv1, hv2⟩ := hr3.at hx1
                  have hidx : ii / szOf P e * szOf P e + ii % szOf P e = ii := by rw [Nat.mul_comm]; exact Nat.div_add_mod ii _
                  rw [hidx, List.getElem?_eq_getElem hii] at hv1
                  cases hv1
                  rw [List.all_eq_true] at hr2
                  exact oneCell_of (hr2 _ (List.getElem_mem _)) hv2
                obtain ⟨w', c', g1, g2, g3, g4, g5, hio⟩ := run_storeCells' (P := P) (B := L.blk) (o := n * szOf P e) arr.toList 0 w c q4 (by omega) q5 hone
                have hcl : c'.size = c.size := by
                  have e3 : c'.toList.length = c.toList.length := by
                    rw [g5, splice_length]
                    rw [hal, Array.length_toList (xs := c)]; omega
                  rw [Array.length_toList (xs := c'), Array.length_toList (xs := c)] at e3; exact e3
                refine ⟨w', c', g1, g2, g3, g4, hcl, hio, ?_⟩
                rw [g5]
                have hA := RelRows.append (q9.take n) (RelRows.more haR (by rw [hal]; exact Nat.le_refl _) (c.toList.drop (n * szOf P e + 0 + arr.toList.length))) (by rw [hsize, Array.length_toList (xs := c)]; exact hncap)
                rw [hsize, List.take_of_length_le (l := arr.toList) (by rw [hal]; exact Nat.le_refl _)] at hA
                unfold splice
                rw [List.append_assoc]
                exact hA
            obtain ⟨w', c', g1, g2, g3, g4, g5, hio, g6⟩ := hgo
            have hfin := hkill.fresh (w' := w') hf' g3 (by omega) hio q8 hno (hS.own b L hlive hL) (hcells w' c' g4 g5 g6 (by omega))
            unfold Oper.wp
            rw [hexec, e1, hrun]
            simp only [g1, Result.andThen_ok]
            refine hn _ w' m _ (Mem.le_refl m) (upd_le L hβ) ?_ (by simpa [news, setAll] using hfin)
            simp only [Rel]
            exact ⟨L, j, cap, upd_self _ _ _, rfl, hneed, by omega, hj⟩
          · have hold := run_first (P := P) (hp := hp₁) hS (y := .osl b 0 n) (v := .slice (some ⟨L.blk, j * L.k, none⟩) n cap) (more := rows.take n) (r := [b]) (size := szOf P e) (by simp [rowsOf, hb', hnr]) (fun _ _ => rfl)
              (by simp only [Rel]; exact ⟨L, j, cap, hL, rfl, hcap, hic, hj⟩) (fun q hq => by
                obtain ⟨ii, hii, rfl⟩ := List.getElem_of_mem (List.mem_of_mem_take hq)
                exact (q9.get (List.getElem?_eq_getElem hii)).1.1)
            obtain ⟨_, old, hof, hos, hoR⟩ := hold
            rw [hsize] at hof hos
            obtain ⟨nc, w', rest, hnc, hrs, ⟨hheap, hio⟩, hrun⟩ := run_append_out (P := P) (t := t) (base := some ⟨L.blk, j * L.k, none⟩) (sLen := n) (sCap := cap) hu0 hue hni h0 hby hzrun hzsz hlen hfirst hof hneed hbb
            have hm : m w.heap.size = none := by
              cases h : m w.heap.size with
              | none => rfl
              | some o => have := hS.mem_lt h; omega
            have hle := upd_le ⟨w.heap.size, szOf P e, nc⟩ hβ
            have hal : arr.toList.length = more.length * szOf P e := by rw [Array.length_toList (xs := arr), hasz]
            have hol : old.toList.length = n * szOf P e := by rw [Array.length_toList (xs := old), hos]
            have hA := RelRows.append hoR (RelRows.more haR (by rw [hal]; exact Nat.le_refl _) rest.toList) (by rw [hsize, hol]; exact Nat.le_refl _)
            rw [hsize, List.take_of_length_le (l := arr.toList) (by rw [hal]; exact Nat.le_refl _), List.take_of_length_le (l := old.toList) (by rw [hol]; exact Nat.le_refl _)] at hA
            have hob : OBRel m (upd β hp.length ⟨w.heap.size, szOf P e, nc⟩) w' hp.length (.cells e (szOf P e) (rows.take n ++ more)) := by
              refine OBRel.laid (upd_self _ _ _) h0 hheap ?_ (by rw [List.length_append, hsize]; exact hnc) hm ?_
              · simp only [Array.size_append, hasz, hrs, hos]
                have : (nc - (n + more.length)) * szOf P e + (n + more.length) * szOf P e = nc * szOf P e := by rw [← Nat.add_mul]; congr 1; omega
                rw [Nat.add_mul] at this; omega
              · have := hA.mono (Mem.le_refl m) hle
                simpa [List.append_assoc] using this
            have hfin := hkill.push hf' hheap hio hob
            unfold Oper.wp
            rw [hexec, e1, hrun]
            simp only [Result.andThen_ok]
            refine hn _ w' m _ (Mem.le_refl m) hle ?_ (by simpa [news, setAll] using hfin)
            simp only [Rel]
            exact ⟨_, 0, nc, upd_self _ _ _, by simp, hnc, by simp, .inl rfl⟩
        · exact h.elim
      · exact h.elim
    · exact h.elim
  · exact h.elim
end
end Go.Am
namespace Go.Am

mutual
theorem Rel.closed {m : Mem} {β β' : Plc} : ∀ (x : AV) (v : Value), x.closed = true → Rel m β x v → Rel m β' x v
  | .val _, _, _, h => by simpa [Rel] using h
  | .top, _, _, _ => by simp [Rel]
  | .nil, _, _, h => by simpa [Rel] using h
  | .agg cs, v, hc, h => by
    simp only [Rel] at h ⊢; simp only [AV.closed] at hc
    obtain ⟨vs, e, h⟩ := h
    exact ⟨vs, e, RelL.closed _ _ hc h⟩
  | .tup cs, v, hc, h => by
    simp only [Rel] at h ⊢; simp only [AV.closed] at hc
    obtain ⟨vs, e, h⟩ := h
    exact ⟨vs, e, RelL.closed _ _ hc h⟩
  | .sl k rows, v, hc, h => by
    simp only [Rel] at h ⊢; simp only [AV.closed] at hc
    obtain ⟨a, cap, e, hcap, h⟩ := h
    refine ⟨a, cap, e, hcap, ?_⟩
    rcases h with h | ⟨ad, c, el, fz, h1, h2, h3, h4, h5⟩
    · exact .inl h
    · exact .inr ⟨ad, c, el, fz, h1, h2, h3, h4, RelRows.closed k _ _ hc h5⟩
  | .ref cells, v, hc, h => by
    simp only [Rel] at h ⊢; simp only [AV.closed] at hc
    obtain ⟨ad, c, el, fz, h1, h2, h3, h4, h5⟩ := h
    exact ⟨ad, c, el, fz, h1, h2, h3, h4, RelL.closed _ _ hc h5⟩
  | .fn f caps, v, hc, h => by
    simp only [Rel] at h ⊢; simp only [AV.closed] at hc
    obtain ⟨vs, e, h⟩ := h
    exact ⟨vs, e, RelL.closed _ _ hc h⟩
  | .mv f caps, v, hc, h => by
    simp only [Rel] at h ⊢; simp only [AV.closed] at hc
    obtain ⟨vs, e, h⟩ := h
    exact ⟨vs, e, RelL.closed _ _ hc h⟩
  | .osl .., _, hc, _ => by simp [AV.closed] at hc
  | .optr .., _, hc, _ => by simp [AV.closed] at hc
  | .omap _, _, hc, _ => by simp [AV.closed] at hc
theorem RelL.closed {m : Mem} {β β' : Plc} : ∀ (xs : List AV) (vs : List Value), closedL xs = true → RelL m β xs vs → RelL m β' xs vs
  | [], _, _, h => by simpa [RelL] using h
  | x :: xs, vs, hc, h => by
    simp only [RelL] at h ⊢; simp only [closedL, Bool.and_eq_true] at hc
    obtain ⟨v, vs', e, h1, h2⟩ := h
    exact ⟨v, vs', e, Rel.closed _ _ hc.1 h1, RelL.closed _ _ hc.2 h2⟩
theorem RelRows.closed {m : Mem} {β β' : Plc} (k : Nat) : ∀ (rs : List (List AV)) (vs : List Value), closedR rs = true → RelRows m β k rs vs → RelRows m β' k rs vs
  | [], _, _, _ => by simp [RelRows]
  | r :: rs, vs, hc, h => by
    simp only [RelRows] at h ⊢; simp only [closedR, Bool.and_eq_true] at hc
    exact ⟨h.1, RelL.closed _ _ hc.1 h.2.1, RelRows.closed k _ _ hc.2 h.2.2⟩
end

mutual
theorem Rel.plain {m m' : Mem} {β β' : Plc} : ∀ (x : AV) (v : Value), x.plain = true → Rel m β x v → Rel m' β' x v
  | .val _, _, _, h => by simpa [Rel] using h
  | .top, _, _, _ => by simp [Rel]
  | .nil, _, _, h => by simpa [Rel] using h
  | .agg cs, v, hc, h => by
    simp only [Rel] at h ⊢; simp only [AV.plain] at hc
    obtain ⟨vs, e, h⟩ := h
    exact ⟨vs, e, RelL.plain _ _ hc h⟩
  | .tup cs, v, hc, h => by
    simp only [Rel] at h ⊢; simp only [AV.plain] at hc
    obtain ⟨vs, e, h⟩ := h
    exact ⟨vs, e, RelL.plain _ _ hc h⟩
  | .sl .., _, hc, _ => by simp [AV.plain] at hc
  | .ref .., _, hc, _ => by simp [AV.plain] at hc
  | .fn .., _, hc, _ => by simp [AV.plain] at hc
  | .mv .., _, hc, _ => by simp [AV.plain] at hc
  | .osl .., _, hc, _ => by simp [AV.plain] at hc
  | .optr .., _, hc, _ => by simp [AV.plain] at hc
  | .omap _, _, hc, _ => by simp [AV.plain] at hc
theorem RelL.plain {m m' : Mem} {β β' : Plc} : ∀ (xs : List AV) (vs : List Value), plainL xs = true → RelL m β xs vs → RelL m' β' xs vs
  | [], _, _, h => by simpa [RelL] using h
  | x :: xs, vs, hc, h => by
    simp only [RelL] at h ⊢; simp only [plainL, Bool.and_eq_true] at hc
    obtain ⟨v, vs', e, h1, h2⟩ := h
    exact ⟨v, vs', e, Rel.plain _ _ hc.1 h1, RelL.plain _ _ hc.2 h2⟩
end

mutual
theorem Rel.sub {m : Mem} {β : Plc} : ∀ (x y : AV) (v : Value), Sub x y → Rel m β x v → Rel m β y v
  | .val _, y, _, hs, h => by simp only [Sub] at hs; subst hs; exact h
  | .top, y, _, hs, h => by simp only [Sub] at hs; subst hs; exact h
  | .nil, y, _, hs, h => by
    simp only [Sub] at hs
    rcases hs with rfl | ⟨k, rfl⟩
    · exact h
    · simp only [Rel] at h ⊢; subst h; exact ⟨none, 0, rfl, by simp, by simp⟩
  | .agg cs, y, v, hs, h => by
    simp only [Sub] at hs; obtain ⟨ds, rfl, hs⟩ := hs
    simp only [Rel] at h ⊢
    obtain ⟨vs, e, h⟩ := h
    exact ⟨vs, e, RelL.sub _ _ _ hs h⟩
  | .tup cs, y, v, hs, h => by
    simp only [Sub] at hs; obtain ⟨ds, rfl, hs⟩ := hs
    simp only [Rel] at h ⊢
    obtain ⟨vs, e, h⟩ := h
    exact ⟨vs, e, RelL.sub _ _ _ hs h⟩
  | .sl k rows, y, v, hs, h => by
    simp only [Sub] at hs; obtain ⟨rows', rfl, hs⟩ := hs
    simp only [Rel] at h ⊢
    obtain ⟨a, cap, e, hcap, h⟩ := h
    have hl := SubR.length _ _ hs
    refine ⟨a, cap, by rw [← hl]; exact e, by rw [← hl]; exact hcap, ?_⟩
    rcases h with h | ⟨ad, c, el, fz, h1, h2, h3, h4, h5⟩
    · left; subst h; simpa [SubR] using hs
    · exact .inr ⟨ad, c, el, fz, h1, h2, h3, by rw [← hl]; exact h4, RelRows.sub k _ _ _ hs h5⟩
  | .ref cells, y, v, hs, h => by
    simp only [Sub] at hs; obtain ⟨ds, rfl, hs⟩ := hs
    simp only [Rel] at h ⊢
    obtain ⟨ad, c, el, fz, h1, h2, h3, h4, h5⟩ := h
    have hl := SubL.length _ _ hs
    exact ⟨ad, c, el, fz, h1, h2, h3, by rw [← hl]; exact h4, by rw [← hl]; exact RelL.sub _ _ _ hs h5⟩
  | .fn f caps, y, v, hs, h => by
    simp only [Sub] at hs; obtain ⟨ds, rfl, hs⟩ := hs
    simp only [Rel] at h ⊢
    obtain ⟨vs, e, h⟩ := h
    exact ⟨vs, e, RelL.sub _ _ _ hs h⟩
  | .mv f caps, y, v, hs, h => by
    simp only [Sub] at hs; obtain ⟨ds, rfl, hs⟩ := hs
    simp only [Rel] at h ⊢
    obtain ⟨vs, e, h⟩ := h
    exact ⟨vs, e, RelL.sub _ _ _ hs h⟩
  | .osl .., y, _, hs, h => by simp only [Sub] at hs; subst hs; exact h
  | .optr .., y, _, hs, h => by simp only [Sub] at hs; subst hs; exact h
  | .omap _, y, _, hs, h => by simp only [Sub] at hs; subst hs; exact h
theorem RelL.sub {m : Mem} {β : Plc} : ∀ (xs ys : List AV) (vs : List Value), SubL xs ys → RelL m β xs vs → RelL m β ys vs
  | [], ys, _, hs, h => by simp only [SubL] at hs; subst hs; exact h
  | x :: xs, ys, vs, hs, h => by
    simp only [SubL] at hs; obtain ⟨y, ys', rfl, h1, h2⟩ := hs
    simp only [RelL] at h ⊢
    obtain ⟨v, vs', e, g1, g2⟩ := h
    exact ⟨v, vs', e, Rel.sub _ _ _ h1 g1, RelL.sub _ _ _ h2 g2⟩
theorem RelRows.sub {m : Mem} {β : Plc} (k : Nat) : ∀ (xs ys : List (List AV)) (vs : List Value), SubR xs ys → RelRows m β k xs vs → RelRows m β k ys vs
  | [], ys, _, hs, h => by simp only [SubR] at hs; subst hs; exact h
  | x :: xs, ys, vs, hs, h => by
    simp only [SubR] at hs; obtain ⟨y, ys', rfl, h1, h2⟩ := hs
    simp only [RelRows] at h ⊢
    exact ⟨⟨by rw [← SubL.length _ _ h1]; exact h.1.1, SubL.one _ _ h1 h.1.2⟩, RelL.sub _ _ _ h1 h.2.1, RelRows.sub k _ _ _ h2 h.2.2⟩
theorem SubL.length : ∀ (xs ys : List AV), SubL xs ys → xs.length = ys.length
  | [], ys, hs => by simp only [SubL] at hs; subst hs; rfl
  | x :: xs, ys, hs => by
    simp only [SubL] at hs; obtain ⟨y, ys', rfl, h1, h2⟩ := hs
    simp [SubL.length _ _ h2]
theorem SubL.one : ∀ (xs ys : List AV), SubL xs ys → xs.all AV.one = true → ys.all AV.one = true
  | [], ys, hs, _ => by simp only [SubL] at hs; subst hs; rfl
  | x :: xs, ys, hs, h => by
    simp only [SubL] at hs; obtain ⟨y, ys', rfl, h1, h2⟩ := hs
    simp only [List.all_cons, Bool.and_eq_true] at h ⊢
    exact ⟨Sub.one _ _ h1 h.1, SubL.one _ _ h2 h.2⟩
theorem Sub.one : ∀ (x y : AV), Sub x y → AV.one x = true → AV.one y = true
  | .val _, y, hs, h => by simp only [Sub] at hs; subst hs; exact h
  | .top, y, hs, h => by simp [AV.one] at h
  | .nil, y, hs, h => by simp only [Sub] at hs; rcases hs with rfl | ⟨k, rfl⟩ <;> rfl
  | .agg cs, y, hs, h => by simp [AV.one] at h
  | .tup cs, y, hs, h => by simp [AV.one] at h
  | .sl k rows, y, hs, h => by simp only [Sub] at hs; obtain ⟨rows', rfl, hs⟩ := hs; rfl
  | .ref cells, y, hs, h => by simp only [Sub] at hs; obtain ⟨ds, rfl, hs⟩ := hs; rfl
  | .fn f caps, y, hs, h => by simp only [Sub] at hs; obtain ⟨ds, rfl, hs⟩ := hs; rfl
  | .mv f caps, y, hs, h => by simp only [Sub] at hs; obtain ⟨ds, rfl, hs⟩ := hs; rfl
  | .osl .., y, hs, h => by simp only [Sub] at hs; subst hs; exact h
  | .optr .., y, hs, h => by simp only [Sub] at hs; subst hs; exact h
  | .omap _, y, hs, h => by simp only [Sub] at hs; subst hs; exact h
theorem SubR.length : ∀ (xs ys : List (List AV)), SubR xs ys → xs.length = ys.length
  | [], ys, hs => by simp only [SubR] at hs; subst hs; rfl
  | x :: xs, ys, hs => by
    simp only [SubR] at hs; obtain ⟨y, ys', rfl, h1, h2⟩ := hs
    simp [SubR.length _ _ h2]
end

mutual
theorem Rel.ren {m : Mem} {β β' : Plc} {ids : List Nat} {n : Nat} (hb : ∀ b, b < n → β' b = β (ids.getD b 0)) : ∀ (x : AV) (v : Value), x.under n = true → (Rel m β (x.ren ids) v ↔ Rel m β' x v)
  | .val _, _, _ => by simp [Rel, AV.ren]
  | .top, _, _ => by simp [Rel, AV.ren]
  | .nil, _, _ => by simp [Rel, AV.ren]
  | .agg cs, v, hu => by
    simp only [AV.under] at hu
    simp only [Rel, AV.ren, RelL.ren hb _ _ hu]
  | .tup cs, v, hu => by
    simp only [AV.under] at hu
    simp only [Rel, AV.ren, RelL.ren hb _ _ hu]
  | .sl k rows, v, hu => by
    simp only [AV.under] at hu
    simp only [Rel, AV.ren, renR_length, RelRows.ren hb k _ _ hu, renR_nil]
  | .ref cells, v, hu => by
    simp only [AV.under] at hu
    simp only [Rel, AV.ren, renL_length, RelL.ren hb _ _ hu]
  | .fn f caps, v, hu => by
    simp only [AV.under] at hu
    simp only [Rel, AV.ren, RelL.ren hb _ _ hu]
  | .mv f caps, v, hu => by
    simp only [AV.under] at hu
    simp only [Rel, AV.ren, RelL.ren hb _ _ hu]
  | .osl b i l, v, hu => by
    simp only [AV.under, decide_eq_true_eq] at hu
    simp only [Rel, AV.ren, hb b hu]
  | .optr b i o, v, hu => by
    simp only [AV.under, decide_eq_true_eq] at hu
    simp only [Rel, AV.ren, hb b hu]
  | .omap b, v, hu => by
    simp only [AV.under, decide_eq_true_eq] at hu
    simp only [Rel, AV.ren, hb b hu]
theorem RelL.ren {m : Mem} {β β' : Plc} {ids : List Nat} {n : Nat} (hb : ∀ b, b < n → β' b = β (ids.getD b 0)) : ∀ (xs : List AV) (vs : List Value), underL n xs = true → (RelL m β (renL ids xs) vs ↔ RelL m β' xs vs)
  | [], _, _ => by simp [RelL, renL]
  | x :: xs, vs, hu => by
    simp only [underL, Bool.and_eq_true] at hu
    simp only [RelL, renL, Rel.ren hb _ _ hu.1, RelL.ren hb _ _ hu.2]
theorem RelRows.ren {m : Mem} {β β' : Plc} {ids : List Nat} {n : Nat} (hb : ∀ b, b < n → β' b = β (ids.getD b 0)) (k : Nat) : ∀ (rs : List (List AV)) (vs : List Value), underR n rs = true → (RelRows m β k (renR ids rs) vs ↔ RelRows m β' k rs vs)
  | [], _, _ => by simp [RelRows, renR]
  | r :: rs, vs, hu => by
    simp only [underR, Bool.and_eq_true] at hu
    simp only [RelRows, renR, renL_length, renL_one, RelL.ren hb _ _ hu.1, RelRows.ren hb k _ _ hu.2]
theorem renL_length (ids : List Nat) : ∀ (xs : List AV), (renL ids xs).length = xs.length
  | [] => rfl
  | x :: xs => by simp [renL, renL_length ids xs]
theorem renR_length (ids : List Nat) : ∀ (xs : List (List AV)), (renR ids xs).length = xs.length
  | [] => rfl
  | x :: xs => by simp [renR, renR_length ids xs]
theorem renR_nil (ids : List Nat) : ∀ (xs : List (List AV)), (renR ids xs = []) = (xs = [])
  | [] => by simp [renR]
  | x :: xs => by simp [renR]
theorem renL_one (ids : List Nat) : ∀ (xs : List AV), (renL ids xs).all AV.one = xs.all AV.one
  | [] => rfl
  | x :: xs => by simp only [renL, List.all_cons, renL_one ids xs]; cases x <;> simp [AV.ren, AV.one]
end
end Go.Am
