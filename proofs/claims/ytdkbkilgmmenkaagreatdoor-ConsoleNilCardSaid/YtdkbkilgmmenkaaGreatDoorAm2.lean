/-
  The abstract machine is sound: operations (first part). (No statement of the claim's own is proved here.)
-/
import Derived.Test.YtdkbkilgmmenkaaGreatDoorAm1
import Derived.Laws.Sem
import Derived.Laws.Cells
import Derived.Laws.Entries
import Derived.Laws.Strings
set_option linter.all false
namespace Go.Am

def news (nid : Nat) : List OB → List (Nat × OB)
  | [] => []
  | o :: l => (nid, o) :: news (nid + 1) l

/-- What it means that an operation does what 'e' says, whatever the rest of the state is. -/
def OpSem (P : Program) (o : Oper) (ev : Operand → AV) (hp : List OB) (nid : Nat) (e : Eff) : Prop :=
  (∀ x ∈ e.w, x.1 < hp.length) ∧ (∀ b ∈ e.r, b < hp.length) ∧ ∀ (w0 : World) (m0 : Mem) (O : Nat → Prop) (hp₁ : List OB) (m : Mem) (β : Plc) (w : World) (a : Act) (next : Act → World → Prop) (Q : Exit → Act → World → Prop),
    (∀ x ∈ o.op.operands, Rel m β (ev x) (a.eval x)) → State w0 m0 O m β w hp₁ → (∀ b ∈ e.r, hp₁[b]? = hp[b]?) → (∀ j, j < e.n.length → hp₁[nid + j]? = some .fresh) →
    (∀ v w' m' β', Mem.le m m' → Plc.le β β' → Rel m' β' e.v v → State w0 m0 O m' β' w' (setAll hp₁ (e.w ++ news nid e.n)) → next (a.put o.dst v) w') → o.wp P a w next Q

section
variable {P : Program} {o : Oper} {ev : Operand → AV} {hp : List OB} {nid : Nat}

/-- An operation that yields a value and leaves the heap as it is. -/
theorem OpSem.value {v : AV} {r : List Nat} (h : ∀ (w0 : World) (m0 : Mem) (O : Nat → Prop) (hp₁ : List OB) (m : Mem) (β : Plc) (w : World) (a : Act),
    (∀ x ∈ o.op.operands, Rel m β (ev x) (a.eval x)) → State w0 m0 O m β w hp₁ → (∀ b ∈ r, hp₁[b]? = hp[b]?) → ∃ u, Rel m β v u ∧ (execOp a.eval o).run P w = .ok (.value u) w) (hlt : ∀ b ∈ r, b < hp.length := by first | (intro b hb; simp at hb; done) | (intro q hq; simp only [List.mem_singleton] at hq; subst hq; first | exact (Live.of_cells (by assumption)).lt | exact (Live.of_map (by assumption)).lt)) : OpSem P o ev hp nid { v, r } := by
  refine ⟨by simp, hlt, ?_⟩
  intro w0 m0 O hp₁ m β w a next Q hops hS hr _ hn
  obtain ⟨u, hu, hrun⟩ := h w0 m0 O hp₁ m β w a hops hS hr
  unfold Oper.wp
  rw [hrun]
  exact hn u w m β (Mem.le_refl m) (Plc.le_refl β) hu hS

theorem run_v (s : Sem Value) (w : World) : (do let x ← s; pure (Next.value x) : Sem Next).run P w = (s.run P w).andThen fun v w => .ok (.value v) w := by
  simp
end

section
variable {P : Program} {w : World}
theorem info_of_sz {t : TypeId} (h : 0 < szOf P t) : ∃ i, P.info? t = some i ∧ i.size = szOf P t := by
  unfold szOf at h ⊢
  cases hi : P.info? t with
  | none => simp [hi] at h
  | some i => exact ⟨i, rfl, by simp⟩
theorem run_sizeOf' {t : TypeId} (h : 0 < szOf P t) : (sizeOf t).run P w = .ok (szOf P t) w := by
  obtain ⟨i, hi, hs⟩ := info_of_sz h
  simp [sizeOf, typeInfo, hi, hs]
theorem run_isAgg' {t : TypeId} {b : Bool} (h : aggT P t = some b) : (isAgg t).run P w = .ok b w := by
  unfold aggT at h
  cases hu : P.underlying t with
  | none => simp [hu] at h
  | some d => cases d <;> simp [hu] at h <;> subst h <;> simp [isAgg, underlying, hu]
theorem run_underlying' {t : TypeId} {d : TypeDesc} (h : P.underlying t = some d) : (underlying t).run P w = .ok d w := by
  simp [underlying, h]

/-- The cells of a block that lies in the heap. -/
theorem cell_of {B : Nat} {c : Array Value} {e : TypeId} {fz : Nat × Nat} (h : w.heap[B]? = some (.cells c e fz)) (o : Nat) : w.cell? ⟨B, o, none⟩ = c[o]? := by
  simp [World.cell?, h]

theorem add_off (B o n : Nat) : (⟨B, o, none⟩ : Addr).add n = ⟨B, o + n, none⟩ := by
  unfold Addr.add; split <;> simp_all

/-- A load of cells that are described. -/
theorem run_loaded {t : TypeId} {cells : List AV} {r : List Nat} {K : Eff → Prop} (h : loaded P t cells r K) :
    ∃ v, K { v, r } ∧ ∀ (B off : Nat) (c : Array Value) (e : TypeId) (fz : Nat × Nat) (vs : List Value) (m : Mem) (β : Plc) (w : World), w.heap[B]? = some (.cells c e fz) → RelL m β cells vs → (∀ j u, vs[j]? = some u → c.toList[off + j]? = some u) →
      ∃ u, Rel m β v u ∧ (loadVar t ⟨B, off, none⟩).run P w = .ok u w := by
  unfold loaded at h
  cases ha : aggT P t with
  | none => simp [ha] at h
  | some b =>
    cases b with
    | true =>
      simp only [ha] at h
      obtain ⟨h0, h1, hK⟩ := h
      refine ⟨_, hK, fun B off c e fz vs m β w hB hR hc => ?_⟩
      have hl := hR.length
      refine ⟨.agg (vs.take (szOf P t)).toArray, ?_, ?_⟩
      · simp only [Rel]; exact ⟨_, rfl, hR.take _⟩
      · have hload := run_loadCells_list (P := P) w ⟨B, off, none⟩ (vs.take (szOf P t)) (fun j v hj => by
          rw [add_off, cell_of hB, ← Array.getElem?_toList]
          rw [List.getElem?_take] at hj
          split at hj
          · exact hc j v hj
          · cases hj)
        have hlen : (vs.take (szOf P t)).length = szOf P t := by rw [List.length_take]; omega
        rw [hlen] at hload
        simp [loadVar, run_isAgg' ha, run_sizeOf' h0, hload]
    | false =>
      simp only [ha] at h
      cases cells with
      | nil => exact h.elim
      | cons x xs =>
        refine ⟨_, h, fun B off c e fz vs m β w hB hR hc => ?_⟩
        simp only [RelL] at hR
        obtain ⟨v, vs', rfl, hv, _⟩ := hR
        refine ⟨v, hv, ?_⟩
        have : w.cell? ⟨B, off, none⟩ = some v := by
          rw [cell_of hB, ← Array.getElem?_toList]; simpa using hc 0 v (by simp)
        simp [loadVar, run_isAgg' ha, this]
end
end Go.Am
namespace Go.Am

section
variable {P : Program}

theorem size_bytes (s : ByteArray) : s.size = (bytes s).length := by rw [bytes, Array.length_toList]; rfl
theorem S_bytes (s : ByteArray) : S (bytes s) = .string s := by simp [S, bytes]
theorem mk_toArray (s : ByteArray) : (⟨(bytes s).toArray⟩ : ByteArray) = s := by simp [bytes]
theorem append_bytes (s s' : ByteArray) : S (bytes s ++ bytes s') = .string (s ++ s') := by
  rw [← S_bytes (s ++ s')]
  simp [bytes]

theorem abinInt_sound {op : BinOp} {k : IntKind} {a b : Int} {K : Eff → Prop} (hop : op ≠ .shl) (hop' : op ≠ .shr) (h : abinInt op k a b K) :
    ∃ v, K { v := .val v } ∧ ∀ (t : TypeId) (w : World), (binOp op t (.int k a) (.int k b)).run P w = .ok v w := by
  cases op <;> simp only [abinInt, bit2] at h <;>
    first
    | exact absurd rfl hop
    | exact absurd rfl hop'
    | exact h.elim
    | exact ⟨_, h.2, fun t w => by simp only [binOp, ne_eq, not_true_eq_false, if_false, Op.intDiv, if_neg h.1]; rfl⟩
    | exact ⟨_, h, fun t w => by simp only [binOp, ne_eq, not_true_eq_false, if_false]; rfl⟩

theorem abinStr_sound {op : BinOp} {x y : ByteArray} {K : Eff → Prop} (h : abinStr op (bytes x) (bytes y) K) :
    ∃ v, K { v := .val v } ∧ ∀ (t : TypeId) (w : World), (binOp op t (.string x) (.string y)).run P w = .ok v w := by
  have e1 := ByteArray.toList_eq x
  have e2 := ByteArray.toList_eq y
  cases op <;> simp only [abinStr] at h <;>
    first
    | exact h.elim
    | exact ⟨_, h, fun t w => by simp [binOp, Op.stringOp, e1, e2, bytes]⟩
    | skip
  obtain ⟨h1, h2⟩ := h
  refine ⟨_, h2, fun t w => ?_⟩
  have h3 : ¬ (((x.size + y.size : Nat) : Int) > IntKind.i64.max) := by
    rw [size_bytes, size_bytes]
    have : IntKind.i64.max = 9223372036854775807 := rfl
    rw [this]; omega
  rw [append_bytes]
  simp only [binOp, Op.stringOp, if_neg h3]; rfl
end

/-- The soundness of one operation. -/
def Snd (P : Program) (C : FuncId → List AV → List OB → AV → List OB → Prop) (o : Oper) (ev : Operand → AV) (hp : List OB) : Prop :=
  ∀ K : Eff → Prop, aop P C o ev hp K → ∃ e, K e ∧ OpSem P o ev hp hp.length e

section
variable {P : Program} {C : FuncId → List AV → List OB → AV → List OB → Prop} {d : Option Tmp} {t : TypeId} {p : String} {af : Array Edge} {g : Option (Nat × Bool)} {ev : Operand → AV} {hp : List OB}

theorem snd_move (x) : Snd P C ⟨d, .move x, t, p, af, g⟩ ev hp := fun K h =>
  ⟨_, h, .value fun _ _ _ _ _ _ _ a hops _ _ => ⟨a.eval x, hops x (by simp [Op.operands]), rfl⟩⟩
theorem snd_assign (x) : Snd P C ⟨d, .assign x, t, p, af, g⟩ ev hp := fun K h =>
  ⟨_, h, .value fun _ _ _ _ _ _ _ a hops _ _ => ⟨a.eval x, hops x (by simp [Op.operands]), rfl⟩⟩

theorem snd_pick (c x y) : Snd P C ⟨d, .pick c x y, t, p, af, g⟩ ev hp := fun K h => by
  simp only [aop] at h
  split at h
  · rename_i b hb
    cases b with
    | true =>
      refine ⟨_, h.1 rfl, .value fun _ _ _ _ _ _ _ a hops _ _ => ⟨a.eval x, hops x (by simp [Op.operands]), ?_⟩⟩
      have := hops c (by simp [Op.operands])
      rw [hb] at this; simp only [Rel] at this
      simp [execOp, this, asBool]
    | false =>
      refine ⟨_, h.2 rfl, .value fun _ _ _ _ _ _ _ a hops _ _ => ⟨a.eval y, hops y (by simp [Op.operands]), ?_⟩⟩
      have := hops c (by simp [Op.operands])
      rw [hb] at this; simp only [Rel] at this
      simp [execOp, this, asBool]
  · exact h.elim

theorem snd_unOp (op u x) : Snd P C ⟨d, .unOp op u x, t, p, af, g⟩ ev hp := fun K h => by
  simp only [aop] at h
  split at h
  · rename_i b hb
    refine ⟨_, h, .value fun _ _ _ _ _ _ _ a hops _ _ => ⟨.bool (!b), by simp [Rel], ?_⟩⟩
    have := hops x (by simp [Op.operands])
    rw [hb] at this; simp only [Rel] at this
    simp [execOp, this, Op.unary]
  · rename_i k n hb
    refine ⟨_, h, .value fun _ _ _ _ _ _ _ a hops _ _ => ⟨.int k (k.wrap (0 - n)), by simp [Rel], ?_⟩⟩
    have := hops x (by simp [Op.operands])
    rw [hb] at this; simp only [Rel] at this
    simp [execOp, this, Op.unary, Op.intArith]
  · rename_i k n hb
    simp only [bit2] at h
    refine ⟨_, h, .value fun _ _ _ _ _ _ _ a hops _ _ => ⟨_, by simp only [Rel]; rfl, ?_⟩⟩
    have := hops x (by simp [Op.operands])
    rw [hb] at this; simp only [Rel] at this
    simp [execOp, this, Op.unary, Op.intBits]
  · exact h.elim

theorem intKind_eq {t : TypeId} {k : IntKind} (h : intKind P t = some k) : P.underlying t = some (.int k) := by
  unfold intKind at h; split at h <;> simp_all
theorem isStr_eq {t : TypeId} (h : isStr P t = true) : P.underlying t = some .string := by
  unfold isStr at h; split at h <;> simp_all
theorem fld_eq {t : TypeId} {f o : Nat} {ft : TypeId} (h : fld P t f = some (o, ft)) : ∃ fs x, P.underlying t = some (.struct fs) ∧ fs[f]? = some x ∧ x.offset = o ∧ x.type = ft := by
  unfold fld at h
  split at h
  · rename_i fs hu
    cases hx : fs[f]? with
    | none => simp [hx] at h
    | some x => simp [hx] at h; exact ⟨fs, x, hu, hx, h.1, h.2⟩
  · cases h
theorem slElem_eq {t e : TypeId} (h : slElem P t = some e) : P.underlying t = some (.slice e) := by
  unfold slElem at h; split at h <;> simp_all
theorem arrElem_eq {t e : TypeId} {n : Nat} (h : arrElem P t = some (n, e)) : P.underlying t = some (.array n e) := by
  unfold arrElem at h; split at h <;> simp_all
theorem mapT_eq {t k e : TypeId} (h : mapT P t = some (k, e)) : P.underlying t = some (.map k e) := by
  unfold mapT at h; split at h <;> simp_all

theorem snd_makeInterface (u x) : Snd P C ⟨d, .makeInterface u x, t, p, af, g⟩ ev hp := fun K h => by
  simp only [aop] at h
  split at h
  · rename_i v hv
    obtain ⟨hu, h⟩ := h
    refine ⟨_, h, .value fun _ _ _ _ _ _ _ a hops _ _ => ⟨.iface u v, by simp [Rel], ?_⟩⟩
    have := hops x (by simp [Op.operands])
    rw [hv] at this; simp only [Rel] at this
    unfold concrete at hu
    cases hd : P.underlying u with
    | none => simp [hd] at hu
    | some dd => cases dd <;> simp [hd] at hu <;> simp [execOp, this, Instr.makeInterface, underlying, hd]
  · exact h.elim

theorem relL_map {m : Mem} {β : Plc} {a : Act} {xs : Array Operand} (h : ∀ x ∈ xs, Rel m β (ev x) (a.eval x)) : RelL m β (xs.toList.map ev) (xs.toList.map a.eval) := by
  refine RelL.of_get (by simp) fun i x v hx hv => ?_
  rw [List.getElem?_map] at hx hv
  cases hc : xs.toList[i]? with
  | none => simp [hc] at hx
  | some y =>
    simp [hc] at hx hv
    subst hx; subst hv
    exact h y (by simpa using List.mem_of_getElem? hc)

theorem snd_makeFunc (f first captured) : Snd P C ⟨d, .makeFunc (.func f) first captured, t, p, af, g⟩ ev hp := fun K h => by
  simp only [aop] at h
  obtain ⟨ha, hb⟩ := h
  by_cases h0 : first = #[]
  · subst h0
    refine ⟨_, ha rfl, .value fun _ _ _ _ m β _ a hops _ _ => ⟨.func (.func f) #[] (captured.map a.eval), ?_, ?_⟩⟩
    · simp only [Rel]
      exact ⟨captured.toList.map a.eval, by simp [← Array.toList_map], relL_map fun x hx => hops x (by simp only [Op.operands]; simpa using hx)⟩
    · simp [execOp, Instr.makeFunc]
  · obtain ⟨rfl, h⟩ := hb h0
    refine ⟨_, h, .value fun _ _ _ _ m β _ a hops _ _ => ⟨.func (.func f) (first.map a.eval) #[], ?_, ?_⟩⟩
    · simp only [Rel]
      exact ⟨first.toList.map a.eval, by simp [← Array.toList_map], relL_map fun x hx => hops x (by simp only [Op.operands]; simpa using hx)⟩
    · simp [execOp, Instr.makeFunc]

theorem snd_extract (x i) : Snd P C ⟨d, .extract x i, t, p, af, g⟩ ev hp := fun K h => by
  simp only [aop] at h
  split at h
  · rename_i vs hv
    split at h
    · rename_i v hi
      refine ⟨_, h, .value fun _ _ _ _ _ _ _ a hops _ _ => ?_⟩
      have := hops x (by simp [Op.operands])
      rw [hv] at this; simp only [Rel] at this
      obtain ⟨us, e, hR⟩ := this
      obtain ⟨u, hu, hr⟩ := hR.get hi
      exact ⟨u, hr, by simp [execOp, e, Instr.extract, hu]⟩
    · exact h.elim
  · exact h.elim

theorem snd_nilCheck (x) : Snd P C ⟨d, .nilCheck x, t, p, af, g⟩ ev hp := fun K h => by
  simp only [aop] at h
  split at h
  · rename_i b i f hv
    refine ⟨_, h, .value fun _ _ _ _ _ _ _ a hops _ _ => ?_⟩
    have := hops x (by simp [Op.operands])
    rw [hv] at this
    refine ⟨_, this, ?_⟩
    simp only [Rel] at this
    obtain ⟨L, _, e⟩ := this
    simp [execOp, e]
  · rename_i cs hv
    refine ⟨_, h, .value fun _ _ _ _ _ _ _ a hops _ _ => ?_⟩
    have := hops x (by simp [Op.operands])
    rw [hv] at this
    refine ⟨_, this, ?_⟩
    simp only [Rel] at this
    obtain ⟨ad, c, el, fz, e, _⟩ := this
    simp [execOp, e]
  · rename_i f cs hv
    refine ⟨_, h, .value fun _ _ _ _ _ _ _ a hops _ _ => ?_⟩
    have := hops x (by simp [Op.operands])
    rw [hv] at this
    refine ⟨_, this, ?_⟩
    simp only [Rel] at this
    obtain ⟨vs, e, _⟩ := this
    simp [execOp, e]
  · rename_i f cs hv
    refine ⟨_, h, .value fun _ _ _ _ _ _ _ a hops _ _ => ?_⟩
    have := hops x (by simp [Op.operands])
    rw [hv] at this
    refine ⟨_, this, ?_⟩
    simp only [Rel] at this
    obtain ⟨vs, e, _⟩ := this
    simp [execOp, e]
  · exact h.elim

theorem run_max {k : IntKind} {x y : Int} (k' : IntKind) (w : World) (ts : Array TypeId) (u : TypeId) : (Builtin.max_ ts u #[.int k x, .int k' y]).run P w = .ok (.int k (if y > x then y else x)) w := by
  simp [Builtin.max_, Builtin.max2]
theorem run_min {k : IntKind} {x y : Int} (k' : IntKind) (w : World) (ts : Array TypeId) (u : TypeId) : (Builtin.min_ ts u #[.int k x, .int k' y]).run P w = .ok (.int k (if y < x then y else x)) w := by
  simp [Builtin.min_, Builtin.min2]
end
end Go.Am
namespace Go.Am

section
variable {P : Program} {C : FuncId → List AV → List OB → AV → List OB → Prop} {d : Option Tmp} {t : TypeId} {p : String} {af : Array Edge} {g : Option (Nat × Bool)} {ev : Operand → AV} {hp : List OB}

theorem equal_of {u : TypeId} {v v' : Value} {w : World} {r : Result Bool} (h : ∀ d, (Op.equalIn (d + 1) u v v').run P w = r) : (Op.equal u v v').run P w = r := h 9999
theorem run_equal_bool {u : TypeId} (hu : P.underlying u = some .bool) (a b : Bool) (w : World) : (Op.equal u (.bool a) (.bool b)).run P w = .ok (a == b) w := by
  refine equal_of fun d => ?_
  simp [Op.equalIn, run_underlying' hu]
theorem run_equal_nilptr {u e : TypeId} (hu : P.underlying u = some (.pointer e)) (b : Option Addr) (w : World) : (Op.equal u (.pointer none) (.pointer b)).run P w = .ok b.isNone w := by
  refine equal_of fun d => ?_
  simp [Op.equalIn, run_underlying' hu]
theorem run_equal_ptrnil {u e : TypeId} (hu : P.underlying u = some (.pointer e)) (a : Addr) (w : World) : (Op.equal u (.pointer (some a)) (.pointer none)).run P w = .ok false w := by
  refine equal_of fun d => ?_
  simp [Op.equalIn, run_underlying' hu]
theorem run_equal_ptrs {u e : TypeId} (hu : P.underlying u = some (.pointer e)) (he : 0 < szOf P e) (a b : Addr) (hb : a.block = b.block) (w : World) : (Op.equal u (.pointer (some a)) (.pointer (some b))).run P w = .ok (a == b) w := by
  have : szOf P e ≠ 0 := by omega
  refine equal_of fun d => ?_
  simp [Op.equalIn, run_underlying' hu, run_sizeOf' he, this, sameAddr, hb]
theorem run_equal_nilifaces {u : TypeId} {ms} (hu : P.underlying u = some (.interface ms)) (w : World) : (Op.equal u .nilIface .nilIface).run P w = .ok true w := by
  refine equal_of fun d => ?_
  simp [Op.equalIn, run_underlying' hu]
theorem run_equal_nilif {u : TypeId} {ms} (hu : P.underlying u = some (.interface ms)) (x v) (w : World) : (Op.equal u .nilIface (.iface x v)).run P w = .ok false w := by
  refine equal_of fun d => ?_
  simp [Op.equalIn, run_underlying' hu]
theorem run_equal_ifnil {u : TypeId} {ms} (hu : P.underlying u = some (.interface ms)) (x v) (w : World) : (Op.equal u (.iface x v) .nilIface).run P w = .ok false w := by
  refine equal_of fun d => ?_
  simp [Op.equalIn, run_underlying' hu]
theorem run_equal_nilsl {u e : TypeId} (hu : P.underlying u = some (.slice e)) (a : Option Addr) (n c n' c' : Nat) (w : World) : (Op.equal u (.slice none n c) (.slice a n' c')).run P w = .ok a.isNone w := by
  refine equal_of fun d => ?_
  simp [Op.equalIn, run_underlying' hu]
theorem run_equal_slnil {u e : TypeId} (hu : P.underlying u = some (.slice e)) (a : Addr) (n c n' c' : Nat) (w : World) : (Op.equal u (.slice (some a) n c) (.slice none n' c')).run P w = .ok false w := by
  refine equal_of fun d => ?_
  simp [Op.equalIn, run_underlying' hu]

theorem aeq_sound {u : TypeId} {lit : Bool} {x y : AV} {b : Bool} (h : aeq P u lit x y = some b) {m : Mem} {β : Plc} {v v' : Value} (hx : Rel m β x v) (hy : Rel m β y v') (w : World) :
    (Op.equal u v v').run P w = .ok b w ∧ ((∃ k n k' n', v = .int k n ∧ v' = .int k' n') → False) ∧ (∀ s s', v = .string s → v' = .string s' → False) ∧
      ((v = .nilIface ∧ v' = .nilIface) → lit = true) ∧ (∀ cs cs', v = .agg cs → v' = .agg cs' → False) ∧
      ((∃ a, v = .bool a) ∨ (∃ a, v = .pointer a) ∨ v = .nilIface ∨ (∃ a c, v = .iface a c) ∨ (∃ a n c, v = .slice a n c)) ∧
      ((∃ a, v' = .bool a) ∨ (∃ a, v' = .pointer a) ∨ v' = .nilIface ∨ (∃ a c, v' = .iface a c) ∨ (∃ a n c, v' = .slice a n c)) := by
  unfold aeq at h
  split at h <;> rename_i hu <;> (try simp only [Rel] at hx hy)
  · subst hx; subst hy; cases h; exact ⟨run_equal_bool hu _ _ w, by simp⟩
  · subst hx; subst hy; cases h; exact ⟨run_equal_nilptr hu _ w, by simp⟩
  · subst hx; obtain ⟨L, _, rfl⟩ := hy; cases h; exact ⟨run_equal_nilptr hu _ w, by simp⟩
  · subst hy; obtain ⟨L, _, rfl⟩ := hx; cases h; exact ⟨run_equal_ptrnil hu _ w, by simp⟩
  · subst hx; obtain ⟨ad, c, e, fz, rfl, _⟩ := hy; cases h; exact ⟨run_equal_nilptr hu _ w, by simp⟩
  · subst hy; obtain ⟨ad, c, e, fz, rfl, _⟩ := hx; cases h; exact ⟨run_equal_ptrnil hu _ w, by simp⟩
  · split at h
    · rename_i hc
      obtain ⟨rfl, rfl, he⟩ := hc
      obtain ⟨L, hL, rfl⟩ := hx
      obtain ⟨L', hL', rfl⟩ := hy
      rw [hL] at hL'; cases hL'
      cases h
      refine ⟨?_, by simp⟩
      refine (run_equal_ptrs hu he _ _ ?_ w).trans ?_
      · rfl
      · congr 1
        rw [Bool.eq_iff_iff]; simp
    · cases h
  · split at h
    · subst hx; subst hy; cases h; exact ⟨run_equal_nilifaces hu w, by simp_all⟩
    · cases h
  · subst hx; subst hy; cases h; exact ⟨run_equal_nilif hu _ _ w, by simp⟩
  · subst hx; subst hy; cases h; exact ⟨run_equal_ifnil hu _ _ w, by simp⟩
  · subst hx; subst hy; cases h; exact ⟨run_equal_nilsl hu _ _ _ _ _ w, by simp⟩
  · subst hy; obtain ⟨L, j, cap, _, rfl, _⟩ := hx; cases h; exact ⟨run_equal_slnil hu _ _ _ _ _ w, by simp⟩
  · subst hx; obtain ⟨L, j, cap, _, rfl, _⟩ := hy; cases h; exact ⟨run_equal_nilsl hu _ _ _ _ _ w, by simp⟩
  · subst hy; obtain ⟨a, cap, rfl, _, h3⟩ := hx; cases h
    rcases h3 with h3 | ⟨ad, c, e, fz, rfl, _⟩
    · cases h3
    · exact ⟨run_equal_slnil hu _ _ _ _ _ w, by simp⟩
  · subst hx; obtain ⟨a, cap, rfl, _, h3⟩ := hy; cases h
    rcases h3 with h3 | ⟨ad, c, e, fz, rfl, _⟩
    · cases h3
    · exact ⟨run_equal_nilsl hu _ _ _ _ _ w, by simp⟩
  · cases h

theorem run_eqGuard {op : BinOp} {u : TypeId} {x y : Operand} {v v' : Value} (h1 : (v = .nilIface ∧ v' = .nilIface) → (isConst x || isConst y) = true) (h2 : ∀ cs cs', v = .agg cs → v' = .agg cs' → False) (w : World) :
    (eqGuard op u x y v v').run P w = .ok () w := by
  unfold eqGuard
  split
  case h_3 => simp
  all_goals
    by_cases hn : v = .nilIface ∧ v' = .nilIface
    · obtain ⟨rfl, rfl⟩ := hn
      have := h1 ⟨rfl, rfl⟩
      cases x <;> cases y <;> simp_all [isConst]
    · cases v <;> cases v' <;> first | exact absurd ⟨rfl, rfl⟩ hn | exact (h2 _ _ rfl rfl).elim | simp

/-- What is read at a place of an aggregate. -/
def IsV (P : Program) (t : TypeId) (vs : List Value) (v : Value) : Prop := (aggT P t = some true ∧ v = .agg vs.toArray) ∨ (aggT P t = some false ∧ vs.head? = some v)

theorem RelL.seg {m : Mem} {β : Plc} {xs : List AV} {vs : List Value} (h : RelL m β xs vs) (o n : Nat) : RelL m β (Am.seg xs o n) ((vs.drop o).take n) := (h.drop o).take n

theorem run_part {t : TypeId} {cs : List Value} {o : Nat} (h0 : 0 < szOf P t) (hl : o + szOf P t ≤ cs.length) (ha : ∃ b, aggT P t = some b) (w : World) : ∃ v, (part t cs.toArray o).run P w = .ok v w ∧ IsV P t ((cs.drop o).take (szOf P t)) v := by
  obtain ⟨b, hb⟩ := ha
  cases b with
  | true =>
    refine ⟨.agg ((cs.drop o).take (szOf P t)).toArray, ?_, .inl ⟨hb, rfl⟩⟩
    simp [part, run_isAgg' hb, run_sizeOf' h0, List.extract_eq_take_drop]
  | false =>
    have hlt : o < cs.length := by omega
    refine ⟨cs[o], ?_, .inr ⟨hb, ?_⟩⟩
    · simp [part, run_isAgg' hb, hlt]
    · rw [List.head?_take, if_neg (by omega), List.head?_drop, List.getElem?_eq_getElem hlt]

theorem aggT_some {t : TypeId} {dd : TypeDesc} (h : P.underlying t = some dd) : ∃ b, aggT P t = some b := by
  unfold aggT; rw [h]; cases dd <;> exact ⟨_, rfl⟩

theorem IsV.leaf {t : TypeId} {u v : Value} (ha : aggT P t = some false) (h : IsV P t [u] v) : v = u := by
  rcases h with ⟨q, _⟩ | ⟨_, q⟩
  · rw [ha] at q; cases q
  · simpa using q.symm

theorem leafEq_sound {t : TypeId} {xs ys : List AV} {b : Bool} (h : leafEq (P.underlying t) xs ys = some b) {m : Mem} {β : Plc} {vs ws : List Value} (hx : RelL m β xs vs) (hy : RelL m β ys ws) {v v' : Value} (hv : IsV P t vs v) (hv' : IsV P t ws v') (w : World) (D : Nat) :
    (Op.equalIn (D + 1) t v v').run P w = .ok b w := by
  unfold leafEq at h
  split at h <;> rename_i hu
  case h_4 => cases h
  all_goals
    simp only [RelL, Rel] at hx hy
    obtain ⟨u, us, rfl, rfl, rfl⟩ := hx
    obtain ⟨u', us', rfl, rfl, rfl⟩ := hy
    have ha : aggT P t = some false := by unfold aggT; rw [hu]
    have e1 := hv.leaf ha
    have e2 := hv'.leaf ha
    subst e1; subst e2
  · cases h; simp [Op.equalIn, run_underlying' hu]
  · split at h
    · rename_i hk; cases h; simp [Op.equalIn, run_underlying' hu, hk]
    · cases h
  · cases h
    simp only [Op.equalIn, Sem.run_bind, run_underlying' hu, Result.andThen_ok, Sem.run_pure, bytes]
    congr 1
    rename_i a c
    show (a.data == c.data) = _
    rw [Bool.eq_iff_iff]
    simp only [beq_iff_eq, Array.toList_inj]

theorem forIn_allEq {α : Type} {f : α → Option Bool} {body : α → Option Bool × Unit → Sem (ForInStep (Option Bool × Unit))} {w : World} : ∀ (l : List α) {b : Bool}, allEq f l = some b →
    (∀ x ∈ l, ∀ b, f x = some b → (body x (none, ())).run P w = .ok (if b then .yield (none, ()) else .done (some false, ())) w) →
    (forIn l (none, ()) body).run P w = .ok (if b then none else some false, ()) w
  | [], b, h, _ => by simp only [allEq, Option.some.injEq] at h; subst h; simp
  | x :: l, b, h, hf => by
    simp only [allEq] at h
    cases hx : f x with
    | none => simp [hx] at h
    | some c =>
      have hg := hf x (by simp) c hx
      cases c with
      | true =>
        simp only [hx] at h
        have ih := forIn_allEq l h fun y hy => hf y (by simp [hy])
        simp [hg, ih]
      | false => simp [hx] at h; subst h; simp [hg]

theorem eqT_sound : ∀ (d : Nat) (t : TypeId) (xs ys : List AV) (b : Bool), eqT P d t xs ys = some b → ∀ (D : Nat), d ≤ D → ∀ (m : Mem) (β : Plc) (vs ws : List Value), RelL m β xs vs → RelL m β ys ws → ∀ v v', IsV P t vs v → IsV P t ws v' → ∀ w,
    (Op.equalIn D t v v').run P w = .ok b w
  | 0, t, xs, ys, b, h => by simp [eqT] at h
  | d + 1, t, xs, ys, b, h => by
    intro D hD m β vs ws hx hy v v' hv hv' w
    obtain ⟨D, rfl⟩ : ∃ D', D = D' + 1 := ⟨D - 1, by omega⟩
    have hlx := hx.length
    have hly := hy.length
    simp only [eqT] at h
    split at h
    · rename_i fs hu
      split at h
      · cases h
      · rename_i hst
        have ha : aggT P t = some true := by unfold aggT; rw [hu]
        have hv : v = .agg vs.toArray := by rcases hv with ⟨_, q⟩ | ⟨q, _⟩; exact q; rw [ha] at q; cases q
        have hv' : v' = .agg ws.toArray := by rcases hv' with ⟨_, q⟩ | ⟨q, _⟩; exact q; rw [ha] at q; cases q
        subst hv; subst hv'
        have hst' : P.stoodInHeld t = false := by simpa using hst
        have key := forIn_allEq (P := P) (w := w) (body := fun (f : Field) (__s : Option Bool × Unit) =>
                if f.name ≠ "_" then do
                  let __do_lift ← part f.type vs.toArray f.offset
                  let __do_lift_1 ← part f.type ws.toArray f.offset
                  let __do_lift ← Op.equalIn D f.type __do_lift __do_lift_1
                  if (!__do_lift) = true then pure (ForInStep.done (some false, ()))
                    else pure (ForInStep.yield (none, ()))
                else pure (ForInStep.yield (none, ()))) fs.toList h (fun f hf c hc => ?_)
        · simp only [Op.equalIn, Sem.run_bind, run_underlying' hu, Result.andThen_ok, run_program, hst', Bool.false_eq_true, if_false]
          rw [← Array.forIn_toList, key]
          cases b <;> rfl
        · by_cases hn : f.name = "_"
          · rw [if_pos hn] at hc; cases hc; simp [hn]
          · rw [if_neg hn] at hc
            split at hc
            · cases hc
            · rename_i hok
              simp only [not_or, Nat.not_lt] at hok
              obtain ⟨h1, h2, h3⟩ := hok
              have hag : ∃ b, aggT P f.type = some b := by
                cases hq : P.underlying f.type with
                | some dd => exact aggT_some hq
                | none => cases d <;> simp [eqT, hq, leafEq] at hc
              obtain ⟨p1, hp1, hi1⟩ := run_part (P := P) (t := f.type) (cs := vs) (o := f.offset) (by omega) (by omega) hag w
              obtain ⟨p2, hp2, hi2⟩ := run_part (P := P) (t := f.type) (cs := ws) (o := f.offset) (by omega) (by omega) hag w
              have ih := eqT_sound d f.type _ _ c hc D (by omega) m β _ _ (hx.seg _ _) (hy.seg _ _) p1 p2 hi1 hi2 w
              cases c <;> simp [hn, hp1, hp2, ih]
    · rename_i n e hu
      split at h
      · cases h
      · rename_i hok
        simp only [not_or, Nat.not_lt] at hok
        obtain ⟨h1, h2, h3⟩ := hok
        have ha : aggT P t = some true := by unfold aggT; rw [hu]
        have hv : v = .agg vs.toArray := by rcases hv with ⟨_, q⟩ | ⟨q, _⟩; exact q; rw [ha] at q; cases q
        have hv' : v' = .agg ws.toArray := by rcases hv' with ⟨_, q⟩ | ⟨q, _⟩; exact q; rw [ha] at q; cases q
        subst hv; subst hv'
        have key := forIn_allEq (P := P) (w := w) (body := fun (i : Nat) (__s : Option Bool × Unit) => do
              let __do_lift ← part e vs.toArray (i * szOf P e)
              let __do_lift_1 ← part e ws.toArray (i * szOf P e)
              let __do_lift ← Op.equalIn D e __do_lift __do_lift_1
              if (!__do_lift) = true then pure (ForInStep.done (some false, ())) else pure (ForInStep.yield (none, ()))) (List.range n) h (fun i hi c hc => ?_)
        · simp only [Op.equalIn, Sem.run_bind, run_underlying' hu, Result.andThen_ok, run_sizeOf' (P := P) (t := e) (Nat.pos_of_ne_zero h1)]
          rw [Std.Legacy.Range.forIn_eq_forIn_range']
          simp only [Std.Legacy.Range.size, Nat.sub_zero, Nat.add_sub_cancel, Nat.div_one]
          rw [← List.range_eq_range', key]
          cases b <;> rfl
        · have hin : i < n := List.mem_range.1 hi
          have hle : i * szOf P e + szOf P e ≤ n * szOf P e := by rw [← Nat.succ_mul]; exact Nat.mul_le_mul_right _ hin
          have hag : ∃ b, aggT P e = some b := by
            cases hq : P.underlying e with
            | some dd => exact aggT_some hq
            | none => cases d <;> simp [eqT, hq, leafEq] at hc
          obtain ⟨p1, hp1, hi1⟩ := run_part (P := P) (t := e) (cs := vs) (o := i * szOf P e) (by omega) (by omega) hag w
          obtain ⟨p2, hp2, hi2⟩ := run_part (P := P) (t := e) (cs := ws) (o := i * szOf P e) (by omega) (by omega) hag w
          have ih := eqT_sound d e _ _ c hc D (by omega) m β _ _ (hx.seg _ _) (hy.seg _ _) p1 p2 hi1 hi2 w
          cases c <;> simp [hp1, hp2, ih]
    · exact leafEq_sound h hx hy hv hv' w D

theorem eqT_agg {d : Nat} {t : TypeId} {xs ys : List AV} {b : Bool} (h : eqT P d t xs ys = some b) {m : Mem} {β : Plc} {vs ws : List Value} (hx : RelL m β xs vs) (hy : RelL m β ys ws) (hd : d ≤ 10000) (ha : aggT P t = some true) (w : World) :
    (Op.equal t (.agg vs.toArray) (.agg ws.toArray)).run P w = .ok b w :=
  eqT_sound d t xs ys b h 10000 hd m β vs ws hx hy _ _ (.inl ⟨ha, rfl⟩) (.inl ⟨ha, rfl⟩) w

theorem run_eqGuard_agg {op : BinOp} {u : TypeId} {x y : Operand} {a b : Array Value} (h : P.eqGuardType P.depth u = false) (w : World) : (eqGuard op u x y (.agg a) (.agg b)).run P w = .ok () w := by
  unfold eqGuard
  cases op <;> simp [h]

theorem snd_binOp (op u x y z) : Snd P C ⟨d, .binOp op u x y z, t, p, af, g⟩ ev hp := fun K h => by
  simp only [aop] at h
  unfold abin at h
  split at h
  · rename_i k a k' b hx hy
    have key : ∀ v, K { v := .val v } → (∀ (w : World), (binOp op u (.int k a) (.int k' b)).run P w = .ok v w) → ∃ e, K e ∧ OpSem P ⟨d, .binOp op u x y z, t, p, af, g⟩ ev hp hp.length e := by
      intro v hK hrun
      refine ⟨_, hK, .value fun _ _ _ _ _ _ w c hops _ _ => ⟨v, by simp [Rel], ?_⟩⟩
      have e1 := hops x (by simp [Op.operands])
      have e2 := hops y (by simp [Op.operands])
      rw [hx] at e1; rw [hy] at e2; simp only [Rel] at e1 e2
      simp only [execOp, e1, e2]
      simp [run_eqGuard (P := P) (op := op) (u := u) (x := x) (y := y) (v := .int k a) (v' := .int k' b) (by simp) (by simp), hrun]
    split at h
    · obtain ⟨h0, h⟩ := h
      exact key _ h fun w => by simp only [binOp, Op.shift, if_neg (show ¬ b < 0 by omega)]; rfl
    · obtain ⟨h0, h⟩ := h
      exact key _ h fun w => by simp only [binOp, Op.shift, if_neg (show ¬ b < 0 by omega)]; rfl
    · rename_i hop hop'
      obtain ⟨rfl, h⟩ := h
      obtain ⟨v, hK, hrun⟩ := abinInt_sound (P := P) (fun e => hop e) (fun e => hop' e) h
      exact key v hK fun w => hrun u w
  · rename_i s s' hx hy
    obtain ⟨v, hK, hrun⟩ := abinStr_sound (P := P) h
    refine ⟨_, hK, .value fun _ _ _ _ _ _ w c hops _ _ => ⟨v, by simp [Rel], ?_⟩⟩
    have e1 := hops x (by simp [Op.operands])
    have e2 := hops y (by simp [Op.operands])
    rw [hx] at e1; rw [hy] at e2; simp only [Rel] at e1 e2
    simp only [execOp, e1, e2]
    simp [run_eqGuard (P := P) (op := op) (u := u) (x := x) (y := y) (v := .string s) (v' := .string s') (by simp) (by simp), hrun]
  · rename_i xs ys hx hy
    split at h
    · split at h
      · rename_i b hb
        obtain ⟨⟨hg, ha⟩, h⟩ := h
        refine ⟨_, h, .value fun _ _ _ _ m β w c hops _ _ => ⟨.bool b, by simp [Rel], ?_⟩⟩
        have e1 := hops x (by simp [Op.operands])
        have e2 := hops y (by simp [Op.operands])
        rw [hx] at e1; rw [hy] at e2; simp only [Rel] at e1 e2
        obtain ⟨vs, e1, r1⟩ := e1
        obtain ⟨ws, e2, r2⟩ := e2
        simp only [execOp, e1, e2]
        simp [run_eqGuard_agg hg, binOp, eqT_agg hb r1 r2 (by decide) ha]
      · exact h.elim
    · split at h
      · rename_i b hb
        obtain ⟨⟨hg, ha⟩, h⟩ := h
        refine ⟨_, h, .value fun _ _ _ _ m β w c hops _ _ => ⟨.bool (!b), by simp [Rel], ?_⟩⟩
        have e1 := hops x (by simp [Op.operands])
        have e2 := hops y (by simp [Op.operands])
        rw [hx] at e1; rw [hy] at e2; simp only [Rel] at e1 e2
        obtain ⟨vs, e1, r1⟩ := e1
        obtain ⟨ws, e2, r2⟩ := e2
        simp only [execOp, e1, e2]
        simp [run_eqGuard_agg hg, binOp, eqT_agg hb r1 r2 (by decide) ha]
      · exact h.elim
    · exact h.elim
  · rename_i hni hns hna
    split at h
    · split at h
      · rename_i b hb
        refine ⟨_, h, .value fun _ _ _ _ m β w c hops _ _ => ⟨.bool b, by simp [Rel], ?_⟩⟩
        obtain ⟨h1, h2, h3, h4, h5, h6, h7⟩ := aeq_sound hb (hops x (by simp [Op.operands])) (hops y (by simp [Op.operands])) w
        have hg := run_eqGuard (P := P) (op := .eql) (u := u) (x := x) (y := y) h4 h5 w
        have hb' : (binOp .eql u (c.eval x) (c.eval y)).run P w = .ok (.bool b) w := by
          rcases h6 with ⟨_, e⟩ | ⟨_, e⟩ | e | ⟨_, _, e⟩ | ⟨_, _, _, e⟩ <;> rcases h7 with ⟨_, e'⟩ | ⟨_, e'⟩ | e' | ⟨_, _, e'⟩ | ⟨_, _, _, e'⟩ <;> rw [e, e'] at h1 ⊢ <;> simp [binOp, h1]
        simp [execOp, hg, hb']
      · exact h.elim
    · split at h
      · rename_i b hb
        refine ⟨_, h, .value fun _ _ _ _ m β w c hops _ _ => ⟨.bool (!b), by simp [Rel], ?_⟩⟩
        obtain ⟨h1, h2, h3, h4, h5, h6, h7⟩ := aeq_sound hb (hops x (by simp [Op.operands])) (hops y (by simp [Op.operands])) w
        have hg := run_eqGuard (P := P) (op := .neq) (u := u) (x := x) (y := y) h4 h5 w
        have hb' : (binOp .neq u (c.eval x) (c.eval y)).run P w = .ok (.bool (!b)) w := by
          rcases h6 with ⟨_, e⟩ | ⟨_, e⟩ | e | ⟨_, _, e⟩ | ⟨_, _, _, e⟩ <;> rcases h7 with ⟨_, e'⟩ | ⟨_, e'⟩ | e' | ⟨_, _, e'⟩ | ⟨_, _, _, e'⟩ <;> rw [e, e'] at h1 ⊢ <;> simp [binOp, h1]
        simp [execOp, hg, hb']
      · exact h.elim
    · exact h.elim
end
end Go.Am
namespace Go.Am

section
variable {P : Program} {C : FuncId → List AV → List OB → AV → List OB → Prop} {d : Option Tmp} {t : TypeId} {p : String} {af : Array Edge} {g : Option (Nat × Bool)} {ev : Operand → AV} {hp : List OB}
variable {w0 : World} {m0 : Mem} {O : Nat → Prop} {m : Mem} {β : Plc} {w : World}

/-- A row of an owned block, as it lies in memory. -/
theorem State.row {hp : List OB} (S : State w0 m0 O m β w hp) {b k i : Nat} {el : TypeId} {rows : List (List AV)} {row : List AV} {L : Loc} (hb : hp[b]? = some (.cells el k rows)) (hrow : rows[i]? = some row) (hL : β b = some L) :
    L.k = k ∧ ∃ c e fz, w.heap[L.blk]? = some (.cells c e fz) ∧ RelL m β row ((c.toList.drop (i * k)).take k) ∧ row.length = k ∧ i * k + k ≤ c.size ∧ (fz.2 ≤ fz.1 ∨ c.size ≤ fz.1) ∧ c.size = L.cap * k ∧ rows.length ≤ L.cap ∧
      RelRows m β k rows c.toList := by
  obtain ⟨L', c, fz, h1, h2, h3, h4, h5, h6, h7, h8, h9⟩ := S.blocks b _ hb
  rw [hL] at h1; cases h1
  obtain ⟨⟨hk, _⟩, hR⟩ := h9.get hrow
  have hi : i < rows.length := by
    rcases Nat.lt_or_ge i rows.length with h' | h'
    · exact h'
    · rw [List.getElem?_eq_none h'] at hrow; cases hrow
  have : (i + 1) * k ≤ L.cap * k := Nat.mul_le_mul_right k (by omega)
  rw [Nat.succ_mul] at this
  exact ⟨h2, c, el, fz, h4, hR, hk, by omega, h5, h6, h7, h9⟩

theorem rowArr_eq {u : TypeId} {k n : Nat} (h : rowArr P u k = some n) : ∃ el, P.underlying u = some (.array n el) ∧ szOf P el = k ∧ 1 < n ∧ 0 < k ∧ szOf P u = n * k := by
  unfold rowArr at h
  split at h
  · rename_i n' e ha
    split at h
    · rename_i hc
      cases h
      exact ⟨e, arrElem_eq ha, hc⟩
    · cases h
  · cases h

theorem RelRows.flat0 {k : Nat} : ∀ {rows : List (List AV)} {vs : List Value}, RelRows m β k rows vs → RelL m β rows.flatten (vs.take (rows.length * k))
  | [], vs, _ => by simp [RelL]
  | r :: rs, vs, h => by
    simp only [RelRows] at h
    obtain ⟨⟨h1, _⟩, h2, h3⟩ := h
    have ih := RelRows.flat0 h3
    have hl := h2.length
    have := h2.append ih
    rw [List.flatten_cons]
    have e : vs.take ((r :: rs).length * k) = vs.take k ++ (vs.drop k).take (rs.length * k) := by
      rw [List.length_cons, Nat.succ_mul, Nat.add_comm, List.take_add]
    rw [e]; exact this
theorem RelRows.flat {k i n : Nat} {rows : List (List AV)} {vs : List Value} (h : RelRows m β k rows vs) (hin : i + n ≤ rows.length) : RelL m β ((rows.drop i).take n).flatten ((vs.drop (i * k)).take (n * k)) := by
  have := ((h.drop i).take n).flat0
  rw [List.length_take, List.length_drop, Nat.min_eq_left (by omega)] at this
  exact this

theorem snd_load (u x) : Snd P C ⟨d, .load u x, t, p, af, g⟩ ev hp := fun K h => by
  simp only [aop] at h
  split at h
  · rename_i cells hv
    obtain ⟨v, hK, hrun⟩ := run_loaded h
    refine ⟨_, hK, .value fun w0 m0 O hp₁ m β w a hops hS _ => ?_⟩
    have := hops x (by simp [Op.operands])
    rw [hv] at this; simp only [Rel] at this
    obtain ⟨ad, c, e, fz, e1, h1, h2, h3, h4⟩ := this
    obtain ⟨B, off, sp⟩ := ad
    simp only at h1 h2 h3 h4; subst h1
    obtain ⟨r, hr, hrr⟩ := hrun B off c e fz _ m β w (hS.agree _ _ h2) h4 (fun j q hj => by
      rw [mid_get] at hj; split at hj
      · exact hj
      · cases hj)
    exact ⟨r, hr, by simp [execOp, e1, Instr.loadAt, Instr.sureAddr, hrr]⟩
  · rename_i b i f hv
    split at h
    · rename_i e k rows hb
      split at h
      · rename_i n hra
        obtain ⟨⟨rfl, hin⟩, hK⟩ := h
        obtain ⟨el, hu, hsz, hn, hk0, hszt⟩ := rowArr_eq hra
        refine ⟨_, hK, .value fun w0 m0 O hp₁ m β w a hops hS hr => ?_⟩
        have := hops x (by simp [Op.operands])
        rw [hv] at this; simp only [Rel] at this
        obtain ⟨L, hL, e1⟩ := this
        have hb' : hp₁[b]? = some (.cells e k rows) := by rw [hr b (by simp)]; exact hb
        obtain ⟨L', c, fz, h1, h2, h3, h4, h5, h6, h7, h8, h9⟩ := hS.blocks b _ hb'
        rw [hL] at h1; cases h1
        have hflat := h9.flat (i := i) (n := n) hin
        have hlen : i * k + n * k ≤ c.toList.length := by
          have : (i + n) * k ≤ L.cap * k := Nat.mul_le_mul_right k (by omega)
          rw [Nat.add_mul] at this; rw [Array.length_toList]; omega
        have hload := run_loadCells_list (P := P) w ⟨L.blk, i * k, none⟩ ((c.toList.drop (i * k)).take (n * k)) (fun j v hj => by
          rw [add_off, cell_of h4, ← Array.getElem?_toList]
          rw [List.getElem?_take] at hj
          split at hj
          · rw [List.getElem?_drop] at hj; exact hj
          · cases hj)
        have hlen2 : ((c.toList.drop (i * k)).take (n * k)).length = szOf P u := by rw [List.length_take, List.length_drop]; omega
        rw [hlen2] at hload
        refine ⟨.agg ((c.toList.drop (i * k)).take (n * k)).toArray, by simp only [Rel]; exact ⟨_, rfl, hflat⟩, ?_⟩
        have hagg : aggT P u = some true := by unfold aggT; rw [hu]
        have hsz0 : 0 < szOf P u := by rw [hszt]; exact Nat.mul_pos (by omega) hk0
        simp [execOp, e1, Instr.loadAt, Instr.sureAddr, loadVar, run_isAgg' hagg, run_sizeOf' hsz0, h2, hload]
      · split at h
        · rename_i row hrow
          obtain ⟨v, hK, hrun⟩ := run_loaded h
          refine ⟨_, hK, .value fun w0 m0 O hp₁ m β w a hops hS hr => ?_⟩
          have := hops x (by simp [Op.operands])
          rw [hv] at this; simp only [Rel] at this
          obtain ⟨L, hL, e1⟩ := this
          have hb' : hp₁[b]? = some (.cells e k rows) := by rw [hr b (by simp)]; exact hb
          obtain ⟨hk, c, e, fz, h1, h2, h3, h4, _⟩ := hS.row hb' hrow hL
          obtain ⟨r, hr', hrr⟩ := hrun L.blk (i * L.k + f) c e fz _ m β w h1 (h2.drop f) (fun j q hj => by
            rw [List.getElem?_drop, mid_get] at hj
            split at hj
            · rw [hk]; rw [← hj]; congr 1; omega
            · cases hj)
          exact ⟨r, hr', by simp [execOp, e1, Instr.loadAt, Instr.sureAddr, hrr]⟩
        · exact h.elim
    · exact h.elim
  · exact h.elim

theorem add_none {ad : Addr} (h : ad.spot = none) (n : Nat) : (ad.add n).spot = none ∧ (ad.add n).block = ad.block ∧ (ad.add n).off = ad.off + n := by
  unfold Addr.add; split
  · rename_i h0; subst h0; exact ⟨h, rfl, rfl⟩
  · exact ⟨rfl, rfl, rfl⟩

theorem snd_fieldAddr (u x f) : Snd P C ⟨d, .fieldAddr u x f, t, p, af, g⟩ ev hp := fun K h => by
  simp only [aop] at h
  split at h
  · rename_i off ft hf
    obtain ⟨fs, fl, hu, hfl, ho, hft⟩ := fld_eq hf
    split at h
    · rename_i cells hv
      obtain ⟨h0, hlen, h⟩ := h
      refine ⟨_, h, .value fun _ _ _ _ m β w a hops _ _ => ?_⟩
      have := hops x (by simp [Op.operands])
      rw [hv] at this; simp only [Rel] at this
      obtain ⟨ad, c, e, fz, e1, h1, h2, h3, h4⟩ := this
      obtain ⟨s1, s2, s3⟩ := add_none h1 off
      refine ⟨.pointer (some (ad.add off)), ?_, ?_⟩
      · simp only [Rel]
        refine ⟨_, c, e, fz, rfl, s1, by rw [s2]; exact h2, by rw [s3, List.length_drop]; omega, ?_⟩
        have := h4.drop off
        rw [List.drop_take, List.drop_drop] at this
        rw [s3, List.length_drop]; exact this
      · simp [execOp, e1, Instr.fieldAt, run_underlying' hu, hfl, Instr.sureAddr, fieldPlace, hft, run_sizeOf' (Nat.pos_of_ne_zero h0), h0, ho]
    · rename_i b i c hv
      obtain ⟨h0, h⟩ := h
      refine ⟨_, h, .value fun _ _ _ _ m β w a hops _ _ => ?_⟩
      have := hops x (by simp [Op.operands])
      rw [hv] at this; simp only [Rel] at this
      obtain ⟨L, hL, e1⟩ := this
      refine ⟨.pointer (some ⟨L.blk, i * L.k + (c + off), none⟩), ?_, ?_⟩
      · simp only [Rel]; exact ⟨L, hL, rfl⟩
      · simp [execOp, e1, Instr.fieldAt, run_underlying' hu, hfl, Instr.sureAddr, fieldPlace, hft, run_sizeOf' (Nat.pos_of_ne_zero h0), h0, ho, add_off, Nat.add_assoc]
    · exact h.elim
  · exact h.elim

theorem snd_field (u x f) : Snd P C ⟨d, .field u x f, t, p, af, g⟩ ev hp := fun K h => by
  simp only [aop] at h
  split at h
  · rename_i off ft hf
    obtain ⟨fs, fl, hu, hfl, ho, hft⟩ := fld_eq hf
    split at h
    · rename_i cells hv
      unfold loaded at h
      cases ha : aggT P ft with
      | none => simp [ha] at h
      | some b =>
        cases b with
        | true =>
          simp only [ha] at h
          obtain ⟨h0, h1, h⟩ := h
          refine ⟨_, h, .value fun _ _ _ _ m β w a hops _ _ => ?_⟩
          have := hops x (by simp [Op.operands])
          rw [hv] at this; simp only [Rel] at this
          obtain ⟨vs, e1, hR⟩ := this
          refine ⟨.agg ((vs.drop off).take (szOf P ft)).toArray, by simp only [Rel]; exact ⟨_, rfl, (hR.drop off).take _⟩, ?_⟩
          simp [execOp, e1, Instr.field, run_underlying' hu, hfl, asAgg, part, hft, ho, run_isAgg' ha, run_sizeOf' h0, List.extract_eq_take_drop]
        | false =>
          simp only [ha] at h
          cases hc : cells.drop off with
          | nil => simp [hc] at h
          | cons y ys =>
            simp only [hc] at h
            refine ⟨_, h, .value fun _ _ _ _ m β w a hops _ _ => ?_⟩
            have := hops x (by simp [Op.operands])
            rw [hv] at this; simp only [Rel] at this
            obtain ⟨vs, e1, hR⟩ := this
            have hR' := hR.drop off
            rw [hc] at hR'
            simp only [RelL] at hR'
            obtain ⟨v, vs', e2, hv', _⟩ := hR'
            have hget : vs[off]? = some v := by
              have : (vs.drop off)[0]? = some v := by rw [e2]; rfl
              rw [List.getElem?_drop] at this; simpa using this
            refine ⟨v, hv', ?_⟩
            simp [execOp, e1, Instr.field, run_underlying' hu, hfl, asAgg, part, hft, ho, run_isAgg' ha, hget]
    · exact h.elim
  · exact h.elim

theorem snd_index (u x ix) : Snd P C ⟨d, .index u x ix, t, p, af, g⟩ ev hp := fun K h => by
  simp only [aop] at h
  split at h
  · rename_i k n s hi hv
    obtain ⟨hstr, h0, h⟩ := h
    split at h
    · rename_i c hc
      refine ⟨_, h, .value fun _ _ _ _ m β w a hops _ _ => ⟨.int .u8 c.toNat, by simp [Rel], ?_⟩⟩
      have e1 := hops x (by simp [Op.operands])
      have e2 := hops ix (by simp [Op.operands])
      rw [hv] at e1; rw [hi] at e2; simp only [Rel] at e1 e2
      have hget : s[n.toNat]? = some c := by
        have : n.toNat < s.size := by
          rw [size_bytes]
          rcases Nat.lt_or_ge n.toNat (bytes s).length with h' | h'
          · exact h'
          · rw [List.getElem?_eq_none h'] at hc; cases hc
        rw [getElem?_pos s n.toNat this]
        have h2 : (bytes s)[n.toNat]? = some s.data[n.toNat] := by
          unfold bytes
          rw [Array.getElem?_toList, Array.getElem?_eq_getElem]
        rw [h2] at hc
        cases hc; rfl
      simp [execOp, e1, e2, Instr.index, asIntOf, run_underlying' (isStr_eq hstr), h0, hget]
    · exact h.elim
  · exact h.elim
end
end Go.Am
namespace Go.Am

section
variable {P : Program} {C : FuncId → List AV → List OB → AV → List OB → Prop} {d : Option Tmp} {t : TypeId} {p : String} {af : Array Edge} {g : Option (Nat × Bool)} {ev : Operand → AV} {hp : List OB}
variable {w0 : World} {m0 : Mem} {O : Nat → Prop} {m : Mem} {β : Plc} {w : World}

theorem run_sliceBound {k : IntKind} {i : Int} {y : Nat} (code : BoundsCode) (h : 0 ≤ i ∧ i ≤ y) : (Instr.sliceBound (.int k i) y code).run P w = .ok i.toNat w := by
  simp [Instr.sliceBound, asIntOf, h]

theorem bound_val {o : Option Operand} {dflt : Nat} {n : Int} (h : bound ev o dflt = some n) {ρ : Operand → Value} (hops : ∀ x ∈ o, Rel m β (ev x) (ρ x)) :
    (o = none ∧ n = dflt) ∨ ∃ x k, o = some x ∧ ρ x = .int k n := by
  cases o with
  | none => simp [bound] at h; exact .inl ⟨rfl, h.symm⟩
  | some x =>
    simp only [bound] at h
    split at h
    · rename_i k n' hx
      cases h
      have := hops x rfl
      rw [hx] at this; simp only [Rel] at this
      exact .inr ⟨x, k, rfl, this⟩
    · cases h

theorem run_sliceBounds {lo hi : Option Operand} {l h : Int} {isS : Bool} {len cap : Nat} (hl : bound ev lo 0 = some l) (hh : bound ev hi len = some h) {ρ : Operand → Value}
    (ho1 : ∀ x ∈ lo, Rel m β (ev x) (ρ x)) (ho2 : ∀ x ∈ hi, Rel m β (ev x) (ρ x)) (hb : 0 ≤ l ∧ l ≤ h ∧ h ≤ cap) :
    (Instr.sliceBounds isS len cap (lo.map ρ) (hi.map ρ) none).run P w = .ok (l.toNat, h.toNat, cap) w := by
  rcases bound_val hl ho1 with ⟨rfl, rfl⟩ | ⟨x, k, rfl, ex⟩ <;> rcases bound_val hh ho2 with ⟨rfl, rfl⟩ | ⟨y, k', rfl, ey⟩
  · simp [Instr.sliceBounds]
  · simp [Instr.sliceBounds, Instr.sliceBound, asIntOf, ey, show 0 ≤ h ∧ h ≤ cap by omega]
  · simp [Instr.sliceBounds, Instr.sliceBound, asIntOf, ex, show 0 ≤ l ∧ l ≤ (len : Int) by omega]
  · simp [Instr.sliceBounds, Instr.sliceBound, asIntOf, ex, ey, show 0 ≤ h ∧ h ≤ cap by omega, show 0 ≤ l ∧ l ≤ h by omega, show 0 ≤ h by omega]
    intro hc; omega

theorem extract_bytes (s : ByteArray) (l h : Nat) (hl : h ≤ (bytes s).length) : S (((bytes s).take h).drop l) = .string (s.extract l h) := by
  rw [← S_bytes (s.extract l h)]
  congr 1
  simp [bytes, List.extract_eq_take_drop, List.drop_take]

theorem elem_size {u : TypeId} {k : Nat} (h : (slElem P u).map (szOf P) = some k) : ∃ e, P.underlying u = some (.slice e) ∧ szOf P e = k := by
  cases he : slElem P u with
  | none => simp [he] at h
  | some e => simp [he] at h; exact ⟨e, slElem_eq he, h⟩

theorem snd_slice (u x lo hi) : Snd P C ⟨d, .slice u x lo hi none, t, p, af, g⟩ ev hp := fun K h => by
  simp only [aop] at h
  have hx : x ∈ (Op.slice u x lo hi none).operands := by simp [Op.operands]
  have hlo : ∀ y ∈ lo, y ∈ (Op.slice u x lo hi none).operands := fun y hy => by cases lo <;> simp_all [Op.operands]
  have hhi : ∀ y ∈ hi, y ∈ (Op.slice u x lo hi none).operands := fun y hy => by cases hi <;> simp_all [Op.operands]
  split at h
  · rename_i s hv
    split at h
    · rename_i l h' hl hh
      obtain ⟨hs, hb, hK⟩ := h
      refine ⟨_, hK, .value fun _ _ _ _ m β w a hops _ _ => ⟨S (((bytes s).take h'.toNat).drop l.toNat), by simp [Rel], ?_⟩⟩
      have e1 := hops x hx
      rw [hv] at e1; simp only [Rel] at e1
      rw [← size_bytes] at hh hb
      have hr := run_sliceBounds (P := P) (w := w) (isS := false) hl hh (fun y hy => hops y (hlo y hy)) (fun y hy => hops y (hhi y hy)) hb
      rw [extract_bytes _ _ _ (by rw [← size_bytes]; omega)]
      simp [execOp, e1, Instr.sliceAt, run_underlying' (isStr_eq hs), Instr.slice, hr]
    · exact h.elim
  · rename_i k rows hv
    split at h
    · rename_i l h' hl hh
      obtain ⟨hel, h0, hb, hK⟩ := h
      obtain ⟨e, hu, hsz⟩ := elem_size hel
      refine ⟨_, hK, .value fun _ _ _ _ m β w a hops _ _ => ?_⟩
      have e1 := hops x hx
      rw [hv] at e1; simp only [Rel] at e1
      obtain ⟨ad, cap, e1, hcap, hrows⟩ := e1
      have hr := run_sliceBounds (P := P) (w := w) (isS := true) (cap := cap) hl hh (fun y hy => hops y (hlo y hy)) (fun y hy => hops y (hhi y hy)) (by omega)
      have hlen : ((rows.take h'.toNat).drop l.toNat).length = h'.toNat - l.toNat := by
        rw [List.length_drop, List.length_take]; omega
      refine ⟨.slice (if cap = l.toNat then ad else ad.map (·.add (l.toNat * k))) (h'.toNat - l.toNat) (cap - l.toNat), ?_, ?_⟩
      · simp only [Rel]
        refine ⟨_, cap - l.toNat, by rw [hlen], by omega, ?_⟩
        by_cases hz : h'.toNat - l.toNat = 0
        · exact .inl (List.eq_nil_of_length_eq_zero (by omega))
        · rcases hrows with hrows | ⟨a0, c, el, fz, rfl, g1, g2, g3, g4⟩
          · subst hrows; simp at hb; omega
          · rw [if_neg (by omega)]
            obtain ⟨s1, s2, s3⟩ := add_none g1 (l.toNat * k)
            refine .inr ⟨_, c, el, fz, rfl, s1, by rw [s2]; exact g2, ?_, ?_⟩
            · rw [s3, hlen]
              have : l.toNat * k + (h'.toNat - l.toNat) * k ≤ rows.length * k := by
                rw [← Nat.add_mul]; exact Nat.mul_le_mul_right k (by omega)
              omega
            · rw [s3]
              have := (g4.take h'.toNat).drop l.toNat
              rw [List.drop_drop] at this
              exact this
      · simp [execOp, e1, Instr.sliceAt, run_underlying' hu, Instr.slice, hr, run_sizeOf' (show 0 < szOf P e by omega), hsz]
    · exact h.elim
  · rename_i b i n hv
    split at h
    · rename_i l h' e' k rows hl hh hb'
      obtain ⟨hel, hb, hK⟩ := h
      obtain ⟨e, hu, hsz⟩ := elem_size hel
      refine ⟨_, hK, .value fun _ _ _ hp₁ m β w a hops hS hrd => ?_⟩
      have e1 := hops x hx
      rw [hv] at e1; simp only [Rel] at e1
      obtain ⟨L, j, cap, hL, e1, hcap, hi1, hj⟩ := e1
      have hr := run_sliceBounds (P := P) (w := w) (isS := true) (cap := cap) hl hh (fun y hy => hops y (hlo y hy)) (fun y hy => hops y (hhi y hy)) (by omega)
      obtain ⟨L', c, fz, q1, q2, q3, _⟩ := hS.blocks b (.cells _ k rows) (by rw [hrd b (by simp)]; exact hb')
      rw [hL] at q1; cases q1
      refine ⟨.slice (if cap = l.toNat then some ⟨L.blk, j * L.k, none⟩ else some ⟨L.blk, j * L.k + l.toNat * k, none⟩) (h'.toNat - l.toNat) (cap - l.toNat), ?_, ?_⟩
      · simp only [Rel]
        by_cases hc : cap = l.toNat
        · rw [if_pos hc]
          exact ⟨L, j, _, hL, rfl, by omega, by omega, .inr (by omega)⟩
        · rw [if_neg hc]
          refine ⟨L, j + l.toNat, _, hL, by rw [q2, Nat.add_mul], by omega, by omega, ?_⟩
          rcases hj with hj | hj
          · left; omega
          · right; omega
      · by_cases hc : cap = l.toNat
        · subst hc; simp [execOp, e1, Instr.sliceAt, run_underlying' hu, Instr.slice, hr, run_sizeOf' (show 0 < szOf P e by omega), hsz]
        · simp [execOp, e1, Instr.sliceAt, run_underlying' hu, Instr.slice, hr, run_sizeOf' (show 0 < szOf P e by omega), hsz, hc, add_off]
    · exact h.elim
  · rename_i hv
    split at h
    · rename_i l h' hl hh
      obtain ⟨hel, ⟨rfl, rfl⟩, hK⟩ := h
      cases he : slElem P u with
      | none => simp [he] at hel
      | some e =>
        simp [he] at hel
        refine ⟨_, hK, .value fun _ _ _ _ m β w a hops _ _ => ⟨.slice none 0 0, by simp [Rel], ?_⟩⟩
        have e1 := hops x hx
        rw [hv] at e1; simp only [Rel] at e1
        have hr := run_sliceBounds (P := P) (w := w) (isS := true) (cap := 0) hl hh (fun y hy => hops y (hlo y hy)) (fun y hy => hops y (hhi y hy)) (by omega)
        simp [execOp, e1, Instr.sliceAt, run_underlying' (slElem_eq he), Instr.slice, hr, run_sizeOf' hel]
    · exact h.elim
  · rename_i b hv
    split at h
    · rename_i n e ha
      split at h
      · rename_i e' k rows hb'
        obtain ⟨hsz, hn, hn0, hK⟩ := h
        refine ⟨_, hK, .value fun _ _ _ hp₁ m β w a hops hS hrd => ?_⟩
        have e1 := hops x hx
        rw [hv] at e1; simp only [Rel] at e1
        obtain ⟨L, hL, e1⟩ := e1
        obtain ⟨L', c, fz, q1, q2, q3, q4, q5, q6, q7, _⟩ := hS.blocks b (.cells _ k rows) (by rw [hrd b (by simp)]; exact hb')
        rw [hL] at q1; cases q1
        refine ⟨.slice (some ⟨L.blk, 0, none⟩) n n, ?_, ?_⟩
        · simp only [Rel]
          exact ⟨L, 0, n, hL, by simp, by omega, by omega, .inl rfl⟩
        · have hne : ¬ n = 0 := by omega
          simp [execOp, e1, Instr.sliceAt, run_underlying' (arrElem_eq ha), Instr.sureAddr, Instr.sliceBounds, run_sizeOf' (show 0 < szOf P e by omega), hne, add_off]
      · exact h.elim
    · exact h.elim
  · exact h.elim
end
end Go.Am
namespace Go.Am

section
variable {P : Program} {C : FuncId → List AV → List OB → AV → List OB → Prop} {d : Option Tmp} {t : TypeId} {p : String} {af : Array Edge} {g : Option (Nat × Bool)} {ev : Operand → AV} {hp : List OB}
variable {w0 : World} {m0 : Mem} {O : Nat → Prop} {m : Mem} {β : Plc} {w : World}

theorem snd_indexAddr (u x ix) : Snd P C ⟨d, .indexAddr u x ix, t, p, af, g⟩ ev hp := fun K h => by
  simp only [aop] at h
  have hx : x ∈ (Op.indexAddr u x ix).operands := by simp [Op.operands]
  have hix : ix ∈ (Op.indexAddr u x ix).operands := by simp [Op.operands]
  split at h
  · rename_i kk n hi
    split at h
    · rename_i k rows hv
      obtain ⟨h0, h⟩ := h
      split at h
      · rename_i row hrow
        obtain ⟨hel, hk0, hK⟩ := h
        obtain ⟨e, hu, hsz⟩ := elem_size hel
        refine ⟨_, hK, .value fun _ _ _ _ m β w a hops _ _ => ?_⟩
        have e1 := hops x hx
        have e2 := hops ix hix
        rw [hv] at e1; rw [hi] at e2; simp only [Rel] at e1 e2
        obtain ⟨ad, cap, e1, hcap, hrows⟩ := e1
        have hlt : n.toNat < rows.length := by
          rcases Nat.lt_or_ge n.toNat rows.length with h' | h'
          · exact h'
          · rw [List.getElem?_eq_none h'] at hrow; cases hrow
        rcases hrows with hrows | ⟨a0, c, el, fz, rfl, g1, g2, g3, g4⟩
        · subst hrows; simp at hlt
        obtain ⟨⟨hrl, _⟩, hR⟩ := g4.get hrow
        obtain ⟨s1, s2, s3⟩ := add_none g1 (n.toNat * k)
        refine ⟨.pointer (some (a0.add (n.toNat * k))), ?_, ?_⟩
        · simp only [Rel]
          refine ⟨_, c, el, fz, rfl, s1, by rw [s2]; exact g2, ?_, ?_⟩
          · rw [s3, hrl]
            have : (n.toNat + 1) * k ≤ rows.length * k := Nat.mul_le_mul_right k hlt
            rw [Nat.succ_mul] at this; omega
          · rw [s3, hrl, ← List.drop_drop]; exact hR
        · have hb : 0 ≤ n ∧ n < (rows.length : Int) := by omega
          simp [execOp, e1, e2, Instr.indexAt, asIntOf, run_underlying' hu, hb, run_sizeOf' (show 0 < szOf P e by omega), hsz]
      · exact h.elim
    · rename_i b i m' hv
      obtain ⟨⟨h0, hlt⟩, h⟩ := h
      split at h
      · rename_i e' k rows hb'
        obtain ⟨hel, hK⟩ := h
        obtain ⟨e, hu, hsz⟩ := elem_size hel
        refine ⟨_, hK, .value fun _ _ _ hp₁ m β w a hops hS hrd => ?_⟩
        have e1 := hops x hx
        have e2 := hops ix hix
        rw [hv] at e1; rw [hi] at e2; simp only [Rel] at e1 e2
        obtain ⟨L, j, cap, hL, e1, hcap, hi1, hj⟩ := e1
        obtain ⟨L', c, fz, q1, q2, q3, _⟩ := hS.blocks b (.cells _ k rows) (by rw [hrd b (by simp)]; exact hb')
        rw [hL] at q1; cases q1
        have hji : j = i := by rcases hj with hj | hj <;> omega
        subst hji
        refine ⟨.pointer (some ⟨L.blk, j * L.k + n.toNat * k, none⟩), ?_, ?_⟩
        · simp only [Rel]; exact ⟨L, hL, by rw [q2, Nat.add_mul, Nat.add_zero]⟩
        · have hb : 0 ≤ n ∧ n < (m' : Int) := ⟨h0, hlt⟩
          simp [execOp, e1, e2, Instr.indexAt, asIntOf, run_underlying' hu, hb, run_sizeOf' (show 0 < szOf P e by omega), hsz, add_off]
      · exact h.elim
    · rename_i b hv
      split at h
      · rename_i m' e ha
        obtain ⟨⟨h0, hlt, h1⟩, h⟩ := h
        split at h
        · rename_i e' k rows hb'
          obtain ⟨hsz, hn, hK⟩ := h
          refine ⟨_, hK, .value fun _ _ _ hp₁ m β w a hops hS hrd => ?_⟩
          have e1 := hops x hx
          have e2 := hops ix hix
          rw [hv] at e1; rw [hi] at e2; simp only [Rel] at e1 e2
          obtain ⟨L, hL, e1⟩ := e1
          obtain ⟨L', c, fz, q1, q2, q3, _⟩ := hS.blocks b (.cells _ k rows) (by rw [hrd b (by simp)]; exact hb')
          rw [hL] at q1; cases q1
          refine ⟨.pointer (some ⟨L.blk, n.toNat * k, none⟩), ?_, ?_⟩
          · simp only [Rel]; exact ⟨L, hL, by rw [q2, Nat.add_zero]⟩
          · have hb : 0 ≤ n ∧ n < (m' : Int) := ⟨h0, hlt⟩
            have hni : ¬ m' ≤ 1 := by omega
            simp [execOp, e1, e2, Instr.indexAt, asIntOf, run_underlying' (arrElem_eq ha), Instr.sureAddr, hb, run_sizeOf' (show 0 < szOf P e by omega), hsz, add_off]
        · exact h.elim
      · exact h.elim
    · exact h.elim
  · exact h.elim

theorem snd_len (x ty) : Snd P C ⟨d, .call ⟨.builtin .len, #[x], ty⟩, t, p, af, g⟩ ev hp := fun K h => by
  simp only [aop] at h
  have hx : x ∈ (Op.call ⟨.builtin .len, #[x], ty⟩).operands := by simp [Op.operands, Call.operands]
  have hty : ∀ {q : TypeId → Bool}, (ty[0]?).any q = true → ∃ u, ty[0]? = some u ∧ q u = true := by
    intro q hq
    cases hu : ty[0]? with
    | none => simp [hu] at hq
    | some u => exact ⟨u, rfl, by simpa [hu] using hq⟩
  have hsl : ((ty[0]?).bind (slElem P)).isSome = true → ∃ u e, ty[0]? = some u ∧ P.underlying u = some (.slice e) := by
    intro hq
    cases hu : ty[0]? with
    | none => simp [hu] at hq
    | some u =>
      simp only [hu, Option.bind_some] at hq
      cases he : slElem P u with
      | none => simp [he] at hq
      | some e => exact ⟨u, e, rfl, slElem_eq he⟩
  split at h
  · rename_i s hv
    obtain ⟨hs, hK⟩ := h
    obtain ⟨u, hu0, hu⟩ := hty hs
    refine ⟨_, hK, .value fun _ _ _ _ m β w a hops _ _ => ⟨.int .i64 (bytes s).length, by simp [Rel], ?_⟩⟩
    have e1 := hops x hx
    rw [hv] at e1; simp only [Rel] at e1
    simp [execOp, resolve, invoke, builtin, Builtin.len_, e1, hu0, run_underlying' (isStr_eq hu), goInt, size_bytes]
  · rename_i k rows hv
    obtain ⟨hs, hK⟩ := h
    obtain ⟨u, e, hu0, hu⟩ := hsl hs
    refine ⟨_, hK, .value fun _ _ _ _ m β w a hops _ _ => ⟨.int .i64 rows.length, by simp [Rel], ?_⟩⟩
    have e1 := hops x hx
    rw [hv] at e1; simp only [Rel] at e1
    obtain ⟨ad, cap, e1, _⟩ := e1
    simp [execOp, resolve, invoke, builtin, Builtin.len_, e1, hu0, run_underlying' hu, goInt]
  · rename_i b i n hv
    obtain ⟨hs, hK⟩ := h
    obtain ⟨u, e, hu0, hu⟩ := hsl hs
    refine ⟨_, hK, .value fun _ _ _ _ m β w a hops _ _ => ⟨.int .i64 n, by simp [Rel], ?_⟩⟩
    have e1 := hops x hx
    rw [hv] at e1; simp only [Rel] at e1
    obtain ⟨L, j, cap, _, e1, _⟩ := e1
    simp [execOp, resolve, invoke, builtin, Builtin.len_, e1, hu0, run_underlying' hu, goInt]
  · rename_i hv
    obtain ⟨hs, hK⟩ := h
    obtain ⟨u, e, hu0, hu⟩ := hsl hs
    refine ⟨_, hK, .value fun _ _ _ _ m β w a hops _ _ => ⟨.int .i64 0, by simp [Rel], ?_⟩⟩
    have e1 := hops x hx
    rw [hv] at e1; simp only [Rel] at e1
    simp [execOp, resolve, invoke, builtin, Builtin.len_, e1, hu0, run_underlying' hu, goInt]
  · rename_i b hv
    split at h
    · rename_i es hb'
      obtain ⟨hs, hK⟩ := h
      refine ⟨_, hK, .value fun _ _ _ hp₁ m β w a hops hS hrd => ⟨.int .i64 es.length, by simp [Rel], ?_⟩⟩
      have e1 := hops x hx
      rw [hv] at e1; simp only [Rel] at e1
      obtain ⟨L, hL, e1⟩ := e1
      obtain ⟨L', ents, clock, q1, q2, q3, q4, _⟩ := hS.blocks b (.map es) (by rw [hrd b (by simp)]; exact hb')
      rw [hL] at q1; cases q1
      have hlen : ents.size = es.length := by
        have key : ∀ (l : List (Value × AV)) (es : List MapEntry), MapRel m β l es → es.length = l.length := by
          intro l
          induction l with
          | nil => intro es h; simp only [MapRel] at h; simp [h]
          | cons y l ih => intro es h; obtain ⟨k, v⟩ := y; obtain ⟨e, es', rfl, _, _, h⟩ := h; simp [ih es' h]
        rw [← Array.length_toList]; exact key _ _ q4
      cases hu0 : ty[0]? with
      | none => simp [hu0] at hs
      | some u =>
        simp only [hu0, Option.bind_some] at hs
        cases hm : mapT P u with
        | none => simp [hm] at hs
        | some ke =>
          obtain ⟨k, e⟩ := ke
          have hobj : (getObj L.blk).run P w = .ok (.map ents clock) w := by simp [getObj, Sem.run, q2]
          simp [execOp, resolve, invoke, builtin, Builtin.len_, e1, hu0, run_underlying' (mapT_eq hm), goInt, hobj, hlen]
    · exact h.elim
  · exact h.elim

theorem snd_max (x y ty) : Snd P C ⟨d, .call ⟨.builtin .max, #[x, y], ty⟩, t, p, af, g⟩ ev hp := fun K h => by
  simp only [aop] at h
  split at h
  · rename_i k n k' n' hv hv'
    refine ⟨_, h, .value fun _ _ _ _ m β w a hops _ _ => ⟨.int k (if n' > n then n' else n), by simp [Rel], ?_⟩⟩
    have e1 := hops x (by simp [Op.operands, Call.operands])
    have e2 := hops y (by simp [Op.operands, Call.operands])
    rw [hv] at e1; rw [hv'] at e2; simp only [Rel] at e1 e2
    simp [execOp, resolve, invoke, builtin, e1, e2, run_max]
  · exact h.elim
theorem snd_min (x y ty) : Snd P C ⟨d, .call ⟨.builtin .min, #[x, y], ty⟩, t, p, af, g⟩ ev hp := fun K h => by
  simp only [aop] at h
  split at h
  · rename_i k n k' n' hv hv'
    refine ⟨_, h, .value fun _ _ _ _ m β w a hops _ _ => ⟨.int k (if n' < n then n' else n), by simp [Rel], ?_⟩⟩
    have e1 := hops x (by simp [Op.operands, Call.operands])
    have e2 := hops y (by simp [Op.operands, Call.operands])
    rw [hv] at e1; rw [hv'] at e2; simp only [Rel] at e1 e2
    simp [execOp, resolve, invoke, builtin, e1, e2, run_min]
  · exact h.elim
end
end Go.Am
