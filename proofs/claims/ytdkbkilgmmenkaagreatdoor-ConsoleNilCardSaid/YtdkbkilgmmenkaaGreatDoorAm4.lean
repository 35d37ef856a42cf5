/-
  The abstract machine is sound: calls, conversions, maps. (No statement of the claim's own is proved here.)
-/
import Derived.Test.YtdkbkilgmmenkaaGreatDoorAm3
import Derived.Lib.Builder
import Derived.Lib.UnsafeStr
set_option linter.all false
namespace Go.Am

def Owned (β : Plc) (hp : List OB) (B : Nat) : Prop := ∃ b L, Live hp b ∧ β b = some L ∧ L.blk = B

/-- A call comes to an end and leaves what 'R' says. -/
def CallsTo (P : Program) (f : FuncId) (vs : Array Value) (w : World) (R : Value → World → Prop) : Prop :=
  match (callFunc f vs).run P w with
  | .ok (.enter g as) w1 => Calls P g as w1 (fun e w' => ∃ v, e = .returned v ∧ R v w')
  | .ok (.value v) w1 => R v w1
  | _ => False

/-- Called with what 'args' describes, in whatever memory, the function returns what 'r' describes; of the blocks 'fp' that it is handed it makes 'fp'' (and more, which lie behind). -/
def Contract (P : Program) (f : FuncId) (args : List AV) (fp : List OB) (r : AV) (fp' : List OB) : Prop :=
  ∀ (w : World) (m : Mem) (β : Plc) (vs : List Value), State w m (Owned β fp) m β w fp → RelL m β args vs →
    CallsTo P f vs.toArray w (fun v w' => ∃ m' β', Mem.le m m' ∧ Plc.le β β' ∧ State w m (Owned β fp) m' β' w' fp' ∧ Rel m' β' r v)

theorem CallsTo.mono {P : Program} {f : FuncId} {vs : Array Value} {w : World} {R R' : Value → World → Prop} (h : CallsTo P f vs w R) (hr : ∀ v w', R v w' → R' v w') : CallsTo P f vs w R' := by
  unfold CallsTo at *
  split at h
  · exact h.mono fun e w' ⟨v, h1, h2⟩ => ⟨v, h1, hr _ _ h2⟩
  · exact hr _ _ h
  · exact h

theorem wp_callsTo {P : Program} {d : Option Tmp} {f : Operand} {args : Array Operand} {ty : Array TypeId} {t : TypeId} {p : String} {af : Array Edge} {g : Option (Nat × Bool)} {a : Act} {w : World} {fid : FuncId} {cs : List Value}
    {next : Act → World → Prop} {Q : Exit → Act → World → Prop} (hf : a.eval f = .func (.func fid) #[] cs.toArray) (h : CallsTo P fid (args.map a.eval ++ cs.toArray) w fun v w' => next (a.put d v) w') :
    (⟨d, .call ⟨.value f, args, ty⟩, t, p, af, g⟩ : Oper).wp P a w next Q := by
  unfold Oper.wp
  have hrun : (execOp a.eval ⟨d, .call ⟨.value f, args, ty⟩, t, p, af, g⟩).run P w = (callFunc fid (args.map a.eval ++ cs.toArray)).run P w := by
    simp only [execOp, resolve, hf, Deferred.ofValue, Sem.run_bind, Sem.run_pure, Result.andThen_ok, invoke, Array.empty_append]
  rw [hrun]
  unfold CallsTo at h
  split at h
  · rename_i as w1 hr
    rw [hr]
    simp only [Oper.upon]
    exact h.mono fun e w' ⟨v, h1, h2⟩ => by subst h1; exact h2
  · rename_i v w1 hr
    rw [hr]; exact h
  · exact h.elim

section
variable {w0 : World} {m0 : Mem} {O : Nat → Prop} {m m' : Mem} {β : Plc} {w w' : World} {hp hp₁ : List OB}

/-- The memory as a callee that is handed nothing of ours sees it. -/
theorem State.forPure (S : State w0 m0 O m β w hp₁) : State w m (Owned (fun _ => none) []) m (fun _ => none) w [] where
  agree := S.agree
  blocks b ob h := by simp at h
  inj b b' L L' h := by obtain ⟨o, h, _⟩ := h; simp at h
  out _ _ := rfl
  size := Nat.le_refl _
  io := IO0.refl _
  keep _ _ _ := ⟨rfl, rfl⟩
  own b L h := by obtain ⟨o, h, _⟩ := h; simp at h

theorem not_owned_nil (B : Nat) : ¬ Owned (fun _ => none) [] B := by rintro ⟨b, L, ⟨o, h, _⟩, _⟩; simp at h

/-- Behind such a call ours is as it was. -/
theorem State.afterPure {β' : Plc} (S : State w0 m0 O m β w hp₁) (S' : State w m (Owned (fun _ => none) []) m' β' w' []) (hm : Mem.le m m') : State w0 m0 O m' β w' hp₁ where
  agree := S'.agree
  blocks b ob h := by
    have hlt : ∀ L, β b = some L → Live [ob] 0 → L.blk < w.heap.size := fun L hL hl => (S.blocks b ob h).lt hL hl
    refine OBRel.frame ((S.blocks b ob h).mono hm (Plc.le_refl β) rfl fun L hL hl hn => ?_) fun L hL hl => ?_
    · rw [(S'.keep L.blk (hlt L hL hl) (not_owned_nil _)).2]; exact hn
    · exact (S'.keep L.blk (hlt L hL hl) (not_owned_nil _)).1
  inj := S.inj
  out := S.out
  size := Nat.le_trans S.size S'.size
  io := S.io.trans S'.io
  keep B h h' := by
    have h1 := S.keep B h h'
    have hlt : B < w.heap.size := Nat.lt_of_lt_of_le h S.size
    have h2 := S'.keep B hlt (not_owned_nil _)
    exact ⟨h2.1.trans h1.1, h2.2.trans h1.2⟩
  own := S.own

/-- All memory taken for memory that nobody changes. -/
def allOf (w : World) : Mem := fun B => w.heap[B]?

theorem State.forLent : State w (allOf w) (Owned (fun _ => none) []) (allOf w) (fun _ => none) w [] where
  agree _ _ h := h
  blocks b ob h := by simp at h
  inj b b' L L' h := by obtain ⟨o, h, _⟩ := h; simp at h
  out _ _ := rfl
  size := Nat.le_refl _
  io := IO0.refl _
  keep _ _ _ := ⟨rfl, rfl⟩
  own b L h := by obtain ⟨o, h, _⟩ := h; simp at h

theorem State.afterLent {β' : Plc} (S : State w0 m0 O m β w hp₁) (S' : State w (allOf w) (Owned (fun _ => none) []) m' β' w' []) : State w0 m0 O m β w' hp₁ where
  agree B o h := by rw [(S'.keep B (S.mem_lt h) (not_owned_nil _)).1]; exact S.agree B o h
  blocks b ob h := (S.blocks b ob h).frame fun L hL hl => (S'.keep L.blk ((S.blocks b ob h).lt hL hl) (not_owned_nil _)).1
  inj := S.inj
  out := S.out
  size := Nat.le_trans S.size S'.size
  io := S.io.trans S'.io
  keep B h h' := by
    have h1 := S.keep B h h'
    exact ⟨(S'.keep B (Nat.lt_of_lt_of_le h S.size) (not_owned_nil _)).1.trans h1.1, h1.2⟩
  own := S.own

theorem one_res (n : Nat) (hp : List OB) (x : AV) (h : AV.one x = true) : AV.one (res n hp x) = true := by
  cases n with
  | zero => exact h
  | succ n =>
    cases x <;> simp only [res] <;> try exact h
    · rename_i b i l
      split
      · split <;> rfl
      · rfl
    · rename_i b i o
      split
      · split
        · split <;> rfl
        · rfl
      · rfl

theorem map_get {α β : Type} {f : α → β} {l : List α} {i : Nat} {y : β} (h : (l.map f)[i]? = some y) : ∃ x, l[i]? = some x ∧ f x = y := by
  rw [List.getElem?_map] at h
  cases hx : l[i]? with
  | none => simp [hx] at h
  | some x => simp [hx] at h; exact ⟨x, rfl, h⟩

/-- What is lent reads as immutable memory. -/
theorem res_rel {m2 : Mem} (S : State w0 m0 O m β w hp₁) (hle : Mem.le m m2) (hall : ∀ b L, Live hp₁ b → β b = some L → m2 L.blk = w.heap[L.blk]?) (hh : ∀ b, b < hp.length → hp₁[b]? = hp[b]?) : ∀ (n : Nat) (x : AV) (v : Value), Rel m β x v → Rel m2 β (res n hp x) v
  | 0, x, v, h => h.mono hle (Plc.le_refl β)
  | n + 1, x, v, h => by
    have ih := res_rel S hle hall hh n
    have ihL : ∀ (xs : List AV) (vs : List Value), RelL m β xs vs → RelL m2 β (xs.map (res n hp)) vs := by
      intro xs vs hR
      refine RelL.of_get (by simpa using hR.length) fun i y u hy hu => ?_
      obtain ⟨x, hx, rfl⟩ := map_get hy
      obtain ⟨u', hu', hr⟩ := hR.get hx
      rw [hu] at hu'; cases hu'
      exact ih x u hr
    have look : ∀ {b : Nat} {o : OB}, hp[b]? = some o → hp₁[b]? = some o := by
      intro b o hb
      rw [hh b (by
        rcases Nat.lt_or_ge b hp.length with h' | h'
        · exact h'
        · rw [List.getElem?_eq_none h'] at hb; cases hb)]; exact hb
    cases x with
    | osl b i l =>
      simp only [res]
      split
      · rename_i el k rows hb
        split
        · rename_i hil
          simp only [Rel] at h
          obtain ⟨L, j, cap, hL, rfl, hcap, hic, hj⟩ := h
          obtain ⟨L', c, fz, q1, q2, q3, q4, q5, q6, q7, q8, q9⟩ := S.blocks b _ (look hb)
          rw [hL] at q1; cases q1
          have hlen : ((List.take l (List.drop i rows)).map (fun r => r.map (res n hp))).length = l := by
            rw [List.length_map, List.length_take, List.length_drop]; omega
          simp only [Rel]
          refine ⟨_, cap, by rw [hlen], by rw [hlen]; exact hcap, ?_⟩
          by_cases hl : l = 0
          · left; subst hl; simp
          · right
            have hji : j = i := by omega
            subst hji
            refine ⟨_, c, el, fz, rfl, rfl, (hall b L (Live.of_cells (look hb)) hL).trans q4, ?_, ?_⟩
            · rw [hlen, q2]
              have : (j + l) * k ≤ L.cap * k := Nat.mul_le_mul_right k (by omega)
              rw [Nat.add_mul] at this
              show j * k + l * k ≤ c.size
              omega
            · show RelRows m2 β k _ (c.toList.drop (j * L.k))
              rw [q2]
              refine RelRows.of_get fun ii r hr => ?_
              obtain ⟨r0, hr0, rfl⟩ := map_get hr
              obtain ⟨⟨g1, g2⟩, g3⟩ := ((q9.drop j).take l).get hr0
              refine ⟨⟨by simpa using g1, ?_⟩, ihL _ _ g3⟩
              rw [List.all_eq_true] at g2 ⊢
              intro y hy
              obtain ⟨x, hx, rfl⟩ := List.mem_map.1 hy
              exact one_res n hp x (g2 x hx)
        · exact h.mono hle (Plc.le_refl β)
      · exact h.mono hle (Plc.le_refl β)
    | optr b i o =>
      simp only [res]
      split
      · rename_i k rows hb
        split
        · rename_i row hrow
          simp only [Rel] at h
          obtain ⟨L, hL, rfl⟩ := h
          obtain ⟨hk, c, e, fz, g1, g2, g3, g4, _⟩ := S.row (look hb) hrow hL
          split
          · rename_i ho
            simp only [Rel]
            refine ⟨_, c, e, fz, rfl, rfl, (hall b L (Live.of_cells (look hb)) hL).trans g1, ?_, ?_⟩
            · rw [List.length_map, List.length_drop, hk]; show i * k + o + (row.length - o) ≤ c.size; omega
            · have := ihL _ _ (g2.drop o)
              rw [List.drop_take, List.drop_drop] at this
              rw [List.length_map, List.length_drop, g3, hk]; exact this
          · simp only [Rel]; exact ⟨L, hL, rfl⟩
        · exact h.mono hle (Plc.le_refl β)
      · exact h.mono hle (Plc.le_refl β)
    | agg cs =>
      simp only [Rel] at h; simp only [res, Rel]
      obtain ⟨vs, e, h⟩ := h
      exact ⟨vs, e, ihL _ _ h⟩
    | tup cs =>
      simp only [Rel] at h; simp only [res, Rel]
      obtain ⟨vs, e, h⟩ := h
      exact ⟨vs, e, ihL _ _ h⟩
    | fn f cs =>
      simp only [Rel] at h; simp only [res, Rel]
      obtain ⟨vs, e, h⟩ := h
      exact ⟨vs, e, ihL _ _ h⟩
    | mv f cs =>
      simp only [Rel] at h; simp only [res, Rel]
      obtain ⟨vs, e, h⟩ := h
      exact ⟨vs, e, ihL _ _ h⟩
    | _ => exact h.mono hle (Plc.le_refl β)

theorem res_closed (hp : List OB) : ∀ (n : Nat) (x : AV), x.closed = true → res n hp x = x
  | 0, _, _ => rfl
  | n + 1, x, h => by
    have ihL : ∀ (xs : List AV), closedL xs = true → xs.map (res n hp) = xs := by
      intro xs
      induction xs with
      | nil => intro _; rfl
      | cons y ys ih => intro h; simp only [closedL, Bool.and_eq_true] at h; simp [res_closed hp n y h.1, ih h.2]
    cases x <;> simp only [AV.closed] at h <;> simp only [res]
    · rw [ihL _ h]
    · rw [ihL _ h]
    · cases h
    · cases h
    · rw [ihL _ h]
    · rw [ihL _ h]
theorem resL_closed (hp : List OB) (n : Nat) (xs : List AV) (h : closedL xs = true) : xs.map (res n hp) = xs := by
  induction xs with
  | nil => rfl
  | cons y ys ih => simp only [closedL, Bool.and_eq_true] at h; simp [res_closed hp n y h.1, ih h.2]

variable {P : Program} {C : FuncId → List AV → List OB → AV → List OB → Prop}

/-- A call of a function that is handed immutable data. -/
theorem callPure_sound (hC : ∀ f args fp r fp', C f args fp r fp' → Contract P f args fp r fp') {f : FuncId} {args args' : List AV} {n : Nat} {r : AV} (hs : SubL (args.map (res n hp)) args') (hc' : closedL args' = true) (hc : C f args' [] r [])
    (hr : r.closed = true) (hpl : closedL args = true ∨ r.plain = true) {vs : List Value} (S : State w0 m0 O m β w hp₁) (hv : RelL m β args vs) (hh : ∀ b ∈ (if closedL args then [] else List.range hp.length), hp₁[b]? = hp[b]?) :
    CallsTo P f vs.toArray w (fun v w' => ∃ m' β', Mem.le m m' ∧ Plc.le β β' ∧ State w0 m0 O m' β' w' hp₁ ∧ Rel m' β' r v) := by
  by_cases hca : closedL args = true
  · have h1 : RelL m β args' vs := RelL.sub _ _ _ (by rw [resL_closed hp n args hca] at hs; exact hs) hv
    refine (hC f args' [] r [] hc w m (fun _ => none) vs S.forPure (RelL.closed _ _ hc' h1)).mono fun v w' ⟨m', β', g1, g2, g3, g4⟩ => ?_
    exact ⟨m', β, g1, Plc.le_refl β, S.afterPure g3 g1, Rel.closed _ _ hr g4⟩
  · have hrp : r.plain = true := hpl.resolve_left hca
    have hh' : ∀ b, b < hp.length → hp₁[b]? = hp[b]? := fun b hb => hh b (by simp [hca]; exact hb)
    have h0 : RelL (allOf w) β (args.map (res n hp)) vs := by
      refine RelL.of_get (by simpa using hv.length) fun i y u hy hu => ?_
      obtain ⟨x, hx, rfl⟩ := map_get hy
      obtain ⟨u', hu', hr⟩ := hv.get hx
      rw [hu] at hu'; cases hu'
      exact res_rel S S.agree (fun _ _ _ _ => rfl) hh' n x u hr
    have h1 : RelL (allOf w) β args' vs := RelL.sub _ _ _ hs h0
    refine (hC f args' [] r [] hc w (allOf w) (fun _ => none) vs State.forLent (RelL.closed _ _ hc' h1)).mono fun v w' ⟨m', β', g1, g2, g3, g4⟩ => ?_
    exact ⟨m, β, Mem.le_refl m, Plc.le_refl β, S.afterLent g3, Rel.plain _ _ hrp g4⟩
end
end Go.Am
namespace Go.Am

theorem setAll_length : ∀ (l : List (Nat × OB)) (hp : List OB), (setAll hp l).length = hp.length
  | [], _ => rfl
  | (b, o) :: l, hp => by simp [setAll, setAll_length l]
theorem setAll_out {b : Nat} : ∀ (l : List (Nat × OB)) (hp : List OB), b ∉ l.map (·.1) → (setAll hp l)[b]? = hp[b]?
  | [], _, _ => rfl
  | (c, o) :: l, hp, h => by
    simp only [List.map_cons, List.mem_cons, not_or] at h
    rw [setAll, setAll_out l _ h.2, List.getElem?_set_ne (Ne.symm h.1)]
theorem setAll_in {b : Nat} {o : OB} : ∀ (l : List (Nat × OB)) (hp : List OB), (l.map (·.1)).Nodup → (b, o) ∈ l → b < hp.length → (setAll hp l)[b]? = some o
  | [], _, _, h, _ => by simp at h
  | (c, o') :: l, hp, hn, h, hb => by
    simp only [List.map_cons, List.nodup_cons] at hn
    simp only [List.mem_cons, Prod.mk.injEq] at h
    rcases h with ⟨rfl, rfl⟩ | h
    · rw [setAll, setAll_out l _ hn.1, List.getElem?_set_self hb]
    · rw [setAll]; exact setAll_in l _ hn.2 h (by simpa using hb)
theorem news_keys : ∀ (l : List OB) (nid : Nat), (news nid l).map (·.1) = List.range' nid l.length
  | [], _ => rfl
  | o :: l, nid => by simp [news, news_keys l, List.range'_succ]
theorem news_mem : ∀ (l : List OB) (nid i : Nat) (o : OB), l[i]? = some o → (nid + i, o) ∈ news nid l
  | [], _, i, o, h => by simp at h
  | o' :: l, nid, 0, o, h => by simp at h; subst h; simp [news]
  | o' :: l, nid, i + 1, o, h => by
    simp at h
    have := news_mem l (nid + 1) i o h
    simp only [news, List.mem_cons]
    right; rwa [show nid + (i + 1) = nid + 1 + i by omega]
theorem zip_mem {bl : List Nat} {xs : List OB} {j : Nat} {b : Nat} {o : OB} (h1 : bl[j]? = some b) (h2 : xs[j]? = some o) : (b, o) ∈ bl.zip xs :=
  List.mem_of_getElem? (i := j) (by simp [List.getElem?_zip_eq_some, h1, h2])
theorem zip_keys {bl : List Nat} {xs : List OB} (h : bl.length ≤ xs.length) : (bl.zip xs).map (·.1) = bl := by
  rw [List.map_fst_zip h]

theorem OBRel.ren {m : Mem} {β β' : Plc} {w : World} {ids : List Nat} {n j : Nat} (hb : ∀ b, b < n → β' b = β (ids.getD b 0)) (hj : j < n) {ob : OB} (hu : ob.under n = true) :
    OBRel m β w (ids.getD j 0) (ob.ren ids) ↔ OBRel m β' w j ob := by
  cases ob with
  | fresh => simp only [OB.ren, OBRel, hb j hj]
  | dead => simp [OB.ren, OBRel]
  | siter s p => simp only [OB.ren, OBRel, hb j hj]
  | cells e k rows =>
    simp only [OB.under] at hu
    simp only [OB.ren, OBRel, hb j hj, renR_length, RelRows.ren hb k rows _ hu]
  | map es =>
    simp only [OB.under] at hu
    have key : ∀ (l : List (Value × AV)) (es : List MapEntry), (l.all fun e => e.2.under n) = true → (MapRel m β (l.map fun e => (e.1, e.2.ren ids)) es ↔ MapRel m β' l es) := by
      intro l
      induction l with
      | nil => intro es _; simp [MapRel]
      | cons y l ih =>
        intro es h
        obtain ⟨kk, x⟩ := y
        simp only [List.all_cons, Bool.and_eq_true] at h
        simp only [List.map_cons, MapRel, Rel.ren hb x _ h.1, ih _ h.2]
    simp only [OB.ren, OBRel, hb j hj, key es _ hu]

section
variable {w0 : World} {m0 : Mem} {O : Nat → Prop} {m m' : Mem} {β : Plc} {w w' : World} {hp hp₁ : List OB}
variable {P : Program} {C : FuncId → List AV → List OB → AV → List OB → Prop}

theorem live_of_ren {fp : List OB} {hp₁ : List OB} {b j : Nat} {ids : List Nat} {o : OB} (h : hp₁[b]? = some (o.ren ids)) (hl : o.live = true) : Live hp₁ b := by
  refine ⟨_, h, ?_⟩
  cases o <;> simp_all [OB.live, OB.ren]

theorem live_iff {hp : List OB} {b : Nat} : Live hp b ↔ ∃ o, hp[b]? = some o ∧ o.live = true := by
  constructor
  · rintro ⟨o, h, h'⟩; exact ⟨o, h, by cases o <;> simp_all [OB.live]⟩
  · rintro ⟨o, h, h'⟩; exact ⟨o, h, by cases o <;> simp_all [OB.live]⟩

/-- The part of ours that a callee is handed, under its own names. -/
def partOf (β : Plc) (bl : List Nat) : Plc := fun j => if j < bl.length then β (bl.getD j 0) else none

theorem State.forOwn {bl : List Nat} {fp : List OB} (S : State w0 m0 O m β w hp₁) (hnd : bl.Nodup) (hlen : bl.length = fp.length) (hin : ∀ j, j < bl.length → hp₁[bl.getD j 0]? = some ((fp.getD j .dead).ren bl))
    (hlive : fp.all OB.live = true) (hu : fp.all (OB.under fp.length) = true) : State w m (Owned (partOf β bl) fp) m (partOf β bl) w fp := by
  have hb : ∀ b, b < fp.length → partOf β bl b = β (bl.getD b 0) := fun b h => by simp [partOf, hlen, h]
  rw [List.all_eq_true] at hlive hu
  have hliveB : ∀ j, j < fp.length → Live hp₁ (bl.getD j 0) := fun j hj => by
    have h1 := hin j (by omega)
    have h2 : fp.getD j .dead = fp[j] := by simp [List.getD, hj]
    rw [h2] at h1
    exact live_of_ren (fp := fp) (j := j) h1 (hlive _ (List.getElem_mem _))
  exact {
    agree := S.agree
    blocks := fun j ob h => by
      have hj : j < fp.length := by
        rcases Nat.lt_or_ge j fp.length with h' | h'
        · exact h'
        · rw [List.getElem?_eq_none h'] at h; cases h
      have h1 := hin j (by omega)
      have h2 : fp.getD j .dead = ob := by simp [List.getD, h]
      rw [h2] at h1
      exact (OBRel.ren hb hj (hu ob (List.mem_of_getElem? h))).1 (S.blocks _ _ h1)
    inj := fun j j' L L' hj hj' hL hL' e => by
      have l1 := hj.lt; have l2 := hj'.lt
      rw [hb j l1] at hL; rw [hb j' l2] at hL'
      have := S.inj _ _ L L' (hliveB j l1) (hliveB j' l2) hL hL' e
      have e1 : bl[j]? = some (bl.getD j 0) := by simp [List.getD, List.getElem?_eq_getElem (show j < bl.length by omega)]
      have e2 : bl[j']? = some (bl.getD j' 0) := by simp [List.getD, List.getElem?_eq_getElem (show j' < bl.length by omega)]
      rw [← this] at e2
      exact (List.getElem?_inj (show j < bl.length by omega) hnd).1 (e1.trans e2.symm)
    out := fun j h => by
      have : ¬ j < bl.length := by rw [List.getElem?_eq_none_iff] at h; omega
      simp [partOf, this]
    size := Nat.le_refl _
    io := IO0.refl _
    keep := fun _ _ _ => ⟨rfl, rfl⟩
    own := fun j L hj hL => .inr ⟨j, L, hj, hL, rfl⟩ }

theorem zip_nodup_val {bl : List Nat} {xs : List OB} (hn : bl.Nodup) {b : Nat} {o o' : OB} (h : (b, o) ∈ bl.zip xs) (h' : (b, o') ∈ bl.zip xs) : o = o' := by
  obtain ⟨i, hi, e⟩ := List.getElem_of_mem h
  obtain ⟨j, hj, e'⟩ := List.getElem_of_mem h'
  rw [List.length_zip] at hi hj
  rw [List.getElem_zip] at e e'
  simp only [Prod.mk.injEq] at e e'
  have : i = j := (List.getElem_inj hn).1 (e.1.trans e'.1.symm)
  subst this
  exact e.2.symm.trans e'.2

/-- Writes that change nothing may be left out. -/
theorem setAll_less {bl : List Nat} {xs : List OB} {wl more : List (Nat × OB)} {hp : List OB} (hn : bl.Nodup) (hl : bl.length ≤ xs.length) (hb : ∀ b ∈ bl, b < hp.length) (hs : wl.Sublist (bl.zip xs)) (hk : ∀ p ∈ bl.zip xs, p ∈ wl ∨ hp[p.1]? = some p.2) :
    setAll hp (wl ++ more) = setAll hp (bl.zip xs ++ more) := by
  have key : setAll hp wl = setAll hp (bl.zip xs) := by
    have hsub : (wl.map (·.1)).Sublist ((bl.zip xs).map (·.1)) := hs.map _
    have hz : ((bl.zip xs).map (·.1)).Nodup := by
      rw [zip_keys hl]; exact hn
    have hw : (wl.map (·.1)).Nodup := hz.sublist hsub
    apply List.ext_getElem?
    intro b
    by_cases h1 : b ∈ wl.map (·.1)
    · obtain ⟨⟨b', o⟩, hm, rfl⟩ := List.mem_map.1 h1
      have hm2 := hs.mem hm
      rw [setAll_in _ _ hw hm (hb _ (List.of_mem_zip hm2).1), setAll_in _ _ hz hm2 (hb _ (List.of_mem_zip hm2).1)]
    · rw [setAll_out _ _ h1]
      by_cases h2 : b ∈ (bl.zip xs).map (·.1)
      · obtain ⟨⟨b', o⟩, hm, rfl⟩ := List.mem_map.1 h2
        rw [setAll_in _ _ hz hm (hb _ (List.of_mem_zip hm).1)]
        rcases hk _ hm with h3 | h3
        · exact absurd (List.mem_map.2 ⟨_, h3, rfl⟩) h1
        · exact h3
      · rw [setAll_out _ _ h2]
  have app : ∀ (a c : List (Nat × OB)) (hp : List OB), setAll hp (a ++ c) = setAll (setAll hp a) c := by
    intro a
    induction a with
    | nil => intro c hp; rfl
    | cons x a ih => intro c hp; obtain ⟨x, o⟩ := x; simp [setAll, ih]
  rw [app, app, key]

/-- A call that is handed blocks of ours, and hands back blocks of its own. -/
theorem callOwn_sound (hC : ∀ f args fp r fp', C f args fp r fp' → Contract P f args fp r fp') {f : FuncId} {bl : List Nat} {args' : List AV} {fp fp' : List OB} {r : AV} {nid : Nat} (hnd : bl.Nodup) (hlen : bl.length = fp.length)
    (hin : ∀ j, j < bl.length → hp₁[bl.getD j 0]? = some ((fp.getD j .dead).ren bl)) (hlive : fp.all OB.live = true) (hu : fp.all (OB.under fp.length) = true) (hua : underL fp.length args' = true) (hc : C f args' fp r fp')
    (hle : fp.length ≤ fp'.length) (hur : r.under fp'.length = true) (hu' : fp'.all (OB.under fp'.length) = true) {vs : List Value} (S : State w0 m0 O m β w hp₁) (hv : RelL m β (renL bl args') vs)
    (hfr : ∀ j, j < fp'.length - fp.length → hp₁[nid + j]? = some .fresh) :
    CallsTo P f vs.toArray w (fun v w' => ∃ m' β', Mem.le m m' ∧ Plc.le β β' ∧
      State w0 m0 O m' β' w' (setAll hp₁ (bl.zip ((fp'.take fp.length).map (OB.ren (bl ++ List.range' nid (fp'.length - fp.length)))) ++ news nid ((fp'.drop fp.length).map (OB.ren (bl ++ List.range' nid (fp'.length - fp.length)))))) ∧
      Rel m' β' (r.ren (bl ++ List.range' nid (fp'.length - fp.length))) v) := by
  have hb : ∀ b, b < fp.length → partOf β bl b = β (bl.getD b 0) := fun b h => by simp [partOf, hlen, h]
  have hargs : RelL m (partOf β bl) args' vs := (RelL.ren hb args' vs hua).1 hv
  refine (hC f args' fp r fp' hc w m (partOf β bl) vs (S.forOwn hnd hlen hin hlive hu) hargs).mono fun v w' ⟨m', β', g1, g2, S', g4⟩ => ?_
  rw [List.all_eq_true] at hlive hu'
  -- names
  have hblget : ∀ j, j < bl.length → bl[j]? = some (bl.getD j 0) := fun j hj => by simp [List.getD, List.getElem?_eq_getElem hj]
  have hliveB : ∀ j, j < bl.length → Live hp₁ (bl.getD j 0) := fun j hj => by
    have h1 := hin j hj
    have h2 : fp.getD j .dead = fp[j] := by simp [List.getD, show j < fp.length by omega]
    rw [h2] at h1
    exact live_of_ren (fp := fp) (j := j) h1 (hlive _ (List.getElem_mem _))
  have hfresh : ∀ j, j < fp'.length - fp.length → ¬ Live hp₁ (nid + j) := fun j hj ⟨o, h1, h2⟩ => by rw [hfr j hj] at h1; cases h1; exact h2
  have hblnew : ∀ j i, j < bl.length → i < fp'.length - fp.length → bl.getD j 0 ≠ nid + i := fun j i hj hi e => hfresh i hi (e ▸ hliveB j hj)
  have hids1 : ∀ j, j < fp.length → (bl ++ List.range' nid (fp'.length - fp.length)).getD j 0 = bl.getD j 0 := fun j hj => by
    simp [List.getD, List.getElem?_append_left (show j < bl.length by omega)]
  have hids2 : ∀ j, fp.length ≤ j → j < fp'.length → (bl ++ List.range' nid (fp'.length - fp.length)).getD j 0 = nid + (j - fp.length) := fun j h1 h2 => by
    have hlt : j - fp.length < fp'.length - fp.length := by omega
    rw [List.getD, List.getElem?_append_right (by omega), hlen, List.getElem?_range' hlt]
    simp
  -- the places behind the call
  let β2 : Plc := fun b => if nid ≤ b ∧ b < nid + (fp'.length - fp.length) then β' (fp.length + (b - nid)) else β b
  have hβ2new : ∀ j, fp.length ≤ j → j < fp'.length → β2 (nid + (j - fp.length)) = β' j := fun j h1 h2 => by
    show (if _ then _ else _) = _
    rw [if_pos (by omega)]; congr 1; omega
  have hβ2old : ∀ b, ¬ (nid ≤ b ∧ b < nid + (fp'.length - fp.length)) → β2 b = β b := fun b h => if_neg h
  have hβsome : ∀ j, j < bl.length → ∃ L, β (bl.getD j 0) = some L := fun j hj => by
    obtain ⟨o, h1, h2⟩ := hliveB j hj
    have := S.blocks _ o h1
    cases o with
    | fresh => exact h2.elim
    | dead => exact h2.elim
    | siter s p => obtain ⟨L, q1, _⟩ := this; exact ⟨L, q1⟩
    | cells e k rows => obtain ⟨L, c, fz, q1, _⟩ := this; exact ⟨L, q1⟩
    | map es => obtain ⟨L, ents, cl, q1, _⟩ := this; exact ⟨L, q1⟩
  have hβ2bl : ∀ j, j < bl.length → β2 (bl.getD j 0) = β (bl.getD j 0) := fun j hj => hβ2old _ fun ⟨h1, h2⟩ => hblnew j (bl.getD j 0 - nid) hj (by omega) (by omega)
  have hb2 : ∀ j, j < fp'.length → β' j = β2 ((bl ++ List.range' nid (fp'.length - fp.length)).getD j 0) := fun j hj => by
    by_cases h1 : j < fp.length
    · rw [hids1 j h1, hβ2bl j (by omega)]
      obtain ⟨L, hL⟩ := hβsome j (by omega)
      rw [hL]
      exact g2 j L (by rw [hb j h1, hL])
    · rw [hids2 j (by omega) hj, hβ2new j (by omega) hj]
  have hle2 : Plc.le β β2 := fun b L hL => by
    by_cases h : nid ≤ b ∧ b < nid + (fp'.length - fp.length)
    · have := S.blocks b .fresh (by have := hfr (b - nid) (by omega); rwa [show nid + (b - nid) = b by omega] at this)
      rw [show β b = none from this] at hL; cases hL
    · rw [hβ2old b h]; exact hL
  -- the list of what is written
  have hk1 : (bl.zip ((fp'.take fp.length).map (OB.ren (bl ++ List.range' nid (fp'.length - fp.length))))).map (·.1) = bl := zip_keys (by simp; omega)
  have hk2 : (news nid ((fp'.drop fp.length).map (OB.ren (bl ++ List.range' nid (fp'.length - fp.length))))).map (·.1) = List.range' nid (fp'.length - fp.length) := by rw [news_keys]; simp
  have hndAll : ((bl.zip ((fp'.take fp.length).map (OB.ren (bl ++ List.range' nid (fp'.length - fp.length)))) ++ news nid ((fp'.drop fp.length).map (OB.ren (bl ++ List.range' nid (fp'.length - fp.length))))).map (·.1)).Nodup := by
    rw [List.map_append, hk1, hk2, List.nodup_append]
    refine ⟨hnd, List.nodup_range', fun a ha b hb' e => ?_⟩
    subst e
    obtain ⟨j, hj, rfl⟩ := List.getElem_of_mem ha
    simp only [List.mem_range'_1] at hb'
    exact hblnew j (bl[j] - nid) hj (by omega) (by simp [List.getD, List.getElem?_eq_getElem hj]; omega)
  have hnidlt : ∀ i, i < fp'.length - fp.length → nid + i < hp₁.length := fun i hi => by
    rcases Nat.lt_or_ge (nid + i) hp₁.length with h' | h'
    · exact h'
    · have := hfr i hi; rw [List.getElem?_eq_none h'] at this; cases this
  -- what lies at each name
  have hat : ∀ j, (hj : j < fp'.length) → (setAll hp₁ (bl.zip ((fp'.take fp.length).map (OB.ren (bl ++ List.range' nid (fp'.length - fp.length)))) ++ news nid ((fp'.drop fp.length).map (OB.ren (bl ++ List.range' nid (fp'.length - fp.length))))))[(bl ++ List.range' nid (fp'.length - fp.length)).getD j 0]? = some ((fp'[j]).ren (bl ++ List.range' nid (fp'.length - fp.length))) := fun j hj => by
    by_cases h1 : j < fp.length
    · rw [hids1 j h1]
      refine setAll_in _ _ hndAll (List.mem_append_left _ (zip_mem (j := j) (hblget j (by omega)) ?_)) (hliveB j (by omega)).lt
      rw [List.getElem?_map, List.getElem?_take, if_pos h1, List.getElem?_eq_getElem hj]; rfl
    · rw [hids2 j (by omega) hj]
      refine setAll_in _ _ hndAll (List.mem_append_right _ (news_mem _ nid (j - fp.length) _ ?_)) (hnidlt _ (by omega))
      rw [List.getElem?_map, List.getElem?_drop, show fp.length + (j - fp.length) = j by omega, List.getElem?_eq_getElem hj]; rfl
  have hother : ∀ b, b ∉ bl → ¬ (nid ≤ b ∧ b < nid + (fp'.length - fp.length)) → (setAll hp₁ (bl.zip ((fp'.take fp.length).map (OB.ren (bl ++ List.range' nid (fp'.length - fp.length)))) ++ news nid ((fp'.drop fp.length).map (OB.ren (bl ++ List.range' nid (fp'.length - fp.length))))))[b]? = hp₁[b]? := fun b h1 h2 => by
    refine setAll_out _ _ ?_
    rw [List.map_append, hk1, hk2, List.mem_append, not_or]
    exact ⟨h1, by simp only [List.mem_range'_1]; omega⟩
  have hname : ∀ b, (b ∈ bl ∨ (nid ≤ b ∧ b < nid + (fp'.length - fp.length))) → ∃ j, j < fp'.length ∧ (bl ++ List.range' nid (fp'.length - fp.length)).getD j 0 = b := fun b h => by
    rcases h with h | h
    · obtain ⟨j, hj, rfl⟩ := List.getElem_of_mem h
      exact ⟨j, by omega, by rw [hids1 j (by omega)]; simp [List.getD, List.getElem?_eq_getElem hj]⟩
    · exact ⟨fp.length + (b - nid), by omega, by rw [hids2 _ (by omega) (by omega)]; omega⟩
  have hown : ∀ B, Owned (partOf β bl) fp B → ∃ j L, j < bl.length ∧ β (bl.getD j 0) = some L ∧ L.blk = B := fun B ⟨j, L, h1, h2, h3⟩ => by
    have := h1.lt
    rw [hb j this] at h2
    exact ⟨j, L, by omega, h2, h3⟩
  -- a block of ours that the callee was not handed
  have hapart : ∀ b L, Live hp₁ b → β b = some L → b ∉ bl → ¬ Owned (partOf β bl) fp L.blk := fun b L h1 h2 h3 h4 => by
    obtain ⟨j, L', q1, q2, q3⟩ := hown _ h4
    have := S.inj b _ L L' h1 (hliveB j q1) h2 q2 q3.symm
    exact h3 (by rw [this]; exact List.mem_of_getElem? (hblget j q1))
  have hkeepB : ∀ B, B < w.heap.size → ¬ Owned (partOf β bl) fp B → w'.heap[B]? = w.heap[B]? ∧ m' B = m B := fun B h1 h2 => S'.keep B h1 h2
  refine ⟨m', β2, g1, hle2, ?_, (Rel.ren hb2 r v hur).2 g4⟩
  have hliveNew : ∀ b, Live (setAll hp₁ (bl.zip ((fp'.take fp.length).map (OB.ren (bl ++ List.range' nid (fp'.length - fp.length)))) ++ news nid ((fp'.drop fp.length).map (OB.ren (bl ++ List.range' nid (fp'.length - fp.length)))))) b →
      (∃ j, j < fp'.length ∧ (bl ++ List.range' nid (fp'.length - fp.length)).getD j 0 = b ∧ Live fp' j) ∨ (b ∉ bl ∧ ¬ (nid ≤ b ∧ b < nid + (fp'.length - fp.length)) ∧ Live hp₁ b) := fun b h => by
    by_cases hc : b ∈ bl ∨ (nid ≤ b ∧ b < nid + (fp'.length - fp.length))
    · obtain ⟨j, hj, rfl⟩ := hname b hc
      left
      refine ⟨j, hj, rfl, ?_⟩
      obtain ⟨o, h1, h2⟩ := h
      rw [hat j hj] at h1
      cases h1
      refine ⟨_, List.getElem?_eq_getElem hj, ?_⟩
      cases h9 : fp'[j] <;> simp_all [OB.ren]
    · right
      rw [not_or] at hc
      obtain ⟨o, h1, h2⟩ := h
      rw [hother b hc.1 hc.2] at h1
      exact ⟨hc.1, hc.2, o, h1, h2⟩
  have hown2 : ∀ j L, Live fp' j → β' j = some L → w.heap.size ≤ L.blk ∨ Owned (partOf β bl) fp L.blk := fun j L h1 h2 => S'.own j L h1 h2
  exact {
    agree := S'.agree
    blocks := fun b ob h => by
      by_cases hc : b ∈ bl ∨ (nid ≤ b ∧ b < nid + (fp'.length - fp.length))
      · obtain ⟨j, hj, rfl⟩ := hname b hc
        rw [hat j hj] at h
        cases h
        exact (OBRel.ren hb2 hj (hu' _ (List.getElem_mem _))).2 (S'.blocks j _ (List.getElem?_eq_getElem hj))
      · rw [not_or] at hc
        rw [hother b hc.1 hc.2] at h
        have h0 := S.blocks b ob h
        have hlv : Live [ob] 0 → Live hp₁ b := fun ⟨o, h1, h2⟩ => by cases h1; exact ⟨ob, h, h2⟩
        refine OBRel.frame (h0.mono g1 hle2 (hβ2old b hc.2) fun L hL hl hn => ?_) fun L hL hl => ?_
        · rw [(hkeepB L.blk (h0.lt hL hl) (hapart b L (hlv hl) hL hc.1)).2]; exact hn
        · rw [hβ2old b hc.2] at hL
          exact (hkeepB L.blk (h0.lt hL hl) (hapart b L (hlv hl) hL hc.1)).1
    inj := fun b b' L L' h h' hL hL' e => by
      rcases hliveNew b h with ⟨j, hj, rfl, hlj⟩ | ⟨n1, n2, n3⟩ <;> rcases hliveNew b' h' with ⟨j', hj', rfl, hlj'⟩ | ⟨n1', n2', n3'⟩
      · rw [← hb2 j hj] at hL; rw [← hb2 j' hj'] at hL'
        rw [S'.inj j j' L L' hlj hlj' hL hL' e]
      · rw [← hb2 j hj] at hL; rw [hβ2old b' n2'] at hL'
        rcases hown2 j L hlj hL with q | q
        · have := S.live_lt n3' hL'; omega
        · exact absurd (e ▸ q) (hapart b' L' n3' hL' n1')
      · rw [hβ2old b n2] at hL; rw [← hb2 j' hj'] at hL'
        rcases hown2 j' L' hlj' hL' with q | q
        · have := S.live_lt n3 hL; omega
        · exact absurd (e ▸ q) (hapart b L n3 hL n1)
      · rw [hβ2old b n2] at hL; rw [hβ2old b' n2'] at hL'
        exact S.inj b b' L L' n3 n3' hL hL' e
    out := fun b h => by
      rw [List.getElem?_eq_none_iff, setAll_length] at h
      have : ¬ (nid ≤ b ∧ b < nid + (fp'.length - fp.length)) := fun ⟨h1, h2⟩ => by have := hnidlt (b - nid) (by omega); omega
      rw [hβ2old b this]; exact S.out b (List.getElem?_eq_none h)
    size := Nat.le_trans S.size S'.size
    io := S.io.trans S'.io
    keep := fun B h h' => by
      have h1 := S.keep B h h'
      have hno : ¬ Owned (partOf β bl) fp B := fun hq => by
        obtain ⟨j, L, q1, q2, q3⟩ := hown _ hq
        rcases S.own _ L (hliveB j q1) q2 with q | q
        · omega
        · exact h' (q3 ▸ q)
      have h2 := hkeepB B (Nat.lt_of_lt_of_le h S.size) hno
      exact ⟨h2.1.trans h1.1, h2.2.trans h1.2⟩
    own := fun b L h hL => by
      rcases hliveNew b h with ⟨j, hj, rfl, hlj⟩ | ⟨n1, n2, n3⟩
      · rw [← hb2 j hj] at hL
        rcases hown2 j L hlj hL with q | q
        · exact .inl (Nat.le_trans S.size q)
        · obtain ⟨i, L', q1, q2, q3⟩ := hown _ q
          rw [← q3]; exact S.own _ L' (hliveB i q1) q2
      · rw [hβ2old b n2] at hL; exact S.own b L n3 hL }
end
end Go.Am
namespace Go.Am

section
variable {P : Program} {C : FuncId → List AV → List OB → AV → List OB → Prop} {d : Option Tmp} {t : TypeId} {p : String} {af : Array Edge} {g : Option (Nat × Bool)} {ev : Operand → AV} {hp : List OB}

theorem concrete_eq {u : TypeId} (h : concrete P u = true) : ∃ dd, P.underlying u = some dd ∧ ∀ ms, dd ≠ .interface ms := by
  unfold concrete at h
  cases hd : P.underlying u with
  | none => simp [hd] at h
  | some dd => exact ⟨dd, rfl, fun ms e => by subst e; simp [hd] at h⟩

theorem rel_pair {m : Mem} {β : Plc} {x : AV} {v : Value} {b : Bool} (h : Rel m β x v) : Rel m β (.tup [x, .b b]) (.tuple #[v, .bool b]) := by
  simp only [Rel]
  refine ⟨[v, .bool b], rfl, ?_⟩
  simp only [RelL, Rel]
  exact ⟨v, _, rfl, h, _, _, rfl, rfl, rfl⟩

theorem snd_typeAssert (x xt u ok) : Snd P C ⟨d, .typeAssert x xt u ok, t, p, af, g⟩ ev hp := fun K h => by
  simp only [aop] at h
  split at h
  · rename_i tt v hv
    obtain ⟨⟨rfl, hc⟩, h⟩ := h
    obtain ⟨dd, hu, hni⟩ := concrete_eq hc
    split at h
    · rename_i he
      subst he
      refine ⟨_, h, .value fun _ _ _ _ m β w a hops _ _ => ⟨.tuple #[v, .bool true], rel_pair (by simp [Rel]), ?_⟩⟩
      have e1 := hops x (by simp [Op.operands])
      rw [hv] at e1; simp only [Rel] at e1
      cases dd <;> first | exact absurd rfl (hni _) | simp [execOp, e1, Instr.typeAssert, run_underlying' hu]
    · rename_i hne
      split at h
      · rename_i z hz
        refine ⟨_, h, .value fun _ _ _ _ m β w a hops _ _ => ?_⟩
        obtain ⟨zv, hrun, rfl⟩ := run_zeroValue' hz w
        refine ⟨.tuple #[zv, .bool false], rel_pair (rel_constAV zv), ?_⟩
        have e1 := hops x (by simp [Op.operands])
        rw [hv] at e1; simp only [Rel] at e1
        cases dd <;> first | exact absurd rfl (hni _) | simp [execOp, e1, Instr.typeAssert, run_underlying' hu, hne, hrun]
      · exact h.elim
  · rename_i hv
    obtain ⟨⟨rfl, hc⟩, h⟩ := h
    obtain ⟨dd, hu, hni⟩ := concrete_eq hc
    split at h
    · rename_i z hz
      refine ⟨_, h, .value fun _ _ _ _ m β w a hops _ _ => ?_⟩
      obtain ⟨zv, hrun, rfl⟩ := run_zeroValue' hz w
      refine ⟨.tuple #[zv, .bool false], rel_pair (rel_constAV zv), ?_⟩
      have e1 := hops x (by simp [Op.operands])
      rw [hv] at e1; simp only [Rel] at e1
      cases dd <;> first | exact absurd rfl (hni _) | simp [execOp, e1, Instr.typeAssert, run_underlying' hu, hrun]
    · exact h.elim
  · exact h.elim

theorem snd_makeMap (u r) : Snd P C ⟨d, .makeMap u r, t, p, af, g⟩ ev hp := fun K h => by
  simp only [aop] at h
  obtain ⟨rfl, h⟩ := h
  refine ⟨_, h, .push fun w0 m0 O hp₁ m β w a hops hS hrd hβ => ⟨.map (some w.heap.size), { w with heap := w.heap.push (.map #[] 0) }, _, 0, 0, ?_, ⟨rfl, rfl, rfl⟩, fun hm => ?_, ?_⟩⟩
  · simp [execOp, Instr.makeMap]
  · exact ⟨_, #[], 0, upd_self _ _ _, by simp, hm, by simp [MapRel], by simp, by simp⟩
  · simp only [Rel]; exact ⟨_, upd_self _ _ _, rfl⟩

theorem callsTo_ret {f : FuncId} {vs : Array Value} {w : World} {R : Value → World → Prop} (h : CallsTo P f vs w R) {next : Act → World → Prop} {Q : Exit → Act → World → Prop} {a : Act} {o : Oper}
    (hrun : (execOp a.eval o).run P w = (callFunc f vs).run P w) (hn : ∀ v w', R v w' → next (a.put o.dst v) w') : o.wp P a w next Q := by
  unfold Oper.wp
  rw [hrun]
  unfold CallsTo at h
  split at h
  · rename_i as w1 hr
    rw [hr]
    simp only [Oper.upon]
    exact h.mono fun e w' ⟨v, h1, h2⟩ => by subst h1; exact hn _ _ h2
  · rename_i v w1 hr
    rw [hr]; exact hn _ _ h
  · exact h.elim

/-- Whatever calls a function with arguments that are described. -/
theorem snd_callK (hC : ∀ f args fp r fp', C f args fp r fp' → Contract P f args fp r fp') {o : Oper} {f : FuncId} {args : List AV} {K : Eff → Prop} (h : callK C f args hp K)
    (hrun : ∀ (m : Mem) (β : Plc) (a : Act) (w : World), (∀ x ∈ o.op.operands, Rel m β (ev x) (a.eval x)) → ∃ vs : List Value, RelL m β args vs ∧ (execOp a.eval o).run P w = (callFunc f vs.toArray).run P w) :
    ∃ e, K e ∧ OpSem P o ev hp hp.length e := by
  rcases h with ⟨n, args', r, hs, hc', hc, hr, hpl, hK⟩ | ⟨bl, args', fp, r, fp', wl, h1, h2, h3, h4, h5, h6, h7, h8, h9, h10, h11, h12, h13, hK⟩
  · refine ⟨_, hK, by simp, by intro b hb; simp only at hb; split at hb <;> simp_all, ?_⟩
    intro w0 m0 O hp₁ m β w a next Q hops hS hrd _ hn
    obtain ⟨vs, hR, he⟩ := hrun m β a w hops
    refine callsTo_ret (callPure_sound (P := P) (hp := hp) hC hs hc' hc hr hpl hS hR hrd) he fun v w' ⟨m', β', g1, g2, g3, g4⟩ => ?_
    exact hn v w' m' β' g1 g2 g4 (by simpa [news, setAll] using g3)
  · have hbl : ∀ q ∈ bl, q < hp.length := fun q hq => by
      obtain ⟨j, hj, rfl⟩ := List.getElem_of_mem hq
      have h12 := h3 j hj
      simp only [List.getD, List.getElem?_eq_getElem hj, Option.getD_some] at h12
      rcases Nat.lt_or_ge bl[j] hp.length with h' | h'
      · exact h'
      · rw [List.getElem?_eq_none h'] at h12; cases h12
    refine ⟨_, hK, fun q hq => hbl _ (List.of_mem_zip (h12.mem hq)).1, hbl, ?_⟩
    intro w0 m0 O hp₁ m β w a next Q hops hS hrd hfr hn
    obtain ⟨vs, hR, he⟩ := hrun m β a w hops
    rw [h6] at hR
    have hmem : ∀ j, j < bl.length → bl.getD j 0 ∈ bl := fun j hj => by
      simp [List.getD, List.getElem?_eq_getElem hj]
    have hin : ∀ j, j < bl.length → hp₁[bl.getD j 0]? = some ((fp.getD j .dead).ren bl) := fun j hj => by rw [hrd _ (hmem j hj)]; exact h3 j hj
    refine callsTo_ret (callOwn_sound (P := P) (nid := hp.length) hC h1 h2 hin h4 h5 h7 h8 h9 h10 h11 hS hR (fun j hj => hfr j (by simp; exact hj))) he fun v w' ⟨m', β', g1, g2, g3, g4⟩ => ?_
    refine hn v w' m' β' g1 g2 g4 ?_
    have hlt : ∀ b ∈ bl, b < hp₁.length := fun b hb => by
      obtain ⟨j, hj, rfl⟩ := List.getElem_of_mem hb
      have := hin j hj
      simp only [List.getD, List.getElem?_eq_getElem hj, Option.getD_some] at this
      rcases Nat.lt_or_ge bl[j] hp₁.length with h' | h'
      · exact h'
      · rw [List.getElem?_eq_none h'] at this; cases this
    rw [setAll_less h1 (by simp; omega) hlt h12 fun p hp' => (h13 p hp').imp_right fun e => by rw [hrd _ (List.of_mem_zip hp').1]; exact e]
    exact g3

theorem snd_call (hC : ∀ f args fp r fp', C f args fp r fp' → Contract P f args fp r fp') (f args ty) : Snd P C ⟨d, .call ⟨.value f, args, ty⟩, t, p, af, g⟩ ev hp := fun K h => by
  simp only [aop] at h
  have hargs : ∀ (m : Mem) (β : Plc) (a : Act), (∀ x ∈ (Op.call ⟨.value f, args, ty⟩).operands, Rel m β (ev x) (a.eval x)) → RelL m β (args.toList.map ev) (args.toList.map a.eval) := fun m β a hops =>
    relL_map fun x hx => hops x (by simp only [Op.operands, Call.operands]; simp [hx])
  split at h
  · rename_i fid caps hv
    refine snd_callK hC h fun m β a w hops => ?_
    have e1 := hops f (by simp [Op.operands, Call.operands])
    rw [hv] at e1; simp only [Rel] at e1
    obtain ⟨cs, e1, hcs⟩ := e1
    refine ⟨args.toList.map a.eval ++ cs, (hargs m β a hops).append hcs, ?_⟩
    rw [show (args.toList.map a.eval ++ cs).toArray = args.map a.eval ++ cs.toArray by apply Array.ext'; simp]
    simp only [execOp, resolve, e1, Deferred.ofValue, Sem.run_bind, Sem.run_pure, Result.andThen_ok, invoke, Array.empty_append]
  · rename_i fid fs hv
    refine snd_callK hC h fun m β a w hops => ?_
    have e1 := hops f (by simp [Op.operands, Call.operands])
    rw [hv] at e1; simp only [Rel] at e1
    obtain ⟨cs, e1, hcs⟩ := e1
    refine ⟨cs ++ args.toList.map a.eval, hcs.append (hargs m β a hops), ?_⟩
    rw [show (cs ++ args.toList.map a.eval).toArray = cs.toArray ++ args.map a.eval by apply Array.ext'; simp]
    simp only [execOp, resolve, e1, Deferred.ofValue, Sem.run_bind, Sem.run_pure, Result.andThen_ok, invoke, Array.append_empty]
  · exact h.elim

theorem snd_invoke (hC : ∀ f args fp r fp', C f args fp r fp' → Contract P f args fp r fp') (x name args ty) : Snd P C ⟨d, .call ⟨.invoke x name, args, ty⟩, t, p, af, g⟩ ev hp := fun K h => by
  simp only [aop] at h
  split at h
  · rename_i tt v hv
    obtain ⟨f, hm, h⟩ := h
    refine snd_callK hC h fun m β a w hops => ?_
    have e1 := hops x (by simp [Op.operands, Call.operands])
    rw [hv] at e1; simp only [Rel] at e1
    refine ⟨v :: args.toList.map a.eval, ?_, ?_⟩
    · simp only [RelL, Rel]
      exact ⟨v, _, rfl, rfl, relL_map fun x hx => hops x (by simp only [Op.operands, Call.operands]; simp [hx])⟩
    · rw [show (v :: args.toList.map a.eval).toArray = #[v] ++ args.map a.eval by apply Array.ext'; simp]
      have e0 : (#[Value.iface tt v] ++ args.map a.eval)[0]? = some (.iface tt v) := by simp [Array.getElem?_append]
      have e2 : (#[Value.iface tt v] ++ args.map a.eval).extract 1 (#[Value.iface tt v] ++ args.map a.eval).size = args.map a.eval := by
        apply Array.ext'; simp
        rw [List.take_of_length_le (by simp)]
      simp only [execOp, resolve, e1, Sem.run_bind, Sem.run_pure, Result.andThen_ok, invoke, callMethod, e0, e2, run_program, hm w]
  · exact h.elim
end
end Go.Am
namespace Go.Am

section
variable {P : Program}

theorem rowAt_mono {fits : TypeId → Bool} : ∀ (d : Nat) (e : TypeId) (c c' o n : Nat), c ≤ c' → rowAt P fits d e c o n = true → rowAt P fits d e c' o n = true
  | 0, _, _, _, _, _, _, h => by simp [rowAt] at h
  | d + 1, e, c, c', o, n, hc, h => by
    unfold rowAt at h ⊢
    simp only at h ⊢
    split at h
    · cases h
    · rename_i hs
      rw [if_neg hs]
      simp only [Bool.or_eq_true, Bool.and_eq_true, decide_eq_true_eq] at h ⊢
      rcases h with h | h
      · exact .inl ⟨⟨h.1.1, by omega⟩, h.2⟩
      · exact .inr ⟨by omega, h.2⟩

theorem liesAt_mono : ∀ (d : Nat) (e : TypeId) (c c' o : Nat) (u : TypeId) (n : Nat), c ≤ c' → liesAt P d e c o u n = true → liesAt P d e c' o u n = true
  | 0, _, _, _, _, _, _, _, h => by simp [liesAt] at h
  | d + 1, e, c, c', o, u, n, hc, h => by
    unfold liesAt at h ⊢
    simp only [Bool.or_eq_true] at h ⊢
    rcases h with h | h
    · exact .inl (rowAt_mono _ _ _ _ _ _ hc h)
    · right
      split at h
      · exact liesAt_mono d _ _ _ _ _ _ hc h
      · cases h

theorem ptrT_eq {t u : TypeId} (h : ptrT P t = some u) : P.underlying t = some (.pointer u) := by
  unfold ptrT at h; split at h <;> simp_all
theorem unsafeT_eq {t : TypeId} (h : unsafeT P t = true) : P.underlying t = some .unsafePointer := by
  unfold unsafeT at h; split at h <;> simp_all
theorem byteT_eq {e : TypeId} (h : byteT P e = true) : P.underlying e = some (.int .u8) ∧ szOf P e = 1 := by
  unfold byteT at h
  split at h
  · rename_i hk; exact ⟨intKind_eq hk, by simpa using h⟩
  · cases h

/-- Rows of a byte each, in memory. -/
theorem bytesR_rel {m : Mem} {β : Plc} : ∀ {rows : List (List AV)} {l : List UInt8} {vs : List Value}, bytesR rows = some l → RelRows m β 1 rows vs →
    rows.length = l.length ∧ ∀ (j : Nat) (x : UInt8), l[j]? = some x → vs[j]? = some (Value.int .u8 (x.toNat : Int))
  | [], l, vs, h, _ => by
    simp only [bytesR, Option.some.injEq] at h; subst h
    exact ⟨rfl, fun j x hj => by simp at hj⟩
  | r :: rs, l, vs, h, hR => by
    simp only [RelRows] at hR
    obtain ⟨⟨h1, _⟩, h2, h3⟩ := hR
    unfold bytesR at h
    split at h
    · rename_i heq; cases heq
    · rename_i n l' heq
      cases heq
      split at h
      · rename_i hn
        cases hl : bytesR rs with
        | none => simp [hl] at h
        | some l2 =>
          simp [hl] at h; subst h
          obtain ⟨i1, i2⟩ := bytesR_rel hl h3
          refine ⟨by simp [i1], fun j x hj => ?_⟩
          simp only [RelL, Rel] at h2
          obtain ⟨v, vs', e, rfl, _⟩ := h2
          cases j with
          | zero =>
            simp only [List.getElem?_cons_zero, Option.some.injEq] at hj; subst hj
            have hx : ((UInt8.ofNat n.toNat).toNat : Int) = n := by
              rw [UInt8.toNat_ofNat']; omega
            rw [hx]
            cases vs with
            | nil => simp at e
            | cons y ys => simp at e; simp [e.1]
          | succ j =>
            simp only [List.getElem?_cons_succ] at hj
            have g1 := i2 j x hj
            rw [List.getElem?_drop] at g1; rw [← g1]; congr 1; omega
      · cases h
    · cases h

theorem run_bytesToString {w : World} {a : Addr} {cap : Nat} {l : List UInt8} (hcell : ∀ (j : Nat) (x : UInt8), l[j]? = some x → w.cell? (a.add j) = some (.int .u8 (x.toNat : Int))) :
    (Conv.bytesToString (.slice (some a) l.length cap)).run P w = .ok (.string ⟨l.toArray⟩) w := by
  have hload := run_loadCells_list (P := P) w a (l.map fun x => Value.int .u8 (x.toNat : Int)) (fun j v hj => by
    rw [List.getElem?_map] at hj
    cases hx : l[j]? with
    | none => simp [hx] at hj
    | some x => simp [hx] at hj; subst hj; exact hcell j x hx)
  rw [List.length_map] at hload
  have loop : ∀ (l : List UInt8) (s : ByteArray), (forIn (l.map fun x => Value.int .u8 (x.toNat : Int)) s (fun c s => match c with
      | .int .u8 n => pure (ForInStep.yield (s.push (UInt8.ofNat n.toNat)))
      | x => do
        stuck "bytesToString: byte expected"
        pure (ForInStep.yield s)) : Sem ByteArray).run P w = .ok (⟨s.data ++ l.toArray⟩) w := by
    intro l
    induction l with
    | nil => intro s; simp
    | cons x l ih =>
      intro s
      simp only [List.map_cons, List.forIn_cons]
      simp
      have := ih (s.push x)
      simp at this
      rw [this]
  simp only [Conv.bytesToString, Sem.run_bind, hload, Result.andThen_ok]
  rw [← Array.forIn_toList]
  erw [loop l ByteArray.empty]
  simp
end
section
variable {P : Program} {C : FuncId → List AV → List OB → AV → List OB → Prop} {d : Option Tmp} {t : TypeId} {p : String} {af : Array Edge} {g : Option (Nat × Bool)} {ev : Operand → AV} {hp : List OB}

theorem run_convert_bytes {s dt e : TypeId} (hs : P.underlying s = some (.slice e)) (he : P.underlying e = some (.int .u8)) (hd : P.underlying dt = some .string) (x : Value) (hx : ∃ a n c, x = .slice a n c) (w : World) : (convert s dt x).run P w = (Conv.bytesToString x).run P w := by
  obtain ⟨a, n, c, rfl⟩ := hx
  cases a <;> simp [convert, run_underlying' hs, run_underlying' hd, run_underlying' he]

theorem snd_convert (s dt x) : Snd P C ⟨d, .convert s dt x, t, p, af, g⟩ ev hp := fun K h => by
  simp only [aop] at h
  split at h
  · rename_i k0 n hv
    split at h
    · rename_i k hk
      obtain ⟨hs, h⟩ := h
      refine ⟨_, h, .value fun _ _ _ _ _ _ _ a hops _ _ => ⟨.int k (k.wrap n), by simp [Rel], ?_⟩⟩
      have := hops x (by simp [Op.operands])
      rw [hv] at this; simp only [Rel] at this
      unfold typed at hs
      cases hd : P.underlying s with
      | none => simp [hd] at hs
      | some ds => simp [execOp, this, convert, run_underlying' hd, run_underlying' (intKind_eq hk), Conv.intToInt]
    · exact h.elim
  · rename_i b hv
    obtain ⟨hs, hk, h⟩ := h
    refine ⟨_, h, .value fun _ _ _ _ _ _ _ a hops _ _ => ⟨.string b, by simp [Rel], ?_⟩⟩
    have := hops x (by simp [Op.operands])
    rw [hv] at this; simp only [Rel] at this
    unfold typed at hs
    cases hd : P.underlying s with
    | none => simp [hd] at hs
    | some ds => simp [execOp, this, convert, run_underlying' hd, run_underlying' (isStr_eq hk)]
  · rename_i b i n hv
    split at h
    · rename_i e rows r hel hro
      split at h
      · rename_i l hl
        obtain ⟨⟨hb, hstr⟩, hK⟩ := h
        have hro0 := hro
        simp only [rowsOf] at hro
        split at hro
        · rename_i el k rs hb'
          split at hro
          · rename_i hin
            cases hro
            refine ⟨_, hK, .value fun _ _ _ hp₁ m β w a hops hS hrd => ⟨.string ⟨l.toArray⟩, by simp only [Rel, S], ?_⟩⟩
            obtain ⟨he, hsz⟩ := byteT_eq hb
            have e1 := hops x (by simp [Op.operands])
            rw [hv] at e1; simp only [Rel] at e1
            obtain ⟨L, j, cap, hL, e1, hcap, hic, hj⟩ := e1
            obtain ⟨L', c, fz, q1, q2, q3, q4, q5, q6, q7, q8, q9⟩ := hS.blocks b _ (by rw [hrd b (by simp)]; exact hb')
            rw [hL] at q1; cases q1
            have hlen : ((rs.drop i).take n).length = n := by rw [List.length_take, List.length_drop]; omega
            have hk : n ≠ 0 → k = 1 := by
              intro hn
              cases hq : (rs.drop i).take n with
              | nil => rw [hq] at hlen; simp at hlen; omega
              | cons r0 rest =>
                have hR := (q9.drop i).take n
                rw [hq] at hR hl
                simp only [RelRows] at hR
                unfold bytesR at hl
                split at hl
                · rename_i heq; cases heq
                · rename_i heq; cases heq; simpa using hR.1.1.symm
                · cases hl
            have hconv : (Conv.bytesToString (.slice (some ⟨L.blk, j * L.k, none⟩) n cap)).run P w = .ok (.string ⟨l.toArray⟩) w := by
              by_cases hn : n = 0
              · subst hn
                have hl0 : l = [] := by simp [bytesR] at hl; exact hl
                subst hl0
                exact run_bytesToString (l := []) (by simp)
              · have hk1 := hk hn
                subst hk1
                have hji : j = i := by omega
                subst hji
                obtain ⟨h1, h2⟩ := bytesR_rel hl ((q9.drop j).take n)
                rw [hlen] at h1
                subst h1
                refine run_bytesToString fun jj y hy => ?_
                have := h2 jj y hy
                rw [List.getElem?_drop] at this
                rw [add_off, cell_of q4, ← Array.getElem?_toList, q2]; exact this
            simp [execOp, e1, run_convert_bytes (slElem_eq hel) he (isStr_eq hstr) _ ⟨_, _, _, rfl⟩, hconv]
          · cases hro
        · cases hro
      · exact h.elim
    · exact h.elim
  · rename_i k rows hv
    split at h
    · rename_i e hel
      split at h
      · rename_i l hl
        obtain ⟨⟨hb, hstr, rfl⟩, hK⟩ := h
        refine ⟨_, hK, .value fun _ _ _ hp₁ m β w a hops hS hrd => ⟨.string ⟨l.toArray⟩, by simp only [Rel, S], ?_⟩⟩
        obtain ⟨he, hsz⟩ := byteT_eq hb
        have e1 := hops x (by simp [Op.operands])
        rw [hv] at e1; simp only [Rel] at e1
        obtain ⟨ad, cap, e1, hcap, hrows⟩ := e1
        have hconv : (Conv.bytesToString (.slice ad rows.length cap)).run P w = .ok (.string ⟨l.toArray⟩) w := by
          rcases hrows with rfl | ⟨a0, c, el, fz, rfl, g1, g2, g3, g4⟩
          · have hl0 : l = [] := by simp [bytesR] at hl; exact hl
            subst hl0
            cases ad with
            | none => simp [Conv.bytesToString]; rfl
            | some ad => exact run_bytesToString (l := []) (by simp)
          · obtain ⟨h1, h2⟩ := bytesR_rel hl g4
            rw [h1]
            obtain ⟨B, off, sp⟩ := a0
            simp only at g1 g2 g3 g4 h2; subst g1
            refine run_bytesToString fun jj y hy => ?_
            have := h2 jj y hy
            rw [List.getElem?_drop] at this
            rw [add_off, cell_of (hS.agree _ _ g2), ← Array.getElem?_toList]; exact this
        simp [execOp, e1, run_convert_bytes (slElem_eq hel) he (isStr_eq hstr) _ ⟨_, _, _, rfl⟩, hconv]
      · exact h.elim
    · exact h.elim
  · rename_i hv
    split at h
    · rename_i e hel
      obtain ⟨⟨hb, hstr⟩, hK⟩ := h
      obtain ⟨he, hsz⟩ := byteT_eq hb
      refine ⟨_, hK, .value fun _ _ _ hp₁ m β w a hops hS hrd => ⟨.string ⟨([] : List UInt8).toArray⟩, by simp only [Rel, S], ?_⟩⟩
      have e1 := hops x (by simp [Op.operands])
      rw [hv] at e1; simp only [Rel] at e1
      have hconv : (Conv.bytesToString (.slice none 0 0)).run P w = .ok (.string ⟨([] : List UInt8).toArray⟩) w := by
        simp [Conv.bytesToString]; rfl
      simp [execOp, e1, run_convert_bytes (slElem_eq hel) he (isStr_eq hstr) _ ⟨_, _, _, rfl⟩, hconv]
    · exact h.elim
  · rename_i b i o hv
    split at h
    · rename_i e k rows hb'
      split at h
      · rename_i u hu hu2
        obtain ⟨⟨hd, h0, hi, ho⟩, hK⟩ := h
        refine ⟨_, hK, .value fun _ _ _ hp₁ m β w a hops hS hrd => ?_⟩
        have e1 := hops x (by simp [Op.operands])
        rw [hv] at e1
        have e0 := e1
        simp only [Rel] at e1
        obtain ⟨L, hL, e1⟩ := e1
        refine ⟨_, e0, ?_⟩
        obtain ⟨L', c, fz, q1, q2, q3, q4, q5, q6, q7, q8, q9⟩ := hS.blocks b _ (by rw [hrd b (by simp)]; exact hb')
        rw [hL] at q1; cases q1
        obtain ⟨inf, hinf, hisz⟩ := info_of_sz h0
        have hsh : w.shape? L.blk = some (e, c.size) := by simp [World.shape?, q4]
        have hoff : i * L.k + o < c.size := by
          have : (i + 1) * k ≤ L.cap * k := Nat.mul_le_mul_right k (by omega)
          rw [Nat.succ_mul] at this; rw [q2, q6]; omega
        rw [e1]
        have := Lib.run_to_unsafe (P := P) w ⟨L.blk, i * L.k + o, none⟩ (ptrT_eq hu) (unsafeT_eq hd) hinf (by rw [hisz]; omega) hsh hoff
        simp [execOp, e1, this]
      · rename_i u hu hu2
        obtain ⟨⟨hs, h0, rfl, hr1, hke, hlies⟩, hK⟩ := h
        refine ⟨_, hK, .value fun _ _ _ hp₁ m β w a hops hS hrd => ?_⟩
        have e1 := hops x (by simp [Op.operands])
        rw [hv] at e1
        have e0 := e1
        simp only [Rel] at e1
        obtain ⟨L, hL, e1⟩ := e1
        refine ⟨_, e0, ?_⟩
        obtain ⟨L', c, fz, q1, q2, q3, q4, q5, q6, q7, q8, q9⟩ := hS.blocks b _ (by rw [hrd b (by simp)]; exact hb')
        rw [hL] at q1; cases q1
        obtain ⟨inf, hinf, hisz⟩ := info_of_sz h0
        have hsh : w.shape? L.blk = some (e, c.size) := by simp [World.shape?, q4]
        have hce : P.cellsOf e = k := by rw [hke]; rfl
        have hl2 : liesAt P P.depth e (c.size / P.cellsOf e) o u 1 = true := by
          unfold liesT at hlies
          refine liesAt_mono _ _ _ _ _ _ _ ?_ hlies
          rw [hce, q6, Nat.div_self q3, Nat.mul_div_cancel _ q3]; omega
        rw [e1]
        have := Lib.run_from_unsafe (P := P) w ⟨L.blk, 0 * L.k + o, none⟩ (unsafeT_eq hs) (ptrT_eq hu2) hinf hsh (by simpa using hl2)
        simp only [Nat.zero_mul, Nat.zero_add] at this e1 ⊢
        simp [execOp, e1, this]
      · exact h.elim
    · exact h.elim
  · exact h.elim

theorem snd_max3 (x y z ty) : Snd P C ⟨d, .call ⟨.builtin .max, #[x, y, z], ty⟩, t, p, af, g⟩ ev hp := fun K h => by
  simp only [aop] at h
  split at h
  · rename_i k n k' n' k'' n'' hv hv' hv''
    refine ⟨_, h, .value fun _ _ _ _ m β w a hops _ _ => ⟨_, by simp only [Rel]; rfl, ?_⟩⟩
    have e1 := hops x (by simp [Op.operands, Call.operands])
    have e2 := hops y (by simp [Op.operands, Call.operands])
    have e3 := hops z (by simp [Op.operands, Call.operands])
    rw [hv] at e1; rw [hv'] at e2; rw [hv''] at e3; simp only [Rel] at e1 e2 e3
    simp [execOp, resolve, invoke, builtin, e1, e2, e3, Builtin.max_, Builtin.max2]
  · exact h.elim
theorem snd_min3 (x y z ty) : Snd P C ⟨d, .call ⟨.builtin .min, #[x, y, z], ty⟩, t, p, af, g⟩ ev hp := fun K h => by
  simp only [aop] at h
  split at h
  · rename_i k n k' n' k'' n'' hv hv' hv''
    refine ⟨_, h, .value fun _ _ _ _ m β w a hops _ _ => ⟨_, by simp only [Rel]; rfl, ?_⟩⟩
    have e1 := hops x (by simp [Op.operands, Call.operands])
    have e2 := hops y (by simp [Op.operands, Call.operands])
    have e3 := hops z (by simp [Op.operands, Call.operands])
    rw [hv] at e1; rw [hv'] at e2; rw [hv''] at e3; simp only [Rel] at e1 e2 e3
    simp [execOp, resolve, invoke, builtin, e1, e2, e3, Builtin.min_, Builtin.min2]
  · exact h.elim

theorem snd_unsafeSliceData (x ty) : Snd P C ⟨d, .call ⟨.builtin .unsafeSliceData, #[x], ty⟩, t, p, af, g⟩ ev hp := fun K h => by
  simp only [aop] at h
  split at h
  · rename_i b i n hv
    obtain ⟨hn, hK⟩ := h
    refine ⟨_, hK, .value fun _ _ _ _ m β w a hops _ _ => ?_⟩
    have e1 := hops x (by simp [Op.operands, Call.operands])
    rw [hv] at e1; simp only [Rel] at e1
    obtain ⟨L, j, cap, hL, e1, hcap, hic, hj⟩ := e1
    have hji : j = i := by omega
    subst hji
    refine ⟨.pointer (some ⟨L.blk, j * L.k, none⟩), by simp only [Rel]; exact ⟨L, hL, by simp⟩, ?_⟩
    simp [execOp, resolve, invoke, builtin, e1, Lib.run_unsafeSliceData_row (P := P) w ty t ⟨L.blk, j * L.k, none⟩ n cap (by omega)]
  · rename_i hv
    refine ⟨_, h, .value fun _ _ _ _ m β w a hops _ _ => ⟨.pointer none, by simp [Rel], ?_⟩⟩
    have e1 := hops x (by simp [Op.operands, Call.operands])
    rw [hv] at e1; simp only [Rel] at e1
    simp [execOp, resolve, invoke, builtin, e1, Lib.run_unsafeSliceData_nil (P := P) w ty t 0 0]
  · exact h.elim

theorem freeze_heap (w : World) (B n : Nat) : IO0 w (w.freeze ⟨B, 0, none⟩ n) ∧ (w.freeze ⟨B, 0, none⟩ n).heap.size = w.heap.size ∧ ∀ B', B' ≠ B → (w.freeze ⟨B, 0, none⟩ n).heap[B']? = w.heap[B']? := by
  unfold World.freeze
  split
  · exact ⟨IO0.refl _, rfl, fun _ _ => rfl⟩
  · refine ⟨⟨rfl, rfl⟩, by simp, fun B' h => ?_⟩
    simp only [Array.getElem?_modify]
    rw [if_neg (by omega)]

theorem unsafeString_ty {ty : Array TypeId} {t pt : TypeId} (h : ty[0]? = some pt) (it : TypeId) (q : Option Addr) (v : Value) : Builtin.unsafeString_ ty t #[.pointer q, v] = Builtin.unsafeString_ #[pt, it] t #[.pointer q, v] := by
  delta Builtin.unsafeString_
  dsimp only
  rw [h]
  rfl

theorem snd_unsafeString (x y ty) : Snd P C ⟨d, .call ⟨.builtin .unsafeString, #[x, y], ty⟩, t, p, af, g⟩ ev hp := fun K h => by
  simp only [aop] at h
  split at h
  · rename_i b i n hv hv'
    split at h
    · rename_i e k rows more r u hb' hro hpt
      split at h
      · rename_i l hl
        obtain ⟨⟨⟨hn, hn2⟩, rfl, rfl, rfl, hbt, hco⟩, hK⟩ := h
        obtain ⟨pt, hpt0, hpt1⟩ : ∃ pt, ty[0]? = some pt ∧ ptrT P pt = some e := by
          cases hq : ty[0]? with
          | none => simp [hq] at hpt
          | some q => exact ⟨q, rfl, by simpa [hq] using hpt⟩
        have hlt : b < hp.length := (Live.of_cells hb').lt
        refine ⟨_, hK, fun q hq => by simp only [List.mem_singleton] at hq; subst hq; exact hlt, fun q hq => by simp only [List.mem_singleton] at hq; subst hq; exact hlt, ?_⟩
        intro w0 m0 O hp₁ m β w a next Q hops hS hrd _ hnx
        have e1 := hops x (by simp [Op.operands, Call.operands])
        have e2 := hops y (by simp [Op.operands, Call.operands])
        rw [hv] at e1; rw [hv'] at e2; simp only [Rel] at e1 e2
        obtain ⟨L, hL, e1⟩ := e1
        have hb'' : hp₁[b]? = some (.cells e 1 rows) := by rw [hrd b (by simp)]; exact hb'
        obtain ⟨L', c, fz, q1, q2, q3, q4, q5, q6, q7, q8, q9⟩ := hS.blocks b _ hb''
        rw [hL] at q1; cases q1
        simp only [rowsOf, hb'] at hro
        split at hro
        · rename_i hin
          cases hro
          have hlen : ((rows.drop 0).take n.toNat).length = n.toNat := by rw [List.length_take, List.length_drop]; omega
          obtain ⟨h1, h2⟩ := bytesR_rel hl (by simpa using (q9.drop 0).take n.toNat)
          rw [hlen] at h1
          have hnl : n = (l.length : Int) := by omega
          have hsh : w.shape? L.blk = some (e, c.size) := by simp [World.shape?, q4]
          have hl0 : l ≠ [] := by rintro rfl; simp at h1; omega
          have hrow := Lib.run_unsafeString_row (P := P) w pt 0 t e (ptrT_eq hpt1) hco L.blk c.size hsh l hl0 (by omega) (by omega) (fun j v hj => by
            rw [add_off, cell_of q4, ← Array.getElem?_toList]
            have := h2 j v hj; simpa using this)
          have hkind : (execOp a.eval ⟨d, .call ⟨.builtin .unsafeString, #[x, y], ty⟩, t, p, af, g⟩).run P w = .ok (.value (.string ⟨l.toArray⟩)) (w.freeze ⟨L.blk, 0, none⟩ l.length) := by
            have e3 := unsafeString_ty (t := t) hpt0 0 (some ⟨L.blk, 0, none⟩) (.int .i64 l.length)
            simp [execOp, resolve, invoke, builtin, e1, e2, hnl, e3, hrow]
          unfold Oper.wp
          rw [hkind]
          obtain ⟨f0, f1, f2⟩ := freeze_heap w L.blk l.length
          refine hnx _ _ m β (Mem.le_refl m) (Plc.le_refl β) (by simp only [Rel, S]) ?_
          simp only [List.append_nil, news, setAll]
          exact hS.change (Live.of_cells hb'') hL f2 f1 f0 trivial
        · cases hro
      · exact h.elim
    · exact h.elim
  · rename_i n hv hv'
    obtain ⟨⟨rfl, hty⟩, hK⟩ := h
    refine ⟨_, hK, .value fun _ _ _ _ m β w a hops _ _ => ⟨.string ⟨([] : List UInt8).toArray⟩, by simp only [Rel, S], ?_⟩⟩
    have e1 := hops x (by simp [Op.operands, Call.operands])
    have e2 := hops y (by simp [Op.operands, Call.operands])
    rw [hv] at e1; rw [hv'] at e2; simp only [Rel] at e1 e2
    obtain ⟨pt, hpt0⟩ := Option.isSome_iff_exists.1 hty
    have e3 := unsafeString_ty (t := t) hpt0 0 none (.int .i64 0)
    have e4 := Lib.run_unsafeString_none (P := P) w pt 0 t none
    simp [execOp, resolve, invoke, builtin, e1, e2, e3, e4]
    rfl
  · exact h.elim

theorem snd_range (u x) : Snd P C ⟨d, .range u x, t, p, af, g⟩ ev hp := fun K h => by
  simp only [aop] at h
  split at h
  · rename_i s hv
    obtain ⟨hs, hK⟩ := h
    refine ⟨_, hK, .push fun w0 m0 O hp₁ m β w a hops hS hrd hβ => ?_⟩
    have e1 := hops x (by simp [Op.operands])
    rw [hv] at e1; simp only [Rel] at e1
    refine ⟨.pointer (some ⟨w.heap.size, 0, none⟩), { w with heap := w.heap.push (.stringIter s 0) }, _, 0, 0, ?_, ⟨rfl, rfl, rfl⟩, fun hm => ?_, ?_⟩
    · simp [execOp, Instr.range, e1, run_underlying' (isStr_eq hs)]
    · exact ⟨_, upd_self _ _ _, by simp, hm⟩
    · simp only [Rel]; exact ⟨_, upd_self _ _ _, by simp⟩
  · exact h.elim

theorem snd_next (x) : Snd P C ⟨d, .next x true, t, p, af, g⟩ ev hp := fun K h => by
  simp only [aop] at h
  split at h
  · rename_i b hv
    split at h
    · rename_i s q hb'
      obtain ⟨ha, hb⟩ := h
      have hlt : ∀ (q : Nat), q ∈ [b] → q < hp.length := fun q hq => by
        simp only [List.mem_singleton] at hq; subst hq
        exact (Live.of_siter hb').lt
      by_cases hq : q < s.size
      · refine ⟨_, ha hq, fun q hq => hlt _ (by simpa using congrArg (·.1) (List.mem_singleton.1 hq)), hlt, ?_⟩
        intro w0 m0 O hp₁ m β w a next Q hops hS hrd _ hn
        have e1 := hops x (by simp [Op.operands])
        rw [hv] at e1; simp only [Rel] at e1
        obtain ⟨L, hL, e1⟩ := e1
        have hb'' : hp₁[b]? = some (.siter s q) := by rw [hrd b (by simp)]; exact hb'
        obtain ⟨L', q1, q2, q3⟩ := hS.blocks b _ hb''
        rw [hL] at q1; cases q1
        have hobj : (getObj L.blk).run P w = .ok (.stringIter s q) w := by simp [getObj, Sem.run, q2]
        have hlb : L.blk < w.heap.size := (Array.getElem?_eq_some_iff.1 q2).1
        let w' : World := { w with heap := w.heap.setIfInBounds L.blk (.stringIter s (q + (Utf8.decode s q).2)) }
        have hset : (setObj L.blk (.stringIter s (q + (Utf8.decode s q).2))).run P w = .ok () w' := by
          simp [setObj, Sem.run, q2, w']
        unfold Oper.wp
        have hrun : (execOp a.eval ⟨d, .next x true, t, p, af, g⟩).run P w = .ok (.value (.tuple #[.bool true, .int .i64 q, .int .i32 (Utf8.decode s q).1])) w' := by
          simp [execOp, Instr.next, e1, hobj, hq, hset, goInt]
        rw [hrun]
        refine hn _ w' m β (Mem.le_refl m) (Plc.le_refl β) ?_ ?_
        · simp only [Rel]; exact ⟨_, rfl, by simp [RelL, Rel]⟩
        · simp only [List.append_nil, news, setAll]
          refine hS.change (Live.of_siter hb'') hL (fun B hB => ?_) (by simp [w']) ⟨rfl, rfl⟩ ⟨L, hL, ?_, q3⟩
          · simp [w', Array.getElem?_setIfInBounds]; intro h; exact absurd h.symm hB
          · simp [w', Array.getElem?_setIfInBounds, hlb]
      · refine ⟨_, hb hq, .value (hlt := hlt) fun _ _ _ hp₁ m β w a hops hS hrd => ⟨.tuple #[.bool false], by simp only [Rel]; exact ⟨_, rfl, by simp [RelL, Rel]⟩, ?_⟩⟩
        have e1 := hops x (by simp [Op.operands])
        rw [hv] at e1; simp only [Rel] at e1
        obtain ⟨L, hL, e1⟩ := e1
        obtain ⟨L', q1, q2, q3⟩ := hS.blocks b (.siter s q) (by rw [hrd b (by simp)]; exact hb')
        rw [hL] at q1; cases q1
        have hobj : (getObj L.blk).run P w = .ok (.stringIter s q) w := by simp [getObj, Sem.run, q2]
        simp [execOp, Instr.next, e1, hobj, hq]
    · exact h.elim
  · exact h.elim
end
end Go.Am
namespace Go.Am

section
variable {P : Program}

/-- Where a key stands. -/
def findI (P : Program) (kt : TypeId) (k : Value) : List Value → Option (Option Nat)
  | [] => some none
  | e :: l => match keyEq P kt k e with
    | some true => some (some 0)
    | some false => (findI P kt k l).map fun r => r.map (· + 1)
    | none => none

theorem findK_findI {kt : TypeId} {k : Value} : ∀ {es : List (Value × AV)} {r : Option (Value × AV)}, findK P kt k es = some r →
    (r = none ∧ findI P kt k (es.map (·.1)) = some none) ∨ ∃ i p, r = some p ∧ es[i]? = some p ∧ findI P kt k (es.map (·.1)) = some (some i)
  | [], r, h => by simp [findK] at h; subst h; exact .inl ⟨rfl, rfl⟩
  | e :: l, r, h => by
    simp only [findK] at h
    simp only [List.map_cons, findI]
    cases hk : keyEq P kt k e.1 with
    | none => simp [hk] at h
    | some b =>
      cases b with
      | true => simp [hk] at h; subst h; exact .inr ⟨0, e, rfl, rfl, rfl⟩
      | false =>
        simp only [hk] at h ⊢
        rcases findK_findI h with ⟨rfl, h2⟩ | ⟨i, p, rfl, h2, h3⟩
        · exact .inl ⟨rfl, by rw [h2]; rfl⟩
        · exact .inr ⟨i + 1, p, rfl, by simpa using h2, by rw [h3]; rfl⟩

theorem setK_findI {kt : TypeId} {k : Value} {x : AV} : ∀ {es es' : List (Value × AV)}, setK P kt k x es = some es' →
    (findI P kt k (es.map (·.1)) = some none ∧ es' = es ++ [(k, x)]) ∨ ∃ i p, es[i]? = some p ∧ findI P kt k (es.map (·.1)) = some (some i) ∧ Instr.sameBits 10000 p.1 k = true ∧ es' = es.set i (k, x)
  | [], es', h => by simp [setK] at h; subst h; exact .inl ⟨rfl, rfl⟩
  | e :: l, es', h => by
    simp only [setK] at h
    simp only [List.map_cons, findI]
    cases hk : keyEq P kt k e.1 with
    | none => simp [hk] at h
    | some b =>
      cases b with
      | true =>
        simp only [hk] at h
        cases hs : Instr.sameBits 10000 e.1 k with
        | true => simp [hs] at h; subst h; exact .inr ⟨0, e, rfl, rfl, hs, rfl⟩
        | false => simp [hs] at h
      | false =>
        simp only [hk] at h ⊢
        cases hl : setK P kt k x l with
        | none => simp [hl] at h
        | some l2 =>
          simp [hl] at h; subst h
          rcases setK_findI hl with ⟨h2, rfl⟩ | ⟨i, p, h1, h2, h3, rfl⟩
          · exact .inl ⟨by rw [h2]; rfl, rfl⟩
          · exact .inr ⟨i + 1, p, by simpa using h1, by rw [h2]; rfl, h3, rfl⟩

theorem relL_vals {m : Mem} {β : Plc} : ∀ (vs : List Value), RelL m β (vs.map AV.val) vs
  | [] => by simp [RelL]
  | v :: vs => by simp only [List.map_cons, RelL, Rel]; exact ⟨v, vs, rfl, rfl, relL_vals vs⟩

/-- A key as the cells of its type. -/
theorem shapeK_isV {kt : TypeId} {k : Value} (h : shapeK P kt k = true) (m : Mem) (β : Plc) : ∃ vs, RelL m β (vcells k) vs ∧ IsV P kt vs k := by
  have one : ∀ k : Value, vcells k = [AV.val k] → aggT P kt = some false → ∃ vs, RelL m β (vcells k) vs ∧ IsV P kt vs k := fun k e ha =>
    ⟨[k], by rw [e]; simp [RelL, Rel], .inr ⟨ha, rfl⟩⟩
  cases k with
  | agg cs =>
    simp only [shapeK] at h
    split at h
    · rename_i ha
      exact ⟨cs.toList, relL_vals _, .inl ⟨ha, by simp⟩⟩
    · cases h
  | _ =>
    simp only [shapeK] at h
    split at h
    · rename_i ha; exact one _ rfl ha
    · cases h

theorem keyEq_sound {kt : TypeId} {k k' : Value} {b : Bool} (h : keyEq P kt k k' = some b) (w : World) : (Op.equal kt k k').run P w = .ok b w := by
  unfold keyEq at h
  split at h
  · rename_i h1 h2
    obtain ⟨vs, r1, i1⟩ := shapeK_isV h1 (fun _ => none) (fun _ => none)
    obtain ⟨ws, r2, i2⟩ := shapeK_isV h2 (fun _ => none) (fun _ => none)
    exact eqT_sound 100 kt _ _ b h 10000 (by decide) _ _ _ _ r1 r2 _ _ i1 i2 w
  · cases h

theorem sameNow_eq {kt : TypeId} {dd : TypeDesc} {k k' : Value} {b b' : Bool} (hu : P.underlying kt = some dd) (h : keyEq P kt k k' = some b) (h' : Instr.sameNow dd k k' = some b') : b = b' := by
  unfold keyEq at h
  split at h
  · unfold Instr.sameNow at h'
    split at h'
    · simp only [vcells, eqT, hu, leafEq] at h
      split at h' <;> simp_all
    · simp only [vcells, eqT, hu, leafEq] at h
      rename_i a c _ _
      cases h'
      have e : (bytes a == bytes c) = (a == c) := by
        show _ = (a.data == c.data)
        rw [Bool.eq_iff_iff]; simp [bytes]
      simpa [e] using h.symm
    · simp only [vcells, eqT, hu, leafEq] at h
      cases h'; simpa using h.symm
    · cases h'
  · cases h

theorem findNow_sound {kt : TypeId} {dd : TypeDesc} {k : Value} (hu : P.underlying kt = some dd) : ∀ (ents : List MapEntry) (i : Nat) {r : Option Nat} {q : Option (Nat × Value)}, findI P kt k (ents.map (·.key)) = some r → Instr.findNow dd k ents i = some q →
    q = r.bind fun j => (ents[j]?).map fun e => (i + j, e.val)
  | [], i, r, q, h, h' => by simp [findI] at h; subst h; simp [Instr.findNow] at h'; subst h'; rfl
  | e :: l, i, r, q, h, h' => by
    simp only [List.map_cons, findI] at h
    simp only [Instr.findNow] at h'
    cases hk : keyEq P kt k e.key with
    | none => simp [hk] at h
    | some b =>
      cases hs : Instr.sameNow dd k e.key with
      | none => simp [hs] at h'
      | some b' =>
        have := sameNow_eq hu hk hs
        subst this
        cases b with
        | true => simp [hk] at h; simp [hs] at h'; subst h; subst h'; rfl
        | false =>
          simp only [hk] at h; simp only [hs] at h'
          cases hl : findI P kt k (l.map (·.key)) with
          | none => simp [hl] at h
          | some r2 =>
            simp [hl] at h; subst h
            have ih := findNow_sound hu l (i + 1) hl h'
            rw [ih]
            cases r2 <;> simp [Nat.add_comm, Nat.add_left_comm]

theorem findAsking_sound {kt : TypeId} {k : Value} {w : World} : ∀ (ents : List MapEntry) (i : Nat) {r : Option Nat}, findI P kt k (ents.map (·.key)) = some r →
    (Instr.findAsking kt k ents i).run P w = .ok (r.bind fun j => (ents[j]?).map fun e => (i + j, e.val)) w
  | [], i, r, h => by simp [findI] at h; subst h; simp [Instr.findAsking]
  | e :: l, i, r, h => by
    simp only [List.map_cons, findI] at h
    cases hk : keyEq P kt k e.key with
    | none => simp [hk] at h
    | some b =>
      have he := keyEq_sound hk w
      cases b with
      | true => simp [hk] at h; subst h; simp [Instr.findAsking, he]
      | false =>
        simp only [hk] at h
        cases hl : findI P kt k (l.map (·.key)) with
        | none => simp [hl] at h
        | some r2 =>
          simp [hl] at h; subst h
          have ih := findAsking_sound (w := w) l (i + 1) hl
          simp [Instr.findAsking, he, ih]
          cases r2 <;> simp [Nat.add_comm, Nat.add_left_comm]

theorem findKey_sound {kt : TypeId} {dd : TypeDesc} {k : Value} {w : World} (hu : P.underlying kt = some dd) {ents : List MapEntry} {r : Option Nat} (h : findI P kt k (ents.map (·.key)) = some r) :
    (Instr.findKey kt k ents).run P w = .ok (r.bind fun j => (ents[j]?).map fun e => (j, e.val)) w := by
  simp only [Instr.findKey, Sem.run_bind, run_underlying' hu, Result.andThen_ok]
  cases hn : Instr.findNow dd k ents 0 with
  | some q =>
    have := findNow_sound hu ents 0 h hn
    simp only [Sem.run_pure]; rw [this]; simp
  | none =>
    simp only
    rw [findAsking_sound ents 0 h]; simp

theorem forIn_unit {α : Type} {body : α → PUnit → Sem (ForInStep PUnit)} {w : World} : ∀ (l : List α), (∀ x ∈ l, (body x ⟨⟩).run P w = .ok (.yield ⟨⟩) w) → (forIn l PUnit.unit body).run P w = .ok ⟨⟩ w
  | [], _ => by simp
  | x :: l, h => by
    have := forIn_unit l fun y hy => h y (by simp [hy])
    simp [h x (by simp), this]

theorem allEq_true {α : Type} {f : α → Option Bool} : ∀ {l : List α}, allEq f l = some true → ∀ x ∈ l, f x = some true
  | [], _, x, hx => by simp at hx
  | y :: l, h, x, hx => by
    simp only [allEq] at h
    cases hy : f y with
    | none => simp [hy] at h
    | some b =>
      cases b with
      | true =>
        simp only [hy] at h
        rcases List.mem_cons.1 hx with rfl | hx
        · exact hy
        · exact allEq_true h x hx
      | false => simp [hy] at h

theorem leafEq_kind {r : Option TypeDesc} {xs ys : List AV} {b : Bool} (h : leafEq r xs ys = some b) : r = some .bool ∨ (∃ k, r = some (.int k)) ∨ r = some .string := by
  unfold leafEq at h
  split at h <;> simp_all

theorem eqT_check : ∀ (d : Nat) (t : TypeId) (xs : List AV), eqT P d t xs xs = some true → ∀ (D : Nat), d ≤ D → ∀ (m : Mem) (β : Plc) (vs : List Value), RelL m β xs vs → ∀ v, IsV P t vs v → ∀ (e : Bool) (w : World),
    (Instr.checkKey e D t v).run P w = .ok ⟨⟩ w
  | 0, t, xs, h => by simp [eqT] at h
  | d + 1, t, xs, h => by
    intro D hD m β vs hx v hv e w
    obtain ⟨D, rfl⟩ : ∃ D', D = D' + 1 := ⟨D - 1, by omega⟩
    have hlx := hx.length
    simp only [eqT] at h
    split at h
    · rename_i fs hu
      split at h
      · cases h
      · have ha : aggT P t = some true := by unfold aggT; rw [hu]
        have hv : v = .agg vs.toArray := by rcases hv with ⟨_, q⟩ | ⟨q, _⟩; exact q; rw [ha] at q; cases q
        subst hv
        have hall := allEq_true h
        simp only [Instr.checkKey, Sem.run_bind, run_underlying' hu, Result.andThen_ok]
        rw [← Array.forIn_toList]
        have key : ∀ body : Field → PUnit → Sem (ForInStep PUnit), (∀ f ∈ fs.toList, (body f ⟨⟩).run P w = .ok (.yield ⟨⟩) w) → (forIn fs.toList PUnit.unit body).run P w = .ok ⟨⟩ w := fun body => forIn_unit _
        rw [key _ fun f hf => ?_]
        · rfl
        have hc := hall f hf
        by_cases hn : f.name = "_"
        · simp [hn]
        · simp only [if_neg hn] at hc
          split at hc
          · cases hc
          · rename_i hok
            simp only [not_or, Nat.not_lt] at hok
            obtain ⟨h1, h2, h3⟩ := hok
            have hag : ∃ b, aggT P f.type = some b := by
              cases hq : P.underlying f.type with
              | some dd => exact aggT_some hq
              | none => cases d <;> simp [eqT, hq, leafEq] at hc
            obtain ⟨p1, hp1, hi1⟩ := run_part (P := P) (t := f.type) (cs := vs) (o := f.offset) (by omega) (by omega) hag w
            have ih := eqT_check d f.type _ hc D (by omega) m β _ (hx.seg _ _) p1 hi1 e w
            simp [hn, hp1, ih]
    · rename_i n el hu
      split at h
      · cases h
      · rename_i hok
        simp only [not_or, Nat.not_lt] at hok
        obtain ⟨h1, h2, h3⟩ := hok
        have ha : aggT P t = some true := by unfold aggT; rw [hu]
        have hv : v = .agg vs.toArray := by rcases hv with ⟨_, q⟩ | ⟨q, _⟩; exact q; rw [ha] at q; cases q
        subst hv
        have hall := allEq_true h
        simp only [Instr.checkKey, Sem.run_bind, run_underlying' hu, Result.andThen_ok]
        rw [Std.Legacy.Range.forIn_eq_forIn_range']
        simp only [Std.Legacy.Range.size, Nat.sub_zero, Nat.add_sub_cancel, Nat.div_one]
        rw [← List.range_eq_range']
        have key : ∀ body : Nat → PUnit → Sem (ForInStep PUnit), (∀ f ∈ List.range n, (body f ⟨⟩).run P w = .ok (.yield ⟨⟩) w) → (forIn (List.range n) PUnit.unit body).run P w = .ok ⟨⟩ w := fun body => forIn_unit _
        rw [key _ fun i hi => ?_]
        · rfl
        have hc := hall i hi
        have hin : i < n := List.mem_range.1 hi
        have hle : i * szOf P el + szOf P el ≤ n * szOf P el := by rw [← Nat.succ_mul]; exact Nat.mul_le_mul_right _ hin
        have hag : ∃ b, aggT P el = some b := by
          cases hq : P.underlying el with
          | some dd => exact aggT_some hq
          | none => cases d <;> simp [eqT, hq, leafEq] at hc
        obtain ⟨p1, hp1, hi1⟩ := run_part (P := P) (t := el) (cs := vs) (o := i * szOf P el) (by omega) (by omega) hag w
        have ih := eqT_check d el _ hc D (by omega) m β _ (hx.seg _ _) p1 hi1 e w
        simp [hp1, ih, run_sizeOf' (P := P) (t := el) (Nat.pos_of_ne_zero h1)]
    · rcases leafEq_kind h with hu | ⟨k, hu⟩ | hu <;> simp [Instr.checkKey, run_underlying' hu]

theorem keyEq_check {kt : TypeId} {k : Value} (h : keyEq P kt k k = some true) (e : Bool) (w : World) : (Instr.checkKey e 10000 kt k).run P w = .ok ⟨⟩ w := by
  unfold keyEq at h
  split at h
  · rename_i h1 h2
    obtain ⟨vs, r1, i1⟩ := shapeK_isV h1 (fun _ => none) (fun _ => none)
    exact eqT_check 100 kt _ h 10000 (by decide) _ _ _ r1 _ i1 e w
  · cases h

theorem keyEq_underlying {kt : TypeId} {k : Value} (h : keyEq P kt k k = some true) : ∃ dd, P.underlying kt = some dd := by
  unfold keyEq at h
  split at h
  · cases hu : P.underlying kt with
    | some dd => exact ⟨dd, rfl⟩
    | none => simp [eqT, hu, leafEq] at h
  · cases h

theorem toVal_rel {m : Mem} {β : Plc} {x : AV} {k v : Value} (h : x.toVal = some k) (hr : Rel m β x v) : v = k := by
  cases x with
  | val u => simp [AV.toVal] at h; subst h; simpa [Rel] using hr
  | agg cs =>
    simp only [AV.toVal] at h
    split at h
    · rename_i l hl
      cases h
      simp only [Rel] at hr
      obtain ⟨vs, rfl, hR⟩ := hr
      have : ∀ (cs : List AV) (l vs : List Value), cs.mapM (fun x => match x with | AV.val v => some v | _ => none) = some l → RelL m β cs vs → vs = l := by
        intro cs
        induction cs with
        | nil => intro l vs h hR; simp at h; subst h; simpa [RelL] using hR
        | cons x cs ih =>
          intro l vs h hR
          simp only [RelL] at hR
          obtain ⟨v, vs', rfl, h1, h2⟩ := hR
          simp only [List.mapM_cons, Option.bind_eq_bind, Option.pure_def] at h
          cases x with
          | val u =>
            simp only [Rel] at h1; subst h1
            cases hm : cs.mapM (fun x => match x with | AV.val v => some v | _ => none) with
            | none => simp [hm] at h
            | some l2 => simp [hm] at h; subst h; rw [ih l2 vs' hm h2]
          | _ => simp at h
      rw [this cs l vs hl hR]
    · cases h
  | _ => simp [AV.toVal] at h

theorem MapRel.keys {m : Mem} {β : Plc} : ∀ {es : List (Value × AV)} {ents : List MapEntry}, MapRel m β es ents → ents.map (·.key) = es.map (·.1)
  | [], ents, h => by simp only [MapRel] at h; subst h; rfl
  | (k, x) :: l, ents, h => by
    obtain ⟨e, es', rfl, h2, h3, h4⟩ := h
    simp [h2, MapRel.keys h4]
theorem MapRel.get {m : Mem} {β : Plc} : ∀ {es : List (Value × AV)} {ents : List MapEntry}, MapRel m β es ents → ∀ {i : Nat} {p : Value × AV}, es[i]? = some p → ∃ e, ents[i]? = some e ∧ e.key = p.1 ∧ Rel m β p.2 e.val
  | [], ents, h, i, p, hp => by simp at hp
  | (k, x) :: l, ents, h, i, p, hp => by
    obtain ⟨e, es', rfl, h2, h3, h4⟩ := h
    cases i with
    | zero => simp at hp; subst hp; exact ⟨e, rfl, h2, h3⟩
    | succ i => simp at hp; obtain ⟨e', g1, g2⟩ := h4.get hp; exact ⟨e', by simpa using g1, g2⟩
theorem MapRel.append {m : Mem} {β : Plc} : ∀ {es : List (Value × AV)} {ents : List MapEntry}, MapRel m β es ents → ∀ {k : Value} {x : AV} {e : MapEntry}, e.key = k → Rel m β x e.val → MapRel m β (es ++ [(k, x)]) (ents ++ [e])
  | [], ents, h, k, x, e, h1, h2 => by simp only [MapRel] at h; subst h; exact ⟨e, [], rfl, h1, h2, rfl⟩
  | (k0, x0) :: l, ents, h, k, x, e, h1, h2 => by
    obtain ⟨e0, es', rfl, g2, g3, g4⟩ := h
    exact ⟨e0, _, rfl, g2, g3, g4.append h1 h2⟩
theorem MapRel.set {m : Mem} {β : Plc} : ∀ {es : List (Value × AV)} {ents : List MapEntry}, MapRel m β es ents → ∀ {i : Nat} {k : Value} {x : AV} {v : Value}, Rel m β x v → MapRel m β (es.set i (k, x)) (ents.modify i fun e => { e with key := k, val := v })
  | [], ents, h, i, k, x, v, h2 => by simp only [MapRel] at h; subst h; simp [MapRel]
  | (k0, x0) :: l, ents, h, i, k, x, v, h2 => by
    obtain ⟨e0, es', rfl, g2, g3, g4⟩ := h
    cases i with
    | zero => exact ⟨{ e0 with key := k, val := v }, es', by simp, rfl, h2, g4⟩
    | succ i => exact ⟨e0, _, by simp, g2, g3, g4.set h2⟩
end

section
variable {P : Program} {C : FuncId → List AV → List OB → AV → List OB → Prop} {d : Option Tmp} {t : TypeId} {p : String} {af : Array Edge} {g : Option (Nat × Bool)} {ev : Operand → AV} {hp : List OB}

theorem snd_lookup (u x ix ok) : Snd P C ⟨d, .lookup u x ix ok, t, p, af, g⟩ ev hp := fun K h => by
  simp only [aop] at h
  split at h
  · rename_i b k hv hk
    split at h
    · rename_i es kt e hb hmt
      obtain ⟨hkk, h⟩ := h
      obtain ⟨dd, hu⟩ := keyEq_underlying hkk
      have hlt : ∀ (q : Nat), q ∈ [b] → q < hp.length := fun q hq => by
        simp only [List.mem_singleton] at hq; subst hq
        exact (Live.of_map hb).lt
      have hexec : ∀ {hp₁ : List OB} {w0 : World} {m0 : Mem} {O : Nat → Prop} {m : Mem} {β : Plc} {w : World} {a : Act}, (∀ y ∈ (Op.lookup u x ix ok).operands, Rel m β (ev y) (a.eval y)) → State w0 m0 O m β w hp₁ → hp₁[b]? = hp[b]? →
          ∃ ents : Array MapEntry, MapRel m β es ents.toList ∧ ∀ r, findI P kt k (es.map (·.1)) = some r → (execOp a.eval ⟨d, .lookup u x ix ok, t, p, af, g⟩).run P w =
            ((match r.bind fun j => (ents.toList[j]?).map fun (q : MapEntry) => (j, q.val) with
              | some (_, v) => (pure (v, true) : Sem (Value × Bool))
              | none => do pure (← zeroValue e, false)).run P w).andThen fun q w' => .ok (.value (if ok then .tuple #[q.1, .bool q.2] else q.1)) w' := by
        intro hp₁ w0 m0 O m β w a hops hS hrd
        have e1 := hops x (by simp [Op.operands])
        have e2 := toVal_rel hk (hops ix (by simp [Op.operands]))
        rw [hv] at e1; simp only [Rel] at e1
        obtain ⟨L, hL, e1⟩ := e1
        obtain ⟨L', ents, clock, q1, q2, q3, q4, q5⟩ := hS.blocks b (.map es) (by rw [hrd]; exact hb)
        rw [hL] at q1; cases q1
        refine ⟨ents, q4, fun r hr => ?_⟩
        have hobj : (getObj L.blk).run P w = .ok (.map ents clock) w := by simp [getObj, Sem.run, q2]
        rw [← q4.keys] at hr
        have hf := findKey_sound (P := P) (w := w) hu hr
        simp only [execOp, Instr.lookup, e1, e2, Sem.run_bind, run_underlying' (mapT_eq hmt), Result.andThen_ok, hobj, Sem.run_pure, keyEq_check hkk ents.isEmpty w, hf]
        cases hq : r.bind fun j => (ents.toList[j]?).map fun (q : MapEntry) => (j, q.val) with
        | none => simp; cases (zeroValue e).run P w <;> simp [Result.andThen]
        | some q => simp
      split at h
      · rename_i q hq
        obtain ⟨i, p', e1, e2, e3⟩ : ∃ i p', some q = some p' ∧ es[i]? = some p' ∧ findI P kt k (es.map (·.1)) = some (some i) := by
          rcases findK_findI hq with ⟨h1, _⟩ | h1
          · cases h1
          · exact h1
        cases e1
        refine ⟨_, h, .value (hlt := hlt) fun _ _ _ hp₁ m β w a hops hS hrd => ?_⟩
        obtain ⟨ents, q4, hrun⟩ := hexec hops hS (hrd b (by simp))
        obtain ⟨e, g1, g2, g3⟩ := q4.get e2
        refine ⟨.tuple #[e.val, .bool true], rel_pair g3, ?_⟩
        have g1' : ents[i]? = some e := by rw [← Array.getElem?_toList]; exact g1
        rw [hrun _ e3]
        simp [g1']
      · rename_i q hq
        obtain ⟨i, p', e1, e2, e3⟩ : ∃ i p', some q = some p' ∧ es[i]? = some p' ∧ findI P kt k (es.map (·.1)) = some (some i) := by
          rcases findK_findI hq with ⟨h1, _⟩ | h1
          · cases h1
          · exact h1
        cases e1
        refine ⟨_, h, .value (hlt := hlt) fun _ _ _ hp₁ m β w a hops hS hrd => ?_⟩
        obtain ⟨ents, q4, hrun⟩ := hexec hops hS (hrd b (by simp))
        obtain ⟨e, g1, g2, g3⟩ := q4.get e2
        refine ⟨e.val, g3, ?_⟩
        have g1' : ents[i]? = some e := by rw [← Array.getElem?_toList]; exact g1
        rw [hrun _ e3]
        simp [g1']
      · rename_i okA _ _ hq
        have e3 : findI P kt k (es.map (·.1)) = some none := by
          rcases findK_findI hq with ⟨_, h1⟩ | ⟨i, p', h1, _⟩
          · exact h1
          · cases h1
        split at h
        · rename_i z hz
          cases okA with
          | true =>
            refine ⟨_, h.1 rfl, .value (hlt := hlt) fun _ _ _ hp₁ m β w a hops hS hrd => ?_⟩
            obtain ⟨ents, q4, hrun⟩ := hexec hops hS (hrd b (by simp))
            obtain ⟨zv, hzr, rfl⟩ := run_zeroValue' hz w
            refine ⟨.tuple #[zv, .bool false], rel_pair (rel_constAV zv), ?_⟩
            rw [hrun _ e3]
            simp [hzr]
          | false =>
            refine ⟨_, h.2 rfl, .value (hlt := hlt) fun _ _ _ hp₁ m β w a hops hS hrd => ?_⟩
            obtain ⟨ents, q4, hrun⟩ := hexec hops hS (hrd b (by simp))
            obtain ⟨zv, hzr, rfl⟩ := run_zeroValue' hz w
            refine ⟨zv, rel_constAV zv, ?_⟩
            rw [hrun _ e3]
            simp [hzr]
        · exact h.elim
      · exact h.elim
    · exact h.elim
  · exact h.elim

theorem snd_mapUpdate' {o : Oper} {u : TypeId} {xm k x : Operand} {K : Eff → Prop} (hex : ∀ (a : Act) (w : World), (execOp a.eval o).run P w = ((Instr.mapUpdate u (a.eval xm) (a.eval k) (a.eval x)).run P w).andThen fun _ w' => .ok .skip w') (hops0 : o.op.operands = #[xm, k, x])
    (h : aop P C ⟨d, .mapUpdate u xm k x, t, p, af, g⟩ ev hp K) : ∃ e, K e ∧ OpSem P o ev hp hp.length e := by
  simp only [aop] at h
  split at h
  · rename_i b kv hv hk
    split at h
    · rename_i es kt e hb hmt
      obtain ⟨hkk, h⟩ := h
      obtain ⟨dd, hu⟩ := keyEq_underlying hkk
      have hlt : ∀ (q : Nat), q ∈ [b] → q < hp.length := fun q hq => by
        simp only [List.mem_singleton] at hq; subst hq
        exact (Live.of_map hb).lt
      split at h
      · rename_i es' hset
        refine ⟨_, h, fun q hq => hlt _ (by simpa using congrArg (·.1) (List.mem_singleton.1 hq)), hlt, ?_⟩
        intro w0 m0 O hp₁ m β w a next Q hops hS hrd _ hn
        have e1 := hops xm (by simp [hops0])
        have e2 := toVal_rel hk (hops k (by simp [hops0]))
        have e3 := hops x (by simp [hops0])
        rw [hv] at e1; simp only [Rel] at e1
        obtain ⟨L, hL, e1⟩ := e1
        have hb' : hp₁[b]? = some (.map es) := by rw [hrd b (by simp)]; exact hb
        obtain ⟨L', ents, clock, q1, q2, q3, q4, q5, q6⟩ := hS.blocks b _ hb'
        rw [hL] at q1; cases q1
        have hobj : (getObj L.blk).run P w = .ok (.map ents clock) w := by simp [getObj, Sem.run, q2]
        have hlb : L.blk < w.heap.size := (Array.getElem?_eq_some_iff.1 q2).1
        have hsetObj : ∀ o', (setObj L.blk o').run P w = .ok () { w with heap := w.heap.setIfInBounds L.blk o' } := fun o' => by simp [setObj, Sem.run, q2]
        have fin : ∀ (o' : Obj) (w' : World), w' = { w with heap := w.heap.setIfInBounds L.blk o' } → OBRel m β w' b (.map es') → (execOp a.eval o).run P w = .ok .skip w' → o.wp P a w next Q := by
          rintro o' w' rfl hob hrun
          unfold Oper.wp
          rw [hrun]
          refine hn undef _ m β (Mem.le_refl m) (Plc.le_refl β) (by simp [Rel]) ?_
          simp only [List.append_nil, news, setAll]
          refine hS.change (Live.of_map hb') hL (fun B hB => ?_) (by simp) ⟨rfl, rfl⟩ hob
          simp [Array.getElem?_setIfInBounds]; intro h; exact absurd h.symm hB
        rcases setK_findI hset with ⟨h1, rfl⟩ | ⟨i, q, h1, h2, h3, rfl⟩
        · rw [← q4.keys] at h1
          have hf := findKey_sound (P := P) (w := w) hu h1
          refine fin (.map (ents.push { key := kv, val := a.eval x, born := clock }) (clock + 1)) _ rfl ?_ (by
            rw [hex]
            simp [Instr.mapUpdate, e1, e2, run_underlying' (mapT_eq hmt), hobj, keyEq_check hkk false w, hf, hsetObj])
          refine ⟨L, ents.push { key := kv, val := a.eval x, born := clock }, clock + 1, hL, by simp [Array.getElem?_setIfInBounds, hlb], q3, ?_, ?_, ?_⟩
          · rw [Array.toList_push]; exact q4.append rfl e3
          · intro e' he'
            rw [Array.toList_push, List.mem_append] at he'
            rcases he' with he' | he'
            · have := q5 e' he'; omega
            · simp at he'; subst he'; simp
          · rw [Array.toList_push, List.map_append, List.nodup_append]
            refine ⟨q6, by simp, fun a' ha' b' hb'' => ?_⟩
            simp at hb''; subst hb''
            obtain ⟨e', he', rfl⟩ := List.mem_map.1 ha'
            have := q5 e' he'; omega
        · rw [← q4.keys] at h2
          have hf := findKey_sound (P := P) (w := w) hu h2
          obtain ⟨e', g1, g2, g3⟩ := q4.get h1
          have g1' : ents[i]? = some e' := by rw [← Array.getElem?_toList]; exact g1
          refine fin (.map (ents.modify i fun e => { e with key := kv, val := a.eval x }) clock) _ rfl ?_ (by
            rw [hex]
            simp [Instr.mapUpdate, e1, e2, run_underlying' (mapT_eq hmt), hobj, keyEq_check hkk false w, hf, g1', Instr.keyThatStays, g2, h3, hsetObj])
          refine ⟨L, ents.modify i fun e => { e with key := kv, val := a.eval x }, clock, hL, by simp [Array.getElem?_setIfInBounds, hlb], q3, ?_, ?_, ?_⟩
          · rw [Array.toList_modify]; exact q4.set e3
          · intro e2' he2
            rw [Array.toList_modify] at he2
            obtain ⟨j, hj, rfl⟩ := List.getElem_of_mem he2
            rw [List.getElem_modify]
            rw [List.length_modify] at hj
            split
            · show (ents.toList[j]).born < clock
              exact q5 _ (List.getElem_mem _)
            · exact q5 _ (List.getElem_mem _)
          · rw [Array.toList_modify]
            have : (ents.toList.modify i fun e => { e with key := kv, val := a.eval x }).map (·.born) = ents.toList.map (·.born) := by
              apply List.ext_getElem?
              intro j
              rw [List.getElem?_map, List.getElem?_map, List.getElem?_modify]
              cases ents.toList[j]? <;> simp
              split <;> rfl
            rw [this]; exact q6
      · exact h.elim
    · exact h.elim
  · exact h.elim

theorem snd_mapUpdate (u xm k x) : Snd P C ⟨d, .mapUpdate u xm k x, t, p, af, g⟩ ev hp := fun K h =>
  snd_mapUpdate' (C := C) (d := d) (t := t) (p := p) (af := af) (g := g) (fun a w => by simp [execOp]) rfl h
theorem snd_insert (u xm k x) : Snd P C ⟨d, .insert u xm k x, t, p, af, g⟩ ev hp := fun K h =>
  snd_mapUpdate' (C := C) (d := d) (t := t) (p := p) (af := af) (g := g) (fun a w => by simp [execOp]) rfl h
end
end Go.Am
namespace Go.Am

section
variable {P : Program} {C : FuncId → List AV → List OB → AV → List OB → Prop}

theorem snd_all (hC : ∀ f args fp r fp', C f args fp r fp' → Contract P f args fp r fp') (o : Oper) (ev : Operand → AV) (hp : List OB) : Snd P C o ev hp := by
  obtain ⟨d, op, t, p, af, g⟩ := o
  cases op with
  | move x => exact snd_move x
  | assign x => exact snd_assign x
  | pick c a b => exact snd_pick c a b
  | alloc e => exact snd_alloc e
  | box e x => exact snd_box e x
  | build u ps => exact snd_build u ps
  | buildSlice u n ps => exact snd_buildSlice u n ps
  | load u x => exact snd_load u x
  | store u x y => exact snd_store u x y
  | nilCheck x => exact snd_nilCheck x
  | binOp op u x y z => exact snd_binOp op u x y z
  | unOp op u x => exact snd_unOp op u x
  | convert s dt x => exact snd_convert s dt x
  | makeInterface u x => exact snd_makeInterface u x
  | makeFunc fn first captured =>
    cases fn with
    | func f => exact snd_makeFunc f first captured
    | _ => exact fun K h => by simp [aop] at h
  | makeMap u r => exact snd_makeMap u r
  | makeSlice u l c => exact snd_makeSlice u l c
  | slice u x lo hi mx =>
    cases mx with
    | none => exact snd_slice u x lo hi
    | some _ => exact fun K h => by simp [aop] at h
  | fieldAddr u x f => exact snd_fieldAddr u x f
  | field u x f => exact snd_field u x f
  | indexAddr u x ix => exact snd_indexAddr u x ix
  | index u x ix => exact snd_index u x ix
  | lookup u x ix ok => exact snd_lookup u x ix ok
  | mapUpdate u m k x => exact snd_mapUpdate u m k x
  | insert u m k x => exact snd_insert u m k x
  | range u x => exact snd_range u x
  | next x s =>
    cases s with
    | true => exact snd_next x
    | false => exact fun K h => by simp [aop] at h
  | typeAssert x xt u ok => exact snd_typeAssert x xt u ok
  | extract x i => exact snd_extract x i
  | call c =>
    obtain ⟨callee, args, ty⟩ := c
    cases callee with
    | value f => exact snd_call hC f args ty
    | invoke r n => exact snd_invoke hC r n args ty
    | builtin b =>
      intro K h
      have h' := h
      simp only [aop] at h'
      split at h'
      · rename_i x hc ha
        cases hc
        have : args = #[x] := by apply Array.ext'; simpa using ha
        subst this; exact snd_len x ty K h
      · rename_i x y hc ha
        cases hc
        have : args = #[x, y] := by apply Array.ext'; simpa using ha
        subst this; exact snd_append x y ty K h
      · rename_i x y hc ha
        cases hc
        have : args = #[x, y] := by apply Array.ext'; simpa using ha
        subst this; exact snd_max x y ty K h
      · rename_i x y hc ha
        cases hc
        have : args = #[x, y] := by apply Array.ext'; simpa using ha
        subst this; exact snd_min x y ty K h
      · rename_i x y z hc ha
        cases hc
        have : args = #[x, y, z] := by apply Array.ext'; simpa using ha
        subst this; exact snd_max3 x y z ty K h
      · rename_i x y z hc ha
        cases hc
        have : args = #[x, y, z] := by apply Array.ext'; simpa using ha
        subst this; exact snd_min3 x y z ty K h
      · rename_i x hc ha
        cases hc
        have : args = #[x] := by apply Array.ext'; simpa using ha
        subst this; exact snd_unsafeSliceData x ty K h
      · rename_i x y hc ha
        cases hc
        have : args = #[x, y] := by apply Array.ext'; simpa using ha
        subst this; exact snd_unsafeString x y ty K h
      · contradiction
      · contradiction
      · exact h'.elim
  | _ => exact fun K h => by simp [aop] at h

/-- The frame is described. -/
def Frm (m : Mem) (β : Plc) (fr : List AV) (a : Act) : Prop := RelL m β fr a.tmps.toList ∧ a.defers = []

theorem Frm.mono {m m' : Mem} {β β' : Plc} {fr : List AV} {a : Act} (h : Frm m β fr a) (hm : Mem.le m m') (hβ : Plc.le β β') : Frm m' β' fr a := ⟨h.1.mono hm hβ, h.2⟩

theorem slot_get : ∀ (l : List AV) (n : Nat), slot l n = (l[n]?).getD .top
  | [], n => by simp [slot]
  | a :: l, 0 => by simp [slot]
  | a :: l, n + 1 => by simp [slot, slot_get l n]

theorem Frm.eval {m : Mem} {β : Plc} {fr : List AV} {a : Act} (h : Frm m β fr a) (x : Operand) : Rel m β (evalIn fr x) (a.eval x) := by
  cases x with
  | tmp n =>
    simp only [evalIn, Act.eval, slot_get]
    cases hx : fr[n]? with
    | none => simp [Rel]
    | some y =>
      obtain ⟨v, hv, hr⟩ := h.1.get hx
      rw [Array.getElem?_toList] at hv
      simp [Array.getD_eq_getD_getElem?, hv, hr]
  | const v => exact rel_constAV v
  | global g => simp [evalIn, Act.eval, Rel]
  | func f => simp only [evalIn, Act.eval, Rel]; exact ⟨[], rfl, by simp [RelL]⟩

theorem Frm.put {m : Mem} {β : Plc} {fr : List AV} {a : Act} (h : Frm m β fr a) (d : Option Tmp) {x : AV} {v : Value} (hx : Rel m β x v) : Frm m β (putDst fr d x) (a.put d v) := by
  cases d with
  | none => exact h
  | some n =>
    refine ⟨?_, h.2⟩
    simp only [putDst, Act.put]
    rw [Array.toList_setIfInBounds]
    exact h.1.set n hx

theorem setAll_append : ∀ (a b : List (Nat × OB)) (hp : List OB), setAll hp (a ++ b) = setAll (setAll hp a) b
  | [], _, _ => rfl
  | (x, o) :: a, b, hp => by simp [setAll, setAll_append a b]

theorem setAll_over : ∀ (l : List (Nat × OB)) (hp more : List OB), (∀ x ∈ l, x.1 < hp.length) → setAll (hp ++ more) l = setAll hp l ++ more
  | [], _, _, _ => rfl
  | (x, o) :: l, hp, more, h => by
    simp only [setAll]
    rw [List.set_append_left _ _ (h (x, o) (by simp)), setAll_over l _ more (fun y hy => by simpa using h y (by simp [hy]))]

theorem setAll_news : ∀ (n : List OB) (hp : List OB), setAll (hp ++ List.replicate n.length .fresh) (news hp.length n) = hp ++ n
  | [], hp => by simp [news, setAll]
  | o :: n, hp => by
    simp only [List.length_cons, List.replicate_succ, news, setAll]
    have : (hp ++ OB.fresh :: List.replicate n.length .fresh).set hp.length o = (hp ++ [o]) ++ List.replicate n.length .fresh := by
      rw [List.set_append_right _ _ (Nat.le_refl _)]; simp
    rw [this]
    have := setAll_news n (hp ++ [o])
    simp only [List.length_append, List.length_cons, List.length_nil] at this
    rw [this]; simp

/-- Names that are not yet used are free. -/
theorem State.extend {w0 : World} {m0 : Mem} {O : Nat → Prop} {m : Mem} {β : Plc} {w : World} {hp : List OB} (S : State w0 m0 O m β w hp) (n : Nat) : State w0 m0 O m β w (hp ++ List.replicate n OB.fresh) := by
  have hget : ∀ (b : Nat) (ob : OB), (hp ++ List.replicate n OB.fresh)[b]? = some ob → (hp[b]? = some ob) ∨ (ob = OB.fresh ∧ hp[b]? = none) := by
    intro b ob h
    rw [List.getElem?_append] at h
    split at h
    · exact .inl h
    · rename_i hlt
      rw [List.getElem?_replicate] at h
      split at h
      · cases h; exact .inr ⟨rfl, List.getElem?_eq_none (by omega)⟩
      · cases h
  have hlive : ∀ b, Live (hp ++ List.replicate n OB.fresh) b → Live hp b := fun b ⟨o, h1, h2⟩ => by
    rcases hget b o h1 with h | ⟨rfl, _⟩
    · exact ⟨o, h, h2⟩
    · exact h2.elim
  exact {
    agree := S.agree
    blocks := fun b ob h => by
      rcases hget b ob h with h1 | ⟨h1, h2⟩
      · exact S.blocks b ob h1
      · subst h1; exact S.out b h2
    inj := fun b b' L L' h h' => S.inj b b' L L' (hlive b h) (hlive b' h')
    out := fun b h => S.out b (by
      rw [List.getElem?_eq_none_iff] at h ⊢
      rw [List.length_append] at h; omega)
    size := S.size
    io := S.io
    keep := S.keep
    own := fun b L h => S.own b L (hlive b h) }

/-- Every write is to a block that there is. -/
theorem wanted_none {ops : Array Oper} {o : Oper} (h : o.guard = none) (a : Act) : Region.wanted o (yielded ops a.tmps) = true := by simp [Region.wanted, h]
end
end Go.Am
