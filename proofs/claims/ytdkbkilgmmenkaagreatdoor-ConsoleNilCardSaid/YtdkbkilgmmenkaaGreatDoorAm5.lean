/-
  The abstract machine is sound: regions in every order, code, contracts. (No statement of the claim's own is proved here.)
-/
import Derived.Test.YtdkbkilgmmenkaaGreatDoorAm4
set_option linter.all false
namespace Go.Am

/-- What stays the same throughout a call. -/
structure Ctx where
  w0 : World
  m0 : Mem
  O : Nat → Prop
  β0 : Plc

/-- A frame and a memory that an abstract state describes. -/
def OkSt (c : Ctx) (σ : AState) (a : Act) (w : World) : Prop :=
  ∃ m β, Mem.le c.m0 m ∧ Plc.le c.β0 β ∧ Frm m β σ.fr a ∧ State c.w0 c.m0 c.O m β w σ.hp

section
variable {P : Program} {C : FuncId → List AV → List OB → AV → List OB → Prop}

/-- One operation of a region's run: carried out, or passed over by its guard. -/
def StepOK (P : Program) (all : Array Oper) (o : Oper) (σ : AState) (e : Eff) : Prop :=
  ((o.guard = none ∨ ∃ j want d, o.guard = some (j, want) ∧ (all[j]?).bind (·.dst) = some d ∧ slot σ.fr d = .b want) ∧ OpSem P o (evalIn σ.fr) σ.hp σ.hp.length e) ∨
  (∃ j want d, o.guard = some (j, want) ∧ (all[j]?).bind (·.dst) = some d ∧ (slot σ.fr d = .b (!want) ∨ ∃ us, slot σ.fr d = .val (.tuple us)) ∧ e = { v := .val (.tuple #[]) })

def Steps' (P : Program) (all : Array Oper) : List Oper → AState → List Eff → Prop
  | [], _, es => es = []
  | o :: rest, σ, es => ∃ e es', es = e :: es' ∧ StepOK P all o σ e ∧ Steps' P all rest (σ.apply o.dst e) es'

def final : List Oper → AState → List Eff → AState
  | o :: rest, σ, e :: es => final rest (σ.apply o.dst e) es
  | _, σ, _ => σ

def feet : List Oper → AState → List Eff → Trace
  | o :: rest, σ, e :: es => foot σ.hp e :: feet rest (σ.apply o.dst e) es
  | _, _, _ => []

theorem set_slot_same {fr : List AV} {d : Nat} {x : AV} (h : slot fr d = x) (hx : x ≠ .top) : fr.set d x = fr := by
  rw [slot_get] at h
  cases hd : fr[d]? with
  | none => simp [hd] at h; exact absurd h.symm hx
  | some y =>
    simp [hd] at h
    subst h
    apply List.ext_getElem?
    intro i
    by_cases hi : d = i
    · subst hi
      rw [List.getElem?_set_self (by
        rcases Nat.lt_or_ge d fr.length with h' | h'
        · exact h'
        · rw [List.getElem?_eq_none h'] at hd; cases hd), hd]
    · rw [List.getElem?_set_ne hi]

theorem run_of_awpOps (hC : ∀ f args fp r fp', C f args fp r fp' → Contract P f args fp r fp') {all : Array Oper} {K : AState → Trace → Prop} : ∀ (rest : List Oper) (σ : AState) (tr : Trace), awpOps P C all rest K σ tr →
    ∃ es, Steps' P all rest σ es ∧ K (final rest σ es) (tr.reverse ++ feet rest σ es)
  | [], σ, tr, h => ⟨[], rfl, by simpa [final, feet, awpOps] using h⟩
  | o :: rest, σ, tr, h => by
    simp only [awpOps] at h
    split at h
    · rename_i hg
      obtain ⟨e, hK, hop⟩ := snd_all hC o _ _ _ h
      obtain ⟨es, h1, h2⟩ := run_of_awpOps hC rest _ _ hK
      refine ⟨e :: es, ⟨e, es, rfl, .inl ⟨.inl hg, hop⟩, h1⟩, ?_⟩
      simpa [final, feet, List.append_assoc] using h2
    · rename_i j want hg
      split at h
      · exact h.elim
      · rename_i d hd
        split at h
        · rename_i t ht
          obtain ⟨h1, h2⟩ := h
          by_cases htw : t = want
          · subst htw
            have h1 := h1 rfl
            rw [set_slot_same ht (by simp)] at h1
            obtain ⟨e, hK, hop⟩ := snd_all hC o _ _ _ h1
            obtain ⟨es, g1, g2⟩ := run_of_awpOps hC rest _ _ hK
            refine ⟨e :: es, ⟨e, es, rfl, .inl ⟨.inr ⟨j, t, d, hg, hd, ht⟩, hop⟩, g1⟩, ?_⟩
            simpa [final, feet, List.append_assoc] using g2
          · have htw' : t = !want := by cases t <;> cases want <;> simp_all
            subst htw'
            have h2 := h2 rfl
            rw [set_slot_same ht (by simp)] at h2
            obtain ⟨es, g1, g2⟩ := run_of_awpOps hC rest _ _ h2
            refine ⟨{ v := .val (.tuple #[]) } :: es, ⟨_, es, rfl, .inr ⟨j, want, d, hg, hd, .inl ht, rfl⟩, ?_⟩, ?_⟩
            · simpa [AState.apply, setAll] using g1
            · simpa [final, feet, foot, AState.apply, setAll, List.append_assoc] using g2
        · rename_i us ht
          obtain ⟨es, g1, g2⟩ := run_of_awpOps hC rest _ _ h
          refine ⟨{ v := .val (.tuple #[]) } :: es, ⟨_, es, rfl, .inr ⟨j, want, d, hg, hd, .inr ⟨us, ht⟩, rfl⟩, ?_⟩, ?_⟩
          · simpa [AState.apply, setAll] using g1
          · simpa [final, feet, foot, AState.apply, setAll, List.append_assoc] using g2
        · exact h.elim

/-- Whether an operation is carried out. -/
theorem wanted_of {all : Array Oper} {o : Oper} {m : Mem} {β : Plc} {fr : List AV} {a : Act} (hF : Frm m β fr a) {j d : Nat} {want t : Bool} (hg : o.guard = some (j, want)) (hd : (all[j]?).bind (·.dst) = some d) (hs : slot fr d = .b t) :
    Region.wanted o (yielded all a.tmps) = (t == want) := by
  have := hF.eval (.tmp d)
  simp only [evalIn, hs, Rel, Act.eval] at this
  have h1 : a.tmps[d]? = some (.bool t) := by
    rw [Array.getD_eq_getD_getElem?] at this
    cases h : a.tmps[d]? with
    | none => simp [h, undef] at this
    | some v => simp [h] at this; rw [this]
  simp only [Region.wanted, hg, yielded, hd, Option.bind_some, h1]
  cases t <;> cases want <;> rfl

theorem unwanted_of {all : Array Oper} {o : Oper} {m : Mem} {β : Plc} {fr : List AV} {a : Act} (hF : Frm m β fr a) {j d : Nat} {want : Bool} {us : Array Value} (hg : o.guard = some (j, want)) (hd : (all[j]?).bind (·.dst) = some d) (hs : slot fr d = .val (.tuple us)) :
    Region.wanted o (yielded all a.tmps) = false := by
  have := hF.eval (.tmp d)
  simp only [evalIn, hs, Rel, Act.eval] at this
  rw [Array.getD_eq_getD_getElem?] at this
  simp only [Region.wanted, hg, yielded, hd, Option.bind_some]
  cases h : a.tmps[d]? with
  | none => rfl
  | some v => simp [h] at this; rw [this]; rfl

/-- One step of a run, in the model. -/
theorem step_sound {all : Array Oper} {o : Oper} {σ : AState} {e : Eff} (h : StepOK P all o σ e) {i : Nat} (hi : all[i]? = some o) {c : Ctx} {fr : List AV} {hp : List OB} {m : Mem} {β : Plc} {a : Act} {w : World}
    (hm : Mem.le c.m0 m) (hβ : Plc.le c.β0 β) (hF : Frm m β fr a) (hS : State c.w0 c.m0 c.O m β w hp) (hops : ∀ t ∈ reads all o, slot fr t = slot σ.fr t) (hr : ∀ b ∈ e.r, hp[b]? = σ.hp[b]?) (hfr : ∀ j, j < e.n.length → hp[σ.hp.length + j]? = some .fresh)
    {Q : Exit → Act → World → Prop} {K : Act → World → Prop} (hK : ∀ a' w', OkSt c ⟨putDst fr o.dst e.v, setAll hp (e.w ++ news σ.hp.length e.n)⟩ a' w' → K a' w') : wpOp P all Q i K a w := by
  unfold wpOp
  rw [hi]
  simp only []
  have hslot : ∀ {j want d}, o.guard = some (j, want) → (all[j]?).bind (·.dst) = some d → slot fr d = slot σ.fr d := by
    intro j want d hg hd
    refine hops d ?_
    simp only [reads, List.mem_append]
    right; simp [hg, hd]
  rcases h with ⟨hg, _, hop⟩ | ⟨j, want, d, hg, hd, hs, rfl⟩
  · have hw : Region.wanted o (yielded all a.tmps) = true := by
      rcases hg with hg | ⟨j, want, d, hg, hd, hs⟩
      · exact wanted_none hg a
      · rw [wanted_of hF hg hd ((hslot hg hd).trans hs)]; simp
    rw [if_pos hw]
    left
    refine hop.2 c.w0 c.m0 c.O hp m β w a K Q (fun x hx => ?_) hS hr hfr (fun v w' m' β' h1 h2 h3 h4 => hK _ _ ⟨m', β', Mem.le_trans hm h1, Plc.le_trans hβ h2, (hF.mono h1 h2).put o.dst h3, h4⟩)
    have hev : evalIn fr x = evalIn σ.fr x := by
      cases x with
      | tmp t =>
        refine hops t ?_
        simp only [reads, List.mem_append, List.mem_filterMap]
        left; exact ⟨.tmp t, by simpa using hx, rfl⟩
      | _ => rfl
    rw [← hev]; exact hF.eval x
  · have hw : Region.wanted o (yielded all a.tmps) = false := by
      rcases hs with hs | ⟨us, hs⟩
      · rw [wanted_of hF hg hd ((hslot hg hd).trans hs)]; cases want <;> rfl
      · exact unwanted_of hF hg hd ((hslot hg hd).trans hs)
    rw [hw]
    simp only [Bool.false_eq_true, if_false]
    refine hK _ _ ⟨m, β, hm, hβ, hF.put o.dst (by simp [Rel, undef]), ?_⟩
    simpa [news, setAll] using hS

/-- The run in the text's order. -/
theorem ops_sound {all : Array Oper} {c : Ctx} {Q : Exit → Act → World → Prop} : ∀ (rest : List Oper) (k : Nat) (σ : AState) (es : List Eff), (∀ j, rest[j]? = all[k + j]?) → Steps' P all rest σ es →
    (∀ a w, OkSt c (final rest σ es) a w → Q .normal a w) → ∀ a w, OkSt c σ a w → wpOps P all Q (List.range' k rest.length) a w
  | [], k, σ, es, _, h, hQ, a, w, ho => by simp only [Steps'] at h; subst h; exact hQ a w ho
  | o :: rest, k, σ, es, hall, h, hQ, a, w, ho => by
    simp only [Steps'] at h
    obtain ⟨e, es', rfl, h1, h2⟩ := h
    obtain ⟨m, β, g1, g2, g3, g4⟩ := ho
    rw [List.length_cons, List.range'_succ, wpOps_cons]
    have hi : all[k]? = some o := by have := hall 0; simp at this; exact this.symm
    refine step_sound h1 hi g1 g2 g3 (g4.extend e.n.length) (fun _ _ => rfl) (fun b hb => ?_) (fun j hj => ?_) (fun a' w' h' => ?_)
    · rcases h1 with ⟨_, _, hrd, _⟩ | ⟨_, _, _, _, _, _, rfl⟩
      · rw [List.getElem?_append_left (hrd b hb)]
      · simp at hb
    · rw [List.getElem?_append_right (by omega), List.getElem?_replicate, if_pos (by omega)]
    · refine ops_sound rest (k + 1) (σ.apply o.dst e) es' (fun j => by have := hall (j + 1); simp at this; rw [this]; congr 1; omega) h2 hQ a' w' ?_
      have hk : ∀ x ∈ e.w, x.1 < σ.hp.length := by
        rcases h1 with ⟨_, hkeys, _⟩ | ⟨_, _, _, _, _, _, rfl⟩
        · exact hkeys
        · simp
      rw [setAll_append, setAll_over _ _ _ hk] at h'
      have hl : (setAll σ.hp e.w).length = σ.hp.length := setAll_length _ _
      rw [← hl, setAll_news] at h'
      exact h'
end
end Go.Am
namespace Go.Am

section
variable {P : Program} {all : Array Oper}

/-- The state behind the first 'i' operations in the text's order. -/
def stAt (rest : List Oper) (σ : AState) (es : List Eff) (i : Nat) : AState := final (rest.take i) σ (es.take i)

theorem steps_length : ∀ (rest : List Oper) (σ : AState) (es : List Eff), Steps' P all rest σ es → es.length = rest.length
  | [], _, _, h => by simp only [Steps'] at h; subst h; rfl
  | o :: rest, σ, es, h => by
    simp only [Steps'] at h
    obtain ⟨e, es', rfl, _, h⟩ := h
    simp [steps_length rest _ es' h]

theorem steps_get : ∀ (rest : List Oper) (σ : AState) (es : List Eff), Steps' P all rest σ es → ∀ i o, rest[i]? = some o → ∃ e, es[i]? = some e ∧ StepOK P all o (stAt rest σ es i) e ∧ stAt rest σ es (i + 1) = (stAt rest σ es i).apply o.dst e ∧
    (feet rest σ es)[i]? = some (foot (stAt rest σ es i).hp e)
  | [], _, _, _, i, o, h => by simp at h
  | o' :: rest, σ, es, h, i, o, hi => by
    simp only [Steps'] at h
    obtain ⟨e, es', rfl, h1, h2⟩ := h
    cases i with
    | zero =>
      simp at hi; subst hi
      exact ⟨e, rfl, h1, by simp [stAt, final], by simp [feet, stAt, final]⟩
    | succ i =>
      simp at hi
      obtain ⟨e', g1, g2, g3, g4⟩ := steps_get rest _ es' h2 i o hi
      refine ⟨e', by simpa using g1, ?_, ?_, ?_⟩
      · simpa [stAt, final] using g2
      · simpa [stAt, final] using g3
      · simpa [stAt, final, feet] using g4

theorem foot_keys (hp : List OB) (e : Eff) : (foot hp e).2 = (e.w ++ news hp.length e.n).map (·.1) := by
  simp [foot, news_keys]

/-- Where each write of a list goes does not hang on what was there. -/
theorem setAll_det {b : Nat} : ∀ (l : List (Nat × OB)) (hp hp' : List OB), b ∈ l.map (·.1) → hp.length = hp'.length → (setAll hp l)[b]? = (setAll hp' l)[b]?
  | [], _, _, h, _ => by simp at h
  | (c, o) :: l, hp, hp', h, hl => by
    simp only [setAll]
    by_cases hb : b ∈ l.map (·.1)
    · exact setAll_det l _ _ hb (by simpa using hl)
    · rw [setAll_out l _ hb, setAll_out l _ hb]
      simp only [List.map_cons, List.mem_cons] at h
      have hbc : b = c := h.resolve_right hb
      subst hbc
      by_cases hlt : b < hp.length
      · rw [List.getElem?_set_self hlt, List.getElem?_set_self (by omega)]
      · rw [List.getElem?_eq_none (by simpa using hlt), List.getElem?_eq_none (by simp; omega)]
end

/-- A region's run, by numbers. -/
structure Rgn (P : Program) (all : Array Oper) where
  σ0 : AState
  es : List Eff
  steps : Steps' P all all.toList σ0 es
  ok : drawOk all (feet all.toList σ0 es) = true

namespace Rgn
variable {P : Program} {all : Array Oper} (R : Rgn P all)

def st (i : Nat) : AState := stAt all.toList R.σ0 R.es i
def op (i : Nat) : Oper := all.toList.getD i default
def ef (i : Nat) : Eff := R.es.getD i { v := .top }
def wr (i : Nat) : List (Nat × OB) := (R.ef i).w ++ news (R.st i).hp.length (R.ef i).n
def n : Nat := all.size

theorem op_get {i : Nat} (h : i < all.size) : all[i]? = some (op (all := all) i) := by
  simp [op, List.getD, h]
theorem opl_get {i : Nat} (h : i < all.size) : all.toList[i]? = some (op (all := all) i) := by
  simp [op, List.getD, h]

theorem facts {i : Nat} (h : i < all.size) : R.es[i]? = some (R.ef i) ∧ StepOK P all (op (all := all) i) (R.st i) (R.ef i) ∧ R.st (i + 1) = (R.st i).apply (op (all := all) i).dst (R.ef i) ∧ (feet all.toList R.σ0 R.es)[i]? = some (foot (R.st i).hp (R.ef i)) := by
  obtain ⟨e, h1, h2, h3, h4⟩ := steps_get all.toList R.σ0 R.es R.steps i _ (opl_get h)
  have : R.ef i = e := by simp [ef, List.getD, h1]
  rw [this]
  exact ⟨h1, h2, h3, h4⟩

theorem keys {i : Nat} (h : i < all.size) : (∀ x ∈ (R.ef i).w, x.1 < (R.st i).hp.length) ∧ (∀ b ∈ (R.ef i).r, b < (R.st i).hp.length) := by
  rcases (R.facts h).2.1 with ⟨_, h1, h2, _⟩ | ⟨_, _, _, _, _, _, he⟩
  · exact ⟨h1, h2⟩
  · rw [he]; simp

theorem st_zero : R.st 0 = R.σ0 := by simp [st, stAt, final]
theorem len_succ {i : Nat} (h : i < all.size) : (R.st (i + 1)).hp.length = (R.st i).hp.length + (R.ef i).n.length := by
  rw [(R.facts h).2.2.1]; simp [AState.apply, setAll_length]
theorem len_mono {i j : Nat} (h : i ≤ j) (hj : j ≤ all.size) : (R.st i).hp.length ≤ (R.st j).hp.length := by
  induction j with
  | zero => have : i = 0 := by omega
            subst this; exact Nat.le_refl _
  | succ j ih =>
    by_cases he : i = j + 1
    · subst he; exact Nat.le_refl _
    · have := ih (by omega) (by omega)
      rw [R.len_succ (by omega)]; omega

/-- How many names the region takes. -/
def tot : Nat := (R.st all.size).hp.length - (R.st 0).hp.length

def frE (E : Nat → Bool) : Nat → List AV
  | 0 => R.σ0.fr
  | i + 1 => if E i then putDst (frE E i) (op (all := all) i).dst (R.ef i).v else frE E i
def hpE (E : Nat → Bool) : Nat → List OB
  | 0 => R.σ0.hp ++ List.replicate R.tot .fresh
  | i + 1 => if E i then setAll (hpE E i) (R.wr i) else hpE E i

theorem hpE_length (E : Nat → Bool) : ∀ i, (R.hpE E i).length = R.σ0.hp.length + R.tot
  | 0 => by simp [hpE]
  | i + 1 => by simp only [hpE]; split <;> simp [setAll_length, hpE_length E i]

theorem fr_full {E : Nat → Bool} : ∀ i, i ≤ all.size → (∀ j, j < i → E j = true) → R.frE E i = (R.st i).fr
  | 0, _, _ => by simp [frE, st_zero]
  | i + 1, hi, h => by
    simp only [frE]
    rw [if_pos (h i (by omega)), fr_full i (by omega) (fun j hj => h j (by omega)), (R.facts (by omega)).2.2.1]
    rfl
theorem hp_full {E : Nat → Bool} : ∀ i, i ≤ all.size → (∀ j, j < i → E j = true) → R.hpE E i = (R.st i).hp ++ List.replicate ((R.st all.size).hp.length - (R.st i).hp.length) .fresh
  | 0, _, _ => by simp [hpE, st_zero, tot]
  | i + 1, hi, h => by
    simp only [hpE]
    rw [if_pos (h i (by omega)), hp_full i (by omega) (fun j hj => h j (by omega)), wr, setAll_append]
    have hm := R.len_mono (i := i + 1) (j := all.size) hi (Nat.le_refl _)
    have hl := R.len_succ (i := i) (by omega)
    rw [setAll_over _ _ _ (R.keys (i := i) (by omega)).1]
    have hsplit : List.replicate ((R.st all.size).hp.length - (R.st i).hp.length) OB.fresh = List.replicate (R.ef i).n.length OB.fresh ++ List.replicate ((R.st all.size).hp.length - (R.st (i + 1)).hp.length) OB.fresh := by
      rw [List.replicate_append_replicate]; congr 1; omega
    rw [hsplit, ← List.append_assoc]
    have hlen : (setAll (R.st i).hp (R.ef i).w).length = (R.st i).hp.length := setAll_length _ _
    rw [← hlen, setAll_over _ _ _ (fun x hx => ?_), setAll_news, (R.facts (i := i) (by omega)).2.2.1]
    · rfl
    · have : x.1 ∈ (news (setAll (R.st i).hp (R.ef i).w).length (R.ef i).n).map (·.1) := List.mem_map.2 ⟨x, hx, rfl⟩
      rw [news_keys, List.mem_range'_1] at this
      simp; omega

theorem fr_agree {E E' : Nat → Bool} {t : Nat} : ∀ i, i ≤ all.size → (∀ j, j < i → (op (all := all) j).dst = some t → E j = E' j) → (R.frE E i)[t]? = (R.frE E' i)[t]?
  | 0, _, _ => rfl
  | i + 1, hi, h => by
    have ih := fr_agree i (by omega) (fun j hj => h j (by omega))
    have hlen : (R.frE E i).length = (R.frE E' i).length := by
      have key : ∀ (E : Nat → Bool) i, (R.frE E i).length = R.σ0.fr.length := by
        intro E i
        induction i with
        | zero => rfl
        | succ i ih => simp only [frE]; split
                       · unfold putDst; split <;> simp [ih]
                       · exact ih
      rw [key, key]
    simp only [frE]
    by_cases hd : (op (all := all) i).dst = some t
    · rw [← h i (by omega) hd]
      split
      · rw [hd]; simp only [putDst]
        rw [List.getElem?_set, List.getElem?_set, hlen, ih]
      · exact ih
    · have key : ∀ (fr : List AV) v, (putDst fr (op (all := all) i).dst v)[t]? = fr[t]? := by
        intro fr v
        unfold putDst
        split
        · rename_i d hd'
          rw [List.getElem?_set_ne (by rintro rfl; exact hd hd')]
        · rfl
      split <;> split <;> simp only [key, ih]

theorem hp_agree {E E' : Nat → Bool} {b : Nat} : ∀ i, i ≤ all.size → (∀ j, j < i → b ∈ (R.wr j).map (·.1) → E j = E' j) → (R.hpE E i)[b]? = (R.hpE E' i)[b]?
  | 0, _, _ => rfl
  | i + 1, hi, h => by
    have ih := hp_agree i (by omega) (fun j hj => h j (by omega))
    simp only [hpE]
    by_cases hd : b ∈ (R.wr i).map (·.1)
    · rw [← h i (by omega) hd]
      split
      · exact setAll_det _ _ _ hd (by rw [hpE_length, hpE_length])
      · exact ih
    · split <;> split <;> simp only [setAll_out _ _ hd, ih]

/-- One more operation is carried out: the frame. -/
theorem fr_more {E : Nat → Bool} {i : Nat} (hi : i < all.size) (hE : E i = false) (hlater : ∀ k, i < k → k < all.size → (∃ t, (op (all := all) k).dst = some t ∧ (op (all := all) i).dst = some t) → E k = false) :
    R.frE (fun j => E j || j == i) all.size = putDst (R.frE E all.size) (op (all := all) i).dst (R.ef i).v := by
  apply List.ext_getElem?
  intro t
  by_cases hd : (op (all := all) i).dst = some t
  · rw [hd]; simp only [putDst]
    have key : ∀ k, i + 1 ≤ k → k ≤ all.size → (R.frE (fun j => E j || j == i) k)[t]? = ((R.frE E k).set t (R.ef i).v)[t]? := by
      intro k hk hk'
      induction k with
      | zero => omega
      | succ k ih =>
        by_cases hki : k = i
        · subst hki
          simp only [frE, beq_self_eq_true, Bool.or_true, if_true, hE, Bool.false_eq_true, if_false, hd, putDst]
          have hlen : (R.frE (fun j => E j || j == k) k).length = (R.frE E k).length := by
            have key : ∀ (E : Nat → Bool) i, (R.frE E i).length = R.σ0.fr.length := by
              intro E i
              induction i with
              | zero => rfl
              | succ i ih => simp only [frE]; split
                             · unfold putDst; split <;> simp [ih]
                             · exact ih
            rw [key, key]
          by_cases hlt : t < (R.frE E k).length
          · rw [List.getElem?_set_self (by omega), List.getElem?_set_self hlt]
          · rw [List.getElem?_eq_none (by simp; omega), List.getElem?_eq_none (by simp; omega)]
        · have ih := ih (by omega) (by omega)
          have hb : (k == i) = false := by simpa using hki
          simp only [frE, hb, Bool.or_false]
          by_cases hdk : (op (all := all) k).dst = some t
          · rw [hlater k (by omega) (by omega) ⟨t, hdk, hd⟩]
            simpa using ih
          · have hput : ∀ (fr : List AV) v, (putDst fr (op (all := all) k).dst v)[t]? = fr[t]? := by
              intro fr v
              unfold putDst
              split
              · rename_i d hd'
                rw [List.getElem?_set_ne (by rintro rfl; exact hdk hd')]
              · rfl
            have hputs : ∀ (fr : List AV) v u, ((putDst fr (op (all := all) k).dst v).set t u)[t]? = (fr.set t u)[t]? := by
              intro fr v u
              have hl : (putDst fr (op (all := all) k).dst v).length = fr.length := by unfold putDst; split <;> simp
              by_cases hlt : t < fr.length
              · rw [List.getElem?_set_self (by omega), List.getElem?_set_self hlt]
              · rw [List.getElem?_eq_none (by simp; omega), List.getElem?_eq_none (by simp; omega)]
            split
            · rw [hput, hputs]; exact ih
            · exact ih
    exact key all.size (by omega) (Nat.le_refl _)
  · have hput : (putDst (R.frE E all.size) (op (all := all) i).dst (R.ef i).v)[t]? = (R.frE E all.size)[t]? := by
      unfold putDst
      split
      · rename_i d hd'
        rw [List.getElem?_set_ne (by rintro rfl; exact hd hd')]
      · rfl
    rw [hput]
    refine R.fr_agree all.size (Nat.le_refl _) fun j hj hdj => ?_
    have : j ≠ i := by rintro rfl; exact hd hdj
    simp [this]

/-- One more operation is carried out: the blocks. -/
theorem hp_more {E : Nat → Bool} {i : Nat} (hi : i < all.size) (hE : E i = false) (hlater : ∀ k, i < k → k < all.size → (∃ b, b ∈ (R.wr k).map (·.1) ∧ b ∈ (R.wr i).map (·.1)) → E k = false) :
    R.hpE (fun j => E j || j == i) all.size = setAll (R.hpE E all.size) (R.wr i) := by
  apply List.ext_getElem?
  intro b
  by_cases hd : b ∈ (R.wr i).map (·.1)
  · have key : ∀ k, i + 1 ≤ k → k ≤ all.size → (R.hpE (fun j => E j || j == i) k)[b]? = (setAll (R.hpE E k) (R.wr i))[b]? := by
      intro k hk hk'
      induction k with
      | zero => omega
      | succ k ih =>
        by_cases hki : k = i
        · subst hki
          simp only [hpE, beq_self_eq_true, Bool.or_true, if_true, hE, Bool.false_eq_true, if_false]
          exact setAll_det _ _ _ hd (by rw [hpE_length, hpE_length])
        · have ih := ih (by omega) (by omega)
          have hb : (k == i) = false := by simpa using hki
          simp only [hpE, hb, Bool.or_false]
          by_cases hdk : b ∈ (R.wr k).map (·.1)
          · rw [hlater k (by omega) (by omega) ⟨b, hdk, hd⟩]
            simpa using ih
          · split
            · rw [setAll_out _ _ hdk, ih]
              exact setAll_det _ _ _ hd (by rw [setAll_length])
            · exact ih
    exact key all.size (by omega) (Nat.le_refl _)
  · rw [setAll_out _ _ hd]
    refine R.hp_agree all.size (Nat.le_refl _) fun j hj hdj => ?_
    have : j ≠ i := by rintro rfl; exact hd hdj
    simp [this]

/-- What must come first has come. -/
def Down (all : Array Oper) (E : Nat → Bool) : Prop := ∀ i o, all[i]? = some o → E i = true → ∀ e ∈ o.after, Region.binds .any e = true → E e.on = true

theorem ahead_down {E : Nat → Bool} (hd : Down all E) : ∀ (l : List Oper) (acc : List (List Nat)), (∀ j, l[j]? = all[acc.length + j]?) → (∀ i js, acc[i]? = some js → E i = true → ∀ j ∈ js, E j = true) →
    ∀ i js, (aheadGo l acc)[i]? = some js → E i = true → ∀ j ∈ js, E j = true
  | [], acc, _, h, i, js, hi => h i js (by simpa [aheadGo] using hi)
  | o :: l, acc, hl, h, i, js, hi => by
    simp only [aheadGo] at hi
    refine ahead_down hd l _ (fun j => ?_) (fun i js hi hE j hj => ?_) i js hi
    · have := hl (j + 1)
      simp only [List.getElem?_cons_succ] at this
      rw [this, List.length_append]; congr 1; simp; omega
    · rw [List.getElem?_append] at hi
      split at hi
      · exact h i js hi hE j hj
      · rename_i hlt
        have hia : i = acc.length := by
          rcases Nat.lt_or_ge acc.length i with h' | h'
          · rw [List.getElem?_eq_none (by simp; omega)] at hi; cases hi
          · omega
        subst hia
        simp at hi
        subst hi
        have ho : all[acc.length]? = some o := by have := hl 0; simp at this; exact this.symm
        simp only [List.mem_flatMap, List.mem_filter] at hj
        obtain ⟨e, ⟨he, hb⟩, hj⟩ := hj
        have heon := hd _ o ho hE e (by simpa using he) hb
        simp only [List.mem_cons] at hj
        rcases hj with rfl | hj
        · exact heon
        · cases hg : acc[e.on]? with
          | none => simp [hg] at hj
          | some js' => simp [hg] at hj; exact h _ js' hg heon j hj

theorem disj_spec {a b : List Nat} (h : disj a b = true) {x : Nat} (h1 : x ∈ a) (h2 : x ∈ b) : False := by
  unfold disj at h
  rw [List.all_eq_true] at h
  have := h x h1
  simp at this
  exact this h2

theorem ok_spec : (∀ i, i < all.size → ∀ e ∈ (op (all := all) i).after, Region.binds .any e = true → e.on < i) ∧
    (∀ i j, j < i → i < all.size → (∃ js, (aheadGo all.toList [])[i]? = some js ∧ j ∈ js) ∨ apart all (op (all := all) i) (op (all := all) j) (foot (R.st i).hp (R.ef i)) (foot (R.st j).hp (R.ef j)) = true) := by
  have h := R.ok
  unfold drawOk at h
  simp only [List.all_eq_true] at h
  have hz : ∀ i, i < all.size → (op (all := all) i, i) ∈ all.toList.zipIdx := fun i hi => by
    rw [List.mem_zipIdx_iff_getElem?]
    exact opl_get hi
  constructor
  · intro i hi e he hb
    have := h _ (hz i hi)
    simp only [Bool.and_eq_true] at this
    have := this.1
    rw [Array.all_eq_true_iff_forall_mem] at this
    have := this e he
    simp [hb] at this
    exact this
  · intro i j hj hi
    have := h _ (hz i hi)
    simp only [Bool.and_eq_true, List.all_eq_true] at this
    have := this.2 _ (hz j (by omega))
    simp only [Bool.or_eq_true, decide_eq_true_eq] at this
    rcases this with (this | this) | this
    · omega
    · left
      simp only [List.getD] at this
      cases hg : (aheadGo all.toList [])[i]? with
      | none => simp [hg] at this
      | some js => simp [hg] at this; exact ⟨js, rfl, this⟩
    · right
      have e1 : (feet all.toList R.σ0 R.es).getD i ([], []) = foot (R.st i).hp (R.ef i) := by simp [List.getD, (R.facts hi).2.2.2]
      have e2 : (feet all.toList R.σ0 R.es).getD j ([], []) = foot (R.st j).hp (R.ef j) := by simp [List.getD, (R.facts (i := j) (by omega)).2.2.2]
      rw [e1, e2] at this; exact this

variable {c : Ctx} {Q : Exit → Act → World → Prop}

theorem go (hQ : ∀ a w, OkSt c (R.st all.size) a w → Q .normal a w) : ∀ (fuel : Nat) (listed : Array Bool) (a : Act) (w : World), listed.size = all.size → fuel + listed.toList.countP (· == true) = all.size → Down all (fun i => listed.getD i false) →
    OkSt c ⟨R.frE (fun i => listed.getD i false) all.size, R.hpE (fun i => listed.getD i false) all.size⟩ a w → wpAny P .any all Q fuel listed a w := by
  have hok := R.ok_spec
  have hdone : ∀ (listed : Array Bool) (a : Act) (w : World), (∀ i, i < all.size → listed.getD i false = true) → OkSt c ⟨R.frE (fun i => listed.getD i false) all.size, R.hpE (fun i => listed.getD i false) all.size⟩ a w → Q .normal a w := by
    intro listed a w hall ho
    refine hQ a w ?_
    rw [R.fr_full all.size (Nat.le_refl _) (fun j hj => hall j hj), R.hp_full all.size (Nat.le_refl _) (fun j hj => hall j hj)] at ho
    simpa using ho
  have hstuck : ∀ (listed : Array Bool), listed.size = all.size → Region.ready .any all listed = [] → ∀ i, i < all.size → listed.getD i false = true := by
    intro listed hs hr i
    induction i using Nat.strongRecOn with
    | _ i ih =>
      intro hi
      cases hl : listed.getD i false with
      | true => rfl
      | false =>
        exfalso
        have : i ∈ Region.ready .any all listed := by
          rw [mem_ready]
          refine ⟨?_, op (all := all) i, op_get hi, fun e he hb => ?_⟩
          · simp only [Array.getD_eq_getD_getElem?] at hl ⊢
            rw [Array.getElem?_eq_getElem (by omega)] at hl ⊢
            exact hl
          · have := hok.1 i hi e he hb
            exact ih e.on this (by omega)
        rw [hr] at this; cases this
  have hstep : ∀ (listed : Array Bool) (a : Act) (w : World) (K : Act → World → Prop) (i : Nat), listed.size = all.size → Down all (fun i => listed.getD i false) → i ∈ Region.ready .any all listed →
      OkSt c ⟨R.frE (fun i => listed.getD i false) all.size, R.hpE (fun i => listed.getD i false) all.size⟩ a w →
      (∀ a w, OkSt c ⟨R.frE (fun j => listed.getD j false || j == i) all.size, R.hpE (fun j => listed.getD j false || j == i) all.size⟩ a w → K a w) → wpOp P all Q i K a w := by
    intro listed a w K i hs hd hi ho hK
    rw [mem_ready] at hi
    obtain ⟨hli, o, hoi, hedges⟩ := hi
    have hin : i < all.size := (Array.getElem?_eq_some_iff.1 hoi).1
    have hop : op (all := all) i = o := by have := op_get hin; rw [hoi] at this; cases this; rfl
    have hE : listed.getD i false = false := by
      simp only [Array.getD_eq_getD_getElem?] at hli ⊢
      rw [Array.getElem?_eq_getElem (by omega)] at hli ⊢
      exact hli
    have hah : ∀ k js, (aheadGo all.toList [])[k]? = some js → listed.getD k false = true → ∀ j ∈ js, listed.getD j false = true :=
      ahead_down (E := fun k => listed.getD k false) hd all.toList [] (by simp) (by simp)
    -- an operation ahead of i has been carried out; one behind i has not
    have hbefore : ∀ j, j < i → (∃ js, (aheadGo all.toList [])[i]? = some js ∧ j ∈ js) → listed.getD j false = true := by
      intro j hj ⟨js, h1, h2⟩
      have hdown' : Down all (fun k => listed.getD k false || k == i) := by
        intro k p hk hkE e he hb
        by_cases hki : k = i
        · subst hki; rw [hoi] at hk; cases hk; simp [hedges e he hb]
        · have : listed.getD k false = true := by
            have h9 : (k == i) = false := by simpa using hki
            simpa only [h9, Bool.or_false] using hkE
          simp [hd k p hk this e he hb]
      have := ahead_down hdown' all.toList [] (by simp) (by simp) i js h1 (by simp) j h2
      have hji : (j == i) = false := by simp; omega
      simpa only [hji, Bool.or_false] using this
    have hafter : ∀ k, i < k → k < all.size → (∃ js, (aheadGo all.toList [])[k]? = some js ∧ i ∈ js) → listed.getD k false = false := by
      intro k hk hkn ⟨js, h1, h2⟩
      cases hl : listed.getD k false with
      | false => rfl
      | true => have := hah k js h1 hl i h2; rw [hE] at this; cases this
    obtain ⟨m, β, g1, g2, g3, g4⟩ := ho
    have hst := (R.facts hin).2.1
    rw [hop] at hst
    have hwk : ∀ j, (foot (R.st j).hp (R.ef j)).2 = (R.wr j).map (·.1) := fun j => foot_keys _ _
    refine step_sound hst hoi g1 g2 g3 g4 (fun t ht => ?_) (fun b hb => ?_) (fun j hj => ?_) (fun a' w' h' => hK a' w' ?_)
    · -- a slot that i reads
      rw [slot_get, slot_get]
      congr 1
      have hE' := R.fr_full (E := fun j => decide (j < i)) i (by omega) (fun j hj => by simp [hj])
      have hrest : R.frE (fun j => decide (j < i)) all.size = R.frE (fun j => decide (j < i)) i := by
        have : ∀ k, i ≤ k → k ≤ all.size → R.frE (fun j => decide (j < i)) k = R.frE (fun j => decide (j < i)) i := by
          intro k hk
          induction k with
          | zero => intro _; have : i = 0 := by omega
                    subst this; rfl
          | succ k ih =>
            intro hk'
            by_cases h : i = k + 1
            · subst h; rfl
            · simp only [frE]
              rw [if_neg (by simp; omega)]; exact ih (by omega) (by omega)
        exact this all.size (by omega) (Nat.le_refl _)
      rw [← hE', ← hrest]
      refine R.fr_agree all.size (Nat.le_refl _) fun j hj hdj => ?_
      show listed.getD j false = decide (j < i)
      rcases Nat.lt_trichotomy j i with h | h | h
      · rcases hok.2 i j h hin with h1 | h1
        · rw [hbefore j h h1]; simp [h]
        · exfalso
          unfold apart at h1
          simp only [Bool.and_eq_true] at h1
          exact disj_spec (x := t) h1.1.1.1.1.2 (by rw [hdj]; simp) (by rw [hop]; exact ht)
      · subst h; simp [hE]
      · rcases hok.2 j i h hj with h1 | h1
        · rw [hafter j h hj h1]; simp; omega
        · exfalso
          unfold apart at h1
          simp only [Bool.and_eq_true] at h1
          exact disj_spec (x := t) h1.1.1.1.1.1 (by rw [hdj]; simp) (by rw [hop]; exact ht)
    · -- a block that i reads
      have hlt : b < (R.st i).hp.length := (R.keys hin).2 b hb
      have hE' := R.hp_full (E := fun j => decide (j < i)) i (by omega) (fun j hj => by simp [hj])
      have hrest : R.hpE (fun j => decide (j < i)) all.size = R.hpE (fun j => decide (j < i)) i := by
        have : ∀ k, i ≤ k → k ≤ all.size → R.hpE (fun j => decide (j < i)) k = R.hpE (fun j => decide (j < i)) i := by
          intro k hk
          induction k with
          | zero => intro _; have : i = 0 := by omega
                    subst this; rfl
          | succ k ih =>
            intro hk'
            by_cases h : i = k + 1
            · subst h; rfl
            · simp only [hpE]
              rw [if_neg (by simp; omega)]; exact ih (by omega) (by omega)
        exact this all.size (by omega) (Nat.le_refl _)
      have : (R.hpE (fun i => listed.getD i false) all.size)[b]? = (R.hpE (fun j => decide (j < i)) all.size)[b]? := by
        refine R.hp_agree all.size (Nat.le_refl _) fun j hj hdj => ?_
        show listed.getD j false = decide (j < i)
        rcases Nat.lt_trichotomy j i with h | h | h
        · rcases hok.2 i j h hin with h1 | h1
          · rw [hbefore j h h1]; simp [h]
          · exfalso
            unfold apart at h1
            simp only [Bool.and_eq_true] at h1
            exact disj_spec h1.2 (by rw [hwk]; exact hdj) hb
        · subst h; simp [hE]
        · rcases hok.2 j i h hj with h1 | h1
          · rw [hafter j h hj h1]; simp; omega
          · exfalso
            unfold apart at h1
            simp only [Bool.and_eq_true] at h1
            exact disj_spec h1.1.1.2 (by rw [hwk]; exact hdj) hb
      rw [this, hrest, hE', List.getElem?_append_left hlt]
    · -- the names that i takes are free
      have hlen := R.len_succ hin
      have hmono := R.len_mono (i := i + 1) (j := all.size) (by omega) (Nat.le_refl _)
      have hE' := R.hp_full (E := fun j => decide (j < i)) i (by omega) (fun j hj => by simp [hj])
      have hrest : R.hpE (fun j => decide (j < i)) all.size = R.hpE (fun j => decide (j < i)) i := by
        have : ∀ k, i ≤ k → k ≤ all.size → R.hpE (fun j => decide (j < i)) k = R.hpE (fun j => decide (j < i)) i := by
          intro k hk
          induction k with
          | zero => intro _; have : i = 0 := by omega
                    subst this; rfl
          | succ k ih =>
            intro hk'
            by_cases h : i = k + 1
            · subst h; rfl
            · simp only [hpE]
              rw [if_neg (by simp; omega)]; exact ih (by omega) (by omega)
        exact this all.size (by omega) (Nat.le_refl _)
      have hmem : (R.st i).hp.length + j ∈ (R.wr i).map (·.1) := by
        unfold wr
        rw [List.map_append, List.mem_append]
        right; rw [news_keys, List.mem_range'_1]; omega
      have : (R.hpE (fun i => listed.getD i false) all.size)[(R.st i).hp.length + j]? = (R.hpE (fun j => decide (j < i)) all.size)[(R.st i).hp.length + j]? := by
        refine R.hp_agree all.size (Nat.le_refl _) fun k hk hdk => ?_
        show listed.getD k false = decide (k < i)
        rcases Nat.lt_trichotomy k i with h | h | h
        · rcases hok.2 i k h hin with h1 | h1
          · rw [hbefore k h h1]; simp [h]
          · exfalso
            unfold apart at h1
            simp only [Bool.and_eq_true] at h1
            exact disj_spec h1.1.2 (by rw [hwk]; exact hmem) (by rw [hwk]; exact hdk)
        · subst h; simp [hE]
        · rcases hok.2 k i h hk with h1 | h1
          · rw [hafter k h hk h1]; simp; omega
          · exfalso
            unfold apart at h1
            simp only [Bool.and_eq_true] at h1
            exact disj_spec h1.1.2 (by rw [hwk]; exact hdk) (by rw [hwk]; exact hmem)
      rw [this, hrest, hE', List.getElem?_append_right (by omega), List.getElem?_replicate, if_pos (by omega)]
    · have e1 := R.fr_more hin hE (fun k hk hkn ⟨t, ht1, ht2⟩ => by
        rcases hok.2 k i hk hkn with h1 | h1
        · exact hafter k hk hkn h1
        · exfalso
          unfold apart at h1
          simp only [Bool.and_eq_true] at h1
          exact disj_spec (x := t) h1.1.1.1.2 (by rw [ht1]; simp) (by rw [ht2]; simp))
      have e2 := R.hp_more hin hE (fun k hk hkn ⟨b, hb1, hb2⟩ => by
        rcases hok.2 k i hk hkn with h1 | h1
        · exact hafter k hk hkn h1
        · exfalso
          unfold apart at h1
          simp only [Bool.and_eq_true] at h1
          exact disj_spec h1.1.2 (by rw [hwk]; exact hb1) (by rw [hwk]; exact hb2))
      rw [e1, e2, hop]
      exact h'
  intro fuel
  induction fuel with
  | zero =>
    intro listed a w hs hc hd ho
    have hall : ∀ i, i < all.size → listed.getD i false = true := by
      intro i hi
      have hc' : listed.toList.countP (· == true) = listed.toList.length := by rw [Array.length_toList (xs := listed)]; omega
      rw [List.countP_eq_length] at hc'
      have := hc' (listed[i]'(by omega)) (by simp)
      simp only [Array.getD_eq_getD_getElem?]
      rw [Array.getElem?_eq_getElem (by omega)]
      simpa using this
    refine ⟨?_, hdone listed a w hall ho⟩
    apply List.eq_nil_iff_forall_not_mem.2
    intro i hi
    rw [mem_ready] at hi
    obtain ⟨h1, o, h2, _⟩ := hi
    have hin : i < all.size := (Array.getElem?_eq_some_iff.1 h2).1
    have := hall i hin
    simp only [Array.getD_eq_getD_getElem?] at h1 this
    rw [Array.getElem?_eq_getElem (by omega)] at h1 this
    simp_all
  | succ fuel ih =>
    intro listed a w hs hc hd ho
    refine ⟨fun hr => hdone listed a w (hstuck listed hs hr) ho, fun i hi => hstep listed a w _ i hs hd hi ho fun a' w' ho' => ?_⟩
    rw [mem_ready] at hi
    obtain ⟨h1, o, h2, h3⟩ := hi
    have hin : i < all.size := (Array.getElem?_eq_some_iff.1 h2).1
    have hget : ∀ j, (listed.setIfInBounds i true).getD j false = (listed.getD j false || j == i) := by
      intro j
      by_cases hji : j = i
      · subst hji; simp [hs, hin]
      · have : (j == i) = false := by simpa using hji
        rw [this, Bool.or_false]
        exact getD_set_ne false (Ne.symm hji)
    have hEi : listed.toList[i]? = some false := by
      simp only [Array.getD_eq_getD_getElem?] at h1
      rw [Array.getElem?_eq_getElem (by omega)] at h1
      rw [Array.getElem?_toList, Array.getElem?_eq_getElem (by omega)]
      simpa using h1
    have hcount : ∀ (l : List Bool) (i : Nat), l[i]? = some false → (l.set i true).countP (· == true) = l.countP (· == true) + 1 := by
      intro l
      induction l with
      | nil => intro i h; simp at h
      | cons x l ih =>
        intro i h
        cases i with
        | zero => simp at h; subst h; simp [List.countP_cons]
        | succ i => simp at h; simp only [List.set_cons_succ, List.countP_cons, ih i h]; omega
    refine ih (listed.setIfInBounds i true) a' w' (by simpa using hs) ?_ ?_ ?_
    · rw [Array.toList_setIfInBounds, hcount _ _ hEi]; omega
    · intro k p hk hkE e he hb
      simp only [hget] at hkE ⊢
      by_cases hki : k = i
      · subst hki; rw [h2] at hk; cases hk; simp [h3 e he hb]
      · have h9 : (k == i) = false := by simpa using hki
        rw [h9, Bool.or_false] at hkE
        simp [hd k p hk hkE e he hb]
    · have : (fun j => (listed.setIfInBounds i true).getD j false) = (fun j => listed.getD j false || j == i) := funext hget
      rw [this]; exact ho'
end Rgn
end Go.Am
namespace Go.Am

theorem mask_get (F : List Nat) (hp : List OB) (b : Nat) : (mask F hp)[b]? = (hp[b]?).map fun o => if F.contains b then o else .dead := by
  unfold mask
  rw [List.getElem?_map, List.getElem?_zipIdx]
  cases hp[b]? <;> simp
theorem unmask_get (F : List Nat) (n : Nat) (hp : List OB) (b : Nat) : (unmask F n hp)[b]? = (hp[b]?).map fun o => if F.contains b then .dead else o.res n (mask F hp) := by
  unfold unmask
  rw [List.getElem?_map, List.getElem?_zipIdx]
  cases hp[b]? <;> simp

theorem Live.of_mask {F : List Nat} {hp : List OB} {b : Nat} (h : Live (mask F hp) b) : Live hp b ∧ F.contains b = true := by
  obtain ⟨o, h1, h2⟩ := h
  rw [mask_get] at h1
  cases hb : hp[b]? with
  | none => rw [hb] at h1; cases h1
  | some ob =>
    rw [hb] at h1
    simp only [Option.map_some, Option.some.injEq] at h1
    by_cases hF : F.contains b = true
    · rw [if_pos hF] at h1; subst h1; exact ⟨⟨ob, hb, h2⟩, hF⟩
    · rw [if_neg hF] at h1; subst h1; exact h2.elim

theorem Live.of_unmask {F : List Nat} {n : Nat} {hp : List OB} {b : Nat} (h : Live (unmask F n hp) b) : Live hp b ∧ ¬ F.contains b = true := by
  obtain ⟨o, h1, h2⟩ := h
  rw [unmask_get] at h1
  cases hb : hp[b]? with
  | none => rw [hb] at h1; cases h1
  | some ob =>
    rw [hb] at h1
    simp only [Option.map_some, Option.some.injEq] at h1
    by_cases hF : F.contains b = true
    · rw [if_pos hF] at h1; subst h1; exact h2.elim
    · rw [if_neg hF] at h1; subst h1
      refine ⟨⟨ob, hb, ?_⟩, hF⟩
      cases ob <;> simp_all [OB.res]

section
variable {w0 : World} {m0 : Mem} {O : Nat → Prop} {m m2 : Mem} {β : Plc} {w : World} {hp : List OB}

theorem State.mask (S : State w0 m0 O m β w hp) (F : List Nat) : State w0 m0 O m β w (mask F hp) where
  agree := S.agree
  blocks b ob h := by
    rw [mask_get] at h
    cases hb : hp[b]? with
    | none => rw [hb] at h; cases h
    | some o =>
      rw [hb] at h
      simp only [Option.map_some, Option.some.injEq] at h
      split at h
      · subst h; exact S.blocks b _ hb
      · subst h; trivial
  inj b b' L L' h h' := S.inj b b' L L' h.of_mask.1 h'.of_mask.1
  out b h := S.out b (by rw [mask_get] at h; cases hb : hp[b]? with | none => rfl | some o => rw [hb] at h; cases h)
  size := S.size
  io := S.io
  keep := S.keep
  own b L h := S.own b L h.of_mask.1

theorem res_rows {hp₁ : List OB} (S : State w0 m0 O m β w hp₁) (hle : Mem.le m m2) (hall : ∀ b L, Live hp₁ b → β b = some L → m2 L.blk = w.heap[L.blk]?) (n : Nat) {k : Nat} {rows : List (List AV)} {vs : List Value} (h : RelRows m β k rows vs) :
    RelRows m2 β k (rows.map (·.map (res n hp₁))) vs := by
  refine RelRows.of_get fun i r hr => ?_
  obtain ⟨r0, hr0, rfl⟩ := map_get hr
  obtain ⟨⟨g1, g2⟩, g3⟩ := h.get hr0
  refine ⟨⟨by simpa using g1, ?_⟩, ?_⟩
  · rw [List.all_eq_true] at g2 ⊢
    intro y hy
    obtain ⟨x, hx, rfl⟩ := List.mem_map.1 hy
    exact one_res n hp₁ x (g2 x hx)
  · refine RelL.of_get (by simpa using g3.length) fun i y u hy hu => ?_
    obtain ⟨x, hx, rfl⟩ := map_get hy
    obtain ⟨u', hu', hr⟩ := g3.get hx
    rw [hu] at hu'; cases hu'
    exact res_rel S hle hall (fun _ _ => rfl) n x u hr

theorem res_map {hp₁ : List OB} (S : State w0 m0 O m β w hp₁) (hle : Mem.le m m2) (hall : ∀ b L, Live hp₁ b → β b = some L → m2 L.blk = w.heap[L.blk]?) (n : Nat) : ∀ {es : List (Value × AV)} {vs : List MapEntry} (_ : MapRel m β es vs),
    MapRel m2 β (es.map fun e => (e.1, res n hp₁ e.2)) vs
  | [], _, h => h
  | (k, x) :: l, vs, h => by
    obtain ⟨e, es', h1, h2, h3, h4⟩ := h
    exact ⟨e, es', h1, h2, res_rel S hle hall (fun _ _ => rfl) n x _ h3, res_map S hle hall n h4⟩

theorem OkSt.weaker {c : Ctx} {q : Nat} {σ σ' : AState} {a : Act} (h : OkSt c σ a w) (hq : ∀ b L, c.β0 b = some L → b < q) (hw : Weaker q σ σ') : OkSt c σ' a w := by
  obtain ⟨m, β, h1, h2, h3, h4⟩ := h
  cases hw with
  | freeze F n fr hp =>
    simp only at h3 h4
    let A : Nat → Prop := fun B => ∃ b L, Live (Am.mask F hp) b ∧ β b = some L ∧ L.blk = B
    let m2 : Mem := fun B => if (Classical.propDecidable (A B)).decide then w.heap[B]? else m B
    have hin : ∀ B, A B → m2 B = w.heap[B]? := fun B hB => by
      show (if _ then _ else _) = _
      rw [if_pos (by simpa using hB)]
    have hout : ∀ B, ¬ A B → m2 B = m B := fun B hB => by
      show (if _ then _ else _) = _
      rw [if_neg (by simpa using hB)]
    have hle : Mem.le m m2 := fun B o ho => by
      by_cases hB : A B
      · rw [hin B hB]; exact h4.agree B o ho
      · rw [hout B hB]; exact ho
    have SM := h4.mask F
    have hall : ∀ b L, Live (Am.mask F hp) b → β b = some L → m2 L.blk = w.heap[L.blk]? := fun b L h h' => hin _ ⟨b, L, h, h', rfl⟩
    have hfree : ∀ b L, Live hp b → ¬ F.contains b = true → β b = some L → ¬ A L.blk := by
      rintro b L hl hF hL ⟨b', L', g1, g2, g3⟩
      have := h4.inj b b' L L' hl g1.of_mask.1 hL g2 g3.symm
      subst this
      exact hF g1.of_mask.2
    refine ⟨m2, β, Mem.le_trans h1 hle, h2, ⟨?_, h3.2⟩, ?_⟩
    · refine RelL.of_get (by simpa using h3.1.length) fun i y u hy hu => ?_
      obtain ⟨x, hx, rfl⟩ := map_get hy
      obtain ⟨u', hu', hr⟩ := h3.1.get hx
      rw [hu] at hu'; cases hu'
      exact res_rel SM hle hall (fun _ _ => rfl) n x u hr
    · exact {
        agree := fun B o ho => by
          by_cases hB : A B
          · rw [hin B hB] at ho; exact ho
          · rw [hout B hB] at ho; exact h4.agree B o ho
        blocks := fun b ob hb => by
          rw [unmask_get] at hb
          cases hb' : hp[b]? with
          | none => rw [hb'] at hb; cases hb
          | some o =>
            rw [hb'] at hb
            simp only [Option.map_some, Option.some.injEq] at hb
            have h0 := h4.blocks b o hb'
            split at hb
            · subst hb; trivial
            · rename_i hF
              subst hb
              cases o with
              | fresh => exact h0
              | dead => trivial
              | siter s p =>
                obtain ⟨L, g1, g2, g3⟩ := h0
                exact ⟨L, g1, g2, (hout _ (hfree b L (Live.of_siter hb') hF g1)).trans g3⟩
              | cells e k rows =>
                obtain ⟨L, c', fz, g1, g2, g3, g4, g5, g6, g7, g8, g9⟩ := h0
                exact ⟨L, c', fz, g1, g2, g3, g4, g5, g6, by simpa using g7, (hout _ (hfree b L (Live.of_cells hb') hF g1)).trans g8, res_rows SM hle hall n g9⟩
              | map es =>
                obtain ⟨L, ents, clock, g1, g2, g3, g4, g5⟩ := h0
                exact ⟨L, ents, clock, g1, g2, (hout _ (hfree b L (Live.of_map hb') hF g1)).trans g3, res_map SM hle hall n g4, g5⟩
        inj := fun b b' L L' h h' => h4.inj b b' L L' h.of_unmask.1 h'.of_unmask.1
        out := fun b h => h4.out b (by rw [unmask_get] at h; cases hb : hp[b]? with | none => rfl | some o => rw [hb] at h; cases h)
        size := h4.size
        io := h4.io
        keep := fun B hB hO => by
          have := h4.keep B hB hO
          refine ⟨this.1, ?_⟩
          rw [hout B ?_]
          · exact this.2
          · rintro ⟨b, L, g1, g2, rfl⟩
            rcases h4.own b L g1.of_mask.1 g2 with g | g
            · omega
            · exact hO g
        own := fun b L h => h4.own b L h.of_unmask.1 }
  | forget fr fr' hp flen slots =>
    simp only at h3 h4
    refine ⟨m, β, h1, h2, ⟨?_, h3.2⟩, h4⟩
    refine RelL.of_get (by rw [flen]; exact h3.1.length) fun i y u hy hu => ?_
    have hi : i < fr'.length := by
      rcases Nat.lt_or_ge i fr'.length with h' | h'
      · exact h'
      · rw [List.getElem?_eq_none h'] at hy; cases hy
    have hsy : slot fr' i = y := by rw [slot_get]; simp [hy]
    rcases slots i (by omega) with h | hs
    · rw [← hsy, h]; simp [Rel]
    · rw [hsy] at hs
      have hx : fr[i]? = some (slot fr i) := by
        rw [slot_get, List.getElem?_eq_getElem (by omega)]; rfl
      obtain ⟨u', hu', hr⟩ := h3.1.get hx
      rw [hu] at hu'; cases hu'
      exact Rel.sub _ _ _ hs hr
  | ren kp fr fr' hp hp' nodup len pin blk und flen slots =>
    simp only at h3 h4
    have hb : ∀ b, b < hp'.length → partOf β kp b = β (kp.getD b 0) := fun b h => by simp [partOf, len, h]
    rw [List.all_eq_true] at und
    have hkget : ∀ j, j < kp.length → kp[j]? = some (kp.getD j 0) := fun j hj => by simp [List.getD, List.getElem?_eq_getElem hj]
    have hfget : ∀ {j ob}, hp'[j]? = some ob → hp'.getD j .dead = ob := fun {j ob} h => by simp [List.getD, h]
    have hlt : ∀ {j ob}, hp'[j]? = some ob → j < hp'.length := fun {j ob} h => by
      rcases Nat.lt_or_ge j hp'.length with h' | h'
      · exact h'
      · rw [List.getElem?_eq_none h'] at h; cases h
    have hlv : ∀ {j}, Live hp' j → j < hp'.length ∧ Live hp (kp.getD j 0) := fun {j} ⟨o, h1, h2⟩ => by
      have hj := hlt h1
      have := blk j hj
      rw [hfget h1] at this
      exact ⟨hj, _, this, by cases o <;> simp_all [OB.ren]⟩
    refine ⟨m, partOf β kp, h1, fun b L hL => ?_, ⟨?_, h3.2⟩, ?_⟩
    · have hbq := hq b L hL
      have hp1 := pin b hbq
      have hbl : b < kp.length := by
        rcases Nat.lt_or_ge b kp.length with h' | h'
        · exact h'
        · rw [List.getElem?_eq_none h'] at hp1; cases hp1
      have : kp.getD b 0 = b := by simp [List.getD, hp1]
      rw [hb b (by omega), this]; exact h2 b L hL
    · refine RelL.of_get (by rw [flen]; exact h3.1.length) fun i y u hy hu => ?_
      have hi : i < fr'.length := by
        rcases Nat.lt_or_ge i fr'.length with h' | h'
        · exact h'
        · rw [List.getElem?_eq_none h'] at hy; cases hy
      have hsy : slot fr' i = y := by rw [slot_get]; simp [hy]
      rcases slots i (by omega) with h | ⟨hu1, hs⟩
      · rw [← hsy, h]; simp [Rel]
      · rw [hsy] at hu1 hs
        have hx : fr[i]? = some (slot fr i) := by
          rw [slot_get, List.getElem?_eq_getElem (by omega)]; rfl
        obtain ⟨u', hu', hr⟩ := h3.1.get hx
        rw [hu] at hu'; cases hu'
        exact (Rel.ren hb y u hu1).1 (Rel.sub _ _ _ hs hr)
    · exact {
        agree := h4.agree
        blocks := fun j ob h => by
          have hj := hlt h
          have := blk j hj
          rw [hfget h] at this
          exact (OBRel.ren hb hj (und ob (List.mem_of_getElem? h))).1 (h4.blocks _ _ this)
        inj := fun j j' L L' h h' hL hL' e => by
          obtain ⟨g1, g2⟩ := hlv h
          obtain ⟨g1', g2'⟩ := hlv h'
          rw [hb j g1] at hL; rw [hb j' g1'] at hL'
          have := h4.inj _ _ L L' g2 g2' hL hL' e
          have e1 := hkget j (by omega)
          have e2 := hkget j' (by omega)
          rw [← this] at e2
          exact (List.getElem?_inj (show j < kp.length by omega) nodup).1 (e1.trans e2.symm)
        out := fun j h => by
          rw [List.getElem?_eq_none_iff] at h
          have h : hp'.length ≤ j := h
          have : ¬ j < kp.length := by omega
          simp [partOf, this]
        size := h4.size
        io := h4.io
        keep := h4.keep
        own := fun j L h hL => by
          obtain ⟨g1, g2⟩ := hlv h
          rw [hb j g1] at hL
          exact h4.own _ L g2 hL }
end
end Go.Am
namespace Go.Am
section
variable {P : Program} {C : FuncId → List AV → List OB → AV → List OB → Prop} {K K' : Eff → Prop}

theorem loaded_mono (h : ∀ e, K e → K' e) (t cells r) : loaded P t cells r K → loaded P t cells r K' := by
  unfold loaded
  repeat' first
    | exact fun a => a
    | exact h _
    | refine And.imp_right ?_
    | split

theorem abinInt_mono (h : ∀ e, K e → K' e) (op k a b) : abinInt op k a b K → abinInt op k a b K' := by
  unfold abinInt
  repeat' first
    | exact fun a => a
    | exact h _
    | refine And.imp_right ?_
    | split

theorem abinStr_mono (h : ∀ e, K e → K' e) (op a b) : abinStr op a b K → abinStr op a b K' := by
  unfold abinStr
  repeat' first
    | exact fun a => a
    | exact h _
    | refine And.imp_right ?_
    | split

theorem abin_mono (h : ∀ e, K e → K' e) (u lit op x y) : abin P u lit op x y K → abin P u lit op x y K' := by
  unfold abin
  repeat' first
    | exact fun a => a
    | exact h _
    | exact abinInt_mono h _ _ _ _
    | exact abinStr_mono h _ _ _
    | refine And.imp_right ?_
    | split

theorem callK_mono (h : ∀ e, K e → K' e) (f args hp) : callK C f args hp K → callK C f args hp K' := by
  unfold callK
  refine Or.imp ?_ ?_
  · rintro ⟨n, a, r, h1, h2, h3, h4, h5, h6⟩; exact ⟨n, a, r, h1, h2, h3, h4, h5, h _ h6⟩
  · rintro ⟨bl, a, fp, r, fp', wl, h1, h2, h3, h4, h5, h6, h7, h8, h9, h10, h11, h12, h13, h14⟩; exact ⟨bl, a, fp, r, fp', wl, h1, h2, h3, h4, h5, h6, h7, h8, h9, h10, h11, h12, h13, h _ h14⟩

theorem aop_mono (h : ∀ e, K e → K' e) (o ev hp) : aop P C o ev hp K → aop P C o ev hp K' := by
  unfold aop
  repeat' first
    | exact fun a => a
    | exact h _
    | exact abin_mono h _ _ _ _ _
    | exact loaded_mono h _ _ _
    | exact callK_mono h _ _ _
    | exact And.imp (fun f a => h _ (f a)) (fun f a => h _ (f a))
    | exact And.imp (fun f a => h _ (f a)) (fun f a => ⟨(f a).1, h _ (f a).2⟩)
    | exact fun ⟨f, a, b⟩ => ⟨f, a, callK_mono h _ _ _ b⟩
    | refine And.imp_right ?_
    | refine And.imp ?_ ?_
    | split

theorem awpOps_mono {all : Array Oper} {K K' : AState → Trace → Prop} (h : ∀ σ tr, K σ tr → K' σ tr) : ∀ (l : List Oper) (σ : AState) (tr : Trace), awpOps P C all l K σ tr → awpOps P C all l K' σ tr
  | [], σ, tr => h _ _
  | o :: rest, σ, tr => by
    unfold awpOps
    split
    · exact aop_mono (fun e => awpOps_mono h rest _ _) _ _ _
    · split
      · exact fun a => a
      · split
        · exact And.imp (fun f a => aop_mono (fun e => awpOps_mono h rest _ _) _ _ _ (f a)) (fun f a => awpOps_mono h rest _ _ (f a))
        · exact awpOps_mono h rest _ _
        · exact fun a => a

theorem thenQ_mono {N N' : AState → Prop} {Q Q' : AExit → AState → Prop} (hN : ∀ σ, N σ → N' σ) (hQ : ∀ e σ, Q e σ → Q' e σ) : ∀ e σ, thenQ N Q e σ → thenQ N' Q' e σ
  | .normal, σ => hN σ
  | .exit _, σ => hQ _ σ
  | .ret, σ => hQ _ σ

theorem awp_mono : ∀ (c : Code) {q : Nat} {Q Q' : AExit → AState → Prop} (_ : ∀ e σ, Q e σ → Q' e σ) (σ : AState), awp P C q c Q σ → awp P C q c Q' σ := by
  intro c
  induction c with
  | skip => exact fun h σ => h _ _
  | region id ops draw => exact fun h σ => awpOps_mono (fun σ tr => And.imp_right (h _ _)) _ _ _
  | seq x y ihx ihy => exact fun h σ => ihx (thenQ_mono (fun σ => ihy h σ) h) σ
  | cond c x y ihx ihy =>
    intro q Q Q' h σ
    simp only [awp]
    split
    · exact And.imp (fun f a => ihx h σ (f a)) (fun f a => ihy h σ (f a))
    · exact fun a => a
  | block id c ih =>
    intro q Q Q' h σ
    refine ih (fun e σ => ?_) σ
    cases e with
    | exit i => simp only [inBlk]; split <;> exact h _ _
    | normal => exact h _ _
    | ret => exact h _ _
  | loop c ih =>
    intro q Q Q' h σ hl X hX hW
    exact hl X (fun σ' h' => hX σ' (ih (thenQ_mono (fun _ a => a) h) σ' h')) hW
  | exit id => exact fun h σ => h _ _
  | ret => exact fun h σ => h _ _
  | label l => exact fun h σ => h _ _
  | _ => exact fun h σ a => a

/-- A cut: what holds between two parts. -/
theorem W_cut {x y : Code} {k : Cont} {σ : AState} (R : AState → Prop) (hx : W P C x (.lp R k) σ) (h : ∀ σ, R σ → W P C y k σ) : W P C x (.seq y k) σ :=
  awp_mono x (thenQ_mono h fun _ _ a => a) σ hx

/-- A loop, by induction on what its rounds consume. -/
theorem loopW_ind {c : Code} {k : Cont} {σ : AState} {q : Nat} (hq : k.pins = q) (h : ∀ X : AState → Prop, (∀ σ, W P C c (.lp X k) σ → X σ) → (∀ σ σ', Weaker q σ σ' → X σ' → X σ) → X σ) : loopW P C c k σ := by
  subst hq; exact h

/-- A frame spelt out: known slots, and the others forgotten. -/
def look (i : Nat) : List (Nat × AV) → AV
  | [] => .top
  | (j, v) :: l => if i = j then v else look i l
def spell (l : List (Nat × AV)) : Nat → Nat → List AV
  | _, 0 => []
  | i, n + 1 => look i l :: spell l (i + 1) n

theorem slot_eq (fr : List AV) (i : Nat) : slot fr i = fr.getD i .top := by
  induction fr generalizing i with
  | nil => rfl
  | cons a l ih => cases i with
    | zero => rfl
    | succ i => simpa [slot] using ih i

theorem spell_get {l : List (Nat × AV)} : ∀ (n i j : Nat), (spell l i n)[j]? = if j < n then some (look (i + j) l) else none
  | 0, i, j => by simp [spell]
  | n + 1, i, 0 => by simp [spell]
  | n + 1, i, j + 1 => by
    simp only [spell, List.getElem?_cons_succ, spell_get n (i + 1) j, Nat.add_lt_add_iff_right]
    rw [show i + 1 + j = i + (j + 1) by omega]
theorem spell_length (l : List (Nat × AV)) : ∀ (n i : Nat), (spell l i n).length = n
  | 0, _ => rfl
  | n + 1, i => by simp [spell, spell_length l n]
theorem spell_slot {l : List (Nat × AV)} {n j : Nat} (h : j < n) : slot (spell l 0 n) j = look j l := by
  rw [slot_eq, List.getD_eq_getElem?_getD, spell_get, if_pos h]; simp

/-- The frame's known slots say no less than the list. -/
def Says (fr : List AV) : List (Nat × AV) → Prop
  | [] => True
  | (i, v) :: l => Sub (slot fr i) v ∧ Says fr l
def SaysRen (fr : List AV) (kp : List Nat) (m : Nat) : List (Nat × AV) → Prop
  | [] => True
  | (i, v) :: l => (v.under m = true ∧ Sub (slot fr i) (v.ren kp)) ∧ SaysRen fr kp m l

theorem Says.look {fr : List AV} {i : Nat} : ∀ {l : List (Nat × AV)}, Says fr l → Am.look i l = .top ∨ Sub (slot fr i) (Am.look i l)
  | [], _ => .inl rfl
  | (j, v) :: l, h => by
    simp only [Am.look]
    split
    · rename_i e; subst e; exact .inr h.1
    · exact Says.look h.2
theorem SaysRen.look {fr : List AV} {kp : List Nat} {m i : Nat} : ∀ {l : List (Nat × AV)}, SaysRen fr kp m l → Am.look i l = .top ∨ ((Am.look i l).under m = true ∧ Sub (slot fr i) ((Am.look i l).ren kp))
  | [], _ => .inl rfl
  | (j, v) :: l, h => by
    simp only [Am.look]
    split
    · rename_i e; subst e; exact .inr h.1
    · exact SaysRen.look h.2

/-- At a loop's head: what is not listed is forgotten. -/
theorem at_head {q : Nat} {X : AState → Prop} (hW : ∀ σ σ', Weaker q σ σ' → X σ' → X σ) {fr : List AV} {hp : List OB} (l : List (Nat × AV)) (n : Nat) (hn : fr.length = n) (hs : Says fr l) (h : X ⟨spell l 0 n, hp⟩) : X ⟨fr, hp⟩ :=
  hW _ _ (.forget fr _ hp (by rw [spell_length, hn]) fun i hi => by rw [spell_slot (by omega)]; exact hs.look) h
theorem at_head_of {q : Nat} {X : AState → Prop} (hW : ∀ σ σ', Weaker q σ σ' → X σ' → X σ) {fr : List AV} {hp : List OB} {l : List (Nat × AV)} {n : Nat} (h : X ⟨spell l 0 n, hp⟩) (hn : fr.length = n) (hs : Says fr l) : X ⟨fr, hp⟩ := at_head hW l n hn hs h
/-- And blocks get other names. -/
theorem at_head_ren {q : Nat} {X : AState → Prop} (hW : ∀ σ σ', Weaker q σ σ' → X σ' → X σ) {fr : List AV} {hp : List OB} (kp : List Nat) (hp' : List OB) (l : List (Nat × AV)) (n : Nat) (hn : fr.length = n) (nodup : kp.Nodup) (len : kp.length = hp'.length) (pin : ∀ j, j < q → kp[j]? = some j)
    (blk : ∀ j, j < hp'.length → hp[kp.getD j 0]? = some ((hp'.getD j .dead).ren kp)) (und : hp'.all (OB.under hp'.length) = true) (hs : SaysRen fr kp hp'.length l) (h : X ⟨spell l 0 n, hp'⟩) : X ⟨fr, hp⟩ :=
  hW _ _ (.ren kp fr _ hp hp' nodup len pin blk und (by rw [spell_length, hn]) fun i hi => by rw [spell_slot (by omega)]; exact hs.look) h
/-- Blocks that are not written any more become immutable. -/
theorem at_head_freeze {q : Nat} {X : AState → Prop} (hW : ∀ σ σ', Weaker q σ σ' → X σ' → X σ) {fr : List AV} {hp : List OB} (F : List Nat) (n : Nat) (h : X ⟨fr.map (res n (mask F hp)), unmask F n hp⟩) : X ⟨fr, hp⟩ :=
  hW _ _ (.freeze F n fr hp) h
end
end Go.Am
namespace Go.Am

/-- The inside of a loop: at the head of a round. -/
def InLoop (P : Program) (c : Code) (Q : Exit → Act → World → Prop) (a : Act) (w : World) : Prop :=
  ∀ (b : Frame) (k : List Item) (cs : List Frame), ∃ e a' w', Q e a' w' ∧ Arrives P (lone (b.at a (.code c :: .inLoop c :: k)) cs w) b k cs e a' w'

section
variable {P : Program} {C : FuncId → List AV → List OB → AV → List OB → Prop}

theorem loop_of_in {c : Code} {Q : Exit → Act → World → Prop} {a : Act} {w : World} (h : InLoop P c Q a w) : (Code.loop c).wp P Q a w :=
  fun b k cs => let ⟨e, a', w', q, r⟩ := h b k cs; ⟨e, a', w', q, .of_steps (.one step_loop) r⟩

theorem in_step {c : Code} {Q : Exit → Act → World → Prop} {a : Act} {w : World} (h : c.wp P (Exit.then (InLoop P c Q) Q) a w) : InLoop P c Q a w := by
  intro b k cs
  obtain ⟨e, a₁, w₁, hq, harr⟩ := h b (.inLoop c :: k) cs
  cases e with
  | normal =>
    obtain ⟨e₂, a₂, w₂, hq₂, harr₂⟩ := hq b k cs
    exact ⟨e₂, a₂, w₂, hq₂, .of_steps (Steps.trans harr (.one step_inLoop)) harr₂⟩
  | exit id => exact ⟨_, a₁, w₁, hq, .pass (x := .inLoop c) rfl (fun _ _ => .inl (by simp)) harr⟩
  | goto l => exact ⟨_, a₁, w₁, hq, .pass (x := .inLoop c) rfl (fun _ _ => .inl (by simp)) harr⟩
  | ret => exact ⟨_, a₁, w₁, hq, .pass (x := .inLoop c) rfl (fun _ _ => .inl (by simp)) harr⟩
  | panic ch => exact ⟨_, a₁, w₁, hq, .pass (x := .inLoop c) rfl (fun _ _ => .inl (by simp)) harr⟩
  | outgrown => exact ⟨_, a₁, w₁, hq, .pass (x := .inLoop c) rfl (fun _ _ => .inl (by simp)) harr⟩

/-- A postcondition on abstract states, read in the model. -/
def concQ (c : Ctx) (Q : AExit → AState → Prop) : Exit → Act → World → Prop
  | .normal, a, w => ∃ σ, Q .normal σ ∧ OkSt c σ a w
  | .exit id, a, w => ∃ σ, Q (.exit id) σ ∧ OkSt c σ a w
  | .ret, a, w => ∃ σ, Q .ret σ ∧ OkSt c σ a w
  | _, _, _ => False

theorem OkSt.drew {c : Ctx} {σ : AState} {a : Act} {w w' : World} (h : OkSt c σ a w) (hw : w'.heap = w.heap) (hio : IO0 w w') : OkSt c σ a w' := by
  obtain ⟨m, β, h1, h2, h3, h4⟩ := h
  exact ⟨m, β, h1, h2, h3, h4.same hw hio⟩

theorem awp_sound (hm : P.follows .mixedOrders = true) (hC : ∀ f args fp r fp', C f args fp r fp' → Contract P f args fp r fp') (ctx : Ctx) {q : Nat} (hq : ∀ b L, ctx.β0 b = some L → b < q) : ∀ (c : Code) (Q : AExit → AState → Prop) (σ : AState), awp P C q c Q σ →
    ∀ a w, OkSt ctx σ a w → c.wp P (concQ ctx Q) a w := by
  intro c
  induction c with
  | skip => exact fun Q σ h a w ho => wp_skip ⟨σ, h, ho⟩
  | region id ops draw =>
    intro Q σ h a w ho
    simp only [awp] at h
    obtain ⟨es, h1, h2, h3⟩ := run_of_awpOps hC _ _ _ h
    simp only [List.reverse_nil, List.nil_append] at h2
    cases draw with
    | false =>
      refine wp_region ?_
      have := ops_sound (Q := concQ ctx Q) (c := ctx) ops.toList 0 σ es (by simp) h1 (fun a w ho => ⟨_, h3, ho⟩) a w ho
      rw [List.range_eq_range', ← Array.length_toList]; exact this
    | true =>
      refine wp_region_any hm ?_
      let R : Rgn P ops := ⟨σ, es, h1, h2 rfl⟩
      have hst : R.st ops.size = final ops.toList σ es := by
        show stAt _ _ _ _ = _
        unfold stAt
        rw [List.take_of_length_le (by simp), List.take_of_length_le (by rw [steps_length _ _ _ h1]; simp)]
      have hE : ∀ i, (Array.replicate ops.size false).getD i false = false := by
        intro i; simp only [Array.getD_eq_getD_getElem?, Array.getElem?_replicate]; split <;> rfl
      have hEf : (fun i => (Array.replicate ops.size false).getD i false) = fun _ => false := funext hE
      have h0 : ∀ n, R.frE (fun _ => false) n = σ.fr ∧ R.hpE (fun _ => false) n = σ.hp ++ List.replicate R.tot .fresh := by
        intro n
        induction n with
        | zero => exact ⟨rfl, rfl⟩
        | succ n ih => simp only [Rgn.frE, Rgn.hpE, Bool.false_eq_true, if_false]; exact ih
      refine R.go (c := ctx) (Q := concQ ctx Q) (fun a w ho => ⟨_, h3, by rw [hst] at ho; exact ho⟩) ops.size (Array.replicate ops.size false) a _ (by simp) ?_ ?_ ?_
      · have : List.countP (· == true) (Array.replicate ops.size false).toList = 0 := by simp [List.countP_replicate]
        rw [this]; rfl
      · rw [hEf]; intro i o hi hEi; cases hEi
      · rw [hEf, (h0 _).1, (h0 _).2]
        obtain ⟨m, β, g1, g2, g3, g4⟩ := ho
        exact ⟨m, β, g1, g2, g3, (g4.extend R.tot).same rfl ⟨rfl, rfl⟩⟩
  | seq x y ihx ihy =>
    intro Q σ h a w ho
    refine wp_seq (wp_mono (ihx _ σ h a w ho) fun e a' w' hq => ?_)
    cases e with
    | normal => obtain ⟨σ', h1, h2⟩ := hq; exact ihy Q σ' h1 a' w' h2
    | exit id => obtain ⟨σ', h1, h2⟩ := hq; exact ⟨σ', h1, h2⟩
    | ret => obtain ⟨σ', h1, h2⟩ := hq; exact ⟨σ', h1, h2⟩
    | _ => exact hq.elim
  | cond x c1 c2 ih1 ih2 =>
    intro Q σ h a w ho
    simp only [awp] at h
    split at h
    · rename_i t ht
      obtain ⟨m, β, g1, g2, g3, g4⟩ := ho
      have hev := g3.eval x
      rw [ht] at hev; simp only [Rel] at hev
      exact wp_cond_split hev (fun e => ih1 Q σ (h.1 e) a w ⟨m, β, g1, g2, g3, g4⟩) (fun e => ih2 Q σ (h.2 e) a w ⟨m, β, g1, g2, g3, g4⟩)
    · exact h.elim
  | block id c ih =>
    intro Q σ h a w ho
    refine wp_block (wp_mono (ih _ σ h a w ho) fun e a' w' hq => ?_)
    cases e with
    | normal => obtain ⟨σ', h1, h2⟩ := hq; exact ⟨σ', h1, h2⟩
    | exit i =>
      obtain ⟨σ', h1, h2⟩ := hq
      simp only [inBlk] at h1
      simp only [Exit.inBlock]
      split
      · rename_i he; rw [if_pos he] at h1; exact ⟨σ', h1, h2⟩
      · rename_i he; rw [if_neg he] at h1; exact ⟨σ', h1, h2⟩
    | ret => obtain ⟨σ', h1, h2⟩ := hq; exact ⟨σ', h1, h2⟩
    | _ => exact hq.elim
  | loop c ih =>
    intro Q σ h a w ho
    refine loop_of_in ?_
    refine h (fun σ => ∀ a w, OkSt ctx σ a w → InLoop P c (concQ ctx Q) a w) (fun σ' h' a' w' ho' => ?_) (fun σ1 σ2 hw hx a' w' ho' => hx a' w' (ho'.weaker hq hw)) a w ho
    refine in_step (wp_mono (ih _ σ' h' a' w' ho') fun e a2 w2 hq => ?_)
    cases e with
    | normal => obtain ⟨σ2, h1, h2⟩ := hq; exact h1 a2 w2 h2
    | exit i => obtain ⟨σ2, h1, h2⟩ := hq; exact ⟨σ2, h1, h2⟩
    | ret => obtain ⟨σ2, h1, h2⟩ := hq; exact ⟨σ2, h1, h2⟩
    | _ => exact hq.elim
  | exit id => exact fun Q σ h a w ho => wp_exit ⟨σ, h, ho⟩
  | ret => exact fun Q σ h a w ho => wp_ret ⟨σ, h, ho⟩
  | label l => exact fun Q σ h a w ho => wp_label ⟨σ, h, ho⟩
  | _ => exact fun Q σ h => h.elim
end

/-! ### What a function hands back -/

def resVar (P : Program) (σ : AState) (r : ResultVar) (K : AV → Prop) : Prop := match r with
  | .tmp t => K (slot σ.fr t)
  | .cell a t => match slot σ.fr a with
    | .optr b i f => match σ.hp[b]? with
      | some (.cells _ _ rows) => match rows[i]? with
        | some row => loaded P t (row.drop f) [] fun e => K e.v
        | none => False
      | _ => False
    | _ => False

/-- A result variable read, in the model. -/
def readRes (tmps : Array Value) : ResultVar → Sem Value
  | .tmp t => pure (tmps.getD t undef)
  | .cell a t => do loadVar t (← asAddr (tmps.getD a undef))
/-- The value handed back: of one result variable, or a tuple. -/
def resVars (P : Program) (σ : AState) : List ResultVar → (List AV → Prop) → Prop
  | [], K => K []
  | r :: rs, K => resVar P σ r fun v => resVars P σ rs fun vs => K (v :: vs)

def one? : List AV → AV
  | [v] => v
  | vs => .tup vs

/-- What the state at the return makes of a contract. First form: immutable data. Second: blocks 'kp' are handed back under their own names. -/
def RetOK (P : Program) (rs : List ResultVar) (fp : List OB) (r : AV) (fp' : List OB) (σ : AState) : Prop :=
  resVars P σ rs fun vs =>
    (fp = [] ∧ fp' = [] ∧ r.closed = true ∧ ∃ n, Sub (res n σ.hp (one? vs)) r) ∨
    (∃ kp : List Nat, kp.Nodup ∧ kp.length = fp'.length ∧ (∀ j, j < fp.length → kp[j]? = some j) ∧ fp.length ≤ fp'.length ∧ (∀ j, j < fp'.length → σ.hp[kp.getD j 0]? = some ((fp'.getD j .dead).ren kp)) ∧
      fp'.all (OB.under fp'.length) = true ∧ r.under fp'.length = true ∧ Sub (one? vs) (r.ren kp))

def retQ (P : Program) (rs : List ResultVar) (fp : List OB) (r : AV) (fp' : List OB) : AExit → AState → Prop
  | .normal, σ | .ret, σ => RetOK P rs fp r fp' σ
  | _, _ => False

section
variable {P : Program} {C : FuncId → List AV → List OB → AV → List OB → Prop}

theorem resVar_sound {c : Ctx} {σ : AState} {a : Act} {w : World} {m : Mem} {β : Plc} (hF : Frm m β σ.fr a) (hS : State c.w0 c.m0 c.O m β w σ.hp) {r : ResultVar} {K : AV → Prop} (h : resVar P σ r K) :
    ∃ x v, K x ∧ Rel m β x v ∧ (readRes a.tmps r).run P w = .ok v w := by
  cases r with
  | tmp t => exact ⟨_, _, h, hF.eval (.tmp t), rfl⟩
  | cell b t =>
    simp only [resVar] at h
    split at h
    · rename_i bb i f hs
      split at h
      · rename_i el k rows hb
        split at h
        · rename_i row hrow
          have hev := hF.eval (.tmp b)
          simp only [evalIn, hs, Rel, Act.eval] at hev
          obtain ⟨L, hL, hev⟩ := hev
          obtain ⟨v, hK, hrun⟩ := run_loaded h
          obtain ⟨hk, c', e, fz, h1, h2, h3, h4, _⟩ := hS.row hb hrow hL
          obtain ⟨u, hu, hrr⟩ := hrun L.blk (i * L.k + f) c' e fz _ m β w h1 (h2.drop f) (fun j q hj => by
            rw [List.getElem?_drop, mid_get] at hj
            split at hj
            · rw [hk]; rw [← hj]; congr 1; omega
            · cases hj)
          refine ⟨v, u, hK, hu, ?_⟩
          have hev' : a.tmps[b]?.getD undef = .pointer (some ⟨L.blk, i * L.k + f, none⟩) := by
            rw [Array.getD_eq_getD_getElem?] at hev; exact hev
          simp [readRes, hev', asAddr, hrr]
        · exact h.elim
      · exact h.elim
    · exact h.elim

theorem resVars_sound {c : Ctx} {σ : AState} {a : Act} {w : World} {m : Mem} {β : Plc} (hF : Frm m β σ.fr a) (hS : State c.w0 c.m0 c.O m β w σ.hp) : ∀ (rs : List ResultVar) (K : List AV → Prop), resVars P σ rs K →
    ∃ xs vs, K xs ∧ RelL m β xs vs ∧ (rs.mapM (readRes a.tmps)).run P w = .ok vs w
  | [], K, h => ⟨[], [], h, by simp [RelL], by simp⟩
  | r :: rs, K, h => by
    simp only [resVars] at h
    obtain ⟨x, v, h1, h2, h3⟩ := resVar_sound hF hS h
    obtain ⟨xs, vs, g1, g2, g3⟩ := resVars_sound hF hS rs _ h1
    refine ⟨x :: xs, v :: vs, g1, by simp only [RelL]; exact ⟨v, vs, rfl, h2, g2⟩, ?_⟩
    rw [List.mapM_cons]
    simp only [Sem.run_bind]
    rw [h3]
    simp only [Result.andThen_ok, g3, Sem.run_pure]

/-- A contract, out of a run of the abstract machine over the function's body. -/
theorem contract_of_awp (hm : P.follows .mixedOrders = true) (hC : ∀ f args fp r fp', C f args fp r fp' → Contract P f args fp r fp') {f : FuncId} {fn : Func} {c : Code} {rs : List ResultVar} (hf : P.funcs[f]? = some fn) (hb : fn.body = some c)
    (hcall : ∀ args w, (callFunc f args).run P w = .ok (.enter f args) w) (hrs : fn.results = rs.toArray) {args : List AV} {fp fp' : List OB} {r : AV} (hlive : fp.all OB.live = true)
    (h : W P C c (.fin fp.length (retQ P rs fp r fp')) ⟨args ++ List.replicate (fn.ntmps - args.length) .top, fp⟩) : Contract P f args fp r fp' := by
  intro w m β vs hS hv
  unfold CallsTo
  rw [hcall]
  simp only []
  have hlen := hv.length
  refine calls_of_wp hf hb ?_
  have hF : Frm m β (args ++ List.replicate (fn.ntmps - args.length) .top) { tmps := vs.toArray ++ Array.replicate (fn.ntmps - vs.toArray.size) undef, defers := [] } := by
    refine ⟨?_, rfl⟩
    have : (vs.toArray ++ Array.replicate (fn.ntmps - vs.toArray.size) undef).toList = vs ++ List.replicate (fn.ntmps - args.length) undef := by
      simp [hlen]
    rw [this]
    exact hv.append (RelL.replicate_top _ _)
  refine wp_mono (awp_sound hm hC ⟨w, m, Owned β fp, β⟩ (q := fp.length) (fun b L hL => by
    have hL : β b = some L := hL
    rcases Nat.lt_or_ge b fp.length with h' | h'
    · exact h'
    · rw [hS.out b (List.getElem?_eq_none h')] at hL; cases hL) c _ _ h _ w ⟨m, β, Mem.le_refl m, Plc.le_refl β, hF, hS⟩) fun e a' w' hq => ?_
  have hend : ∀ σ, RetOK P rs fp r fp' σ → OkSt ⟨w, m, Owned β fp, β⟩ σ a' w' → a'.defers = [] ∧ ∃ v, (results fn a'.tmps).run P w' = .ok v w' ∧ ∃ v', Ending.returned v = .returned v' ∧ ∃ m' β', Mem.le m m' ∧ Plc.le β β' ∧ State w m (Owned β fp) m' β' w' fp' ∧ Rel m' β' r v' := by
    intro σ hr ⟨m', β', g1, g2, g3, g4⟩
    obtain ⟨xs, us, h1, h2, h3⟩ := resVars_sound (c := ⟨w, m, Owned β fp, β⟩) g3 g4 rs _ hr
    have hone : Rel m' β' (one? xs) (if h : us.length = 1 then us[0] else .tuple us.toArray) := by
      have hl := h2.length
      unfold one?
      split
      · rename_i x
        simp only [RelL] at h2
        obtain ⟨v, vs', rfl, h4, rfl⟩ := h2
        simpa using h4
      · rename_i hne
        have : ¬ us.length = 1 := by
          intro hu
          have hx : xs.length = 1 := hl.trans hu
          obtain ⟨x, hx'⟩ := List.length_eq_one_iff.1 hx
          exact hne x hx'
        rw [dif_neg this]
        simp only [Rel]; exact ⟨us, rfl, h2⟩
    have hres : (results fn a'.tmps).run P w' = .ok (if h : us.length = 1 then us[0] else .tuple us.toArray) w' := by
      have hr : results fn a'.tmps = (do let vs ← fn.results.mapM (readRes a'.tmps); pure (if h : vs.size = 1 then vs[0] else .tuple vs)) := rfl
      rw [hr, hrs]
      simp [Array.mapM_eq_mapM_toList, h3]
    refine ⟨g3.2, _, hres, _, rfl, ?_⟩
    rcases h1 with ⟨rfl, rfl, hcl, n, hs⟩ | ⟨kp, k1, k2, k3, k4, k5, k6, k7, k8⟩
    · have hnone : ∀ B, ¬ Owned β [] B := by rintro B ⟨b, L, ⟨o, h, _⟩, _⟩; simp at h
      let m2 : Mem := fun B => if B < w.heap.size then m' B else w'.heap[B]?
      have hle : Mem.le m' m2 := fun B o ho => by
        show (if _ then _ else _) = _
        split
        · exact ho
        · exact g4.agree B o ho
      have hall : ∀ b L, Live σ.hp b → β' b = some L → m2 L.blk = w'.heap[L.blk]? := fun b L h1 h2 => by
        rcases g4.own b L h1 h2 with h | h
        · show (if _ then _ else _) = _
          rw [if_neg (by show ¬ L.blk < w.heap.size; exact Nat.not_lt.2 h)]
        · exact absurd h (hnone _)
      have hrel := Rel.closed (β' := fun b => β b) _ _ hcl (Rel.sub _ _ _ hs (res_rel g4 hle hall (fun _ _ => rfl) n _ _ hone))
      refine ⟨m2, β, Mem.le_trans g1 hle, Plc.le_refl β, ?_, hrel⟩
      exact {
        agree := fun B o h => by
          simp only [m2] at h
          split at h
          · exact g4.agree B o h
          · exact h
        blocks := fun b ob h => by simp at h
        inj := fun b b' L L' h => by obtain ⟨o, h, _⟩ := h; simp at h
        out := fun b h => hS.out b (by simp)
        size := g4.size
        io := g4.io
        keep := fun B h h' => by
          have := g4.keep B h h'
          refine ⟨this.1, ?_⟩
          show (if _ then _ else _) = _
          rw [if_pos h]; exact this.2
        own := fun b L h => by obtain ⟨o, h, _⟩ := h; simp at h }
    · have hb : ∀ b, b < fp'.length → partOf β' kp b = β' (kp.getD b 0) := fun b h => by simp [partOf, k2, h]
      have hrel := (Rel.ren hb r _ k7).1 (Rel.sub _ _ _ k8 hone)
      rw [List.all_eq_true] at k6
      have hkget : ∀ j, j < kp.length → kp[j]? = some (kp.getD j 0) := fun j hj => by simp [List.getD, List.getElem?_eq_getElem hj]
      have hfget : ∀ {j ob}, fp'[j]? = some ob → fp'.getD j .dead = ob := fun {j ob} h => by simp [List.getD, h]
      have hlt : ∀ {j ob}, fp'[j]? = some ob → j < fp'.length := fun {j ob} h => by
        rcases Nat.lt_or_ge j fp'.length with h' | h'
        · exact h'
        · rw [List.getElem?_eq_none h'] at h; cases h
      have hlv : ∀ {j}, Live fp' j → j < fp'.length ∧ Live σ.hp (kp.getD j 0) := fun {j} ⟨o, h1, h2⟩ => by
        have hj := hlt h1
        have := k5 j hj
        rw [hfget h1] at this
        exact ⟨hj, _, this, by cases o <;> simp_all [OB.ren]⟩
      refine ⟨m', partOf β' kp, g1, fun b L hL => ?_, ?_, hrel⟩
      · have hbl : b < fp.length := by
          rcases Nat.lt_or_ge b fp.length with h' | h'
          · exact h'
          · rw [hS.out b (List.getElem?_eq_none h')] at hL; cases hL
        have h9 : kp.getD b 0 = b := by have := k3 b hbl; simp [List.getD, this]
        rw [hb b (by omega), h9]; exact g2 b L hL
      · exact {
          agree := g4.agree
          blocks := fun j ob h => by
            have hj := hlt h
            have := k5 j hj
            rw [hfget h] at this
            exact (OBRel.ren hb hj (k6 ob (List.mem_of_getElem? h))).1 (g4.blocks _ _ this)
          inj := fun j j' L L' h h' hL hL' e => by
            obtain ⟨h1, h2⟩ := hlv h
            obtain ⟨h1', h2'⟩ := hlv h'
            rw [hb j h1] at hL; rw [hb j' h1'] at hL'
            have := g4.inj _ _ L L' h2 h2' hL hL' e
            have e1 := hkget j (by omega)
            have e2 := hkget j' (by omega)
            rw [← this] at e2
            exact (List.getElem?_inj (show j < kp.length by omega) k1).1 (e1.trans e2.symm)
          out := fun j h => by
            rw [List.getElem?_eq_none_iff] at h
            have : ¬ j < kp.length := by omega
            simp [partOf, this]
          size := g4.size
          io := g4.io
          keep := g4.keep
          own := fun j L h hL => by
            obtain ⟨h1, h2⟩ := hlv h
            rw [hb j h1] at hL
            exact g4.own _ L h2 hL }
  cases e with
  | normal => obtain ⟨σ, h1, h2⟩ := hq; exact hend σ h1 h2
  | ret => obtain ⟨σ, h1, h2⟩ := hq; exact hend σ h1 h2
  | exit id => obtain ⟨σ, h1, h2⟩ := hq; exact h1.elim
  | _ => exact hq.elim
end
end Go.Am
namespace Go.Am

def rulesCode := And.intro @W_skip <| And.intro @W_seq <| And.intro @W_block <| And.intro @W_exit <| And.intro @W_ret <| And.intro @W_label <| And.intro @W_loop <| And.intro @W_region <| And.intro @den_seq <| And.intro @den_seq_ret <|
  And.intro @den_seq_exit <| And.intro @den_blk <| And.intro @den_blk_ret <| And.intro @den_blk_exit <| And.intro @den_lp <| And.intro @den_lp_ret <| And.intro @den_lp_exit <| And.intro @den_fin <| And.intro @Ops_nil <| And.intro @Ops_cons <|
  And.intro @Ops_guard <| And.intro @kont_eq <| And.intro @ev_tmp <| And.intro @ev_const <| And.intro @ev_func <| And.intro @put_some <| And.intro @put_none <| And.intro @slot_zero <| And.intro @slot_succ <| And.intro @setAll_nil @setAll_cons
def rulesOps := And.intro @aop_move <| And.intro @aop_assign <| And.intro @aop_pick <| And.intro @aop_alloc <| And.intro @aop_box <| And.intro @aop_nilCheck <| And.intro @aop_binOp <| And.intro @aop_unOp <| And.intro @aop_convert <|
  And.intro @aop_makeInterface <| And.intro @aop_makeFunc <| And.intro @aop_makeMap <| And.intro @aop_makeSlice <| And.intro @aop_slice <| And.intro @aop_fieldAddr <| And.intro @aop_field <| And.intro @aop_lookup <| And.intro @aop_mapUpdate <|
  And.intro @aop_typeAssert <| And.intro @aop_extract <| And.intro @aop_len <| And.intro @aop_max <| And.intro @aop_min @aop_callv
end Go.Am
namespace Go.Am
variable {P : Program}

/-- What is known of calls. -/
structure CC (P : Program) (f : FuncId) (args : List AV) (fp : List OB) (r : AV) (fp' : List OB) : Prop where
  ct : Contract P f args fp r fp'
/-- A function that is handed, and hands back, data that nobody changes. -/
abbrev Pure (P : Program) (f : FuncId) (args : List AV) (r : AV) : Prop := CC P f args [] r []

mutual
theorem Sub.refl : ∀ x : AV, Sub x x
  | .nil => .inl rfl
  | .agg cs => ⟨cs, rfl, SubL.refl cs⟩
  | .tup cs => ⟨cs, rfl, SubL.refl cs⟩
  | .ref cs => ⟨cs, rfl, SubL.refl cs⟩
  | .fn _ cs => ⟨cs, rfl, SubL.refl cs⟩
  | .mv _ cs => ⟨cs, rfl, SubL.refl cs⟩
  | .sl _ rows => ⟨rows, rfl, SubR.refl rows⟩
  | .val _ => rfl
  | .top => rfl
  | .osl .. => rfl
  | .optr .. => rfl
  | .omap _ => rfl
theorem SubL.refl : ∀ xs : List AV, SubL xs xs
  | [] => rfl
  | x :: xs => ⟨x, xs, rfl, Sub.refl x, SubL.refl xs⟩
theorem SubR.refl : ∀ xs : List (List AV), SubR xs xs
  | [] => rfl
  | x :: xs => ⟨x, xs, rfl, SubL.refl x, SubR.refl xs⟩
end

theorem start (hm : P.follows .mixedOrders = true) {f : FuncId} {fn : Func} {c : Code} {rs : List ResultVar} {n : Nat} {args : List AV} {r : AV} (hf : P.funcs[f]? = some fn) (hb : fn.body = some c)
    (hcall : ∀ args w, (callFunc f args).run P w = .ok (.enter f args) w) (hrs : fn.results = rs.toArray) (hn : fn.ntmps = n)
    (h : W P (CC P) c (.fin 0 (retQ P rs [] r [])) ⟨args ++ List.replicate (n - args.length) .top, []⟩) : Pure P f args r := by
  subst hn
  exact ⟨contract_of_awp hm (fun _ _ _ _ _ h => h.ct) hf hb hcall hrs rfl h⟩

theorem startOwn (hm : P.follows .mixedOrders = true) {f : FuncId} {fn : Func} {c : Code} {rs : List ResultVar} {n : Nat} {args : List AV} {r : AV} {fp fp' : List OB} (hf : P.funcs[f]? = some fn) (hb : fn.body = some c)
    (hcall : ∀ args w, (callFunc f args).run P w = .ok (.enter f args) w) (hrs : fn.results = rs.toArray) (hn : fn.ntmps = n) (hl : fp.all OB.live = true)
    (h : W P (CC P) c (.fin fp.length (retQ P rs fp r fp')) ⟨args ++ List.replicate (n - args.length) .top, fp⟩) : CC P f args fp r fp' := by
  subst hn
  exact ⟨contract_of_awp hm (fun _ _ _ _ _ h => h.ct) hf hb hcall hrs hl h⟩

theorem res_zero (hp : List OB) (x : AV) : res 0 hp x = x := rfl
theorem map_res_zero (hp : List OB) (l : List AV) : l.map (res 0 hp) = l := by
  induction l with
  | nil => rfl
  | cons a l ih => simp [ih, res_zero]

/-- A call with immutable data. -/
theorem call_pure {f : FuncId} {args : List AV} {hp : List OB} {r : AV} {K : Eff → Prop} (h : Pure P f args r) (hc : closedL args = true) (hr : r.closed = true) (k : K { v := r, w := [], n := [], r := [] }) : callK (CC P) f args hp K := by
  refine .inl ⟨0, args, r, ?_, hc, h, hr, .inl hc, ?_⟩
  · rw [map_res_zero]; exact SubL.refl args
  · rw [if_pos hc]; exact k

/-- A call that is lent what we own, and hands back what names no memory. -/
theorem call_lend {f : FuncId} {args args' : List AV} {hp : List OB} {r : AV} {K : Eff → Prop} (n : Nat) (h : Pure P f args' r) (hs : SubL (args.map (res n hp)) args') (hc : closedL args' = true) (hr : r.closed = true) (hr' : closedL args = true ∨ r.plain = true)
    (k : K { v := r, w := [], n := [], r := if closedL args then [] else List.range hp.length }) : callK (CC P) f args hp K :=
  .inl ⟨n, args', r, hs, hc, h, hr, hr', k⟩

end Go.Am
