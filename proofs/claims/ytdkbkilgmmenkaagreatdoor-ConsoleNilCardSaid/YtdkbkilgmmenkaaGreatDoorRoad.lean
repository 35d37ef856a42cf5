/-
  What a row says of all that its function calls, out of a table of the program's functions (so that no one run of the kernel's is too great). (No statement of the claim's own is proved here.)
-/
import GoSem.ClaimFn
import GoSem.ClaimDataLaid
set_option linter.all false
namespace Go.Am
abbrev Info : Type := List Nat × Bool × List Nat × Bool
def info (P : Program) (fn : Func) : Info := (P.leadsTo fn, fn.ours || fn.body.isNone || fn.name == "runtime.NumGoroutine", fn.body.elim [] Code.globalsNamed, match fn.body with | some c => c.unfollowed | none => entryCalls fn)
def bitB (m j : Nat) : Bool := Nat.beq (Nat.mod (Nat.shiftRight m j) 2) 1
theorem bitB_eq (m j : Nat) : bitB m j = m.testBit j := by
  have : bitB m j = ((m >>> j) % 2 == 1) := by
    unfold bitB
    cases h : Nat.beq (Nat.mod (Nat.shiftRight m j) 2) 1
    · exact (beq_eq_false_iff_ne.2 (Nat.ne_of_beq_eq_false h)).symm
    · exact (beq_iff_eq.2 (Nat.eq_of_beq_eq_true h)).symm
  rw [this, Nat.testBit_eq_decide_div_mod_eq, Nat.shiftRight_eq_div_pow]
  rfl
def bfs (T : List Info) : Nat → List Nat → Nat → List Nat → List Nat
  | 0, _, _, seen => seen.reverse
  | _ + 1, [], _, seen => seen.reverse
  | n + 1, f :: todo, m, seen => match bitB m f with
    | true => bfs T n todo m seen
    | false => bfs T n (((T[f]?).elim [] (·.1)) ++ todo) (Nat.lor m (Nat.pow 2 f)) (f :: seen)
section
variable {P : Program} {T : List Info} (hT : P.funcs.toList.map (info P) = T)
include hT
theorem tab_get (g : Nat) : (P.funcs[g]?).map (info P) = T[g]? := by
  rw [← hT, List.getElem?_map, Array.getElem?_toList]
theorem bfs_ok : ∀ (n : Nat) (todo : List Nat) (m : Nat) (seen : List Nat), (∀ f, m.testBit f = seen.contains f) → P.closureVia n todo seen = bfs T n todo m seen
  | 0, todo, m, seen, _ => by simp [Program.closureVia, bfs]
  | n + 1, [], m, seen, _ => by simp [Program.closureVia, bfs]
  | n + 1, f :: todo, m, seen, h => by
    simp only [Program.closureVia, bfs, bitB_eq, h f]
    cases hc : seen.contains f with
    | true => simp only [if_true]; exact bfs_ok n todo m seen h
    | false =>
      have e : (P.funcs[f]?).elim [] P.leadsTo = (T[f]?).elim [] (·.1) := by
        rw [← tab_get hT f]
        cases P.funcs[f]? <;> rfl
      rw [if_neg (by simp), e]
      refine bfs_ok n _ _ _ fun j => ?_
      have h2 : (Nat.lor m (Nat.pow 2 f)).testBit j = (m.testBit j || (2 ^ f).testBit j) := Nat.testBit_or m (2 ^ f) j
      rw [h2, h j, Nat.testBit_two_pow, List.contains_cons]
      by_cases hj : f = j
      · subst hj; simp
      · have : (j == f) = false := by simpa using fun e => hj e.symm
        simp [hj, this]
theorem closure_of (f : Nat) {L : List Nat} (h : bfs T (1 + (T.map fun x => x.1.length + 1).sum) [f] 0 [] = L) : P.closure f = L := by
  unfold Program.closure
  have e : (P.funcs.toList.map fun g => (P.leadsTo g).length + 1) = T.map fun x => x.1.length + 1 := by
    rw [← hT, List.map_map]; rfl
  rw [e, bfs_ok hT _ _ 0 _ (fun j => by simp), h]
theorem unfollowed_of (f : Nat) {L : List Nat} (hL : P.closure f = L) (h : (L.any fun g => (T[g]?).any (·.2.2.2)) = true) : P.unfollowed f = true := by
  unfold Program.unfollowed
  rw [hL, ← h]
  congr 1
  funext g
  rw [← tab_get hT g]
  cases P.funcs[g]? <;> rfl
omit hT in
theorem recurses_of (f : Nat) (h : P.unfollowed f = true) : P.recurses f = true := by
  unfold Program.recurses
  rw [h]; rfl
theorem filterMap_flag {α : Type} (k : Func → Option α) (hk : ∀ fn, (info P fn).2.1 = false → k fn = none) (L : List Nat) :
    L.filterMap (fun g => (P.funcs[g]?).bind k) = (L.filter fun g => (T[g]?).any (·.2.1)).filterMap (fun g => (P.funcs[g]?).bind k) := by
  induction L with
  | nil => rfl
  | cons g L ih =>
    rw [List.filter_cons, ← tab_get hT g]
    cases hg : P.funcs[g]? with
    | none =>
      simp only [List.filterMap_cons, hg, Option.bind_none, Option.map_none, Option.any_none, Bool.false_eq_true, if_false]
      exact ih
    | some fn =>
      cases hf : (info P fn).2.1 with
      | false =>
        simp only [List.filterMap_cons, hg, Option.bind_some, hk fn hf, Option.map_some, Option.any_some, hf, Bool.false_eq_true, if_false]
        exact ih
      | true =>
        simp only [Option.map_some, Option.any_some, hf, if_true, List.filterMap_cons, hg, Option.bind_some]
        rw [ih]
theorem inPlace_of (f : Nat) {L F : List Nat} (hL : P.closure f = L) (hF : (L.filter fun g => (T[g]?).any (·.2.1)) = F) :
    P.inPlace f = F.filterMap fun g => (P.funcs[g]?).bind fun fn => if fn.ours || fn.body.isNone || fn.name == "runtime.NumGoroutine" then some fn.name else none := by
  unfold Program.inPlace
  rw [hL, filterMap_flag hT _ (fun fn h => ?_) L, hF]
  have h' : (fn.ours || fn.body.isNone || fn.name == "runtime.NumGoroutine") = false := h
  rw [h']; rfl
theorem varsNamed_of (f : Nat) {L F G : List Nat} (hL : P.closure f = L) (hF : (L.filter fun g => (T[g]?).any (·.2.1)) = F)
    (hG : (L.flatMap fun g => (T[g]?).elim [] (·.2.2.1)) = G) :
    P.varsNamed f = ((G.eraseDups).filterMap (fun g => (P.globals[g]?).map (·.name)) ++ F.filterMap fun g => (P.funcs[g]?).bind fun fn => if fn.body.isNone then entryReads.lookup fn.name else none).eraseDups := by
  unfold Program.varsNamed
  have e : (fun (g : FuncId) => ((P.funcs[g]?).bind fun (fn : Func) => fn.body).elim ([] : List Nat) Code.globalsNamed) = fun (g : FuncId) => (T[g]?).elim [] fun (x : Info) => x.2.2.1 := by
    funext g
    rw [← tab_get hT g]
    cases P.funcs[g]? <;> rfl
  rw [hL, e, hG, filterMap_flag hT _ (fun fn h => ?_) L, hF]
  have h' : (fn.ours || fn.body.isNone || fn.name == "runtime.NumGoroutine") = false := h
  simp only [Bool.or_eq_false_iff] at h'
  rw [h'.1.2]; rfl
end
theorem all_parts {α : Type} (p : α → Bool) (l : List α) (n : Nat) (h1 : (l.take n).all p = true) (h2 : (l.drop n).all p = true) : l.all p = true := by
  rw [← List.take_append_drop n l, List.all_append, h1, h2]; rfl
theorem map_parts {α β : Type} (k : α → β) (l : List α) (n : Nat) {a b : List β} (h1 : (l.take n).map k = a) (h2 : (l.drop n).map k = b) : l.map k = a ++ b := by
  rw [← List.take_append_drop n l, List.map_append, h1, h2]
theorem drop_parts {α β : Type} (k : α → β) (l : List α) (d n : Nat) {a b : List β} (h1 : ((l.drop d).take n).map k = a) (h2 : (l.drop (d + n)).map k = b) : (l.drop d).map k = a ++ b :=
  map_parts k (l.drop d) n h1 (by rw [List.drop_drop]; exact h2)
theorem drop_all {α : Type} (p : α → Bool) (l : List α) (d n : Nat) (h1 : ((l.drop d).take n).all p = true) (h2 : (l.drop (d + n)).all p = true) : (l.drop d).all p = true :=
  all_parts p (l.drop d) n h1 (by rw [List.drop_drop]; exact h2)
theorem drop_all' {α : Type} (p : α → Bool) (l : List α) (d n d' : Nat) (e : d + n = d') (h1 : ((l.drop d).take n).all p = true) (h2 : (l.drop d').all p = true) : (l.drop d).all p = true :=
  drop_all p l d n h1 (e ▸ h2)
theorem drop_zero_all {α : Type} (p : α → Bool) (l : List α) (h : (l.drop 0).all p = true) : l.all p = true := h
end Go.Am
