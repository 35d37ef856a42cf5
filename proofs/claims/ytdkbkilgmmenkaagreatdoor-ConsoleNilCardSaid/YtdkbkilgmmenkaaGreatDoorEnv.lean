/-
  The machine at the program: what a known call comes of.
-/
import Derived.Test.YtdkbkilgmmenkaaGreatDoorAm7
import Derived.KernelRfl
import Derived.Test.YtdkbkilgmmenkaaGreatDoorJoin
set_option linter.all false
namespace Go.Am
open Go.Proofs
namespace X
noncomputable def X : XEnv := { P := Tryz.prog, own := fun f => Nat.beq (Nat.mod (Nat.div 1254114128696264466321014115885915742510574134792053940679206375141437856917260379363445757877267839989080518603453220761836979601076168458062533930370725086044215303713768700176717580745209260217786046496 (Nat.pow 2 f)) 2) 1, meth := fun t name => match Nat.beq t 26 with | true => (match decide (name = "Error") with | true => some 720 | false => none) | false => none, same := fun f => Nat.beq f 408, deep := 6, gcs := 10000 }
abbrev i (n : Int) : AV := .val (.int .i64 n)
abbrev w (n : Int) : AV := .val (.int .u32 n)
abbrev t0 : AV := .val (.bool false)
abbrev t1 : AV := .val (.bool true)
abbrev nI : AV := .val .nilIface
abbrev st (l : List UInt8) : AV := .s l
theorem mixed : X.P.follows .mixedOrders = true := by kernel_rfl
theorem enters : Enters X.P := enters_of (by kernel_rfl)
theorem meth26 (k : IntKind) (n : Int) (w : World) : (method (X.P.types.size + Made.depth) 26 (.int k n) "Error").run X.P w = .ok (720, .int k n) w := by kernel_rfl
theorem meths : MethsOk X := fun t name f k n h w => by
  have h0 : (match Nat.beq t 26 with | true => (match decide (name = "Error") with | true => some 720 | false => none) | false => none) = some f := h
  cases ht : Nat.beq t 26 with
  | false => rw [ht] at h0; cases h0
  | true =>
    rw [ht] at h0
    cases hn : decide (name = "Error") with
    | false => simp only [hn] at h0; cases h0
    | true =>
      simp only [hn, Option.some.injEq] at h0
      subst h0
      have e1 := Nat.eq_of_beq_eq_true ht
      have e2 := of_decide_eq_true hn
      subst e1; subst e2
      exact meth26 k n w
theorem sames : Sames X := fun f h v w => by
  have : f = 408 := Nat.eq_of_beq_eq_true h
  subst this
  show (callFunc 408 #[v]).run Tryz.prog w = .ok (.value v) w
  kernel_rfl
theorem Xrun (T : List (Fact X.P)) {f : FuncId} {args : List AV} {r : AV} (hT : T.all (fun x => x.r.closed) = true) (hu : underL 0 args = true) (h : yfn X T 200 f args [] = some (r, [])) : Pure X.P f args r :=
  fact_of_yrun mixed enters meths sames T hT 200 hu h
theorem enter96 (args : Array Value) (w : World) : (callFunc 96 args).run X.P w = .ok (.enter 96 args) w := by kernel_rfl
theorem Xjoin (xs : List (List UInt8)) (sep r : List UInt8) (hl : xs.length ≤ 140737488355328) (hlen : (Lib.join xs sep).length ≤ 140737488355328) (h : Lib.join xs sep = r) : Pure X.P 96 [.sl 1 (xs.map fun x => [AV.s x]), .s sep] (.s r) :=
  h ▸ join_pure (P := Tryz.prog) enter96 (fun bk o c xs sep w h1 h2 h3 h4 h5 => Tryz.strings_Join bk o c xs sep w h1 h2 h3 h4 h5) (fun a c sep w => Tryz.strings_Join_none a c sep w) xs sep hl hlen
end X
end Go.Am
