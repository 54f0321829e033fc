/- Of two times, one behind the other, what is told are both parts; more matchers tell no more entries (QueryParts), for every input, over the program's text with its listed variables tied. Part 1 of 12. -/
import Derived.Tactics
import Derived.OrdersHeld
import Derived.Below
import Derived.Maps.AppendAt
import Derived.Laws.Strings
import Derived.Laws.IdiomStrings
import Derived.Laws.BytesArg
import Derived.IntWalk
import Derived.TacticsIn
import Derived.RangeFuncIn
import Derived.RangeFuncCalls
set_option linter.unusedSimpArgs false
set_option linter.unusedVariables false
set_option linter.unusedSectionVars false
namespace Go.GW
open Go.RowKit

/-! ## frames as functions -/
abbrev SF := Nat → Value
def upd (σ : SF) (d : Nat) (v : Value) : SF := fun i => bif Nat.beq i d then v else σ i
def initF : List Value → SF
  | [], _ => undef
  | v :: _, 0 => v
  | _ :: vs, i + 1 => initF vs i
def ev (σ : SF) : Operand → Value
  | .tmp t => σ t
  | .const v => v
  | .global g => .pointer (some ⟨g, 0, none⟩)
  | .func f => .func (.func f) #[] #[]

/-- how many slots, and what is deferred -/
structure Sz where
  n : Nat
  ds : List Deferred
structure Is (a : Act) (n : Sz) (σ : SF) : Prop where
  defers : a.defers = n.ds
  size : a.tmps.size = n.n
  get : ∀ i, a.tmps.getD i undef = σ i

theorem Is.eval {a : Act} {n : Sz} {σ : SF} (h : Is a n σ) (x : Operand) : a.eval x = ev σ x := by
  cases x with
  | tmp t => exact h.get t
  | _ => rfl

theorem upd_eq (σ : SF) (d : Nat) (v : Value) : upd σ d v d = v := by simp [upd]
theorem upd_ne (σ : SF) {d i : Nat} (v : Value) (h : i ≠ d) : upd σ d v i = σ i := by
  have : Nat.beq i d = false := by
    cases hb : Nat.beq i d with
    | false => rfl
    | true => exact absurd (Nat.eq_of_beq_eq_true hb) h
  simp only [upd, this, cond_false]
theorem upd_self (σ : SF) {d : Nat} {v : Value} (h : σ d = v) : upd σ d v = σ := by
  funext i
  by_cases e : i = d
  · subst e; rw [upd_eq, h]
  · rw [upd_ne _ _ e]

theorem Is.put {a : Act} {n : Sz} {σ : SF} (h : Is a n σ) {d : Nat} (hd : Nat.blt d n.n = true) (v : Value) : Is (a.put (some d) v) n (upd σ d v) := by
  have hd' : d < n.n := by simpa [Nat.blt_eq] using hd
  refine ⟨h.defers, by simp [Act.put, h.size], fun i => ?_⟩
  by_cases e : i = d
  · subst e
    rw [upd_eq]
    simp [Act.put, h.size, hd']
  · rw [upd_ne _ _ e, ← h.get i]
    simp [Act.put, Array.getElem?_setIfInBounds_ne (Ne.symm e)]

theorem Is.init (args : List Value) (n : Nat) (h : args.length ≤ n) :
    Is { tmps := args.toArray ++ Array.replicate (n - args.toArray.size) undef, defers := [] } ⟨n, []⟩ (initF args) := by
  refine ⟨rfl, by simp only [Array.size_append, List.size_toArray, Array.size_replicate]; omega, fun i => ?_⟩
  have hi : ∀ (l : List Value) (i : Nat), initF l i = (l[i]?).getD undef := by
    intro l
    induction l with
    | nil => intro i; simp [initF]
    | cons x l ih => intro i; cases i with
      | zero => simp [initF]
      | succ i => simp [initF, ih]
  rw [hi]
  by_cases h1 : i < args.length
  · simp only [Array.getD_eq_getD_getElem?]
    rw [Array.getElem?_append_left (by simpa using h1)]
    simp
  · simp only [Array.getD_eq_getD_getElem?]
    rw [Array.getElem?_append_right (by simp; omega)]
    rw [List.getElem?_eq_none (by omega)]
    simp only [Array.getElem?_replicate]
    split <;> rfl

/-! ## from the middle of a call -/
section
variable (P : Program) (f : FuncId) (R : Value → World → Prop)
/-- From here on the call comes to a return that R lets by. -/
def Good (items : List Item) (a : Act) (w : World) : Prop :=
  ∀ (b : Frame) (cs : List Frame), b.fn = f → b.kind = .normal →
    ∃ v w' fr, R v w' ∧ Steps P (lone (b.at a items) cs w) (lone fr cs w') ∧ fr.fn = f ∧ fr.leaving P w' (.returned v)
def LeaveOk (a : Act) (w : World) : Prop := a.defers = [] ∧ ∃ fn v, P.funcs[f]? = some fn ∧ (results fn a.tmps).run P w = .ok v w ∧ R v w
def GoodX (items : List Item) : Exit → Act → World → Prop
  | .normal, a, w => Good P f R items a w
  | .exit id, a, w => ∃ k', exitTo id items = some k' ∧ Good P f R k' a w
  | .ret, a, w => LeaveOk P f R a w
  | _, _, _ => False
end
/-- A call that returns. -/
def Ret (P : Program) (f : FuncId) (args : Array Value) (w : World) (R : Value → World → Prop) : Prop :=
  Calls P f args w fun e w' => ∃ v, e = .returned v ∧ R v w'

section
variable {P : Program} {f : FuncId} {R : Value → World → Prop} {items items' : List Item} {a a' : Act} {w w' : World}
theorem Ret.mono {args : Array Value} {R' : Value → World → Prop} (h : Ret P f args w R) (hr : ∀ v w', R v w' → R' v w') : Ret P f args w R' :=
  Calls.mono h fun _ _ ⟨v, e, r⟩ => ⟨v, e, hr _ _ r⟩
theorem Good.steps (h : ∀ (b : Frame) (cs : List Frame), Steps P (lone (b.at a items) cs w) (lone (b.at a' items') cs w')) (g : Good P f R items' a' w') : Good P f R items a w := by
  intro b cs hf hk
  obtain ⟨v, w2, fr, r, s, e, l⟩ := g b cs hf hk
  exact ⟨v, w2, fr, r, (h b cs).trans s, e, l⟩
theorem Good.step1 (h : ∀ (b : Frame) (cs : List Frame), step P (lone (b.at a items) cs w) = .next (lone (b.at a' items') cs w')) (g : Good P f R items' a' w') : Good P f R items a w :=
  Good.steps (fun b cs => .one (h b cs)) g
theorem LeaveOk.ret {b : Frame} {todo : List Item} (h : LeaveOk P f R a w) (hf : b.fn = f) (hk : b.kind = .normal) :
    ∃ v, R v w ∧ ({ b.at a todo with mode := .returning } : Frame).leaving P w (.returned v) := by
  obtain ⟨hd, fn, v, hfn, hr, hR⟩ := h
  exact ⟨v, hR, rfl, hd, hk, fn, by simpa [Frame.at, hf] using hfn, hr⟩
theorem Good.code {c : Code} (h : c.wp P (GoodX P f R items) a w) : Good P f R (.code c :: items) a w := by
  intro b cs hf hk
  obtain ⟨e, a1, w1, hq, harr⟩ := h b items cs
  cases e with
  | normal =>
    obtain ⟨v, w2, fr, r, s, e, l⟩ := hq b cs hf hk
    exact ⟨v, w2, fr, r, Steps.trans harr s, e, l⟩
  | exit id =>
    obtain ⟨k', hk', g⟩ := hq
    obtain ⟨v, w2, fr, r, s, e, l⟩ := g b cs hf hk
    exact ⟨v, w2, fr, r, Steps.trans (harr k' hk') s, e, l⟩
  | ret =>
    obtain ⟨todo, hs⟩ := harr
    obtain ⟨v, hR, hl⟩ := LeaveOk.ret (todo := todo) hq hf hk
    exact ⟨v, w1, _, hR, hs, hf, hl⟩
  | goto l => exact hq.elim
  | panic c => exact hq.elim
  | outgrown => exact hq.elim
theorem ret_of_good {fn : Func} {c : Code} {args : List Value} (hf : P.funcs[f]? = some fn) (hb : fn.body = some c)
    (h : Good P f R [.code c] { tmps := args.toArray ++ Array.replicate (fn.ntmps - args.toArray.size) undef, defers := [] } w) : Ret P f args.toArray w R := by
  intro cs
  let b : Frame := { (default : Frame) with fn := f, kind := .normal }
  have henter : Frame.enter P f args.toArray .normal =
      b.at { tmps := args.toArray ++ Array.replicate (fn.ntmps - args.toArray.size) undef, defers := [] } [.code c] := by
    simp [Frame.enter, Frame.at, hf, hb, b]
  obtain ⟨v, w2, fr, r, s, e, l⟩ := h b cs rfl rfl
  rw [← henter] at s
  exact ⟨.returned v, w2, fr, ⟨v, rfl, r⟩, s, e, l⟩
end

/-! ## the goals of a walk -/
section
variable (P : Program) (f : FuncId) (n : Sz) (R : Value → World → Prop)
def G (items : List Item) (σ : SF) (w : World) : Prop := ∀ a, Is a n σ → Good P f R items a w
end
section
variable (P : Program) (n : Sz)
def QN (K : SF → World → Prop) : Exit → Act → World → Prop := fun e a w => e = .normal ∧ ∃ σ, Is a n σ ∧ K σ w
def GL (ops : Array Oper) (l : List Oper) (K : SF → World → Prop) (σ : SF) (w : World) : Prop :=
  ∀ a, Is a n σ → wpList P ops (QN n K) l a w
def GA (ops : Array Oper) (S : World → Prop) (fuel : Nat) (listed : Array Bool) (K : SF → World → Prop) (σ : SF) (w : World) : Prop :=
  ∀ a, Is a n σ → wpAnyH P .any ops (QN n K) S fuel listed a w
end
/-- Operation o, in a frame as σ tells, yields v and leaves the world as w'. -/
def Run (P : Program) (o : Oper) (n : Sz) (σ : SF) (w : World) (v : Value) (w' : World) : Prop :=
  ∀ a, Is a n σ → (execOp a.eval o).run P w = .ok (.value v) w'

section
variable {P : Program} {f : FuncId} {n : Sz} {R : Value → World → Prop} {k : List Item} {σ : SF} {w : World}

theorem enter {fn : Func} {c : Code} {args : List Value} {m : Nat} (hf : P.funcs[f]? = some fn) (hb : fn.body = some c) (hn : fn.ntmps = m) (hl : Nat.ble args.length m = true)
    (h : G P f ⟨m, []⟩ R [.code c] (initF args) w) : Ret P f args.toArray w R := by
  subst hn
  exact ret_of_good hf hb (h _ (Is.init args _ (by simpa [Nat.ble_eq] using hl)))

theorem g_seq {x y : Code} (h : G P f n R (.code x :: .code y :: k) σ w) : G P f n R (.code (.seq x y) :: k) σ w :=
  fun a ha => Good.step1 (fun _ _ => step_seq) (h a ha)
theorem g_skip (h : G P f n R k σ w) : G P f n R (.code .skip :: k) σ w := fun a ha => Good.step1 (fun _ _ => step_skip) (h a ha)
theorem g_label {l : Nat} (h : G P f n R k σ w) : G P f n R (.code (.label l) :: k) σ w := fun a ha => Good.step1 (fun _ _ => step_label) (h a ha)
theorem g_block {id : Nat} {c : Code} (h : G P f n R (.code c :: .inBlock id :: k) σ w) : G P f n R (.code (.block id c) :: k) σ w :=
  fun a ha => Good.step1 (fun _ _ => step_block) (h a ha)
theorem g_scope {c : Code} (h : G P f n R (.code c :: .inScope c :: k) σ w) : G P f n R (.code (.scope c) :: k) σ w :=
  fun a ha => Good.step1 (fun _ _ => step_lone_go (by simp [stepG, stepG.exec, Frame.at])) (h a ha)
theorem g_inScope {c : Code} (h : G P f n R k σ w) : G P f n R (.inScope c :: k) σ w :=
  fun a ha => Good.step1 (fun _ _ => step_lone_go (by simp [stepG, stepG.exec, Frame.at])) (h a ha)
theorem g_inBlock {id : Nat} (h : G P f n R k σ w) : G P f n R (.inBlock id :: k) σ w := fun a ha => Good.step1 (fun _ _ => step_inBlock) (h a ha)
theorem g_exit {id : Nat} {k' : List Item} (he : exitTo id k = some k') (h : G P f n R k' σ w) : G P f n R (.code (.exit id) :: k) σ w :=
  fun a ha => Good.step1 (fun _ _ => step_exit he) (h a ha)
theorem g_cond {c : Operand} {x y : Code} {t : Bool} (hc : ev σ c = .bool t) (ht : t = true → G P f n R (.code x :: k) σ w) (hf : t = false → G P f n R (.code y :: k) σ w) :
    G P f n R (.code (.cond c x y) :: k) σ w := by
  intro a ha
  cases t with
  | true => exact Good.step1 (fun _ _ => step_cond (t := true) (by rw [ha.eval]; exact hc)) (ht rfl a ha)
  | false => exact Good.step1 (fun _ _ => step_cond (t := false) (by rw [ha.eval]; exact hc)) (hf rfl a ha)
theorem g_condT {c : Operand} {x y : Code} (hc : ev σ c = .bool true) (h : G P f n R (.code x :: k) σ w) : G P f n R (.code (.cond c x y) :: k) σ w :=
  g_cond hc (fun _ => h) (fun h => by cases h)
theorem g_condF {c : Operand} {x y : Code} (hc : ev σ c = .bool false) (h : G P f n R (.code y :: k) σ w) : G P f n R (.code (.cond c x y) :: k) σ w :=
  g_cond hc (fun h => by cases h) (fun _ => h)
/-- A test that is a statement's own decision. -/
theorem g_condP {c : Operand} {x y : Code} {p : Prop} [Decidable p] (hc : ev σ c = .bool (decide p)) (ht : p → G P f n R (.code x :: k) σ w) (hf : ¬ p → G P f n R (.code y :: k) σ w) :
    G P f n R (.code (.cond c x y) :: k) σ w :=
  g_cond hc (fun h => ht (of_decide_eq_true h)) (fun h => hf (of_decide_eq_false h))

theorem good_ret {a : Act} (h : LeaveOk P f R a w) : Good P f R (.code .ret :: k) a w := by
  intro b cs hf hk
  obtain ⟨v, hR, hl⟩ := LeaveOk.ret (todo := .code .ret :: k) h hf hk
  exact ⟨v, w, _, hR, .one step_ret, hf, hl⟩
theorem good_end {a : Act} (h : LeaveOk P f R a w) : Good P f R [] a w := by
  intro b cs hf hk
  obtain ⟨v, hR, hl⟩ := LeaveOk.ret (todo := []) h hf hk
  exact ⟨v, w, _, hR, .one step_end, hf, hl⟩
/-- What the results are, of the frame. -/
def ResOk (P : Program) (fn : Func) (σ : SF) (w : World) (v : Value) : Prop := ∀ a (n : Sz), Is a n σ → (results fn a.tmps).run P w = .ok v w
theorem g_ret {fn : Func} {v : Value} (hf : P.funcs[f]? = some fn) (hr : ResOk P fn σ w v) (hR : R v w) {m : Nat} : G P f ⟨m, []⟩ R (.code .ret :: k) σ w :=
  fun a ha => good_ret ⟨ha.defers, fn, v, hf, hr a _ ha, hR⟩
theorem g_end {fn : Func} {v : Value} (hf : P.funcs[f]? = some fn) (hr : ResOk P fn σ w v) (hR : R v w) {m : Nat} : G P f ⟨m, []⟩ R [] σ w :=
  fun a ha => good_end ⟨ha.defers, fn, v, hf, hr a _ ha, hR⟩
theorem res0 {fn : Func} (h : fn.results = #[]) : ResOk P fn σ w (.tuple #[]) := fun a n ha => by simp [results, h]
theorem res1 {fn : Func} {t : Tmp} (h : fn.results = #[.tmp t]) : ResOk P fn σ w (σ t) := fun a n ha => by simp only [results_tmp h, ha.get]
theorem res2 {fn : Func} {t u : Tmp} (h : fn.results = #[.tmp t, .tmp u]) : ResOk P fn σ w (.tuple #[σ t, σ u]) := fun a n ha => by simp only [results_tmp2 h, ha.get]
theorem res3 {fn : Func} {t u x : Tmp} (h : fn.results = #[.tmp t, .tmp u, .tmp x]) : ResOk P fn σ w (.tuple #[σ t, σ u, σ x]) := fun a n ha => by
  have : (results fn a.tmps).run P w = .ok (.tuple #[a.tmps.getD t undef, a.tmps.getD u undef, a.tmps.getD x undef]) w := by simp [results, h]
  rw [this, ha.get, ha.get, ha.get]

/-! ### loops -/
def Has (σ : SF) : List (Nat × Value) → Prop
  | [] => True
  | (d, v) :: l => σ d = v ∧ Has σ l
def ovr (τ : SF) : List (Nat × Value) → SF
  | [] => τ
  | (d, v) :: l => upd (ovr τ l) d v
theorem ovr_of_has {σ : SF} : ∀ {l : List (Nat × Value)}, Has σ l → ovr σ l = σ
  | [], _ => rfl
  | (d, v) :: l, h => by
    show upd (ovr σ l) d v = σ
    rw [ovr_of_has h.2]
    exact upd_self σ h.1
theorem g_loop {ι : Type} {c : Code} (vals : ι → List (Nat × Value)) (I : ι → World → Prop) (μ : ι → Nat) (x0 : ι) (hv : Has σ (vals x0)) (h0 : I x0 w)
    (round : ∀ x τ w, I x w → (∀ x' σ' w', μ x' < μ x → Has σ' (vals x') → I x' w' → G P f n R (.inLoop c :: k) σ' w') →
      G P f n R (.code c :: .inLoop c :: k) (ovr τ (vals x)) w) : G P f n R (.code (.loop c) :: k) σ w := by
  have key : ∀ m x σ w, μ x = m → Has σ (vals x) → I x w → G P f n R (.code c :: .inLoop c :: k) σ w := by
    intro m
    induction m using Nat.strongRecOn with
    | _ m ih =>
      intro x σ w hm hv hI
      have := round x σ w hI (fun x' σ' w' hlt hv' hI' => fun a ha => Good.step1 (fun _ _ => step_inLoop) (ih (μ x') (hm ▸ hlt) x' σ' w' rfl hv' hI' a ha))
      rwa [ovr_of_has hv] at this
  exact fun a ha => Good.step1 (fun _ _ => step_loop) (key _ x0 σ w rfl hv h0 a ha)

/-! ### regions in the order of their text -/
theorem g_region {id : Nat} {l : List Oper} (h : GL P n l.toArray l (G P f n R k) σ w) : G P f n R (.code (.region id l.toArray false) :: k) σ w := by
  intro a ha
  refine Good.code (wp_region_lit (wp_ops_mono ?_ (h a ha)))
  rintro e a' w' ⟨rfl, σ', hs, g⟩
  exact g a' hs
where
  wp_ops_mono {ops : Array Oper} {Q Q' : Exit → Act → World → Prop} (hq : ∀ e a w, Q e a w → Q' e a w) : ∀ {l : List Oper} {a : Act} {w : World}, wpList P ops Q l a w → wpList P ops Q' l a w
    | [], _, _, h => hq _ _ _ h
    | o :: rest, a, w, h => by
      unfold wpList at *
      split
      · rename_i hw
        rw [if_pos hw] at h
        rcases h with h | ⟨h1, a1, w1, h2⟩
        · left
          unfold Oper.wp at *
          generalize (execOp a.eval o).run P w = r at *
          cases r with
          | ok nx w' =>
            cases nx <;> simp only [Oper.upon] at h ⊢ <;>
              first
                | exact wp_ops_mono hq h
                | exact Rows.mono h (fun _ _ he => wp_ops_mono hq he)
                | exact Calls.mono h (fun e w'' he => by
                    cases e with
                    | returned v => exact wp_ops_mono hq he
                    | panicked c => exact hq _ _ _ he
                    | outgrown => exact he.imp fun _ ⟨w, h⟩ => ⟨w, hq _ _ _ h⟩)
          | halt x w' => cases x <;> simp only [Oper.upon] at h ⊢ <;> first | exact hq _ _ _ h | exact h
        · exact .inr ⟨h1, a1, w1, hq _ _ _ h2⟩
      · rename_i hw
        rw [if_neg hw] at h
        exact wp_ops_mono hq h
theorem gl_nil {ops : Array Oper} {K : SF → World → Prop} (h : K σ w) : GL P n ops [] K σ w := fun _ ha => ⟨rfl, σ, ha, h⟩
theorem gl_op {ops : Array Oper} {K : SF → World → Prop} {d : Nat} {op : Op} {t : TypeId} {pos : String} {af : Array Edge} {l : List Oper} {v : Value} {w' : World}
    (hr : Run P ⟨some d, op, t, pos, af, none⟩ n σ w v w') (hd : Nat.blt d n.n = true) (h : GL P n ops l K (upd σ d v) w') :
    GL P n ops (⟨some d, op, t, pos, af, none⟩ :: l) K σ w := by
  intro a ha
  refine wpList_plain rfl fun K hK => ?_
  simp only [Oper.wp, hr a ha, Oper.upon]
  exact hK _ _ (h _ (ha.put hd v))
end
end Go.GW
namespace Go.GW
open Go.RowKit

/-! ## what is asked of the program's tables -/
def szOf (P : Program) (t : TypeId) : Option Nat := (P.info? t).map (·.size)
def byOf (P : Program) (t : TypeId) : Option Nat := (P.info? t).map (·.bytes)
def zeroOf (P : Program) (t : TypeId) : Option Value := (P.info? t).bind (·.zero)
/-- none: no such type; some none: one cell; some (some m): a struct or an array of m cells -/
def ldOf (P : Program) (t : TypeId) : Option (Option Nat) :=
  match P.underlying t with
  | some (.struct _) => (szOf P t).map some
  | some (.array _ _) => (szOf P t).map some
  | some _ => some none
  | none => none
/-- where a field lies; it is none of size 0 -/
def offOf (P : Program) (s : TypeId) (i : Nat) : Option Nat :=
  match P.underlying s with
  | some (.struct fs) => match fs[i]? with
    | some f => match szOf P f.type with
      | some 0 => none
      | some _ => some f.offset
      | none => none
    | none => none
  | _ => none
/-- the zero cells, and of each part where it lies and how many cells it has -/
def placesOf (P : Program) (t : TypeId) : Option (List Value × List (Nat × Nat)) :=
  match zeroOf P t, P.underlying t with
  | some z, some (.struct fs) => ((fs.toList.mapM fun f => (szOf P f.type).map fun m => (f.offset, m)) : Option _).map fun ps => (z.cells.toList, ps)
  | _, _ => none

section
variable {P : Program} {t : TypeId} {m : Nat} {w : World}
theorem info_of_sz (h : szOf P t = some m) : ∃ i, P.info? t = some i ∧ i.size = m := by
  unfold szOf at h
  cases hi : P.info? t with
  | none => simp [hi] at h
  | some i => exact ⟨i, rfl, by simpa [hi] using h⟩
theorem info_of_zero {z : Value} (h : zeroOf P t = some z) : ∃ i, P.info? t = some i ∧ i.zero = some z := by
  unfold zeroOf at h
  cases hi : P.info? t with
  | none => simp [hi] at h
  | some i => exact ⟨i, rfl, by simpa [hi] using h⟩
theorem run_typeInfo {i : TypeInfo} (h : P.info? t = some i) : (typeInfo t).run P w = .ok i w := by simp [typeInfo, h]
theorem run_sizeOf (h : szOf P t = some m) : (sizeOf t).run P w = .ok m w := by
  obtain ⟨i, hi, rfl⟩ := info_of_sz h
  simp [sizeOf, run_typeInfo hi]
theorem run_zeroValue {z : Value} (h : zeroOf P t = some z) : (zeroValue t).run P w = .ok z w := by
  obtain ⟨i, hi, hz⟩ := info_of_zero h
  simp [zeroValue, run_typeInfo hi, hz]
theorem run_und {d : TypeDesc} (h : P.underlying t = some d) : (underlying t).run P w = .ok d w := by simp [underlying, h]
theorem run_isAgg0 (h : ldOf P t = some none) : (isAgg t).run P w = .ok false w := by
  unfold ldOf at h
  cases hu : P.underlying t with
  | none => simp [hu] at h
  | some d => cases d <;> simp [hu] at h <;> simp [isAgg, run_und hu] <;> cases hs : szOf P t <;> simp [hs] at h
theorem run_isAgg1 (h : ldOf P t = some (some m)) : (isAgg t).run P w = .ok true w ∧ szOf P t = some m := by
  unfold ldOf at h
  cases hu : P.underlying t with
  | none => simp [hu] at h
  | some d => cases d <;> simp [hu] at h <;> simp [isAgg, run_und hu] <;> cases hs : szOf P t <;> simp_all
end

/-! ## blocks -/
def setBlk (w : World) (b : Nat) (o : Obj) : World := { w with heap := w.heap.setIfInBounds b o }
def cellsAt (cs : Array Value) : Nat → Nat → Option (List Value)
  | _, 0 => some []
  | o, m + 1 => match cs[o]?, cellsAt cs (o + 1) m with
    | some v, some vs => some (v :: vs)
    | _, _ => none
def putCells (cs : Array Value) (o : Nat) : List Value → Array Value
  | [] => cs
  | v :: vs => putCells (cs.setIfInBounds o v) (o + 1) vs

section
variable {w : World} {b : Nat} {o o' : Obj}
theorem blk_lt (h : w.heap[b]? = some o) : b < w.heap.size := by
  rcases Nat.lt_or_ge b w.heap.size with hl | hg
  · exact hl
  · rw [Array.getElem?_eq_none hg] at h; cases h
theorem setBlk_same (h : b < w.heap.size) : (setBlk w b o).heap[b]? = some o := by simp [setBlk, h]
theorem setBlk_ne {c : Nat} (h : c ≠ b) : (setBlk w b o).heap[c]? = w.heap[c]? := by simp [setBlk, Array.getElem?_setIfInBounds_ne (Ne.symm h)]
theorem setBlk_size : (setBlk w b o).heap.size = w.heap.size := by simp [setBlk]
theorem alloc_new : (w.alloc o).heap[w.heap.size]? = some o := by
  show (w.heap.push o)[w.heap.size]? = some o
  simp
theorem alloc_old (h : w.heap[b]? = some o') : (w.alloc o).heap[b]? = some o' := by
  have := blk_lt h
  rw [← h]
  show (w.heap.push o)[b]? = w.heap[b]?
  simp [Array.getElem?_push, Nat.ne_of_lt this]
theorem cell_of_blk {cs : Array Value} {e : TypeId} {fr : Nat × Nat} (h : w.heap[b]? = some (.cells cs e fr)) (i : Nat) : w.cell? ⟨b, i, none⟩ = cs[i]? := by simp [World.cell?, h]
theorem frozen_of_blk {cs : Array Value} {e : TypeId} (h : w.heap[b]? = some (.cells cs e (0, 0))) (i : Nat) : w.frozen? ⟨b, i, none⟩ = false := by simp [World.frozen?, h]
theorem setBlk_setBlk : setBlk (setBlk w b o) b o' = setBlk w b o' := by simp [setBlk]
end

theorem add_at (b o i : Nat) : (⟨b, o, none⟩ : Addr).add i = ⟨b, o + i, none⟩ := by
  unfold Addr.add
  split
  · subst_vars; rfl
  · rfl

section
variable {P : Program} {w : World} {b : Nat} {cs : Array Value} {e : TypeId} {fr : Nat × Nat}
theorem run_loadCellsFrom (h : w.heap[b]? = some (.cells cs e fr)) : ∀ (m o i : Nat) (acc : Array Value) (ls : List Value), cellsAt cs (o + i) m = some ls →
    (loadCellsFrom ⟨b, o, none⟩ i m acc).run P w = .ok (acc ++ ls.toArray) w
  | 0, o, i, acc, ls, hl => by simp [cellsAt] at hl; subst hl; simp [loadCellsFrom]
  | m + 1, o, i, acc, ls, hl => by
    simp only [cellsAt] at hl
    split at hl
    · rename_i v vs hv hvs
      injection hl with hl
      subst hl
      have ih := run_loadCellsFrom h m o (i + 1) (acc.push v) vs (by rw [← Nat.add_assoc]; exact hvs)
      simp only [loadCellsFrom, Sem.run_bind, run_load, add_at, cell_of_blk h, hv, Result.andThen_ok]
      rw [ih]
      simp
    · cases hl
theorem run_loadCells (h : w.heap[b]? = some (.cells cs e fr)) {m o : Nat} {ls : List Value} (hl : cellsAt cs o m = some ls) : (loadCells ⟨b, o, none⟩ m).run P w = .ok ls.toArray w := by
  have := run_loadCellsFrom (P := P) h m o 0 #[] ls (by simpa using hl)
  simpa [loadCells] using this
theorem run_loadVar1 {t : TypeId} {o : Nat} {v : Value} (hk : ldOf P t = some none) (h : w.heap[b]? = some (.cells cs e fr)) (hc : cs[o]? = some v) : (loadVar t ⟨b, o, none⟩).run P w = .ok v w := by
  simp [loadVar, run_isAgg0 hk, cell_of_blk h, hc]
theorem run_loadVarA {t : TypeId} {o m : Nat} {ls : List Value} (hk : ldOf P t = some (some m)) (h : w.heap[b]? = some (.cells cs e fr)) (hc : cellsAt cs o m = some ls) : (loadVar t ⟨b, o, none⟩).run P w = .ok (.agg ls.toArray) w := by
  obtain ⟨h1, h2⟩ := run_isAgg1 (w := w) hk
  simp [loadVar, h1, run_sizeOf h2, run_loadCells h hc]
theorem run_storeCells : ∀ (vs : List Value) (cs : Array Value) (w : World) (o i : Nat), w.heap[b]? = some (.cells cs e (0, 0)) → (∀ v ∈ vs, v.oneCell' = true) → o + i + vs.length ≤ cs.size →
    (storeCells ⟨b, o, none⟩ vs i).run P w = .ok () (setBlk w b (.cells (putCells cs (o + i) vs) e (0, 0)))
  | [], cs, w, o, i, h, _, _ => by
    simp only [storeCells, Sem.run_pure, putCells]
    congr 1
    have := blk_lt h
    cases w
    simp only [setBlk] at *
    congr 1
    apply Array.ext_getElem?
    intro j
    rw [Array.getElem?_setIfInBounds]
    by_cases hj : b = j
    · subst hj; simp only [if_true, this]; exact h
    · simp [hj]
  | v :: vs, cs, w, o, i, h, h1, hs => by
    have hlt : o + i < cs.size := by simp at hs; omega
    have hv : v.oneCell' = true := h1 v (by simp)
    have hset : w.setCell ⟨b, o + i, none⟩ v = setBlk w b (.cells (cs.setIfInBounds (o + i) v) e (0, 0)) := by
      have hb := blk_lt h
      simp only [World.setCell, setBlk]
      congr 1
      apply Array.ext_getElem?
      intro j
      rw [Array.getElem?_modify]
      by_cases hj : b = j
      · subst hj
        rw [Array.getElem?_setIfInBounds_self_of_lt hb]
        simp [h]
      · simp [hj]
    simp only [storeCells, Sem.run_bind, run_store P _ _ v .plain hv, add_at, cell_of_blk h, frozen_of_blk h, Array.getElem?_eq_getElem hlt, Bool.false_eq_true, if_false, Result.andThen_ok, hset]
    rw [run_storeCells vs (cs.setIfInBounds (o + i) v) _ o (i + 1) (setBlk_same (blk_lt h)) (fun v hv => h1 v (by simp [hv])) (by simp at hs ⊢; omega)]
    rw [setBlk_setBlk]
    simp [putCells, Nat.add_assoc]
theorem run_storeVar {t : TypeId} {o m : Nat} {v : Value} {vs : List Value} (hs : szOf P t = some m) (hv : v.cells = vs.toArray) (hm : vs.length = m) (h1 : ∀ v ∈ vs, v.oneCell' = true)
    (h : w.heap[b]? = some (.cells cs e (0, 0))) (hle : o + vs.length ≤ cs.size) : (storeVar t ⟨b, o, none⟩ v).run P w = .ok () (setBlk w b (.cells (putCells cs o vs) e (0, 0))) := by
  subst hm
  have := run_storeCells (P := P) vs cs w o 0 h h1 (by omega)
  simp only [storeVar, Sem.run_bind, run_sizeOf hs, Result.andThen_ok, hv]
  simpa using this
end

/-! ## the operations that yield -/
section
variable {P : Program} {n : Sz} {σ : SF} {w : World} {d : Option Tmp} {ty : TypeId} {pos : String} {af : Array Edge} {gd : Option (Nat × Bool)}
theorem r_move {x : Operand} : Run P ⟨d, .move x, ty, pos, af, gd⟩ n σ w (ev σ x) w := fun a ha => by simp [execOp, ha.eval]
theorem r_assign {x : Operand} : Run P ⟨d, .assign x, ty, pos, af, gd⟩ n σ w (ev σ x) w := fun a ha => by simp [execOp, ha.eval]
theorem r_pick {c x y : Operand} {t : Bool} (hc : ev σ c = .bool t) : Run P ⟨d, .pick c x y, ty, pos, af, gd⟩ n σ w (bif t then ev σ x else ev σ y) w := fun a ha => by
  cases t <;> simp [execOp, ha.eval, hc, asBool]
theorem r_box {e : TypeId} {x : Operand} : Run P ⟨d, .box e x, ty, pos, af, gd⟩ n σ w (.pointer (some ⟨w.heap.size, 0, none⟩)) (w.alloc (.cells (ev σ x).cells e)) := fun a ha => by
  simp [execOp, ha.eval, Instr.box, newVar, newRow]
theorem r_alloc {e : TypeId} {z : Value} (hz : zeroOf P e = some z) : Run P ⟨d, .alloc e, ty, pos, af, gd⟩ n σ w (.pointer (some ⟨w.heap.size, 0, none⟩)) (w.alloc (.cells z.cells e)) := fun a ha => by
  simp [execOp, Instr.alloc, run_zeroValue hz, newVar, newRow]
theorem r_load1 {t : TypeId} {x : Operand} {b o : Nat} {cs : Array Value} {e : TypeId} {fr : Nat × Nat} {v : Value} (hk : ldOf P t = some none) (hx : ev σ x = .pointer (some ⟨b, o, none⟩))
    (hb : w.heap[b]? = some (.cells cs e fr)) (hc : cs[o]? = some v) : Run P ⟨d, .load t x, ty, pos, af, gd⟩ n σ w v w := fun a ha => by
  simp [execOp, ha.eval, hx, Instr.loadAt, Instr.sureAddr, run_loadVar1 hk hb hc]
theorem r_loadA {t : TypeId} {x : Operand} {b o m : Nat} {cs : Array Value} {e : TypeId} {fr : Nat × Nat} {ls : List Value} (hk : ldOf P t = some (some m)) (hx : ev σ x = .pointer (some ⟨b, o, none⟩))
    (hb : w.heap[b]? = some (.cells cs e fr)) (hc : cellsAt cs o m = some ls) : Run P ⟨d, .load t x, ty, pos, af, gd⟩ n σ w (.agg ls.toArray) w := fun a ha => by
  simp [execOp, ha.eval, hx, Instr.loadAt, Instr.sureAddr, run_loadVarA hk hb hc]
theorem r_nil {x : Operand} {ad : Addr} (hx : ev σ x = .pointer (some ad)) : Run P ⟨d, .nilCheck x, ty, pos, af, gd⟩ n σ w (.pointer (some ad)) w := fun a ha => by
  simp [execOp, ha.eval, hx]
theorem r_fieldAddr {s : TypeId} {x : Operand} {i b o off : Nat} (hf : offOf P s i = some off) (hx : ev σ x = .pointer (some ⟨b, o, none⟩)) :
    Run P ⟨d, .fieldAddr s x i, ty, pos, af, gd⟩ n σ w (.pointer (some ⟨b, o + off, none⟩)) w := fun a ha => by
  unfold offOf at hf
  split at hf
  · rename_i fs hu
    split at hf
    · rename_i fl hfl
      split at hf
      · cases hf
      · rename_i sz hs hne
        injection hf with hf
        subst hf
        simp only [execOp, ha.eval, hx, Instr.fieldAt, Instr.sureAddr, fieldPlace, run_und hu, hfl, Sem.run_bind, Sem.run_pure, Result.andThen_ok, run_sizeOf hne]
        rw [if_neg hs]
        simp [add_at]
      · cases hf
    · cases hf
  · cases hf
theorem r_not {t : TypeId} {x : Operand} {b : Bool} (hx : ev σ x = .bool b) : Run P ⟨d, .unOp .not t x, ty, pos, af, gd⟩ n σ w (.bool (!b)) w := fun a ha => by
  simp [execOp, ha.eval, hx, Op.unary]
theorem r_bnot {t : TypeId} {x : Operand} {k : IntKind} {i : Int} (hx : ev σ x = .int k i) : Run P ⟨d, .unOp .xor t x, ty, pos, af, gd⟩ n σ w (.int k (k.wrap (BitVec.ofInt k.bits (if k.signed then -1 else k.max) ^^^ BitVec.ofInt k.bits i).toNat)) w := fun a ha => by
  simp [execOp, ha.eval, hx, Op.unary, Op.intBits]
theorem r_neg {t : TypeId} {x : Operand} {k : IntKind} {i : Int} (hx : ev σ x = .int k i) : Run P ⟨d, .unOp .neg t x, ty, pos, af, gd⟩ n σ w (.int k (k.wrap (0 - i))) w := fun a ha => by
  simp [execOp, ha.eval, hx, Op.unary, Op.intArith]
theorem r_bin {op : BinOp} {t t' : TypeId} {x y : Operand} {v : Value} (hg : ∀ w, (eqGuard op t x y (ev σ x) (ev σ y)).run P w = .ok () w) (h : (binOp op t (ev σ x) (ev σ y)).run P w = .ok v w) :
    Run P ⟨d, .binOp op t x y t', ty, pos, af, gd⟩ n σ w v w := fun a ha => by
  simp [execOp, ha.eval, hg, h]
theorem eqg_int {op : BinOp} {t : TypeId} {x y : Operand} {k k' : IntKind} {i j : Int} (w : World) : (eqGuard op t x y (.int k i) (.int k' j)).run P w = .ok () w := by
  cases op <;> simp [eqGuard]
theorem eqg_str {op : BinOp} {t : TypeId} {x y : Operand} {a b : ByteArray} (w : World) : (eqGuard op t x y (.string a) (.string b)).run P w = .ok () w := by
  cases op <;> simp [eqGuard]
section
variable {t t' : TypeId} {x y : Operand} {k : IntKind} {i j : Int} (hx : ev σ x = .int k i) (hy : ev σ y = .int k j)
include hx hy
theorem r_add {c : Int} (h : k.wrap (i + j) = c) : Run P ⟨d, .binOp .add t x y t', ty, pos, af, gd⟩ n σ w (.int k c) w :=
  r_bin (by rw [hx, hy]; exact eqg_int) (by rw [hx, hy]; simp [binOp, Op.intArith, h])
theorem r_sub {c : Int} (h : k.wrap (i - j) = c) : Run P ⟨d, .binOp .sub t x y t', ty, pos, af, gd⟩ n σ w (.int k c) w :=
  r_bin (by rw [hx, hy]; exact eqg_int) (by rw [hx, hy]; simp [binOp, Op.intArith, h])
theorem r_mul {c : Int} (h : k.wrap (i * j) = c) : Run P ⟨d, .binOp .mul t x y t', ty, pos, af, gd⟩ n σ w (.int k c) w :=
  r_bin (by rw [hx, hy]; exact eqg_int) (by rw [hx, hy]; simp [binOp, Op.intArith, h])
theorem r_quo {c : Int} (h0 : j ≠ 0) (h : k.wrap (i.tdiv j) = c) : Run P ⟨d, .binOp .quo t x y t', ty, pos, af, gd⟩ n σ w (.int k c) w :=
  r_bin (by rw [hx, hy]; exact eqg_int) (by rw [hx, hy]; simp [binOp, Op.intDiv, h, h0])
theorem r_rem {c : Int} (h0 : j ≠ 0) (h : i.tmod j = c) : Run P ⟨d, .binOp .rem t x y t', ty, pos, af, gd⟩ n σ w (.int k c) w :=
  r_bin (by rw [hx, hy]; exact eqg_int) (by rw [hx, hy]; simp [binOp, Op.intDiv, h, h0])
theorem r_eq : Run P ⟨d, .binOp .eql t x y t', ty, pos, af, gd⟩ n σ w (.bool (decide (i = j))) w :=
  r_bin (by rw [hx, hy]; exact eqg_int) (by rw [hx, hy]; simp [binOp, Op.intCmp]; rfl)
theorem r_ne : Run P ⟨d, .binOp .neq t x y t', ty, pos, af, gd⟩ n σ w (.bool (decide (i ≠ j))) w :=
  r_bin (by rw [hx, hy]; exact eqg_int) (by rw [hx, hy]; simp [binOp, Op.intCmp, bne]; rfl)
theorem r_lt : Run P ⟨d, .binOp .lss t x y t', ty, pos, af, gd⟩ n σ w (.bool (decide (i < j))) w :=
  r_bin (by rw [hx, hy]; exact eqg_int) (by rw [hx, hy]; simp [binOp, Op.intCmp])
theorem r_le : Run P ⟨d, .binOp .leq t x y t', ty, pos, af, gd⟩ n σ w (.bool (decide (i ≤ j))) w :=
  r_bin (by rw [hx, hy]; exact eqg_int) (by rw [hx, hy]; simp [binOp, Op.intCmp])
theorem r_gt : Run P ⟨d, .binOp .gtr t x y t', ty, pos, af, gd⟩ n σ w (.bool (decide (i > j))) w :=
  r_bin (by rw [hx, hy]; exact eqg_int) (by rw [hx, hy]; simp [binOp, Op.intCmp])
theorem r_ge : Run P ⟨d, .binOp .geq t x y t', ty, pos, af, gd⟩ n σ w (.bool (decide (i ≥ j))) w :=
  r_bin (by rw [hx, hy]; exact eqg_int) (by rw [hx, hy]; simp [binOp, Op.intCmp])
theorem r_and {c : Int} (h : k.wrap (BitVec.ofInt k.bits i &&& BitVec.ofInt k.bits j).toNat = c) : Run P ⟨d, .binOp .and t x y t', ty, pos, af, gd⟩ n σ w (.int k c) w :=
  r_bin (by rw [hx, hy]; exact eqg_int) (by rw [hx, hy]; simp only [binOp, ne_eq, not_true_eq_false, if_false, Op.intBits, Sem.run_pure, h])
theorem r_or {c : Int} (h : k.wrap (BitVec.ofInt k.bits i ||| BitVec.ofInt k.bits j).toNat = c) : Run P ⟨d, .binOp .or t x y t', ty, pos, af, gd⟩ n σ w (.int k c) w :=
  r_bin (by rw [hx, hy]; exact eqg_int) (by rw [hx, hy]; simp only [binOp, ne_eq, not_true_eq_false, if_false, Op.intBits, Sem.run_pure, h])
theorem r_xor {c : Int} (h : k.wrap (BitVec.ofInt k.bits i ^^^ BitVec.ofInt k.bits j).toNat = c) : Run P ⟨d, .binOp .xor t x y t', ty, pos, af, gd⟩ n σ w (.int k c) w :=
  r_bin (by rw [hx, hy]; exact eqg_int) (by rw [hx, hy]; simp only [binOp, ne_eq, not_true_eq_false, if_false, Op.intBits, Sem.run_pure, h])
end
theorem r_shl {t t' : TypeId} {x y : Operand} {k k' : IntKind} {i j c : Int} (hx : ev σ x = .int k i) (hy : ev σ y = .int k' j) (hj : 0 ≤ j) (h : k.wrap (i * 2 ^ (min j.toNat k.bits)) = c) :
    Run P ⟨d, .binOp .shl t x y t', ty, pos, af, gd⟩ n σ w (.int k c) w :=
  r_bin (by rw [hx, hy]; exact eqg_int) (by rw [hx, hy]; simp [binOp, Op.shift, h, Int.not_lt.2 hj])
theorem r_shr {t t' : TypeId} {x y : Operand} {k k' : IntKind} {i j c : Int} (hx : ev σ x = .int k i) (hy : ev σ y = .int k' j) (hj : 0 ≤ j) (h : i.fdiv (2 ^ (min j.toNat k.bits)) = c) :
    Run P ⟨d, .binOp .shr t x y t', ty, pos, af, gd⟩ n σ w (.int k c) w :=
  r_bin (by rw [hx, hy]; exact eqg_int) (by rw [hx, hy]; simp [binOp, Op.shift, h, Int.not_lt.2 hj])
/-- a text, of its bytes -/
abbrev str (l : List UInt8) : ByteArray := ⟨l.toArray⟩
theorem str_toList (l : List UInt8) : (str l).toList = l := ByteArray.toList_mk l
theorem str_size (l : List UInt8) : (str l).size = l.length := by simp [ByteArray.size]
theorem str_append (a b : List UInt8) : str a ++ str b = str (a ++ b) := by
  apply ByteArray.ext
  simp [str]
theorem str_extract (a : List UInt8) (i j : Nat) : (str a).extract i j = str ((a.drop i).take (j - i)) := by
  apply ByteArray.ext
  simp [str, List.extract_toArray]
theorem str_of (s : ByteArray) : s = str s.data.toList := by cases s; simp [str]
theorem beq_lists (a b : List UInt8) : (a == b) = decide (a = b) := by
  by_cases h : a = b <;> simp [h]
section
variable {t t' : TypeId} {x y : Operand} {a b : List UInt8} (hx : ev σ x = .string (str a)) (hy : ev σ y = .string (str b))
include hx hy
theorem r_sadd (h : a.length + b.length ≤ 9223372036854775807) : Run P ⟨d, .binOp .add t x y t', ty, pos, af, gd⟩ n σ w (.string (str (a ++ b))) w :=
  r_bin (by rw [hx, hy]; exact eqg_str) (by
    rw [hx, hy]
    have : ¬ ((((str a).size + (str b).size : Nat) : Int) > IntKind.i64.max) := by
      have : IntKind.i64.max = 9223372036854775807 := by decide
      rw [str_size, str_size]
      omega
    simp only [binOp, Op.stringOp, if_neg this, str_append]
    rfl)
theorem r_seq : Run P ⟨d, .binOp .eql t x y t', ty, pos, af, gd⟩ n σ w (.bool (decide (a = b))) w :=
  r_bin (by rw [hx, hy]; exact eqg_str) (by rw [hx, hy]; simp only [binOp, Op.stringOp, str_toList, beq_lists]; rfl)
theorem r_sne : Run P ⟨d, .binOp .neq t x y t', ty, pos, af, gd⟩ n σ w (.bool (decide (a ≠ b))) w :=
  r_bin (by rw [hx, hy]; exact eqg_str) (by rw [hx, hy]; simp only [binOp, Op.stringOp, str_toList, beq_lists, ne_eq, decide_not]; rfl)
theorem r_slt : Run P ⟨d, .binOp .lss t x y t', ty, pos, af, gd⟩ n σ w (.bool (Op.bytesLess a b)) w :=
  r_bin (by rw [hx, hy]; exact eqg_str) (by rw [hx, hy]; simp only [binOp, Op.stringOp, str_toList]; rfl)
theorem r_sge : Run P ⟨d, .binOp .geq t x y t', ty, pos, af, gd⟩ n σ w (.bool (!Op.bytesLess a b)) w :=
  r_bin (by rw [hx, hy]; exact eqg_str) (by rw [hx, hy]; simp only [binOp, Op.stringOp, str_toList]; rfl)
end
end
end Go.GW
namespace Go.GW
open Go.RowKit

/-! ## data in memory -/
/-- The slice A of n elements of type T, sz cells each, reads as the cells xs. -/
def Sl (w : World) (T : TypeId) (sz : Nat) (A : Option Addr) (n : Nat) (xs : List Value) : Prop :=
  xs.length = n * sz ∧ (0 < n → ∃ b o cs fr, A = some ⟨b, o, none⟩ ∧ w.heap[b]? = some (.cells cs T fr) ∧ ∀ j u, xs[j]? = some u → cs[o + j]? = some u)
/-- All blocks of cells of these types stay as they are. -/
def Dk (D : TypeId → Bool) (w w' : World) : Prop := ∀ (b : Nat) (cs : Array Value) (T : TypeId) (fr : Nat × Nat), D T = true → w.heap[b]? = some (Obj.cells cs T fr) → w'.heap[b]? = some (Obj.cells cs T fr)
/-- What a call leaves: of old blocks only those of F turn, and none of data. -/
structure Fr (D : TypeId → Bool) (F : Nat → Prop) (w w' : World) : Prop where
  os : w'.os = w.os
  tape : w'.tape = w.tape
  output : w'.output = w.output
  size : w.heap.size ≤ w'.heap.size
  keep : ∀ b, b < w.heap.size → ¬ F b → w'.heap[b]? = w.heap[b]?
  data : Dk D w w'
abbrev Pu (w w' : World) : Prop := Below w.heap.size w w'

section
variable {D : TypeId → Bool} {F F' : Nat → Prop} {w w' w'' : World}
theorem Dk.refl : Dk D w w := fun _ _ _ _ _ h => h
theorem Dk.trans (h : Dk D w w') (k : Dk D w' w'') : Dk D w w'' := fun b cs T fr hT hb => k b cs T fr hT (h b cs T fr hT hb)
theorem Pu.dk (h : Pu w w') : Dk D w w' := fun b _ _ _ _ hb => (h.block b (blk_lt hb)).trans hb
theorem Pu.blk {b : Nat} {o : Obj} (h : Pu w w') (hb : w.heap[b]? = some o) : w'.heap[b]? = some o := (h.block b (blk_lt hb)).trans hb
theorem Pu.fr (h : Pu w w') : Fr D F w w' := ⟨h.os, h.tape, h.output, h.size, fun b hb _ => h.block b hb, h.dk⟩
theorem Fr.refl : Fr D F w w := ⟨rfl, rfl, rfl, Nat.le_refl _, fun _ _ _ => rfl, Dk.refl⟩
theorem Fr.pu (h : Fr D (fun _ => False) w w') : Pu w w' := ⟨h.os, h.tape, h.output, h.size, fun b hb => h.keep b hb id⟩
theorem Fr.blk {b : Nat} {o : Obj} (h : Fr D F w w') (hb : w.heap[b]? = some o) (hF : ¬ F b) : w'.heap[b]? = some o := (h.keep b (blk_lt hb) hF).trans hb
theorem Fr.trans (h : Fr D F w w') (k : Fr D F' w' w'') (hF : ∀ b, b < w.heap.size → F' b → F b) : Fr D F w w'' :=
  ⟨k.os.trans h.os, k.tape.trans h.tape, k.output.trans h.output, Nat.le_trans h.size k.size,
   fun b hb hn => (k.keep b (Nat.lt_of_lt_of_le hb h.size) (fun hf => hn (hF b hb hf))).trans (h.keep b hb hn), h.data.trans k.data⟩
theorem Pu.trans (h : Pu w w') (k : Pu w' w'') : Pu w w'' := Below.trans h (Below.mono k h.size)
theorem Pu.refl : Pu w w := Below.refl _ _
theorem Pu.alloc (o : Obj) : Pu w (w.alloc o) := (Below.refl _ _).alloc (Nat.le_refl _) o
theorem Pu.drew : Pu w w.drew := (Below.refl _ _).drew
end

section
variable {w w' : World} {T : TypeId} {sz n : Nat} {A : Option Addr} {xs : List Value}
theorem Sl.dk {D : TypeId → Bool} (h : Sl w T sz A n xs) (hd : Dk D w w') (hT : D T = true) : Sl w' T sz A n xs :=
  ⟨h.1, fun hn => by obtain ⟨b, o, cs, fr, e, hb, hc⟩ := h.2 hn; exact ⟨b, o, cs, fr, e, hd b cs T fr hT hb, hc⟩⟩
theorem Sl.pu (h : Sl w T sz A n xs) (hd : Pu w w') : Sl w' T sz A n xs := h.dk (D := fun _ => true) hd.dk rfl
theorem Sl.nil : Sl w T sz A 0 [] := ⟨by simp, fun h => absurd h (by omega)⟩
theorem Sl.len (h : Sl w T sz A n xs) : xs.length = n * sz := h.1
/-- an element -/
theorem Sl.at_ (h : Sl w T sz A n xs) {i : Nat} (hi : i < n) : ∃ b o cs fr, A = some ⟨b, o, none⟩ ∧ w.heap[b]? = some (.cells cs T fr) ∧ ∀ m, m ≤ sz → cellsAt cs (o + i * sz) m = some ((xs.drop (i * sz)).take m) := by
  obtain ⟨b, o, cs, fr, e, hb, hc⟩ := h.2 (by omega)
  refine ⟨b, o, cs, fr, e, hb, ?_⟩
  have hle : i * sz + sz ≤ xs.length := by
    rw [h.1, ← Nat.succ_mul]
    exact Nat.mul_le_mul_right _ hi
  have key : ∀ m j, j + m ≤ xs.length → cellsAt cs (o + j) m = some ((xs.drop j).take m) := by
    intro m
    induction m with
    | zero => intro j _; simp [cellsAt]
    | succ m ih =>
      intro j hj
      have hlt : j < xs.length := by omega
      have h1 := hc j xs[j] (List.getElem?_eq_getElem hlt)
      have h2 := ih (j + 1) (by omega)
      simp only [cellsAt, h1, Nat.add_assoc, h2]
      rw [List.drop_eq_getElem_cons hlt, List.take_succ_cons]
  intro m hm
  exact key m (i * sz) (by omega)
/-- a cut -/
theorem Sl.cut (h : Sl w T sz A n xs) {i j : Nat} (hij : i ≤ j) (hj : j ≤ n) {A' : Option Addr} (hA : i < j → A' = A.map (·.add (i * sz))) :
    Sl w T sz A' (j - i) ((xs.drop (i * sz)).take ((j - i) * sz)) := by
  have hle : j * sz ≤ xs.length := by rw [h.1]; exact Nat.mul_le_mul_right _ hj
  have hle2 : i * sz ≤ j * sz := Nat.mul_le_mul_right _ hij
  refine ⟨by rw [List.length_take, List.length_drop, Nat.sub_mul]; omega, fun hn => ?_⟩
  obtain ⟨b, o, cs, fr, e, hb, hc⟩ := h.2 (by omega)
  refine ⟨b, o + i * sz, cs, fr, ?_, hb, fun k u hk => ?_⟩
  · rw [hA (by omega), e]; simp [add_at]
  · rw [List.getElem?_take] at hk
    split at hk
    · rw [List.getElem?_drop] at hk
      rw [Nat.add_assoc]
      exact hc _ _ hk
    · cases hk
end

/-- A row of the call's own, that may grow. -/
def Row (w : World) (base : Nat) (e : TypeId) (sz : Nat) (A : Option Addr) (n c : Nat) (xs : List Value) : Prop := w.ownsRow base e sz (.slice A n c) n xs
section
variable {w w' : World} {T : TypeId} {sz n c base : Nat} {A : Option Addr} {xs : List Value}
theorem Row.nil : Row w base T sz none 0 0 [] := ⟨by simp, .inl ⟨rfl, rfl⟩⟩
theorem Row.form (h : Row w base T sz A n c xs) : (A = none ∧ n = 0 ∧ c = 0 ∧ xs = []) ∨ ∃ g cur, A = some ⟨g, 0, none⟩ ∧ base ≤ g ∧ w.heap[g]? = some (.cells cur T (0, 0)) ∧ n ≤ c ∧ c ≤ maxLen ∧ cur.size = c * sz ∧ cur.toList.take (n * sz) = xs := by
  obtain ⟨h1, h2 | ⟨g, cap, cur, hv, hg, hb, hn, hc, hs, ht⟩⟩ := h
  · obtain ⟨hv, hn⟩ := h2
    injection hv with hA _ hc
    subst hn
    exact .inl ⟨hA, rfl, hc, List.eq_nil_of_length_eq_zero (by simpa using h1)⟩
  · injection hv with hA _ hcc
    subst hcc
    exact .inr ⟨g, cur, hA, hg, hb, hn, hc, hs, ht⟩
theorem Row.sl (h : Row w base T sz A n c xs) : Sl w T sz A n xs := by
  refine ⟨h.1, fun hn => ?_⟩
  rcases h.form with ⟨_, hn0, _⟩ | ⟨g, cur, hA, _, hb, _, _, _, ht⟩
  · omega
  · refine ⟨g, 0, cur, (0, 0), hA, hb, fun j u hj => ?_⟩
    rw [← ht, List.getElem?_take] at hj
    split at hj
    · simpa using hj
    · cases hj
theorem Row.pu (h : Row w base T sz A n c xs) (hp : Pu w w') : Row w' base T sz A n c xs := by
  refine ⟨h.1, ?_⟩
  rcases h.2 with h2 | ⟨g, cap, cur, hv, hg, hb, r⟩
  · exact .inl h2
  · exact .inr ⟨g, cap, cur, hv, hg, hp.blk hb, r⟩
theorem Row.fr {D : TypeId → Bool} {F : Nat → Prop} (h : Row w base T sz A n c xs) (hp : Fr D F w w') (hF : ∀ b, base ≤ b → b < w.heap.size → ¬ F b) : Row w' base T sz A n c xs := by
  refine ⟨h.1, ?_⟩
  rcases h.2 with h2 | ⟨g, cap, cur, hv, hg, hb, r⟩
  · exact .inl h2
  · exact .inr ⟨g, cap, cur, hv, hg, hp.blk hb (hF g hg (blk_lt hb)), r⟩
end

/-! ## more operations that yield -/
section
variable {P : Program} {n : Sz} {σ : SF} {w : World} {d : Option Tmp} {ty : TypeId} {pos : String} {af : Array Edge} {gd : Option (Nat × Bool)}
theorem evs_eval {a : Act} (ha : Is a n σ) (l : List Operand) : l.map a.eval = l.map (ev σ) := List.map_congr_left fun x _ => ha.eval x
theorem r_func {fn : Fn} {fs cs : List Operand} : Run P ⟨d, .makeFunc fn fs.toArray cs.toArray, ty, pos, af, gd⟩ n σ w (.func fn (fs.map (ev σ)).toArray (cs.map (ev σ)).toArray) w := fun a ha => by
  simp [execOp, Instr.makeFunc, evs_eval ha]
theorem r_iface {t : TypeId} {x : Operand} {ds : TypeDesc} (hu : P.underlying t = some ds) (hd : (match ds with | .interface _ => false | _ => true) = true) : Run P ⟨d, .makeInterface t x, ty, pos, af, gd⟩ n σ w (.iface t (ev σ x)) w := fun a ha => by
  cases ds <;> simp at hd <;> simp [execOp, Instr.makeInterface, run_und hu, ha.eval]
theorem r_extract {x : Operand} {i : Nat} {vs : Array Value} {v : Value} (hx : ev σ x = .tuple vs) (hv : vs[i]? = some v) : Run P ⟨d, .extract x i, ty, pos, af, gd⟩ n σ w v w := fun a ha => by
  simp [execOp, ha.eval, hx, Instr.extract, hv]
theorem r_conv {s t : TypeId} {x : Operand} {ds : TypeDesc} {k k' : IntKind} {i c : Int} (hs : P.underlying s = some ds) (hu : P.underlying t = some (.int k)) (hx : ev σ x = .int k' i) (h : k.wrap i = c) :
    Run P ⟨d, .convert s t x, ty, pos, af, gd⟩ n σ w (.int k c) w := fun a ha => by
  simp [execOp, ha.eval, hx, convert, run_und hs, run_und hu, Conv.intToInt, h]
theorem r_convS {s t : TypeId} {x : Operand} {a : List UInt8} (hs : P.underlying s = some .string) (hu : P.underlying t = some .string) (hx : ev σ x = .string (str a)) :
    Run P ⟨d, .convert s t x, ty, pos, af, gd⟩ n σ w (.string (str a)) w := fun a ha => by
  simp [execOp, ha.eval, hx, convert, run_und hs, run_und hu]
theorem run_mapM_places {fs : List Field} {ps : List (Nat × Nat)} (h : (fs.mapM fun f => (szOf P f.type).map fun m => (f.offset, m)) = some ps) :
    ((fs.mapM fun f => (do pure (f.offset, ← sizeOf f.type) : Sem (Nat × Nat)))).run P w = .ok ps w := by
  induction fs generalizing ps with
  | nil => simp at h; subst h; rfl
  | cons f fs ih =>
    simp only [List.mapM_cons, Option.bind_eq_bind] at h
    cases hs : szOf P f.type with
    | none => simp [hs] at h
    | some m =>
      simp only [hs, Option.map_some, Option.bind_some] at h
      cases hp : (fs.mapM fun f => (szOf P f.type).map fun m => (f.offset, m)) with
      | none => simp [hp] at h
      | some qs =>
        simp only [hp, Option.bind_some, pure, Option.some.injEq] at h
        subst h
        have ih' := ih hp
        simp only [List.mapM_cons, Sem.run_bind, run_sizeOf hs, Result.andThen_ok, Sem.run_pure]
        rw [ih']
        rfl
theorem r_build {t : TypeId} {ps : List (Nat × Operand)} {z : List Value} {pl : List (Nat × Nat)} {cs : Array Value} (hp : placesOf P t = some (z, pl))
    (hf : Instr.fill (fun i => pl[i]?) z.toArray (ps.map fun p => (p.1, ev σ p.2)) = some cs) : Run P ⟨d, .build t ps.toArray, ty, pos, af, gd⟩ n σ w (.agg cs) w := fun a ha => by
  unfold placesOf at hp
  split at hp
  · rename_i zv fs hz hu
    cases hm : (fs.toList.mapM fun f => (szOf P f.type).map fun m => (f.offset, m)) with
    | none => simp [hm] at hp
    | some qs =>
      simp only [hm, Option.map_some, Option.some.injEq, Prod.mk.injEq] at hp
      obtain ⟨rfl, rfl⟩ := hp
      have hr := run_mapM_places (w := w) hm
      have hps : ps.map (fun p => (p.1, a.eval p.2)) = ps.map (fun p => (p.1, ev σ p.2)) := List.map_congr_left fun p _ => by rw [ha.eval]
      have hA : (fs.mapM fun f => (do pure (f.offset, ← sizeOf f.type) : Sem (Nat × Nat))) = (List.toArray <$> (fs.toList.mapM fun f => (do pure (f.offset, ← sizeOf f.type) : Sem (Nat × Nat)))) := by
        rw [Array.mapM_eq_mapM_toList]
      simp only [execOp, Instr.build, Sem.run_bind, run_zeroValue hz, run_und hu, Result.andThen_ok, hA, Sem.run_map, hr]
      have hfill : (fun i : Nat => qs.toArray[i]?) = fun i => qs[i]? := by funext i; simp
      simp only [List.map_toArray, hps] at *
      simp only [hfill]
      simp at hf
      simp [hf]
  · cases hp
theorem r_indexStr {t : TypeId} {x i : Operand} {a : List UInt8} {k : IntKind} {j : Nat} {c : UInt8} (hu : P.underlying t = some .string) (hx : ev σ x = .string (str a)) (hi : ev σ i = .int k (j : Int)) (hc : a[j]? = some c) :
    Run P ⟨d, .index t x i, ty, pos, af, gd⟩ n σ w (.int .u8 c.toNat) w := fun b ha => by
  have hlt : j < a.length := by
    rcases Nat.lt_or_ge j a.length with h | h
    · exact h
    · rw [List.getElem?_eq_none h] at hc; cases hc
  have : (str a)[j]? = some c := by
    have : j < (str a).size := by rw [str_size]; exact hlt
    rw [getElem?_pos (str a) j this]
    rw [List.getElem?_eq_getElem hlt] at hc
    injection hc with hc
    rw [← hc]
    rfl
  simp [execOp, ha.eval, hx, hi, Instr.index, asIntOf, run_und hu, this]
theorem r_indexAddr {t e : TypeId} {x i : Operand} {b o len cap sz : Nat} {k : IntKind} {j : Nat} (hu : P.underlying t = some (.slice e)) (hs : szOf P e = some sz)
    (hx : ev σ x = .slice (some ⟨b, o, none⟩) len cap) (hi : ev σ i = .int k (j : Int)) (hj : j < len) : Run P ⟨d, .indexAddr t x i, ty, pos, af, gd⟩ n σ w (.pointer (some ⟨b, o + j * sz, none⟩)) w := fun a ha => by
  have h1 : (0 : Int) ≤ (j : Int) ∧ (j : Int) < (len : Int) := by omega
  simp [execOp, ha.eval, hx, hi, Instr.indexAt, asIntOf, run_und hu, run_sizeOf hs, h1, add_at]
  omega
theorem r_indexAddrA {t e : TypeId} {x i : Operand} {b o len sz : Nat} {k : IntKind} {j : Nat} (hu : P.underlying t = some (.array len e)) (hs : szOf P e = some sz)
    (hx : ev σ x = .pointer (some ⟨b, o, none⟩)) (hi : ev σ i = .int k (j : Int)) (hj : j < len) : Run P ⟨d, .indexAddr t x i, ty, pos, af, gd⟩ n σ w (.pointer (some ⟨b, o + j * sz, none⟩)) w := fun a ha => by
  have h1 : (0 : Int) ≤ (j : Int) ∧ (j : Int) < (len : Int) := by omega
  simp [execOp, ha.eval, hx, hi, Instr.indexAt, Instr.sureAddr, asIntOf, run_und hu, run_sizeOf hs, h1, add_at]
  omega
end
end Go.GW
namespace Go.GW
open Go.RowKit

section
variable {P : Program} {n : Sz} {σ : SF} {w : World} {d : Option Tmp} {ty : TypeId} {pos : String} {af : Array Edge} {gd : Option (Nat × Bool)}
theorem run_sliceBound {k : IntKind} {j y : Nat} {code : BoundsCode} (h : j ≤ y) : (Instr.sliceBound (.int k (j : Int)) y code).run P w = .ok j w := by
  have : (0 : Int) ≤ (j : Int) ∧ (j : Int) ≤ (y : Int) := by omega
  simp [Instr.sliceBound, asIntOf, this]
/-- s[lo:hi] of a text -/
theorem r_sliceS {t : TypeId} {x lo hi : Operand} {a : List UInt8} {k k' : IntKind} {i j : Nat} (hu : P.underlying t = some .string) (hx : ev σ x = .string (str a)) (hlo : ev σ lo = .int k (i : Int)) (hhi : ev σ hi = .int k' (j : Int))
    (hij : i ≤ j) (hj : j ≤ a.length) : Run P ⟨d, .slice t x (some lo) (some hi) none, ty, pos, af, gd⟩ n σ w (.string (str ((a.drop i).take (j - i)))) w := fun b ha => by
  simp only [execOp, Option.map_some, Option.map_none, ha.eval, hx, hlo, hhi, Instr.sliceAt, Sem.run_bind, run_und hu, Result.andThen_ok, Instr.slice, Instr.sliceBounds, Sem.run_pure, Option.isSome_none, Bool.false_eq_true, if_false, Bool.false_eq_true]
  rw [run_sliceBound (by rw [str_size]; exact hj)]
  simp only [Result.andThen_ok]
  rw [run_sliceBound hij]
  simp [str_extract]
theorem r_sliceSlo {t : TypeId} {x lo : Operand} {a : List UInt8} {k : IntKind} {i : Nat} (hu : P.underlying t = some .string) (hx : ev σ x = .string (str a)) (hlo : ev σ lo = .int k (i : Int))
    (hi : i ≤ a.length) : Run P ⟨d, .slice t x (some lo) none none, ty, pos, af, gd⟩ n σ w (.string (str (a.drop i))) w := fun b ha => by
  simp only [execOp, Option.map_some, Option.map_none, ha.eval, hx, hlo, Instr.sliceAt, Sem.run_bind, run_und hu, Result.andThen_ok, Instr.slice, Instr.sliceBounds, Sem.run_pure, Option.isSome_none, Bool.false_eq_true, if_false]
  rw [run_sliceBound (by rw [str_size]; exact hi)]
  simp only [Result.andThen_ok, str_extract, str_size]
  rw [List.take_of_length_le (by simp)]
theorem r_sliceShi {t : TypeId} {x hi : Operand} {a : List UInt8} {k : IntKind} {j : Nat} (hu : P.underlying t = some .string) (hx : ev σ x = .string (str a)) (hhi : ev σ hi = .int k (j : Int))
    (hj : j ≤ a.length) : Run P ⟨d, .slice t x none (some hi) none, ty, pos, af, gd⟩ n σ w (.string (str (a.take j))) w := fun b ha => by
  simp only [execOp, Option.map_some, Option.map_none, ha.eval, hx, hhi, Instr.sliceAt, Sem.run_bind, run_und hu, Result.andThen_ok, Instr.slice, Instr.sliceBounds, Sem.run_pure, Option.isSome_none, Bool.false_eq_true, if_false]
  rw [run_sliceBound (by rw [str_size]; exact hj)]
  simp [Result.andThen_ok, str_extract]
/-- x[lo:hi] of a slice: where it lies then, is told as far as it matters -/
def cutA (A : Option Addr) (m l sz : Nat) : Option Addr := if m = l then A else A.map (·.add (l * sz))
theorem cutA_lt {A : Option Addr} {m l sz : Nat} (h : l < m) : cutA A m l sz = A.map (·.add (l * sz)) := by unfold cutA; rw [if_neg (by omega)]
theorem r_slice {t e : TypeId} {x lo hi : Operand} {A : Option Addr} {len cap sz : Nat} {k k' : IntKind} {i j : Nat} (hu : P.underlying t = some (.slice e)) (hs : szOf P e = some sz)
    (hx : ev σ x = .slice A len cap) (hlo : ev σ lo = .int k (i : Int)) (hhi : ev σ hi = .int k' (j : Int)) (hij : i ≤ j) (hj : j ≤ cap) :
    Run P ⟨d, .slice t x (some lo) (some hi) none, ty, pos, af, gd⟩ n σ w (.slice (cutA A cap i sz) (j - i) (cap - i)) w := fun b ha => by
  simp only [execOp, Option.map_some, Option.map_none, ha.eval, hx, hlo, hhi, Instr.sliceAt, Sem.run_bind, run_und hu, Result.andThen_ok, Instr.slice, Instr.sliceBounds, Sem.run_pure, Option.isSome_none, Bool.false_eq_true, if_false]
  rw [run_sliceBound hj]
  simp only [Result.andThen_ok]
  rw [run_sliceBound hij]
  simp [run_sizeOf hs, cutA]
theorem r_sliceLo {t e : TypeId} {x lo : Operand} {A : Option Addr} {len cap sz : Nat} {k : IntKind} {i : Nat} (hu : P.underlying t = some (.slice e)) (hs : szOf P e = some sz)
    (hx : ev σ x = .slice A len cap) (hlo : ev σ lo = .int k (i : Int)) (hi : i ≤ len) :
    Run P ⟨d, .slice t x (some lo) none none, ty, pos, af, gd⟩ n σ w (.slice (cutA A cap i sz) (len - i) (cap - i)) w := fun b ha => by
  simp only [execOp, Option.map_some, Option.map_none, ha.eval, hx, hlo, Instr.sliceAt, Sem.run_bind, run_und hu, Result.andThen_ok, Instr.slice, Instr.sliceBounds, Sem.run_pure, Option.isSome_none, Bool.false_eq_true, if_false]
  rw [run_sliceBound hi]
  simp [run_sizeOf hs, cutA]
theorem r_sliceHi {t e : TypeId} {x hi : Operand} {A : Option Addr} {len cap sz : Nat} {k : IntKind} {j : Nat} (hu : P.underlying t = some (.slice e)) (hs : szOf P e = some sz)
    (hx : ev σ x = .slice A len cap) (hhi : ev σ hi = .int k (j : Int)) (hj : j ≤ cap) :
    Run P ⟨d, .slice t x none (some hi) none, ty, pos, af, gd⟩ n σ w (.slice A j cap) w := fun b ha => by
  simp only [execOp, Option.map_some, Option.map_none, ha.eval, hx, hhi, Instr.sliceAt, Sem.run_bind, run_und hu, Result.andThen_ok, Instr.slice, Instr.sliceBounds, Sem.run_pure, Option.isSome_none, Bool.false_eq_true, if_false]
  rw [run_sliceBound hj]
  by_cases hc : cap = 0
  · simp [run_sizeOf hs, hc]
  · simp only [Result.andThen_ok, run_sizeOf hs, Nat.zero_mul, Nat.sub_zero, if_neg hc]
    congr 3
    cases A with
    | none => rfl
    | some ad => simp [Addr.add]

/-! ### built-in functions -/
theorem run_builtinV {b : Builtin} {ats : List TypeId} {xs : List Operand} {v : Value} {w' : World}
    (hb : ∀ cs, (builtin b ats.toArray ty cs (xs.map (ev σ)).toArray).run P w = .ok (.value v) w') :
    Run P ⟨d, .call { callee := .builtin b, args := xs.toArray, argTypes := ats.toArray }, ty, pos, af, gd⟩ n σ w v w' := fun a ha => by
  simp only [execOp, resolve, Sem.run_bind, Sem.run_pure, Result.andThen_ok, invoke, List.map_toArray, evs_eval ha]
  exact hb _
theorem r_lenS {t : TypeId} {x : Operand} {a : List UInt8} (hu : P.underlying t = some .string) (hx : ev σ x = .string (str a)) :
    Run P ⟨d, .call { callee := .builtin .len, args := #[x], argTypes := #[t] }, ty, pos, af, gd⟩ n σ w (.int .i64 (a.length : Int)) w :=
  run_builtinV (ats := [t]) (xs := [x]) fun cs => by simp [builtin, Builtin.len_, run_und hu, hx, goInt, str_size]
theorem r_len {t e : TypeId} {x : Operand} {A : Option Addr} {m c : Nat} (hu : P.underlying t = some (.slice e)) (hx : ev σ x = .slice A m c) :
    Run P ⟨d, .call { callee := .builtin .len, args := #[x], argTypes := #[t] }, ty, pos, af, gd⟩ n σ w (.int .i64 (m : Int)) w :=
  run_builtinV (ats := [t]) (xs := [x]) fun cs => by simp [builtin, Builtin.len_, run_und hu, hx, goInt]
theorem r_lenM {t k e : TypeId} {x : Operand} {r : Nat} {es : Array MapEntry} {cl : Nat} (hu : P.underlying t = some (.map k e)) (hx : ev σ x = .map (some r)) (hm : w.heap[r]? = some (.map es cl)) :
    Run P ⟨d, .call { callee := .builtin .len, args := #[x], argTypes := #[t] }, ty, pos, af, gd⟩ n σ w (.int .i64 (es.size : Int)) w :=
  run_builtinV (ats := [t]) (xs := [x]) fun cs => by simp [builtin, Builtin.len_, run_und hu, hx, goInt, getObj, Sem.run, hm]
theorem r_max {x y : Operand} {k k' : IntKind} {i j : Int} {t t' : TypeId} (hx : ev σ x = .int k i) (hy : ev σ y = .int k' j) :
    Run P ⟨d, .call { callee := .builtin .max, args := #[x, y], argTypes := #[t, t'] }, ty, pos, af, gd⟩ n σ w (.int k (max i j)) w :=
  run_builtinV (ats := [t, t']) (xs := [x, y]) fun cs => by
    simp only [builtin, Builtin.max_, List.map, hx, hy, List.foldlM, Builtin.max2, Sem.run_bind, Sem.run_pure, Result.andThen_ok]
    have : (if j > i then j else i) = max i j := by rw [Int.max_def]; split <;> split <;> omega
    simp [this]
theorem r_min {x y : Operand} {k k' : IntKind} {i j : Int} {t t' : TypeId} (hx : ev σ x = .int k i) (hy : ev σ y = .int k' j) :
    Run P ⟨d, .call { callee := .builtin .min, args := #[x, y], argTypes := #[t, t'] }, ty, pos, af, gd⟩ n σ w (.int k (min i j)) w :=
  run_builtinV (ats := [t, t']) (xs := [x, y]) fun cs => by
    simp only [builtin, Builtin.min_, List.map, hx, hy, List.foldlM, Builtin.min2, Sem.run_bind, Sem.run_pure, Result.andThen_ok]
    have : (if j < i then j else i) = min i j := by rw [Int.min_def]; split <;> split <;> omega
    simp [this]
end
end Go.GW
namespace Go.GW
open Go.RowKit

/-! ## operations that turn the world, and calls -/
/-- Only block b has turned. -/
structure St (b : Nat) (w w' : World) : Prop where
  os : w'.os = w.os
  tape : w'.tape = w.tape
  output : w'.output = w.output
  size : w'.heap.size = w.heap.size
  other : ∀ c, c ≠ b → w'.heap[c]? = w.heap[c]?
theorem St.set (w : World) (b : Nat) (o : Obj) : St b w (setBlk w b o) := ⟨rfl, rfl, rfl, setBlk_size, fun _ h => setBlk_ne h⟩
section
variable {b : Nat} {w w' w0 : World}
theorem St.blk (h : St b w w') {c : Nat} {o : Obj} (hc : w.heap[c]? = some o) (hne : c ≠ b) : w'.heap[c]? = some o := (h.other c hne).trans hc
theorem St.pu (h : St b w w') (h0 : Pu w0 w) (hb : w0.heap.size ≤ b) : Pu w0 w' :=
  ⟨h.os.trans h0.os, h.tape.trans h0.tape, h.output.trans h0.output, by rw [h.size]; exact h0.size, fun k hk => (h.other k (by omega)).trans (h0.block k hk)⟩
theorem St.dk {D : TypeId → Bool} {cs : Array Value} {e : TypeId} {fr : Nat × Nat} (h : St b w w') (hb : w.heap[b]? = some (.cells cs e fr)) (hD : D e = false) : Dk D w w' := by
  intro c cs' T fr' hT hc
  by_cases he : c = b
  · subst he
    rw [hb] at hc
    injection hc with hc
    injection hc with _ hc
    subst hc
    rw [hD] at hT; cases hT
  · exact (h.other c he).trans hc
theorem St.fr {D : TypeId → Bool} {F : Nat → Prop} {cs : Array Value} {e : TypeId} {fr : Nat × Nat} (h : St b w w') (hb : w.heap[b]? = some (.cells cs e fr)) (hD : D e = false) (hF : F b) : Fr D F w w' :=
  ⟨h.os, h.tape, h.output, by rw [h.size]; exact Nat.le_refl _, fun c _ hn => h.other c (fun e => hn (e ▸ hF)), h.dk hb hD⟩
end

/-- A call of it goes in. -/
def Ent (P : Program) (f : FuncId) : Prop := ∀ (args : Array Value) (w : World), (callFunc f args).run P w = .ok (.enter f args) w
theorem ent {P : Program} {f : FuncId} {fn : Func} {c : Code} (hf : P.funcs[f]? = some fn) (hname : (fn.name == "runtime.NumGoroutine") = false) (hb : fn.body = some c) : Ent P f := by
  intro args w
  have h1 : fn.name ≠ "runtime.NumGoroutine" := by simpa using hname
  simp [callFunc, hf, h1, hb, mark]
/-- The contract of a function. -/
def Fn (P : Program) (f : FuncId) (args : Array Value) (w : World) (R : Value → World → Prop) : Prop := Ent P f ∧ Ret P f args w R
theorem Fn.mono {P : Program} {f : FuncId} {w : World} {R : Value → World → Prop} {args : Array Value} {R' : Value → World → Prop} (h : Fn P f args w R) (hr : ∀ v w', R v w' → R' v w') : Fn P f args w R' := ⟨h.1, h.2.mono hr⟩
theorem fn_of {P : Program} {f : FuncId} {w : World} {R : Value → World → Prop} {fn : Func} {c : Code} {args : List Value} {m : Nat} (hf : P.funcs[f]? = some fn) (hname : (fn.name == "runtime.NumGoroutine") = false) (hb : fn.body = some c)
    (hn : fn.ntmps = m) (hl : Nat.ble args.length m = true) (h : G P f ⟨m, []⟩ R [.code c] (initF args) w) : Fn P f args.toArray w R := ⟨ent hf hname hb, enter hf hb hn hl h⟩

section
variable {P : Program} {f : FuncId} {n : Sz} {R : Value → World → Prop} {k : List Item} {K : SF → World → Prop} {σ : SF} {w : World} {ops : Array Oper} {l : List Oper} {ty : TypeId} {pos : String} {af : Array Edge}

theorem gl_store {t : TypeId} {x v : Operand} {b o m : Nat} {u : Value} {vs : List Value} {cs : Array Value} {e : TypeId} (hs : szOf P t = some m) (hx : ev σ x = .pointer (some ⟨b, o, none⟩)) (hu : ev σ v = u) (hv : u.cells = vs.toArray)
    (h1 : vs.all Value.oneCell' = true) (hm : vs.length = m) (hb : w.heap[b]? = some (.cells cs e (0, 0))) (hle : Nat.ble (o + m) cs.size = true)
    (h : ∀ w', w'.heap[b]? = some (.cells (putCells cs o vs) e (0, 0)) → St b w w' → GL P n ops l K σ w') : GL P n ops (⟨none, .store t x v, ty, pos, af, none⟩ :: l) K σ w := by
  intro a ha
  refine wpList_plain rfl fun K hK => ?_
  subst hu
  have hr := run_storeVar (P := P) (o := o) hs hv hm (by simpa [List.all_eq_true] using h1) hb (by subst hm; simpa [Nat.ble_eq] using hle)
  have : (execOp a.eval ⟨none, .store t x v, ty, pos, af, none⟩).run P w = .ok .skip (setBlk w b (.cells (putCells cs o vs) e (0, 0))) := by
    simp [execOp, ha.eval, hx, Instr.storeAt, Instr.sureAddr, hr]
  simp only [Oper.wp, this, Oper.upon]
  exact hK _ _ (h _ (setBlk_same (blk_lt hb)) (St.set _ _ _) _ ha)

theorem wp_call {o : Oper} {a : Act} {K : Act → World → Prop} {Q : Exit → Act → World → Prop} {g : FuncId} {vs : Array Value} {Post : Value → World → Prop} (hr : (execOp a.eval o).run P w = .ok (.enter g vs) w) (hc : Ret P g vs w Post)
    (h : ∀ v w', Post v w' → K (a.put o.dst v) w') : o.wp P a w K Q := by
  simp only [Oper.wp, hr, Oper.upon]
  refine Calls.mono hc ?_
  rintro e w' ⟨v, rfl, hp⟩
  exact h v w' hp
theorem run_call {g : FuncId} {asx : List Operand} {vs : Array Value} {d : Option Tmp} {ats : Array TypeId} {gd : Option (Nat × Bool)} {a : Act} (ha : Is a n σ) (he : Ent P g) (hv : (asx.map (ev σ)).toArray = vs) :
    (execOp a.eval ⟨d, .call { callee := .value (.func g), args := asx.toArray, argTypes := ats }, ty, pos, af, gd⟩).run P w = .ok (.enter g vs) w := by
  subst hv
  simp only [execOp, resolve, Sem.run_bind, Act.eval, Deferred.ofValue, Sem.run_pure, Result.andThen_ok, invoke]
  have h1 : (#[] ++ (asx.toArray.map a.eval) ++ #[] : Array Value) = (asx.map (ev σ)).toArray := by
    simp [evs_eval ha]
  rw [h1]
  exact he _ _
theorem run_callv {g : FuncId} {x : Operand} {fs cl : List Value} {asx : List Operand} {vs : Array Value} {d : Option Tmp} {ats : Array TypeId} {gd : Option (Nat × Bool)} {a : Act} (ha : Is a n σ) (he : Ent P g) (hx : ev σ x = .func (.func g) fs.toArray cl.toArray)
    (hv : (fs ++ asx.map (ev σ) ++ cl).toArray = vs) :
    (execOp a.eval ⟨d, .call { callee := .value x, args := asx.toArray, argTypes := ats }, ty, pos, af, gd⟩).run P w = .ok (.enter g vs) w := by
  subst hv
  simp only [execOp, resolve, Sem.run_bind, ha.eval, hx, Deferred.ofValue, Sem.run_pure, Result.andThen_ok, invoke]
  have h1 : (fs.toArray ++ (asx.toArray.map a.eval) ++ cl.toArray : Array Value) = (fs ++ asx.map (ev σ) ++ cl).toArray := by
    simp [evs_eval ha]
  rw [h1]
  exact he _ _
/-- a call of a function by its name -/
theorem gl_call {d : Nat} {g : FuncId} {asx : List Operand} {ats : Array TypeId} {vs : Array Value} {Post : Value → World → Prop} (hc : Fn P g vs w Post) (hv : (asx.map (ev σ)).toArray = vs) (hd : Nat.blt d n.n = true)
    (h : ∀ v w', Post v w' → GL P n ops l K (upd σ d v) w') : GL P n ops (⟨some d, .call { callee := .value (.func g), args := asx.toArray, argTypes := ats }, ty, pos, af, none⟩ :: l) K σ w := by
  intro a ha
  refine wpList_plain rfl fun K hK => ?_
  exact wp_call (run_call ha hc.1 hv) hc.2 fun v w' hp => hK _ _ (h v w' hp _ (ha.put hd v))
/-- a call of a function value -/
theorem gl_callv {d : Nat} {x : Operand} {g : FuncId} {fs cl : List Value} {asx : List Operand} {ats : Array TypeId} {vs : Array Value} {Post : Value → World → Prop} (hx : ev σ x = .func (.func g) fs.toArray cl.toArray) (hc : Fn P g vs w Post)
    (hv : (fs ++ asx.map (ev σ) ++ cl).toArray = vs) (hd : Nat.blt d n.n = true)
    (h : ∀ v w', Post v w' → GL P n ops l K (upd σ d v) w') : GL P n ops (⟨some d, .call { callee := .value x, args := asx.toArray, argTypes := ats }, ty, pos, af, none⟩ :: l) K σ w := by
  intro a ha
  refine wpList_plain rfl fun K hK => ?_
  exact wp_call (run_callv ha hc.1 hx hv) hc.2 fun v w' hp => hK _ _ (h v w' hp _ (ha.put hd v))

/-! ### guards -/
theorem yield_eq {a : Act} (ha : Is a n σ) {j t : Nat} {b : Bool} (ho : (ops[j]?).bind (·.dst) = some t) (ht : Nat.blt t n.n = true) (hb : σ t = .bool b) : yielded ops a.tmps j = some b := by
  have hlt : t < a.tmps.size := by rw [ha.size]; simpa [Nat.blt_eq] using ht
  have h1 := ha.get t
  rw [hb] at h1
  have h2 : a.tmps[t]? = some (.bool b) := by
    rw [Array.getElem?_eq_getElem hlt]
    simpa [hlt] using h1
  simp [yielded, ho, h2]
theorem gl_guardF {d j t : Nat} {op : Op} {b : Bool} (ho : (ops[j]?).bind (·.dst) = some t) (hb : σ t = .bool (!b)) (ht : Nat.blt t n.n = true) (hd : Nat.blt d n.n = true) (h : GL P n ops l K (upd σ d undef) w) :
    GL P n ops (⟨some d, op, ty, pos, af, some (j, b)⟩ :: l) K σ w := by
  intro a ha
  have hy := yield_eq (ops := ops) ha ho ht hb
  unfold wpList
  rw [if_neg (by simp [Region.wanted, hy])]
  exact h _ (ha.put hd undef)
theorem gl_guardT {d j t : Nat} {op : Op} {b : Bool} {v : Value} {w' : World} (ho : (ops[j]?).bind (·.dst) = some t) (hb : σ t = .bool b) (ht : Nat.blt t n.n = true) (hr : Run P ⟨some d, op, ty, pos, af, some (j, b)⟩ n σ w v w')
    (hd : Nat.blt d n.n = true) (h : GL P n ops l K (upd σ d v) w') : GL P n ops (⟨some d, op, ty, pos, af, some (j, b)⟩ :: l) K σ w := by
  intro a ha
  have hy := yield_eq (ops := ops) ha ho ht hb
  refine wpList_step fun K hK => ?_
  rw [if_pos (by simp [Region.wanted, hy])]
  simp only [Oper.wp, hr a ha, Oper.upon]
  exact hK _ _ (h _ (ha.put hd v))
theorem gl_guardCall {d j t : Nat} {b : Bool} {g : FuncId} {asx : List Operand} {ats : Array TypeId} {vs : Array Value} {Post : Value → World → Prop} (ho : (ops[j]?).bind (·.dst) = some t) (hb : σ t = .bool b) (ht : Nat.blt t n.n = true)
    (hc : Fn P g vs w Post) (hv : (asx.map (ev σ)).toArray = vs) (hd : Nat.blt d n.n = true)
    (h : ∀ v w', Post v w' → GL P n ops l K (upd σ d v) w') : GL P n ops (⟨some d, .call { callee := .value (.func g), args := asx.toArray, argTypes := ats }, ty, pos, af, some (j, b)⟩ :: l) K σ w := by
  intro a ha
  have hy := yield_eq (ops := ops) ha ho ht hb
  refine wpList_step fun K hK => ?_
  rw [if_pos (by simp [Region.wanted, hy])]
  exact wp_call (run_call ha hc.1 hv) hc.2 fun v w' hp => hK _ _ (h v w' hp _ (ha.put hd v))

/-! ### a region that draws its order -/
theorem g_draw {id : Nat} {l : List Oper} (S : World → Prop) (hm : P.follows .mixedOrders = true) (h : ∀ w', w'.heap = w.heap → Pu w w' → GA P n l.toArray S l.length (Array.replicate l.length false) (G P f n R k) σ w') :
    G P f n R (.code (.region id l.toArray true) :: k) σ w := by
  intro a ha
  refine Good.code ?_
  have := h { w with drawn := w.drawn + 1 } rfl Pu.drew a ha
  refine wp_mono (wp_region_held hm (S := S) (by simpa using this)) ?_
  rintro e a' w' ⟨rfl, σ', hs, g⟩
  exact g a' hs
theorem qn_panic {d : Option Tmp} {v : Value} : ∀ c a w, QN n K (.panic c) (a.put d v) w → QN n K (.panic c) a w := fun _ _ _ h => by cases h.1
/-- an operation that only looks: taken first -/
theorem ga_take {S : World → Prop} {fuel : Nat} {listed listed' : Array Bool} (i : Nat) {d : Nat} {op : Op} {v : Value} (hi : ops[i]? = some ⟨some d, op, ty, pos, af, none⟩)
    (hb : (Region.noSelect ops && Region.free .any ops listed i && (Region.ready .any ops listed).contains i) = true) (hl : listed.setIfInBounds i true = listed')
    (hS : S w) (hr : ∀ w, S w → Run P ⟨some d, op, ty, pos, af, none⟩ n σ w v w) (hd : Nat.blt d n.n = true)
    (h : GA P n ops S fuel listed' K (upd σ d v) w) : GA P n ops S (fuel + 1) listed K σ w := by
  intro a ha
  simp only [Bool.and_eq_true] at hb
  subst hl
  refine wpAnyH_take hi hb.1.1 hb.1.2 hb.2 qn_panic (.inl ⟨by simp [Region.wanted], fun w hw => hr w hw a ha⟩) hS ?_
  exact h _ (ha.put hd v)
/-- a guarded operation that is not wanted -/
theorem ga_takeF {S : World → Prop} {fuel : Nat} {listed listed' : Array Bool} (i : Nat) {d j t : Nat} {op : Op} {b : Bool} (hi : ops[i]? = some ⟨some d, op, ty, pos, af, some (j, b)⟩)
    (hb : (Region.noSelect ops && Region.free .any ops listed i && (Region.ready .any ops listed).contains i) = true) (hl : listed.setIfInBounds i true = listed')
    (hS : S w) (ho : (ops[j]?).bind (·.dst) = some t) (hy : σ t = .bool (!b)) (ht : Nat.blt t n.n = true) (hd : Nat.blt d n.n = true)
    (h : GA P n ops S fuel listed' K (upd σ d undef) w) : GA P n ops S (fuel + 1) listed K σ w := by
  intro a ha
  simp only [Bool.and_eq_true] at hb
  subst hl
  have hy := yield_eq (ops := ops) ha ho ht hy
  refine wpAnyH_take hi hb.1.1 hb.1.2 hb.2 qn_panic (.inr ⟨by simp [Region.wanted, hy], rfl⟩) hS ?_
  exact h _ (ha.put hd undef)
theorem ga_takeT {S : World → Prop} {fuel : Nat} {listed listed' : Array Bool} (i : Nat) {d j t : Nat} {op : Op} {b : Bool} {v : Value} (hi : ops[i]? = some ⟨some d, op, ty, pos, af, some (j, b)⟩)
    (hb : (Region.noSelect ops && Region.free .any ops listed i && (Region.ready .any ops listed).contains i) = true) (hl : listed.setIfInBounds i true = listed')
    (hS : S w) (ho : (ops[j]?).bind (·.dst) = some t) (hy : σ t = .bool b) (ht : Nat.blt t n.n = true) (hr : ∀ w, S w → Run P ⟨some d, op, ty, pos, af, some (j, b)⟩ n σ w v w) (hd : Nat.blt d n.n = true)
    (h : GA P n ops S fuel listed' K (upd σ d v) w) : GA P n ops S (fuel + 1) listed K σ w := by
  intro a ha
  simp only [Bool.and_eq_true] at hb
  subst hl
  have hy := yield_eq (ops := ops) ha ho ht hy
  refine wpAnyH_take hi hb.1.1 hb.1.2 hb.2 qn_panic (.inl ⟨by simp [Region.wanted, hy], fun w hw => hr w hw a ha⟩) hS ?_
  exact h _ (ha.put hd v)
def SA (P : Program) (n : Sz) (ops : Array Oper) (S : World → Prop) (fuel : Nat) (listed : Array Bool) (K : SF → World → Prop) (σ : SF) (w : World) : Prop := S w ∧ GA P n ops S fuel listed K σ w
theorem wpOp_of_list {Q Q' : Exit → Act → World → Prop} {a : Act} {i : Nat} {o : Oper} {K' : Act → World → Prop} (hi : ops[i]? = some o) (hK : ∀ a w, Q .normal a w → K' a w) (hQ : ∀ c a w, Q (.panic c) a w → Q' (.panic c) a w) (hO : ∀ a w, ¬ Q .outgrown a w)
    (h : wpList P ops Q [o] a w) : wpOp P ops Q' i K' a w := by
  unfold wpOp
  simp only [hi]
  unfold wpList at h
  split
  · rename_i hw
    rw [if_pos hw] at h
    rcases h with h | ⟨_, a1, w1, h2⟩
    · left
      unfold Oper.wp at *
      generalize (execOp a.eval o).run P w = r at *
      cases r with
      | ok nx w' =>
        cases nx <;> simp only [Oper.upon] at h ⊢ <;>
          first
            | exact hK _ _ h
            | exact Rows.mono h (fun _ _ he => hK _ _ he)
            | exact Calls.mono h (fun e w'' he => by
                cases e with
                | returned v => exact hK _ _ he
                | panicked c => exact hQ _ _ _ he
                | outgrown => obtain ⟨a2, w2, h3⟩ := he; exact absurd h3 (hO a2 w2))
      | halt x w' => cases x <;> simp only [Oper.upon] at h ⊢ <;> first | exact hQ _ _ _ h | exact h
    · exact absurd h2 (hO a1 w1)
  · rename_i hw
    rw [if_neg hw] at h
    exact hK _ _ h
/-- the only one that may come up now: whatever it does, by the rules of the list -/
theorem ga_only {S : World → Prop} {fuel : Nat} {listed listed' : Array Bool} (i : Nat) {o : Oper} (hi : ops[i]? = some o) (hr : Region.ready .any ops listed = [i]) (hl : listed.setIfInBounds i true = listed')
    (h : GL P n ops [o] (SA P n ops S fuel listed' K) σ w) : GA P n ops S (fuel + 1) listed K σ w := by
  subst hl
  intro a ha
  refine wpAnyH_all hr (by simp) fun j hj => ?_
  obtain rfl : j = i := by simpa using hj
  refine wpOp_of_list hi (fun a w hq => ?_) (fun c a w hq => by cases hq.1) (fun a w hq => by cases hq.1) (h a ha)
  obtain ⟨_, σ', hs, h1, h2⟩ := hq
  exact ⟨h1, h2 a hs⟩
theorem ga_done {S : World → Prop} {fuel : Nat} {listed : Array Bool} (hr : Region.ready .any ops listed = []) (h : K σ w) : GA P n ops S fuel listed K σ w :=
  fun _ ha => wpAnyH_done hr ⟨rfl, σ, ha, h⟩ fuel
end
end Go.GW
namespace Go.GW
open Go.RowKit

theorem putCells_size (vs : List Value) : ∀ (cs : Array Value) (o : Nat), (putCells cs o vs).size = cs.size := by
  induction vs with
  | nil => intro cs o; rfl
  | cons v vs ih => intro cs o; simp [putCells, ih]
theorem putCells_get (vs : List Value) : ∀ (cs : Array Value) (o j : Nat), o + vs.length ≤ cs.size → (putCells cs o vs)[j]? = if o ≤ j ∧ j < o + vs.length then vs[j - o]? else cs[j]? := by
  induction vs with
  | nil => intro cs o j _; simp only [putCells, List.length_nil]; rw [if_neg (by omega)]
  | cons v vs ih =>
    intro cs o j h
    simp only [List.length_cons] at h
    simp only [putCells]
    rw [ih _ _ _ (by simp; omega)]
    by_cases hj : j = o
    · subst hj
      rw [if_neg (by omega), if_pos (by simp), Nat.sub_self]
      simp only [List.getElem?_cons_zero]
      rw [Array.getElem?_setIfInBounds_self_of_lt (by omega)]
    · by_cases h2 : o + 1 ≤ j ∧ j < o + 1 + vs.length
      · rw [if_pos h2, if_pos (by simp only [List.length_cons]; omega)]
        have : j - o = (j - (o + 1)) + 1 := by omega
        rw [this, List.getElem?_cons_succ]
      · rw [if_neg h2, if_neg (by simp only [List.length_cons]; omega)]
        rw [Array.getElem?_setIfInBounds_ne (by omega)]
theorem foldl_put (vs : List Value) : ∀ (cs : Array Value) (off k : Nat), (vs.zipIdx k).foldl (fun cs (c, j) => cs.setIfInBounds (off + j) c) cs = putCells cs (off + k) vs := by
  induction vs with
  | nil => intro cs off k; rfl
  | cons v vs ih => intro cs off k; simp only [List.zipIdx_cons, List.foldl_cons, putCells]; rw [ih]; rfl
theorem putCells_all (cs : Array Value) (vs : List Value) (h : vs.length = cs.size) : putCells cs 0 vs = vs.toArray := by
  apply Array.ext_getElem?
  intro j
  rw [putCells_get _ _ _ _ (by omega)]
  by_cases hj : j < vs.length
  · rw [if_pos (by omega)]; simp
  · rw [if_neg (by omega)]; simp [Array.getElem?_eq_none (show cs.size ≤ j by omega), List.getElem?_eq_none (show vs.length ≤ j by omega)]
theorem fill_one (cells : Array Value) (sz : Nat) (v : Value) (vs : List Value) (hv : v.cells = vs.toArray) (h1 : vs.length = sz) (h2 : cells.size = sz) :
    Instr.fill (fun i => some (i * sz, sz)) cells [(0, v)] = some vs.toArray := by
  have hs : v.cells.size = sz := by rw [hv]; simpa using h1
  have hcond : (decide (v.cells.size ≠ sz) || decide (0 * sz + v.cells.size > cells.size)) = false := by
    simp [hs, h2]
  simp only [Instr.fill]
  rw [if_neg (by simpa using hcond)]
  rw [hv]
  have hz : (vs.toArray.zipIdx.foldl (fun cs (c, j) => cs.setIfInBounds (0 * sz + j) c) cells) = putCells cells 0 vs := by
    have := foldl_put vs cells (0 * sz) 0
    simp only [Nat.zero_mul, Nat.add_zero] at this
    rw [← this]
    simp
  rw [hz, putCells_all _ _ (by omega)]

section
variable {P : Program} {n : Sz} {σ : SF} {w : World} {d : Option Tmp} {ty : TypeId} {pos : String} {af : Array Edge} {gd : Option (Nat × Bool)}
/-- []T{x} -/
theorem r_slice1 {t e : TypeId} {x : Operand} {z : Value} {vs : List Value} {sz : Nat} (hu : P.underlying t = some (.slice e)) (hs : szOf P e = some sz) (hz : zeroOf P e = some z) (hzs : z.cells.size = sz)
    (hv : (ev σ x).cells = vs.toArray) (hl : vs.length = sz) (hp : Nat.ble sz 1000 = true) (h0 : Nat.blt 0 sz = true) :
    Run P ⟨d, .buildSlice t 1 #[(0, x)], ty, pos, af, gd⟩ n σ w (.slice (some ⟨w.heap.size, 0, none⟩) 1 1) (w.alloc (.cells vs.toArray e)) := fun a ha => by
  have hsz : sz ≤ 1000 := by simpa [Nat.ble_eq] using hp
  have hpos : 0 < sz := by simpa [Nat.blt_eq] using h0
  have h24 : ¬ (1 * sz > 2 ^ 24) := by omega
  have hf := fill_one ((Array.range (1 * sz)).map (fun i => z.cells[i % z.cells.size]!)) sz (ev σ x) vs hv hl (by simp)
  have h10 : ¬ (1 * sz = 0) := by omega
  simp only [execOp, Instr.buildSlice, Sem.run_bind, run_und hu, Result.andThen_ok, run_sizeOf hs, if_neg h24, if_neg h10, run_zeroValue hz, Sem.run_pure, List.map_toArray, List.map_cons, List.map_nil, ha.eval, hf, newRow, run_newObj]
  rfl
/-- []T{} -/
theorem r_slice0 {t e : TypeId} {sz : Nat} (hu : P.underlying t = some (.slice e)) (hs : szOf P e = some sz) :
    Run P ⟨d, .buildSlice t 0 #[], ty, pos, af, gd⟩ n σ w (.slice (some ⟨w.heap.size, 0, none⟩) 0 0) (w.alloc (.cells #[] e)) := fun a ha => by
  have h24 : ¬ (0 * sz > 2 ^ 24) := by omega
  have h10 : (0 * sz = 0) := by omega
  simp only [execOp, Instr.buildSlice, Sem.run_bind, run_und hu, Result.andThen_ok, run_sizeOf hs, h10, if_true, Sem.run_pure, newRow]
  have hr : ∀ (f : Nat → Value), Array.map f (Array.range 0) = #[] := fun f => by simp [Array.range]
  simp [Instr.fill, hr]
theorem r_bytesStr {s t e : TypeId} {x : Operand} {A : Option Addr} {m c : Nat} {T : TypeId} {l : List UInt8} (hs : P.underlying s = some (.slice e)) (he : P.underlying e = some (.int .u8)) (hd : P.underlying t = some .string)
    (hx : ev σ x = .slice A m c) (hsl : Sl w T 1 A m (l.map fun b => .int .u8 b.toNat)) : Run P ⟨d, .convert s t x, ty, pos, af, gd⟩ n σ w (.string (str l)) w := fun a ha => by
  have hm : l.length = m := by have := hsl.1; simpa using this
  subst hm
  simp only [execOp, ha.eval, hx, Sem.run_bind]
  by_cases h0 : l.length = 0
  · obtain rfl : l = [] := List.eq_nil_of_length_eq_zero h0
    cases A with
    | none => rw [run_convert_bytes_nil w s e hs he _ _ t hd]; rfl
    | some ad => 
      have := run_convert_bytes_back w s t e ad c [] hs he hd (fun j hj => by simp at hj)
      simp only [List.length_nil] at *
      rw [this]; rfl
  · obtain ⟨b, o, cs, fr, rfl, hb, hc⟩ := hsl.2 (by omega)
    rw [run_convert_bytes_back w s t e ⟨b, o, none⟩ c l hs he hd (fun j hj => by
      rw [add_at, cell_of_blk hb]
      exact hc j _ (by simp [hj]))]
    rfl
end

/-- What an append leaves: blocks but the row's own are as they were. -/
structure Grow (A : Option Addr) (w w' : World) : Prop where
  os : w'.os = w.os
  tape : w'.tape = w.tape
  output : w'.output = w.output
  size : w.heap.size ≤ w'.heap.size
  block : ∀ k, k < w.heap.size → (∀ ad, A = some ad → k ≠ ad.block) → w'.heap[k]? = w.heap[k]?
theorem Grow.pu {A : Option Addr} {w0 w w' : World} (h : Grow A w w') (h0 : Pu w0 w) (hA : ∀ ad, A = some ad → w0.heap.size ≤ ad.block) : Pu w0 w' :=
  ⟨h.os.trans h0.os, h.tape.trans h0.tape, h.output.trans h0.output, Nat.le_trans h0.size h.size, fun k hk => (h.block k (Nat.lt_of_lt_of_le hk h0.size) (fun ad e he => by have := hA ad e; omega)).trans (h0.block k hk)⟩
theorem Grow.blk {A : Option Addr} {w w' : World} (h : Grow A w w') {b : Nat} {o : Obj} (hb : w.heap[b]? = some o) (hA : ∀ ad, A = some ad → b ≠ ad.block) : w'.heap[b]? = some o := (h.block b (blk_lt hb) hA).trans hb
theorem Grow.dk {D : TypeId → Bool} {w w' : World} {base n c sz : Nat} {e : TypeId} {A : Option Addr} {xs : List Value} (h : Grow A w w') (hr : Row w base e sz A n c xs) (hD : D e = false) : Dk D w w' := by
  intro b cs T fr hT hb
  refine h.blk hb ?_
  rintro ad rfl rfl
  rcases hr.form with ⟨h1, _⟩ | ⟨g, cur, hA, _, hg, _⟩
  · cases h1
  · injection hA with hA
    subst hA
    rw [hg] at hb
    injection hb with hb
    injection hb with _ hb
    subst hb
    rw [hD] at hT; cases hT
theorem Row.base {w : World} {base n c sz : Nat} {e : TypeId} {A : Option Addr} {xs : List Value} (h : Row w base e sz A n c xs) : ∀ ad, A = some ad → base ≤ ad.block := by
  rintro ad rfl
  rcases h.form with ⟨h1, _⟩ | ⟨g, cur, hA, hg, _⟩
  · cases h1
  · injection hA with hA; subst hA; exact hg
theorem Row.own {w : World} {base n c sz : Nat} {e : TypeId} {A : Option Addr} {xs : List Value} (h : Row w base e sz A n c xs) {w' : World} {A' : Option Addr} (hg : Grow A' w w') (hne : ∀ a b, A = some a → A' = some b → a.block ≠ b.block) : Row w' base e sz A n c xs := by
  refine ⟨h.1, ?_⟩
  rcases h.2 with h2 | ⟨g, cap, cur, hv, hgb, hb, r⟩
  · exact .inl h2
  · injection hv with hA h1 h2
    refine .inr ⟨g, cap, cur, by rw [hA, h2], hgb, hg.blk hb (fun ad e => ?_), r⟩
    have := hne _ _ hA e
    exact this

section
variable {P : Program} {n : Sz} {K : SF → World → Prop} {σ : SF} {w : World} {ops : Array Oper} {l : List Oper} {ty : TypeId} {pos : String} {af : Array Edge}
/-- append(x, y...): x a row of the call's own -/
theorem gl_append2 {d : Nat} {t e T : TypeId} {x y : Operand} {A B : Option Addr} {m c p q sz by' base : Nat} {z : Value} {xs ys : List Value} (hu : P.underlying t = some (.slice e)) (hs : szOf P e = some sz) (hz : zeroOf P e = some z) (hby : byOf P e = some by')
    (hzs : z.cells.size = sz) (h0 : Nat.blt 0 sz = true) (hx : ev σ x = .slice A m c) (hrow : Row w base e sz A m c xs) (hy : ev σ y = .slice B p q) (hsl : Sl w T sz B p ys) (h1 : ∀ u ∈ ys, u.oneCell' = true)
    (hlen : m + p ≤ 9223372036854775807) (hbytes : (m + p) * by' ≤ 140737488355328) (hbase : base ≤ w.heap.size) (hd : Nat.blt d n.n = true)
    (h : ∀ A' c' w', Row w' base e sz A' (m + p) c' (xs ++ ys) → Grow A w w' → (∀ ad, A' = some ad → (∃ ad0, A = some ad0 ∧ ad.block = ad0.block) ∨ ad.block = w.heap.size) → GL P n ops l K (upd σ d (.slice A' (m + p) c')) w') :
    GL P n ops (⟨some d, .call { callee := .builtin .append, args := #[x, y], argTypes := #[t, t] }, ty, pos, af, none⟩ :: l) K σ w := by
  obtain ⟨i, hi, hsz⟩ := info_of_sz hs
  have hzi : i.zero = some z := by simpa [zeroOf, hi] using hz
  have hbi : i.bytes = by' := by simpa [byOf, hi] using hby
  have hpos : 0 < sz := by simpa [Nat.blt_eq] using h0
  have key : ∃ A' c' w', (Builtin.append_ #[t, t] ty #[.slice A m c, .slice B p q]).run P w = .ok (.slice A' (m + p) c') w' ∧ Row w' base e sz A' (m + p) c' (xs ++ ys) ∧ Grow A w w' ∧ (∀ ad, A' = some ad → (∃ ad0, A = some ad0 ∧ ad.block = ad0.block) ∨ ad.block = w.heap.size) := by
    by_cases hp : p = 0
    · subst hp
      have hn : ys = [] := List.eq_nil_of_length_eq_zero (by simpa using hsl.1)
      subst hn
      refine ⟨A, c, w, ?_, by simpa using hrow, ⟨rfl, rfl, rfl, Nat.le_refl _, fun _ _ _ => rfl⟩, fun ad e => .inl ⟨ad, e, rfl⟩⟩
      rcases hrow.form with ⟨rfl, rfl, rfl, rfl⟩ | ⟨g, cur, rfl, _, hg, hmc, _⟩
      · cases B <;> simp [Builtin.append_, run_und hu, run_sizeOf hs, Builtin.lenOf, Builtin.firstCells, loadCells, loadCellsFrom]
      · cases B <;> simp [Builtin.append_, run_und hu, run_sizeOf hs, Builtin.lenOf, Builtin.firstCells, loadCells, loadCellsFrom, hmc, storeCells]
    · obtain ⟨b, o, cs, fr, rfl, hb, hc⟩ := hsl.2 (by omega)
      obtain ⟨v', w', hr, hrow', hg, _, hat⟩ := run_append_own_at (P := P) w base t ty e i z sz by' hu hi hzi hsz hbi hzs hpos _ m xs hrow ⟨b, o, none⟩ p q ys hsl.1 (fun j u hj => by rw [add_at, cell_of_blk hb]; exact hc j u hj) h1 (by unfold maxLen; omega) hbytes hbase
      have hform : ∃ A' c', v' = .slice A' (m + p) c' := by
        rcases hrow'.2 with ⟨hv, hn⟩ | ⟨g, cap, cur, hv, _⟩
        · exact ⟨none, 0, by rw [hv, hn]⟩
        · exact ⟨_, _, hv⟩
      obtain ⟨A', c', rfl⟩ := hform
      refine ⟨A', c', w', hr, hrow', ⟨hg.os, hg.tape, hg.output, hg.size, fun k hk hne => hg.block k hk (fun he => ?_)⟩, ?_⟩
      · cases A with
        | none => simp [Value.ownBlock] at he
        | some ad => exact hne ad rfl (by simpa [Value.ownBlock] using he)
      · rintro ad rfl
        rcases hat with h1 | h1
        · cases A with
          | none => simp [Value.ownBlock] at h1
          | some ad0 => exact .inl ⟨ad0, rfl, by simpa [Value.ownBlock] using h1⟩
        · exact .inr (by simpa [Value.ownBlock] using h1)
  obtain ⟨A', c', w', hr, hrow', hg, hat⟩ := key
  refine gl_op (v := .slice A' (m + p) c') (w' := w') ?_ hd (h A' c' w' hrow' hg hat)
  refine run_builtinV (ats := [t, t]) (xs := [x, y]) fun cs => ?_
  simp only [List.map, hx, hy, builtin, Sem.run_bind]
  rw [hr]
  rfl
/-- append(x, y...): x a row of the call's own -/
theorem gl_append {d : Nat} {t e T : TypeId} {x y : Operand} {A B : Option Addr} {m c p q sz by' base : Nat} {z : Value} {xs ys : List Value} (hu : P.underlying t = some (.slice e)) (hs : szOf P e = some sz) (hz : zeroOf P e = some z) (hby : byOf P e = some by')
    (hzs : z.cells.size = sz) (h0 : Nat.blt 0 sz = true) (hx : ev σ x = .slice A m c) (hrow : Row w base e sz A m c xs) (hy : ev σ y = .slice B p q) (hsl : Sl w T sz B p ys) (h1 : ∀ u ∈ ys, u.oneCell' = true)
    (hlen : m + p ≤ 9223372036854775807) (hbytes : (m + p) * by' ≤ 140737488355328) (hbase : base ≤ w.heap.size) (hd : Nat.blt d n.n = true)
    (h : ∀ A' c' w', Row w' base e sz A' (m + p) c' (xs ++ ys) → Grow A w w' → GL P n ops l K (upd σ d (.slice A' (m + p) c')) w') :
    GL P n ops (⟨some d, .call { callee := .builtin .append, args := #[x, y], argTypes := #[t, t] }, ty, pos, af, none⟩ :: l) K σ w :=
  gl_append2 hu hs hz hby hzs h0 hx hrow hy hsl h1 hlen hbytes hbase hd (fun A' c' w' h1 h2 _ => h A' c' w' h1 h2)
end
/-- the cells of []T{x}, made just now -/
theorem Sl.one {w : World} {e : TypeId} {vs : List Value} {sz : Nat} (h : vs.length = sz) : Sl (w.alloc (.cells vs.toArray e)) e sz (some ⟨w.heap.size, 0, none⟩) 1 vs :=
  ⟨by omega, fun _ => ⟨_, 0, _, _, rfl, alloc_new, fun j u hj => by simpa using hj⟩⟩
theorem Row.one {w : World} {e : TypeId} {vs : List Value} {sz base : Nat} (h : vs.length = sz) (hb : base ≤ w.heap.size) : Row (w.alloc (.cells vs.toArray e)) base e sz (some ⟨w.heap.size, 0, none⟩) 1 1 vs := by
  have := World.ownsRow_lit (base := base) (e := e) (size := sz) w vs.toArray 1 hb (by unfold maxLen; omega) (by simpa using h)
  unfold Row
  simpa using this
end Go.GW
namespace Go.GW
open Go.RowKit

/-! ## numbers -/
theorem wI64 {x : Int} (h0 : -9223372036854775808 ≤ x) (h1 : x ≤ 9223372036854775807) : IntKind.i64.wrap x = x := by
  have : (IntKind.i64.wrap x) = (x + 9223372036854775808) % 18446744073709551616 - 9223372036854775808 := by
    simp [IntKind.wrap, IntKind.bits, IntKind.signed]
    split <;> omega
  omega
theorem wU64 {x : Int} (h0 : 0 ≤ x) (h1 : x < 18446744073709551616) : IntKind.u64.wrap x = x := by
  have : (IntKind.u64.wrap x) = x % 18446744073709551616 := by
    simp [IntKind.wrap, IntKind.bits, IntKind.signed]
  omega
theorem wU64' {x : Int} : IntKind.u64.wrap x = x % 18446744073709551616 := by
  simp [IntKind.wrap, IntKind.bits, IntKind.signed]
theorem wU8 {x : Int} : IntKind.u8.wrap x = x % 256 := by
  simp [IntKind.wrap, IntKind.bits, IntKind.signed]
theorem wU32 {x : Int} : IntKind.u32.wrap x = x % 4294967296 := by
  simp [IntKind.wrap, IntKind.bits, IntKind.signed]

theorem allOne {l : List Value} (h : l.all Value.oneCell' = true) : ∀ u ∈ l, u.oneCell' = true := by simpa [List.all_eq_true] using h
section
variable {P : Program} {n : Sz} {σ : SF} {w : World} {d : Option Tmp} {ty : TypeId} {pos : String} {af : Array Edge} {gd : Option (Nat × Bool)} {x : Operand}
theorem r_mvI {k : IntKind} {i : Int} (hx : ev σ x = .int k i) : Run P ⟨d, .move x, ty, pos, af, gd⟩ n σ w (.int k i) w := hx ▸ r_move
theorem r_asI {k : IntKind} {i : Int} (hx : ev σ x = .int k i) : Run P ⟨d, .assign x, ty, pos, af, gd⟩ n σ w (.int k i) w := hx ▸ r_assign
theorem r_mvS {s : ByteArray} (hx : ev σ x = .string s) : Run P ⟨d, .move x, ty, pos, af, gd⟩ n σ w (.string s) w := hx ▸ r_move
theorem r_asS {s : ByteArray} (hx : ev σ x = .string s) : Run P ⟨d, .assign x, ty, pos, af, gd⟩ n σ w (.string s) w := hx ▸ r_assign
theorem r_mvL {A : Option Addr} {m c : Nat} (hx : ev σ x = .slice A m c) : Run P ⟨d, .move x, ty, pos, af, gd⟩ n σ w (.slice A m c) w := hx ▸ r_move
theorem r_asL {A : Option Addr} {m c : Nat} (hx : ev σ x = .slice A m c) : Run P ⟨d, .assign x, ty, pos, af, gd⟩ n σ w (.slice A m c) w := hx ▸ r_assign
theorem r_mvP {p : Option Addr} (hx : ev σ x = .pointer p) : Run P ⟨d, .move x, ty, pos, af, gd⟩ n σ w (.pointer p) w := hx ▸ r_move
theorem r_asP {p : Option Addr} (hx : ev σ x = .pointer p) : Run P ⟨d, .assign x, ty, pos, af, gd⟩ n σ w (.pointer p) w := hx ▸ r_assign
theorem r_mvB {b : Bool} (hx : ev σ x = .bool b) : Run P ⟨d, .move x, ty, pos, af, gd⟩ n σ w (.bool b) w := hx ▸ r_move
theorem r_asB {b : Bool} (hx : ev σ x = .bool b) : Run P ⟨d, .assign x, ty, pos, af, gd⟩ n σ w (.bool b) w := hx ▸ r_assign
theorem r_mvM {r : Option Nat} (hx : ev σ x = .map r) : Run P ⟨d, .move x, ty, pos, af, gd⟩ n σ w (.map r) w := hx ▸ r_move
theorem r_asM {r : Option Nat} (hx : ev σ x = .map r) : Run P ⟨d, .assign x, ty, pos, af, gd⟩ n σ w (.map r) w := hx ▸ r_assign
theorem r_mvA {cs : Array Value} (hx : ev σ x = .agg cs) : Run P ⟨d, .move x, ty, pos, af, gd⟩ n σ w (.agg cs) w := hx ▸ r_move
theorem r_asA {cs : Array Value} (hx : ev σ x = .agg cs) : Run P ⟨d, .assign x, ty, pos, af, gd⟩ n σ w (.agg cs) w := hx ▸ r_assign
theorem r_mvT {cs : Array Value} (hx : ev σ x = .tuple cs) : Run P ⟨d, .move x, ty, pos, af, gd⟩ n σ w (.tuple cs) w := hx ▸ r_move
theorem r_asT {cs : Array Value} (hx : ev σ x = .tuple cs) : Run P ⟨d, .assign x, ty, pos, af, gd⟩ n σ w (.tuple cs) w := hx ▸ r_assign
theorem r_mvF {fn : Go.Fn} {fs cs : Array Value} (hx : ev σ x = .func fn fs cs) : Run P ⟨d, .move x, ty, pos, af, gd⟩ n σ w (.func fn fs cs) w := hx ▸ r_move
theorem r_asF {fn : Go.Fn} {fs cs : Array Value} (hx : ev σ x = .func fn fs cs) : Run P ⟨d, .assign x, ty, pos, af, gd⟩ n σ w (.func fn fs cs) w := hx ▸ r_assign
theorem r_pickT {c x y : Operand} (hc : ev σ c = .bool true) : Run P ⟨d, .pick c x y, ty, pos, af, gd⟩ n σ w (ev σ x) w := r_pick hc
theorem r_pickF {c x y : Operand} (hc : ev σ c = .bool false) : Run P ⟨d, .pick c x y, ty, pos, af, gd⟩ n σ w (ev σ y) w := r_pick hc
theorem r_pickTB {c x y : Operand} {b : Bool} (hc : ev σ c = .bool true) (hx : ev σ x = .bool b) : Run P ⟨d, .pick c x y, ty, pos, af, gd⟩ n σ w (.bool b) w := hx ▸ r_pickT hc
theorem r_pickFB {c x y : Operand} {b : Bool} (hc : ev σ c = .bool false) (hy : ev σ y = .bool b) : Run P ⟨d, .pick c x y, ty, pos, af, gd⟩ n σ w (.bool b) w := hy ▸ r_pickF hc
end
theorem bT {p : Prop} [Decidable p] (h : p) : Value.bool (decide p) = .bool true := by rw [decide_eq_true h]
theorem bF {p : Prop} [Decidable p] (h : ¬ p) : Value.bool (decide p) = .bool false := by rw [decide_eq_false h]
theorem bEq {p q : Prop} [Decidable p] [Decidable q] (h : p ↔ q) : Value.bool (decide p) = .bool (decide q) := by rw [decide_eq_decide.2 h]
/-- where ways meet again -/
theorem g_cut {P : Program} {f : FuncId} {n : Sz} {R : Value → World → Prop} {k : List Item} {σ : SF} {w : World} {c : Item} {ι : Type} (vals : ι → List (Nat × Value)) (I : ι → World → Prop)
    (h : (∀ x σ' w', Has σ' (vals x) → I x w' → G P f n R k σ' w') → G P f n R (c :: k) σ w) (h2 : ∀ x τ w', I x w' → G P f n R k (ovr τ (vals x)) w') : G P f n R (c :: k) σ w :=
  h fun x σ' w' hs hI => by have := h2 x σ' w' hI; rwa [ovr_of_has hs] at this
theorem g_cut2 {P : Program} {f : FuncId} {n : Sz} {R : Value → World → Prop} {k : List Item} {σ : SF} {w : World} {c c2 : Item} {ι : Type} (vals : ι → List (Nat × Value)) (I : ι → World → Prop)
    (h : (∀ x σ' w', Has σ' (vals x) → I x w' → G P f n R k σ' w') → G P f n R (c :: c2 :: k) σ w) (h2 : ∀ x τ w', I x w' → G P f n R k (ovr τ (vals x)) w') : G P f n R (c :: c2 :: k) σ w :=
  h fun x σ' w' hs hI => by have := h2 x σ' w' hI; rwa [ovr_of_has hs] at this
/-! ## operations that make memory -/
section
variable {P : Program} {n : Sz} {K : SF → World → Prop} {σ : SF} {w : World} {ops : Array Oper} {l : List Oper} {ty : TypeId} {pos : String} {af : Array Edge}
theorem gl_box {d : Nat} {e : TypeId} {x : Operand} {v : Value} {vs : List Value} (hx : ev σ x = v) (hv : v.cells = vs.toArray) (hd : Nat.blt d n.n = true)
    (h : ∀ b w', w'.heap[b]? = some (.cells vs.toArray e) → b = w.heap.size → Pu w w' → GL P n ops l K (upd σ d (.pointer (some ⟨b, 0, none⟩))) w') :
    GL P n ops (⟨some d, .box e x, ty, pos, af, none⟩ :: l) K σ w :=
  gl_op r_box hd (by rw [hx, hv]; exact h _ _ alloc_new rfl (Pu.alloc _))
theorem gl_alloc {d : Nat} {e : TypeId} {z : Value} {vs : List Value} (hz : zeroOf P e = some z) (hv : z.cells = vs.toArray) (hd : Nat.blt d n.n = true)
    (h : ∀ b w', w'.heap[b]? = some (.cells vs.toArray e) → b = w.heap.size → Pu w w' → GL P n ops l K (upd σ d (.pointer (some ⟨b, 0, none⟩))) w') :
    GL P n ops (⟨some d, .alloc e, ty, pos, af, none⟩ :: l) K σ w :=
  gl_op (r_alloc hz) hd (by rw [hv]; exact h _ _ alloc_new rfl (Pu.alloc _))
theorem gl_slice1 {d : Nat} {t e : TypeId} {x : Operand} {z : Value} {vs : List Value} {sz : Nat} (hu : P.underlying t = some (.slice e)) (hs : szOf P e = some sz) (hz : zeroOf P e = some z) (hzs : z.cells.size = sz)
    {v : Value} (hx : ev σ x = v) (hv : v.cells = vs.toArray) (hl : vs.length = sz) (hp : Nat.ble sz 1000 = true) (h0 : Nat.blt 0 sz = true) (hd : Nat.blt d n.n = true)
    (h : ∀ b w', w'.heap[b]? = some (.cells vs.toArray e) → b = w.heap.size → Pu w w' → Sl w' e sz (some ⟨b, 0, none⟩) 1 vs → GL P n ops l K (upd σ d (.slice (some ⟨b, 0, none⟩) 1 1)) w') :
    GL P n ops (⟨some d, .buildSlice t 1 #[(0, x)], ty, pos, af, none⟩ :: l) K σ w :=
  gl_op (r_slice1 hu hs hz hzs (by rw [hx, hv]) hl hp h0) hd (h _ _ alloc_new rfl (Pu.alloc _) (Sl.one hl))
end
end Go.GW
namespace Go.GW
abbrev Bs := List UInt8
/-! ## numbers as bytes: plain -/
def varint (n : Nat) : Bs := if n < 128 then [UInt8.ofNat n] else UInt8.ofNat (n % 128 + 128) :: varint (n / 128)
termination_by n
def takeGo : Nat → Nat → Bs → Option (Nat × Bs)
  | _, _, [] => none
  | i, acc, c :: s =>
    if (i = 9 ∧ 1 < c.toNat) ∨ (0 < i ∧ c.toNat = 0) then none
    else if c.toNat < 128 then some (acc + c.toNat * 2 ^ (7 * i), s)
    else takeGo (i + 1) (acc + (c.toNat - 128) * 2 ^ (7 * i)) s
def takeVar (s : Bs) : Option (Nat × Bs) := takeGo 0 0 s
theorem varint_lt {n : Nat} (h : n < 128) : varint n = [UInt8.ofNat n] := by rw [varint, if_pos h]
theorem varint_ge {n : Nat} (h : ¬ n < 128) : varint n = UInt8.ofNat (n % 128 + 128) :: varint (n / 128) := by rw [varint, if_neg h]
theorem varint_len : ∀ (k n : Nat), 1 ≤ k → n < 2 ^ (7 * k) → (varint n).length ≤ k := by
  intro k
  induction k with
  | zero => intro n h; omega
  | succ k ih =>
    intro n _ hn
    by_cases h : n < 128
    · rw [varint_lt h]; simp
    · rw [varint_ge h]
      by_cases hk : k = 0
      · subst hk; simp at hn; omega
      · have := ih (n / 128) (by omega) (by
          rw [Nat.div_lt_iff_lt_mul (by omega)]
          calc n < 2 ^ (7 * (k + 1)) := hn
            _ = 2 ^ (7 * k) * 128 := by rw [Nat.mul_add, Nat.pow_add])
        simp; omega
theorem varint_len10 {n : Nat} (h : n < 18446744073709551616) : (varint n).length ≤ 10 := varint_len 10 n (by omega) (by
  have : (2 : Nat) ^ (7 * 10) = 1180591620717411303424 := by decide
  omega)
theorem varint_pos (n : Nat) : 1 ≤ (varint n).length := by
  by_cases h : n < 128
  · rw [varint_lt h]; simp
  · rw [varint_ge h]; simp
theorem takeGo_varint : ∀ (n i acc : Nat) (r : Bs), (0 < i → 0 < n) → n * 2 ^ (7 * i) < 18446744073709551616 → takeGo i acc (varint n ++ r) = some (acc + n * 2 ^ (7 * i), r) := by
  intro n
  induction n using Nat.strongRecOn with
  | _ n ih =>
    intro i acc r hi hb
    have h9 : i = 9 → n ≤ 1 := by
      rintro rfl
      have : (2 : Nat) ^ (7 * 9) = 9223372036854775808 := by decide
      rw [this] at hb; omega
    by_cases h : n < 128
    · rw [varint_lt h]
      have hn : (UInt8.ofNat n).toNat = n := by simp; omega
      simp only [List.singleton_append, takeGo, hn]
      rw [if_neg (by
        rintro (⟨h1, h2⟩ | ⟨h1, h2⟩)
        · have := h9 h1; omega
        · have := hi h1; omega), if_pos h]
    · rw [varint_ge h]
      have hn : (UInt8.ofNat (n % 128 + 128)).toNat = n % 128 + 128 := by simp; omega
      simp only [List.cons_append, takeGo, hn]
      rw [if_neg (by
        rintro (⟨h1, h2⟩ | ⟨h1, h2⟩)
        · have := h9 h1; omega
        · omega), if_neg (by omega)]
      have hp : (2 : Nat) ^ (7 * (i + 1)) = 128 * 2 ^ (7 * i) := by rw [Nat.mul_add, Nat.pow_add, Nat.mul_comm]
      rw [ih (n / 128) (by omega) (i + 1) _ r (by omega) (by
        rw [hp, ← Nat.mul_assoc]
        refine Nat.lt_of_le_of_lt (Nat.mul_le_mul_right _ ?_) hb
        omega)]
      have hsum : acc + (n % 128 + 128 - 128) * 2 ^ (7 * i) + n / 128 * 2 ^ (7 * (i + 1)) = acc + n * 2 ^ (7 * i) := by
        rw [hp]
        generalize 2 ^ (7 * i) = p
        have e1 : n % 128 + 128 - 128 = n % 128 := by omega
        have e2 : n = n / 128 * 128 + n % 128 := by omega
        have e3 : n * p = (n / 128 * 128 + n % 128) * p := congrArg (· * p) e2
        rw [e1, e3, Nat.add_mul, ← Nat.mul_assoc]
        omega
      rw [hsum]
theorem takeVar_varint {n : Nat} (h : n < 18446744073709551616) (r : Bs) : takeVar (varint n ++ r) = some (n, r) := by
  have := takeGo_varint n 0 0 r (by omega) (by simpa using h)
  simpa [takeVar] using this
theorem or128 (n : Nat) : IntKind.u8.wrap ((BitVec.ofInt IntKind.u8.bits ((n : Int) % 256) ||| BitVec.ofInt IntKind.u8.bits 128).toNat : Int) = ((UInt8.ofNat (n % 128 + 128)).toNat : Int) := by
  have h1 : ((n : Int) % 256) = ((n % 256 : Nat) : Int) := by omega
  have h2 : n % 128 = n % 256 % 128 := by omega
  rw [h1, h2]
  have h3 : n % 256 < 256 := Nat.mod_lt _ (by omega)
  generalize n % 256 = m at *
  have key : ∀ m : Fin 256, IntKind.u8.wrap ((BitVec.ofInt IntKind.u8.bits ((m.val : Nat) : Int) ||| BitVec.ofInt IntKind.u8.bits 128).toNat : Int) = ((UInt8.ofNat (m.val % 128 + 128)).toNat : Int) := by decide +kernel
  exact key ⟨m, h3⟩
theorem ofInt64 (a : Nat) (h : a < 18446744073709551616) : (BitVec.ofInt 64 (a : Int)).toNat = a := by
  rw [BitVec.ofInt_natCast, BitVec.toNat_ofNat]; exact Nat.mod_eq_of_lt (by omega)
theorem u64_or (a b : Nat) (ha : a < 18446744073709551616) (hb : b < 18446744073709551616) : IntKind.u64.wrap ((BitVec.ofInt IntKind.u64.bits (a : Int) ||| BitVec.ofInt IntKind.u64.bits (b : Int)).toNat : Int) = ((a ||| b : Nat) : Int) := by
  show IntKind.u64.wrap ((BitVec.ofInt 64 (a : Int) ||| BitVec.ofInt 64 (b : Int)).toNat : Int) = _
  rw [BitVec.toNat_or, ofInt64 a ha, ofInt64 b hb]
  have h : a ||| b < 2 ^ 64 := Nat.or_lt_two_pow (by omega) (by omega)
  exact wU64 (by omega) (by omega)
theorem u64_and (a b : Nat) (ha : a < 18446744073709551616) (hb : b < 18446744073709551616) : IntKind.u64.wrap ((BitVec.ofInt IntKind.u64.bits (a : Int) &&& BitVec.ofInt IntKind.u64.bits (b : Int)).toNat : Int) = ((a &&& b : Nat) : Int) := by
  show IntKind.u64.wrap ((BitVec.ofInt 64 (a : Int) &&& BitVec.ofInt 64 (b : Int)).toNat : Int) = _
  rw [BitVec.toNat_and, ofInt64 a ha, ofInt64 b hb]
  have h : a &&& b < 2 ^ 64 := Nat.and_lt_two_pow _ (by omega)
  exact wU64 (by omega) (by omega)
theorem or_add {a b i : Nat} (h : a < 2 ^ i) : a ||| b * 2 ^ i = a + b * 2 ^ i := by
  have := Nat.shiftLeft_add_eq_or_of_lt h b
  rw [Nat.shiftLeft_eq] at this
  rw [Nat.or_comm, ← this, Nat.add_comm]
theorem pow_lt {a i : Nat} (h : a < 2 ^ (7 * i)) (h9 : i ≤ 9) : a < 18446744073709551616 := by
  have h2 : (2 : Nat) ^ (7 * i) ≤ 2 ^ (7 * 9) := Nat.pow_le_pow_right (by omega) (by omega)
  have : (2 : Nat) ^ (7 * 9) = 9223372036854775808 := by decide
  omega
theorem shl_lt (c i : Nat) (h9 : i ≤ 9) (hc : c < 128) (h : i = 9 → c ≤ 1) : c * 2 ^ (7 * i) < 18446744073709551616 := by
  rcases Nat.lt_or_ge i 9 with h1 | h1
  · have h2 : (2 : Nat) ^ (7 * i) ≤ 2 ^ (7 * 8) := Nat.pow_le_pow_right (by omega) (by omega)
    have h3 : (2 : Nat) ^ (7 * 8) = 72057594037927936 := by decide
    have := Nat.mul_le_mul (Nat.le_of_lt_succ hc : c ≤ 127) h2
    omega
  · have hi : i = 9 := by omega
    subst hi
    have h3 : (2 : Nat) ^ (7 * 9) = 9223372036854775808 := by decide
    have := h rfl
    rw [h3]; omega
theorem shl_eq (c i : Nat) (h9 : i ≤ 9) (h : c * 2 ^ (7 * i) < 18446744073709551616) : IntKind.u64.wrap ((c : Int) * 2 ^ (min ((7 * (i : Int)).toNat) IntKind.u64.bits)) = ((c * 2 ^ (7 * i) : Nat) : Int) := by
  have h1 : min ((7 * (i : Int)).toNat) IntKind.u64.bits = 7 * i := by
    have : IntKind.u64.bits = 64 := rfl
    rw [this]; omega
  have h2 : (c : Int) * 2 ^ (7 * i) = ((c * 2 ^ (7 * i) : Nat) : Int) := by simp
  rw [h1, h2]
  exact wU64 (by omega) (by omega)
theorem and127 (c : UInt8) (h : ¬ c.toNat < 128) : IntKind.u64.wrap ((BitVec.ofInt IntKind.u64.bits (c.toNat : Int) &&& BitVec.ofInt IntKind.u64.bits 127).toNat : Int) = ((c.toNat - 128 : Nat) : Int) := by
  have hc := c.toNat_lt
  have := u64_and c.toNat 127 (by omega) (by omega)
  rw [show ((127 : Nat) : Int) = 127 from rfl] at this
  rw [this]
  have e : c.toNat &&& 127 = c.toNat % 128 := Nat.and_two_pow_sub_one_eq_mod c.toNat 7
  rw [e]; omega
theorem acc_lt {a i c : Nat} (h : a < 2 ^ (7 * i)) (hc : c < 128) : a + c * 2 ^ (7 * i) < 2 ^ (7 * (i + 1)) := by
  have hp : (2 : Nat) ^ (7 * (i + 1)) = 128 * 2 ^ (7 * i) := by rw [Nat.mul_add, Nat.pow_add, Nat.mul_comm]
  rw [hp]
  generalize 2 ^ (7 * i) = p at *
  have : c * p ≤ 127 * p := Nat.mul_le_mul_right _ (by omega)
  omega
def takeVal : Option (Nat × Bs) → Value
  | some (n, r) => .tuple #[.int .u64 n, .string (str r), .int .i64 0]
  | none => .tuple #[.int .u64 0, .string (str []), .int .i64 2]
def byts (l : Bs) : List Value := l.map fun b => .int .u8 b.toNat
theorem byts_append (a b : Bs) : byts (a ++ b) = byts a ++ byts b := by simp [byts]
theorem byts_one (l : Bs) : ∀ u ∈ byts l, u.oneCell' = true := by
  intro u hu
  simp only [byts, List.mem_map] at hu
  obtain ⟨b, _, rfl⟩ := hu
  rfl
end Go.GW
namespace Go.GW
open Go.RowKit
section
variable {P : Program} {n : Sz} {σ : SF} {w : World} {d : Option Tmp} {ty : TypeId} {pos : String} {af : Array Edge} {gd : Option (Nat × Bool)}
/-- arr[:] -/
theorem r_sliceArr {t e : TypeId} {x : Operand} {b o m sz : Nat} (hu : P.underlying t = some (.array m e)) (hs : szOf P e = some sz) (hx : ev σ x = .pointer (some ⟨b, o, none⟩)) :
    Run P ⟨d, .slice t x none none none, ty, pos, af, gd⟩ n σ w (.slice (some ⟨b, o, none⟩) m m) w := fun a ha => by
  simp only [execOp, Option.map_none, ha.eval, hx, Instr.sliceAt, Instr.sureAddr, Sem.run_bind, run_und hu, Result.andThen_ok, Instr.sliceBounds, Sem.run_pure, run_sizeOf hs, Nat.sub_zero, Nat.zero_mul]
  simp [Addr.add]
theorem r_sliceArrHi {t e : TypeId} {x hi : Operand} {b o m j sz : Nat} {k : IntKind} (hu : P.underlying t = some (.array m e)) (hs : szOf P e = some sz) (hx : ev σ x = .pointer (some ⟨b, o, none⟩)) (hhi : ev σ hi = .int k (j : Int)) (hj : j ≤ m) :
    Run P ⟨d, .slice t x none (some hi) none, ty, pos, af, gd⟩ n σ w (.slice (some ⟨b, o, none⟩) j m) w := fun a ha => by
  simp only [execOp, Option.map_none, Option.map_some, ha.eval, hx, hhi, Instr.sliceAt, Instr.sureAddr, Sem.run_bind, run_und hu, Result.andThen_ok, Instr.sliceBounds, Sem.run_pure]
  rw [run_sliceBound hj]
  simp [run_sizeOf hs, Addr.add]
theorem resC2 {fn : Func} {c u : Tmp} {t : TypeId} {p : Addr} {v : Value} (h : fn.results = #[.cell c t, .tmp u]) (hx : σ c = .pointer (some p)) (hl : (loadVar t p).run P w = .ok v w) : ResOk P fn σ w (.tuple #[v, σ u]) := fun a n ha => by
  simp [results, h, ha.get, hx, asAddr, hl]
theorem resC1 {fn : Func} {c : Tmp} {t : TypeId} {p : Addr} {v : Value} (h : fn.results = #[.cell c t]) (hx : σ c = .pointer (some p)) (hl : (loadVar t p).run P w = .ok v w) : ResOk P fn σ w v := fun a n ha => by
  simp [results, h, ha.get, hx, asAddr, hl]
end
theorem ofInt32 (a : Nat) (h : a < 4294967296) : (BitVec.ofInt 32 (a : Int)).toNat = a := by
  rw [BitVec.ofInt_natCast, BitVec.toNat_ofNat]; exact Nat.mod_eq_of_lt (by omega)
theorem u32_xor (a b : Nat) (ha : a < 4294967296) (hb : b < 4294967296) : IntKind.u32.wrap ((BitVec.ofInt IntKind.u32.bits (a : Int) ^^^ BitVec.ofInt IntKind.u32.bits (b : Int)).toNat : Int) = ((a ^^^ b : Nat) : Int) := by
  show IntKind.u32.wrap ((BitVec.ofInt 32 (a : Int) ^^^ BitVec.ofInt 32 (b : Int)).toNat : Int) = _
  rw [BitVec.toNat_xor, ofInt32 a ha, ofInt32 b hb]
  have h : a ^^^ b < 2 ^ 32 := Nat.xor_lt_two_pow (by omega) (by omega)
  rw [wU32]; omega
theorem u32_and (a b : Nat) (ha : a < 4294967296) (hb : b < 4294967296) : IntKind.u32.wrap ((BitVec.ofInt IntKind.u32.bits (a : Int) &&& BitVec.ofInt IntKind.u32.bits (b : Int)).toNat : Int) = ((a &&& b : Nat) : Int) := by
  show IntKind.u32.wrap ((BitVec.ofInt 32 (a : Int) &&& BitVec.ofInt 32 (b : Int)).toNat : Int) = _
  rw [BitVec.toNat_and, ofInt32 a ha, ofInt32 b hb]
  have h : a &&& b < 2 ^ 32 := Nat.and_lt_two_pow _ (by omega)
  rw [wU32]; omega
theorem shr_nat (k : IntKind) (a j : Nat) (h : j ≤ k.bits) : (a : Int).fdiv (2 ^ (min ((j : Int).toNat) k.bits)) = ((a / 2 ^ j : Nat) : Int) := by
  have h1 : min ((j : Int).toNat) k.bits = j := by rw [Int.toNat_natCast]; exact Nat.min_eq_left h
  rw [h1, Int.fdiv_eq_ediv_of_nonneg _ (Int.pow_nonneg (by decide))]
  simp

/-! ## sums: plain -/
def crcTab : List Nat := [0, 274646895, 549293790, 820201905, 1098587580, 1361435347, 1640403810, 1905808397, 2197175160, 2460548119, 2722870694, 2987750089, 3280807620, 3553878443, 3811616794, 4084100981]
def crcRound (r : Nat) : Nat := (r / 16) ^^^ (crcTab[r % 16]?.getD 0)
def crcByte (r : Nat) (c : UInt8) : Nat := crcRound (crcRound (r ^^^ c.toNat))
def crcAdd (sum : Nat) (s : Bs) : Nat := 4294967295 ^^^ s.foldl crcByte (4294967295 ^^^ sum)
theorem crcTab_lt (i : Nat) (h : i < 16) : ∃ v, crcTab[i]? = some v ∧ v < 4294967296 := by
  have : ∀ i : Fin 16, ∃ v, crcTab[i.val]? = some v ∧ v < 4294967296 := by
    intro i
    have : ∀ i : Fin 16, (crcTab[i.val]?.getD 0) < 4294967296 ∧ (crcTab[i.val]?).isSome = true := by decide
    obtain ⟨h1, h2⟩ := this i
    obtain ⟨v, hv⟩ := Option.isSome_iff_exists.1 h2
    exact ⟨v, hv, by simpa [hv] using h1⟩
  exact this ⟨i, h⟩
theorem crcRound_lt {r : Nat} (h : r < 4294967296) : crcRound r < 4294967296 := by
  obtain ⟨v, hv, hl⟩ := crcTab_lt (r % 16) (Nat.mod_lt _ (by omega))
  unfold crcRound
  rw [hv]
  have : r / 16 ^^^ v < 2 ^ 32 := Nat.xor_lt_two_pow (by omega) (by omega)
  simpa using this
theorem crcX_lt {r : Nat} (h : r < 4294967296) (c : UInt8) : r ^^^ c.toNat < 4294967296 := by
  have hc := c.toNat_lt
  have : r ^^^ c.toNat < 2 ^ 32 := Nat.xor_lt_two_pow (by omega) (by omega)
  simpa using this
theorem crcByte_lt {r : Nat} (h : r < 4294967296) (c : UInt8) : crcByte r c < 4294967296 := crcRound_lt (crcRound_lt (crcX_lt h c))
theorem crcNot_lt {r : Nat} (h : r < 4294967296) : 4294967295 ^^^ r < 4294967296 := by
  have : 4294967295 ^^^ r < 2 ^ 32 := Nat.xor_lt_two_pow (by omega) (by omega)
  simpa using this
theorem crcAdd_lt {r : Nat} (h : r < 4294967296) (s : Bs) : crcAdd r s < 4294967296 := by
  have : ∀ (s : Bs) (r : Nat), r < 4294967296 → s.foldl crcByte r < 4294967296 := by
    intro s
    induction s with
    | nil => intro r h; exact h
    | cons c s ih => intro r h; exact ih _ (crcByte_lt h c)
  exact crcNot_lt (this s _ (crcNot_lt h))
def sum4 (n : Nat) : Bs := [UInt8.ofNat (n / 2 ^ (8 * 0)), UInt8.ofNat (n / 2 ^ (8 * 1)), UInt8.ofNat (n / 2 ^ (8 * 2)), UInt8.ofNat (n / 2 ^ (8 * 3))]
def frameSum (seq : Nat) (body : Bs) : Bs := sum4 (crcAdd 0 (varint seq ++ body))
def sumCells (n i : Nat) : List Value := byts ((sum4 n).take i) ++ List.replicate (4 - i) (.int .u8 0)
/-- The table of sums as the program's text lays it. -/
def crcCells : Array Value := (crcTab.map fun x : Nat => Value.int .u32 (x : Int)).toArray
end Go.GW
namespace Go.GW
open Go.RowKit

/-! ## range over a function -/
/-- the frame's fence: a round's, or none -/
def fen : Option Nat → Fence
  | none => Fence.wide
  | some l => Fence.wide.inRound l
theorem fen_fn (ro : Option Nat) (f : FuncId) : (fen ro).fn f := by cases ro <;> exact trivial
theorem fen_depth (ro : Option Nat) : (fen ro).depth = none := by cases ro <;> rfl
theorem fen_round (ro : Option Nat) : (fen ro).round = ro := by cases ro <;> rfl
theorem calls_fen {P : Program} {f : FuncId} {args : Array Value} {w : World} {R : Ending → World → Prop} (ro : Option Nat) (h : Calls P f args w R) : CallsIn (fen ro) 0 P f args w R := by
  cases ro with
  | none => exact callsIn_wide.2 h
  | some l => exact CallsIn.inRound l (callsIn_wide.2 h)
theorem rows_fen {P : Program} {row : String} {args : Array Value} {w : World} {R : Value → World → Prop} (ro : Option Nat) (h : Rows P row args w R) : RowsIn (fen ro) 0 P row args w R := by
  intro c cs _
  obtain ⟨v, w', r, s⟩ := h c cs
  refine ⟨v, w', r, ?_⟩
  cases ro <;> exact stepsIn_wide.2 s
def noDefer : Op → Bool
  | .defer _ => false
  | _ => true
theorem semAt_fen {ro : Option Nat} {ρ : Operand → Value} {o : Oper} (h : noDefer o.op = true) : o.semAt ro ρ = execOp ρ o := by
  cases ro with
  | none => rfl
  | some l => exact Oper.semAt_some l ρ o (fun c e => by rw [e] at h; cases h)

section
variable (ro : Option Nat) (P : Program) (n : Sz)
def GI (ops : Array Oper) (l : List Oper) (K : SF → World → Prop) (σ : SF) (w : World) : Prop := ∀ a, Is a n σ → wpListIn (fen ro) 0 P ops (QN n K) l a w
/-- code of a round, or of a function: it ends at its end -/
def GC (c : Code) (K : SF → World → Prop) (σ : SF) (w : World) : Prop := ∀ a, Is a n σ → c.wpIn (fen ro) 0 P (QN n K) a w
end
section
variable {ro : Option Nat} {P : Program} {n : Sz} {K : SF → World → Prop} {σ : SF} {w : World} {ops : Array Oper} {l : List Oper} {ty : TypeId} {pos : String} {af : Array Edge}
theorem gi_nil (h : K σ w) : GI ro P n ops [] K σ w := fun _ ha => ⟨rfl, σ, ha, h⟩
/-- one operation by the rules of the list -/
theorem gi_cons {o : Oper} (hnd : noDefer o.op = true) (h : GL P n ops [o] (GI ro P n ops l K) σ w) : GI ro P n ops (o :: l) K σ w := by
  intro a ha
  have := h a ha
  unfold wpList at this
  unfold wpListIn
  split
  · rename_i hw
    rw [if_pos hw] at this
    rcases this with this | ⟨_, a1, w1, h2⟩
    · refine ⟨fun f _ => fen_fn ro f, ?_⟩
      rw [semAt_fen hnd]
      unfold Oper.wp at this
      generalize (execOp a.eval o).run P w = r at *
      have kk : ∀ a w, wpList P ops (QN n (GI ro P n ops l K)) [] a w → wpListIn (fen ro) 0 P ops (QN n K) l a w := fun a w ⟨_, σ', hs, g⟩ => g a hs
      cases r with
      | ok nx w' =>
        cases nx <;> simp only [Oper.upon] at this <;> simp only [Oper.uponIn] <;>
          first
            | exact kk _ _ this
            | exact ⟨(fun h => by rw [fen_depth] at h; cases h), rows_fen ro (Rows.mono this fun _ _ he => kk _ _ he)⟩
            | exact ⟨(fun h => by rw [fen_depth] at h; cases h), calls_fen ro (Calls.mono this (fun e w'' he => by
                cases e with
                | returned v => exact kk _ _ he
                | panicked c => exact (by cases he.1)
                | outgrown => obtain ⟨a2, w2, h3⟩ := he; cases h3.1))⟩
            | exact this.elim
      | halt x w' => cases x <;> simp only [Oper.upon] at this <;> simp only [Oper.uponIn] <;> first | exact (by cases this.1) | exact this.elim
    · cases h2.1
  · rename_i hw
    rw [if_neg hw] at this
    obtain ⟨_, σ', hs, g⟩ := this
    exact ⟨fun f _ => fen_fn ro f, g _ hs⟩
theorem gc_region {id : Nat} {l : List Oper} (h : GI ro P n l.toArray l K σ w) : GC ro P n (.region id l.toArray false) K σ w := fun a ha => wpIn_region_lit (h a ha)
theorem gc_seq {x y : Code} (h : GC ro P n x (GC ro P n y K) σ w) : GC ro P n (.seq x y) K σ w := fun a ha =>
  wpIn_seq (Code.wpIn_mono (fun e a' w' hq => by
    obtain ⟨rfl, σ', hs, g⟩ := hq
    exact g a' hs) (h a ha))
theorem gc_block {id : Nat} {c : Code} (h : GC ro P n c K σ w) : GC ro P n (.block id c) K σ w := fun a ha =>
  wpIn_block (Code.wpIn_mono (fun e a' w' hq => by
    obtain ⟨rfl, σ', hs, g⟩ := hq
    exact ⟨rfl, σ', hs, g⟩) (h a ha))
theorem gc_skip (h : K σ w) : GC ro P n .skip K σ w := fun _ ha => wpIn_skip ⟨rfl, σ, ha, h⟩

/-- what a call of a round's yield comes to -/
def YC (P : Program) (l : Nat) (args : List Value) (w : World) (Post : Bool → World → Prop) : Prop :=
  ∃ r, w.heap[l]? = some (.loop r) ∧ args.length = r.params.size ∧
    RoundIn (fen none) 0 P l r.fn ((r.params.zip args.toArray).foldl (fun tmps (t, a) => tmps.setIfInBounds t a) r.tmps) r.assign r.body w (fun e w' => ∃ b, e = .returned (.bool b) ∧ Post b w')
theorem YC.mono {l : Nat} {args : List Value} {Post Post' : Bool → World → Prop} (h : YC P l args w Post) (hp : ∀ b w', Post b w' → Post' b w') : YC P l args w Post' := by
  obtain ⟨r, h1, h2, h3⟩ := h
  exact ⟨r, h1, h2, h3.mono fun e w' ⟨b, e, hb⟩ => ⟨b, e, hp b w' hb⟩⟩
theorem run_yield {x : Operand} {l : Nat} {asx : List Operand} {d : Option Tmp} {ats : Array TypeId} {gd : Option (Nat × Bool)} {a : Act} {r : Loop} (ha : Is a n σ) (hx : ev σ x = .func (.yield l) #[] #[]) (hl : w.heap[l]? = some (.loop r)) (hs : asx.length = r.params.size) :
    (execOp a.eval ⟨d, .call { callee := .value x, args := asx.toArray, argTypes := ats }, ty, pos, af, gd⟩).run P w = .ok (.round l r.fn ((r.params.zip (asx.map (ev σ)).toArray).foldl (fun tmps (t, a) => tmps.setIfInBounds t a) r.tmps) r.assign r.body) w := by
  have hsz : ¬ ((asx.map (ev σ)).toArray.size ≠ r.params.size) := by simp [hs]
  simp only [execOp, resolve, Sem.run_bind, ha.eval, hx, Deferred.ofValue, Sem.run_pure, Result.andThen_ok, invoke, Instr.yield, Instr.getLoop, getObj, Sem.run, hl]
  have h1 : (#[] ++ (asx.toArray.map a.eval) : Array Value) = (asx.map (ev σ)).toArray := by simp [evs_eval ha]
  rw [h1]
  simp only [hsz, if_false, Sem.run_pure]
/-- a call of yield -/
theorem gi_yield {d : Nat} {x : Operand} {l' : Nat} {asx : List Operand} {ats : Array TypeId} {vs : List Value} {Post : Bool → World → Prop} (hx : ev σ x = .func (.yield l') #[] #[]) (hc : YC P l' vs w Post) (hv : asx.map (ev σ) = vs) (hd : Nat.blt d n.n = true)
    (h : ∀ b w', Post b w' → GI none P n ops l K (upd σ d (.bool b)) w') : GI none P n ops (⟨some d, .call { callee := .value x, args := asx.toArray, argTypes := ats }, ty, pos, af, none⟩ :: l) K σ w := by
  intro a ha
  obtain ⟨r, h1, h2, h3⟩ := hc
  refine wpListIn_plain rfl fun K' hK => ?_
  refine ⟨fun f _ => fen_fn none f, ?_⟩
  rw [semAt_fen rfl, run_yield ha hx h1 (by rw [← h2, ← hv]; simp), hv]
  simp only [Oper.uponIn]
  refine ⟨(fun h => by rw [fen_depth] at h; cases h), h3.mono ?_⟩
  rintro e w' ⟨b, rfl, hb⟩
  exact hK _ _ (h b w' hb _ (ha.put hd _))
theorem gi_yieldG {d j t : Nat} {bb : Bool} {x : Operand} {l' : Nat} {asx : List Operand} {ats : Array TypeId} {vs : List Value} {Post : Bool → World → Prop} (ho : (ops[j]?).bind (·.dst) = some t) (hb : σ t = .bool bb) (ht : Nat.blt t n.n = true)
    (hx : ev σ x = .func (.yield l') #[] #[]) (hc : YC P l' vs w Post) (hv : asx.map (ev σ) = vs) (hd : Nat.blt d n.n = true)
    (h : ∀ b w', Post b w' → GI none P n ops l K (upd σ d (.bool b)) w') : GI none P n ops (⟨some d, .call { callee := .value x, args := asx.toArray, argTypes := ats }, ty, pos, af, some (j, bb)⟩ :: l) K σ w := by
  intro a ha
  have hy := yield_eq (ops := ops) ha ho ht hb
  obtain ⟨r, h1, h2, h3⟩ := hc
  refine wpListIn_step fun K' hK => ?_
  rw [if_pos (by simp [Region.wanted, hy])]
  refine ⟨fun f _ => fen_fn none f, ?_⟩
  rw [semAt_fen rfl, run_yield ha hx h1 (by rw [← h2, ← hv]; simp), hv]
  simp only [Oper.uponIn]
  refine ⟨(fun h => by rw [fen_depth] at h; cases h), h3.mono ?_⟩
  rintro e w' ⟨b, rfl, hb⟩
  exact hK _ _ (h b w' hb _ (ha.put hd _))
theorem g_regionI {f : FuncId} {R : Value → World → Prop} {k : List Item} {id : Nat} {l : List Oper} (h : GI none P n l.toArray l (G P f n R k) σ w) : G P f n R (.code (.region id l.toArray false) :: k) σ w := by
  intro a ha
  refine Good.code (wp_mono (wpIn_wide.1 (gc_region h a ha)) ?_)
  rintro e a' w' ⟨rfl, σ', hs, g⟩
  exact g a' hs

/-- a round, out of its body's walk: it goes on -/
theorem yc_of {l : Nat} {args : List Value} {r : Loop} {σ' : SF} {Post : Bool → World → Prop} (hl : w.heap[l]? = some (.loop r)) (hs : args.length = r.params.size)
    (hI : Is { tmps := (r.params.zip args.toArray).foldl (fun tmps (t, a) => tmps.setIfInBounds t a) r.tmps, defers := [] } n σ')
    (h : GC (some l) P n r.assign (fun σ1 w1 => ∃ r1, w1.heap[l]? = some (.loop r1) ∧ r1.state = .ready ∧ GC (some l) P n r.body (fun _ w2 => ∃ r2, w2.heap[l]? = some (.loop r2) ∧ Post true (setBlk w2 l (.loop { r2 with state := .ready, pending := none }))) σ1 (setBlk w1 l (.loop { r1 with state := .busy }))) σ' w) :
    YC P l args w Post := by
  refine ⟨r, hl, hs, roundIn_of_wpIn (fen_fn none _) ?_⟩
  refine Code.wpIn_mono ?_ (h _ hI)
  rintro e a' w1 ⟨rfl, σ1, hs1, r1, hr1, hst, hb⟩
  refine ⟨setBlk w1 l (.loop { r1 with state := .busy }), ?_, Code.wpIn_mono ?_ (hb a' hs1)⟩
  · simp only [Instr.beginRound, Instr.getLoop, getObj, setObj, Sem.run_bind, Sem.run, hr1, Sem.run_pure, Result.andThen_ok, hst]
    rfl
  · rintro e2 a2 w2 ⟨rfl, σ2, hs2, r2, hr2, hp⟩
    refine ⟨.bool true, _, ?_, true, rfl, hp⟩
    simp only [Instr.endRound, Instr.getLoop, getObj, setObj, Sem.run_bind, Sem.run, hr2, Sem.run_pure, Result.andThen_ok]
    rfl

/-- a round's yield, as a value -/
abbrev yv (l : Nat) : Value := .func (.yield l) #[] #[]
def colMark (r : Nat) : Deferred := { target := .collected r, args := #[] }
/-- the statement 'for .. := range g' of a function, whose loop is left at its end -/
theorem g_rangeFunc {f : FuncId} {R : Value → World → Prop} {k : List Item} {x : Operand} {ps : Array Tmp} {assign body : Code} {g : FuncId} {fs cl : List Value} (hx : ev σ x = .func (.func g) fs.toArray cl.toArray) (hen : Ent P g)
    (h : ∀ fn tm w1, Is { tmps := tm, defers := n.ds } n σ → w1 = (w.alloc (.deferred (some []))).alloc (.loop { state := .ready, pending := none, fn := fn, tmps := tm, params := ps, assign := assign, body := body, defers := w.heap.size }) →
      Ret P g (fs ++ [yv (w.heap.size + 1)] ++ cl).toArray w1 (fun _ w2 => ∃ r2, w2.heap[w.heap.size + 1]? = some (.loop r2) ∧ (r2.state == .busy) = false ∧ r2.pending = none ∧
        G P f ⟨n.n, colMark w.heap.size :: n.ds⟩ R k σ (setBlk w2 (w.heap.size + 1) (.loop { r2 with state := .exhausted })))) :
    G P f n R (.code (.rangeFunc x ps assign body) :: k) σ w := by
  intro a ha
  refine Good.code (wpIn_wide.1 (wpIn_rangeFunc (F := Fence.wide) (n := 0) (Q := GoodX P f R k) fun fn _ => ?_))
  have ha' : Is { tmps := a.tmps, defers := n.ds } n σ := ⟨rfl, ha.size, ha.get⟩
  obtain ⟨w1, hw1⟩ : ∃ w1, w1 = (w.alloc (.deferred (some []))).alloc (.loop { state := .ready, pending := none, fn := fn, tmps := a.tmps, params := ps, assign := assign, body := body, defers := w.heap.size }) := ⟨_, rfl⟩
  have hc := h fn a.tmps w1 ha' hw1
  refine ⟨w.heap.size + 1, [colMark w.heap.size], w1, { target := .fn (.func g) cl.toArray, args := (fs ++ [yv (w.heap.size + 1)]).toArray }, w1, g, (fs ++ [yv (w.heap.size + 1)] ++ cl).toArray, w1, ?_, ?_, fun _ _ => trivial, ?_, fun h => (by cases h), callsIn_wide.2 (Calls.mono hc ?_)⟩
  · simp [Instr.enterLoop, hw1, colMark]
  · have hm : (#[Operand.const (yv (w.heap.size + 1))].map a.eval) = #[yv (w.heap.size + 1)] := by simp [Act.eval]
    simp only [resolve, rangeCall, ha.eval, hx, Deferred.ofValue, hm, Sem.run_pure]
    simp
  · simp only [invoke]
    have := hen (fs ++ [yv (w.heap.size + 1)] ++ cl).toArray w1
    simpa using this
  · rintro e w2 ⟨v, rfl, r2, hr2, hst, hpend, hg⟩
    refine ⟨none, setBlk w2 (w.heap.size + 1) (.loop { r2 with state := .exhausted }), ?_, ?_⟩
    · simp only [Instr.endLoop, Instr.getLoop, getObj, setObj, Sem.run_bind, Sem.run, hr2, Sem.run_pure, Result.andThen_ok, hst, Bool.false_eq_true, if_false, hpend]
      rfl
    · refine hg _ ⟨?_, ha.size, ha.get⟩
      simp [ha.defers]

theorem step_collected {b : Frame} {cs : List Frame} {todo : List Item} {a : Act} {r : Nat} {ds : List Deferred} (hd : a.defers = colMark r :: ds) (hr : w.heap[r]? = some (.deferred (some []))) :
    step P (lone { b.at a todo with mode := .returning } cs w) = .next (lone { b.at { a with defers := ds } todo with mode := .returning } cs (setBlk w r (.deferred none))) := by
  refine step_lone_go ?_
  have ht : (Instr.takeDeferred r).run P w = .ok [] (setBlk w r (.deferred none)) := by
    simp only [Instr.takeDeferred, getObj, setObj, Sem.run_bind, Sem.run, hr, Sem.run_pure, Result.andThen_ok]
    rfl
  simp [stepG, unwind, Frame.at, hd, colMark, Sem.runT_eq, ht, GStep.bare_after]
/-- a return behind such a statement -/
theorem g_retD {f : FuncId} {R : Value → World → Prop} {k : List Item} {fn : Func} {v : Value} {m r : Nat} (hf : P.funcs[f]? = some fn) (hd : w.heap[r]? = some (.deferred (some []))) (hr : ResOk P fn σ (setBlk w r (.deferred none)) v) (hR : R v (setBlk w r (.deferred none))) :
    G P f ⟨m, [colMark r]⟩ R (.code .ret :: k) σ w := by
  intro a ha b cs hbf hk
  have h1 := step_ret (P := P) (b := b) (a := a) (k := k) (cs := cs) (w := w)
  have h2 := step_collected (P := P) (b := b) (cs := cs) (todo := .code .ret :: k) (a := a) (w := w) ha.defers hd
  refine ⟨v, _, _, hR, .head h1 (.one h2), hbf, rfl, rfl, hk, fn, by simpa [Frame.at, hbf] using hf, ?_⟩
  exact hr a _ ha
end
end Go.GW
namespace Go.GW
open Go.RowKit

/-! ## functions that yield one by one, and rounds that take all -/
/-- What a round keeps: I of those that came, and K the blocks that are not its own. -/
structure Cons {α : Type} (P : Program) (D : TypeId → Bool) (Fp : Nat → Prop) (B l : Nat) (enc : α → List Value) (Nx : List α → α → Prop) (I : List α → (Nat → Prop) → World → Prop) : Prop where
  st : ∀ done K w w', I done K w → Fr D (fun b => Fp b ∨ (B ≤ b ∧ K b)) w w' → I done (fun b => K b ∨ (w.heap.size ≤ b ∧ b < w'.heap.size)) w'
  yield : ∀ done x K w, Nx done x → I done K w → YC P l (enc x) w (fun b w' => b = true ∧ I (done ++ [x]) K w' ∧ Fr D (fun b => ¬ K b) w w')
/-- A function that yields. -/
def Iterates {α : Type} (P : Program) (D : TypeId → Bool) (Fp : Nat → Prop) (g : FuncId) (fs cl : List Value) (enc : α → List Value) (Nx : List α → α → Prop) (Ok : List α → Prop) (K : Nat → Prop) (w : World) : Prop :=
  Ent P g ∧ ∀ l (I : List α → (Nat → Prop) → World → Prop), Cons P D Fp w.heap.size l enc Nx I → I [] K w → Ret P g (fs ++ [yv l] ++ cl).toArray w (fun _ w' => ∃ done K', Ok done ∧ I done K' w')
theorem Cons.pu {α : Type} {P : Program} {D : TypeId → Bool} {Fp : Nat → Prop} {B l : Nat} {enc : α → List Value} {Nx : List α → α → Prop} {I : List α → (Nat → Prop) → World → Prop} (h : Cons P D Fp B l enc Nx I) {done : List α} {K : Nat → Prop} {w w' : World}
    (hI : I done K w) (hp : Pu w w') : I done (fun b => K b ∨ (w.heap.size ≤ b ∧ b < w'.heap.size)) w' := h.st _ _ _ _ hI hp.fr

/-- no type's blocks are spoken of -/
abbrev noD : TypeId → Bool := fun _ => false
theorem Fr.no {D : TypeId → Bool} {F : Nat → Prop} {w w' : World} (h : Fr D F w w') : Fr noD F w w' := ⟨h.os, h.tape, h.output, h.size, h.keep, fun _ _ _ _ h => by cases h⟩
theorem St.no {b : Nat} {w w' : World} {F : Nat → Prop} (h : St b w w') (hF : F b) : Fr noD F w w' := ⟨h.os, h.tape, h.output, by rw [h.size]; exact Nat.le_refl _, fun c _ hn => h.other c (fun e => hn (e ▸ hF)), fun _ _ _ _ h => by cases h⟩
theorem Fr.weaken {D : TypeId → Bool} {F F' : Nat → Prop} {w w' : World} (h : Fr D F w w') (hF : ∀ b, b < w.heap.size → F b → F' b) : Fr D F' w w' := ⟨h.os, h.tape, h.output, h.size, fun b hb hn => h.keep b hb (fun hf => hn (hF b hb hf)), h.data⟩
theorem Fr.blk' {D : TypeId → Bool} {F : Nat → Prop} {w w' : World} (h : Fr D F w w') {b : Nat} {o : Obj} (hb : w.heap[b]? = some o) (hF : ¬ F b) : w'.heap[b]? = some o := h.blk hb hF
/-- what is turned lies behind: nothing old is -/
theorem Fr.puOf {D : TypeId → Bool} {F : Nat → Prop} {w0 w w' : World} (h0 : Pu w0 w) (h : Fr D F w w') (hF : ∀ b, F b → w0.heap.size ≤ b) : Pu w0 w' :=
  ⟨h.os.trans h0.os, h.tape.trans h0.tape, h.output.trans h0.output, Nat.le_trans h0.size h.size, fun b hb => (h.keep b (Nat.lt_of_lt_of_le hb h0.size) (fun hf => by have := hF b hf; omega)).trans (h0.block b hb)⟩
theorem setBlk_st {w : World} {b : Nat} {o : Obj} : St b w (setBlk w b o) := St.set w b o
theorem setBlk_get {w : World} {b c : Nat} {o o' : Obj} (h : w.heap[c]? = some o') (hne : c ≠ b) : (setBlk w b o).heap[c]? = some o' := by rw [setBlk_ne hne, h]
theorem Grow.fr {A : Option Addr} {w w' : World} (h : Grow A w w') {F : Nat → Prop} (hA : ∀ ad, A = some ad → F ad.block) : Fr noD F w w' :=
  ⟨h.os, h.tape, h.output, h.size, fun b hb hn => h.block b hb (fun ad e he => hn (he ▸ hA ad e)), fun _ _ _ _ h => by cases h⟩
theorem Fr.then {D : TypeId → Bool} {F : Nat → Prop} {w w' w'' : World} (h : Fr D F w w') (k : Fr D (fun b => F b ∨ w.heap.size ≤ b) w' w'') : Fr D F w w'' :=
  h.trans k (fun b hb hf => hf.elim id (fun h => by omega))

/-- a loop's object -/
abbrev lob (st : LoopState) (fn : FuncId) (tm : Array Value) (ps : Array Tmp) (assign body : Code) (df : Nat) : Obj := .loop { state := st, pending := none, fn := fn, tmps := tm, params := ps, assign := assign, body := body, defers := df }
/-- the body of a round behind its yield: by the rules for code -/
theorem yc_ready {P : Program} {n : Sz} {w : World} {l : Nat} {args : List Value} {fn : FuncId} {tm : Array Value} {ps : Array Tmp} {assign body : Code} {df : Nat} {σ' : SF} {Post : Bool → World → Prop}
    (hl : w.heap[l]? = some (lob .ready fn tm ps assign body df)) (hs : args.length = ps.size)
    (hI : Is { tmps := (ps.zip args.toArray).foldl (fun tmps (t, a) => tmps.setIfInBounds t a) tm, defers := [] } n σ')
    (h : GC (some l) P n assign (fun σ1 w1 => w1.heap[l]? = some (lob .ready fn tm ps assign body df) ∧
      ∀ w2, w2.heap[l]? = some (lob .busy fn tm ps assign body df) → St l w1 w2 → GC (some l) P n body (fun _ w3 => w3.heap[l]? = some (lob .busy fn tm ps assign body df) ∧
        ∀ w4, w4.heap[l]? = some (lob .ready fn tm ps assign body df) → St l w3 w4 → Post true w4) σ1 w2) σ' w) :
    YC P l args w Post := by
  refine yc_of hl hs hI ?_
  intro a ha
  refine Code.wpIn_mono ?_ (h a ha)
  rintro e a' w1 ⟨rfl, σ1, hs1, hl1, hb⟩
  refine ⟨rfl, σ1, hs1, _, hl1, rfl, ?_⟩
  intro a2 ha2
  refine Code.wpIn_mono ?_ (hb _ (setBlk_same (blk_lt hl1)) (St.set _ _ _) a2 ha2)
  rintro e a3 w3 ⟨rfl, σ3, hs3, hl3, hp⟩
  exact ⟨rfl, σ3, hs3, _, hl3, hp _ (setBlk_same (blk_lt hl3)) (St.set _ _ _)⟩
/-- one value comes: it lies in its slot -/
theorem Is.one {n : Sz} {tm : Array Value} {σ : SF} (h : Is { tmps := tm, defers := n.ds } n σ) {t : Nat} {v : Value} (ht : Nat.blt t n.n = true) :
    Is { tmps := ((#[t] : Array Tmp).zip [v].toArray).foldl (fun tmps (t, a) => tmps.setIfInBounds t a) tm, defers := n.ds } n (upd σ t v) := by
  have := h.put (d := t) ht v
  simpa [Act.put] using this
/-- the statement 'for .. := range g' with all its rounds -/
theorem g_iter {α : Type} {P : Program} {f : FuncId} {n : Sz} {R : Value → World → Prop} {k : List Item} {σ : SF} {w : World} {x : Operand} {ps : Array Tmp} {assign body : Code} {g : FuncId} {fs cl : List Value}
    {D : TypeId → Bool} {enc : α → List Value} {Nx : List α → α → Prop} {Ok : List α → Prop} {K Fp : Nat → Prop}
    (hx : ev σ x = .func (.func g) fs.toArray cl.toArray) (it : ∀ w1, Pu w w1 → Iterates P D Fp g fs cl enc Nx Ok K w1)
    (h : ∀ l df fn tm w1, df = w.heap.size → l = w.heap.size + 1 → Is { tmps := tm, defers := n.ds } n σ → w1.heap[l]? = some (lob .ready fn tm ps assign body df) → w1.heap[df]? = some (.deferred (some [])) → Pu w w1 → w1.heap.size = w.heap.size + 2 →
      ∃ I : List α → (Nat → Prop) → World → Prop, Cons P D Fp w1.heap.size l enc Nx I ∧ I [] K w1 ∧ ∀ done K' w2, Ok done → I done K' w2 → w2.heap[l]? = some (lob .ready fn tm ps assign body df) ∧
        ∀ w3, St l w2 w3 → G P f ⟨n.n, colMark df :: n.ds⟩ R k σ w3) :
    G P f n R (.code (.rangeFunc x ps assign body) :: k) σ w := by
  refine g_rangeFunc hx (it w Pu.refl).1 ?_
  rintro fn tm w1 hI rfl
  have hp : Pu w ((w.alloc (.deferred (some []))).alloc (lob .ready fn tm ps assign body w.heap.size)) := (Pu.alloc _).trans (Pu.alloc _)
  have hs1 : (w.alloc (.deferred (some []))).heap.size = w.heap.size + 1 := by show (w.heap.push _).size = _; simp
  obtain ⟨I, hc, h0, he⟩ := h (w.heap.size + 1) w.heap.size fn tm _ rfl rfl hI (by rw [← hs1]; exact alloc_new) (by exact alloc_old alloc_new) hp (by show ((w.heap.push _).push _).size = _; simp)
  refine ((it _ hp).2 _ I hc h0).mono ?_
  rintro _ w2 ⟨done, K', hok, hi⟩
  obtain ⟨hl, hg⟩ := he done K' w2 hok hi
  exact ⟨_, hl, rfl, rfl, hg _ (St.set _ _ _)⟩
theorem Row.keep {w w' : World} {T : TypeId} {sz n c base : Nat} {A : Option Addr} {xs : List Value} (h : Row w base T sz A n c xs) (hk : ∀ ad, A = some ad → ∀ o, w.heap[ad.block]? = some o → w'.heap[ad.block]? = some o) : Row w' base T sz A n c xs := by
  refine ⟨h.1, ?_⟩
  rcases h.2 with h2 | ⟨g, cap, cur, hv, hg, hb, r⟩
  · exact .inl h2
  · injection hv with hv1 hv2 hv3
    exact .inr ⟨g, cap, cur, by rw [hv1, hv3], hg, hk _ hv1 _ hb, r⟩
theorem Row.lt {w : World} {T : TypeId} {sz n c base : Nat} {A : Option Addr} {xs : List Value} (h : Row w base T sz A n c xs) : ∀ ad, A = some ad → ad.block < w.heap.size := by
  rintro ad rfl
  rcases h.form with ⟨h1, _⟩ | ⟨g, cur, h1, _, hb, _⟩
  · cases h1
  · injection h1 with h1; subst h1; exact blk_lt hb
theorem Row.st {w w' : World} {T : TypeId} {sz n c base b : Nat} {A : Option Addr} {xs : List Value} (h : Row w base T sz A n c xs) (s : St b w w') (hb : ∀ ad, A = some ad → ad.block ≠ b) : Row w' base T sz A n c xs :=
  h.keep fun ad e _ ho => s.blk ho (hb ad e)
theorem Fr.thenPu {D : TypeId → Bool} {F : Nat → Prop} {w w' w'' : World} (h : Fr D F w w') (s : Pu w' w'') : Fr D F w w'' := h.trans (s.fr (F := fun _ => False)) (fun _ _ h => h.elim)
theorem Fr.st {D : TypeId → Bool} {F : Nat → Prop} {w w' w'' : World} {b : Nat} {o : Obj} (h : Fr D F w w') (s : St b w' w'') (hb : w'.heap[b]? = some o) (hD : ∀ cs T fr, o = .cells cs T fr → D T = false) (hF : b < w.heap.size → F b) : Fr D F w w'' :=
  ⟨s.os.trans h.os, s.tape.trans h.tape, s.output.trans h.output, by rw [s.size]; exact h.size, fun c hc hn => (s.other c (fun e => hn (e ▸ hF (e ▸ hc)))).trans (h.keep c hc hn), h.data.trans (by
    intro c cs T fr hT hc
    by_cases he : c = b
    · subst he
      rw [hb] at hc
      injection hc with hc
      rw [hD _ _ _ hc] at hT; cases hT
    · exact (s.other c he).trans hc)⟩
theorem Fr.grow {D : TypeId → Bool} {F : Nat → Prop} {w w' w'' : World} {T : TypeId} {sz n c base : Nat} {A : Option Addr} {xs : List Value} (h : Fr D F w w') (g : Grow A w' w'') (hr : Row w' base T sz A n c xs) (hD : D T = false) (hF : ∀ ad, A = some ad → ad.block < w.heap.size → F ad.block) : Fr D F w w'' :=
  ⟨g.os.trans h.os, g.tape.trans h.tape, g.output.trans h.output, Nat.le_trans h.size g.size, fun c hc hn => (g.block c (Nat.lt_of_lt_of_le hc h.size) (fun ad e he => hn (he ▸ hF ad e (he ▸ hc)))).trans (h.keep c hc hn), h.data.trans (g.dk hr hD)⟩
theorem noCells {D : TypeId → Bool} {o : Obj} (h : (match o with | .cells _ T _ => D T | _ => false) = false) : ∀ cs T fr, o = .cells cs T fr → D T = false := by rintro cs T fr rfl; exact h
/-- what the rounds of an AppendSeq keep: rb is the row's variable -/
structure SeqI {α : Type} (cel : α → List Value) (ST ET : TypeId) (sz : Nat) (Fp : Nat → Prop) (w0 : World) (rb l df : Nat) (o : Obj) (Nd : List α → Prop) (done : List α) (K : Nat → Prop) (w : World) : Prop where
  fr : Fr noD Fp w0 w
  own : ∀ b, K b → b < w.heap.size
  kp : ∀ b, Fp b → K b
  lo : w.heap[l]? = some o ∧ ¬ K l
  de : w.heap[df]? = some (.deferred (some [])) ∧ ¬ K df
  row : ∃ A c, w.heap[rb]? = some (.cells #[.slice A done.length c] ST (0, 0)) ∧ Row w (l + 1) ET sz A done.length c (done.flatMap cel) ∧ ∀ ad, A = some ad → ¬ K ad.block
  krb : ¬ K rb
  nd : Nd done
theorem kOld {K : Nat → Prop} {w w' : World} {b : Nat} {o : Obj} (hb : w.heap[b]? = some o) (hn : ¬ K b) : ¬ (K b ∨ (w.heap.size ≤ b ∧ b < w'.heap.size)) := fun h => h.elim hn (fun h => by have := blk_lt hb; omega)
theorem kRow {K : Nat → Prop} {w w' : World} {T : TypeId} {sz n c base : Nat} {A : Option Addr} {xs : List Value} (h : Row w base T sz A n c xs) (hn : ∀ ad, A = some ad → ¬ K ad.block) : ∀ ad, A = some ad → ¬ (K ad.block ∨ (w.heap.size ≤ ad.block ∧ ad.block < w'.heap.size)) :=
  fun ad e h' => h'.elim (hn ad e) (fun h2 => by have := h.lt ad e; omega)
theorem SeqI.st {α : Type} {cel : α → List Value} {ST ET : TypeId} {sz : Nat} {Fp : Nat → Prop} {w0 : World} {B rb l df : Nat} {o : Obj} {Nd : List α → Prop} {done : List α} {K : Nat → Prop} {w w' : World} (h : SeqI cel ST ET sz Fp w0 rb l df o Nd done K w) (hB : w0.heap.size ≤ B)
    (f0 : Fr noD (fun b => Fp b ∨ (B ≤ b ∧ K b)) w w') : SeqI cel ST ET sz Fp w0 rb l df o Nd done (fun b => K b ∨ (w.heap.size ≤ b ∧ b < w'.heap.size)) w' := by
  have f : Fr noD K w w' := f0.weaken fun b _ hb => hb.elim (h.kp b) (·.2)
  obtain ⟨A, c, hA, hrow, hk⟩ := h.row
  refine ⟨h.fr.trans f0 (fun b hb hf => hf.elim id (fun h => by omega)), ?_, fun b hb => .inl (h.kp b hb), ⟨f.blk h.lo.1 h.lo.2, kOld h.lo.1 h.lo.2⟩, ⟨f.blk h.de.1 h.de.2, kOld h.de.1 h.de.2⟩, ⟨A, c, f.blk hA h.krb, ?_, kRow hrow hk⟩, kOld hA h.krb, h.nd⟩
  · rintro b (hb | hb)
    · exact Nat.lt_of_lt_of_le (h.own b hb) f.size
    · exact hb.2
  · exact hrow.keep fun ad e o hb => f.blk hb (hk ad e)
theorem Row.base_le {w : World} {T : TypeId} {sz n c base base' : Nat} {A : Option Addr} {xs : List Value} (h : Row w base T sz A n c xs) (hb : base' ≤ base) : Row w base' T sz A n c xs := by
  refine ⟨h.1, ?_⟩
  rcases h.2 with h2 | ⟨g, cap, cur, hv, hg, r⟩
  · exact .inl h2
  · exact .inr ⟨g, cap, cur, hv, Nat.le_trans hb hg, r⟩
theorem Sl.keep {w w' : World} {T : TypeId} {sz n : Nat} {A : Option Addr} {xs : List Value} (h : Sl w T sz A n xs) (hk : ∀ ad, A = some ad → ∀ o, w.heap[ad.block]? = some o → w'.heap[ad.block]? = some o) : Sl w' T sz A n xs :=
  ⟨h.1, fun hn => by
    obtain ⟨b, o, cs, fr, e, hb, hc⟩ := h.2 hn
    exact ⟨b, o, cs, fr, e, hk _ e _ hb, hc⟩⟩
theorem Sl.lt {w : World} {T : TypeId} {sz n : Nat} {A : Option Addr} {xs : List Value} (h : Sl w T sz A n xs) (hn : 0 < n) : ∀ ad, A = some ad → ad.block < w.heap.size := by
  rintro ad rfl
  obtain ⟨b, o, cs, fr, e, hb, hc⟩ := h.2 hn
  injection e with e
  subst e
  exact blk_lt hb
end Go.GW
namespace Go.GW
open Go.RowKit

/-! ## values that are functions, and slices of things -/
/-- What a call of this function value comes to. -/
def FnV (P : Program) (f : Value) (args : List Value) (w : World) (Post : Value → World → Prop) : Prop :=
  ∃ (g : FuncId) (fs cl : List Value), f = .func (.func g) fs.toArray cl.toArray ∧ Fn P g (fs ++ args ++ cl).toArray w Post
theorem FnV.of {P : Program} {g : FuncId} {fs cl args : List Value} {w : World} {Post : Value → World → Prop} (h : Fn P g (fs ++ args ++ cl).toArray w Post) : FnV P (.func (.func g) fs.toArray cl.toArray) args w Post := ⟨g, fs, cl, rfl, h⟩
theorem FnV.mono {P : Program} {f : Value} {args : List Value} {w : World} {Post Post' : Value → World → Prop} (h : FnV P f args w Post) (hp : ∀ v w', Post v w' → Post' v w') : FnV P f args w Post' := by
  obtain ⟨g, fs, cl, e, h⟩ := h
  exact ⟨g, fs, cl, e, h.mono hp⟩
section
variable {P : Program} {n : Sz} {K : SF → World → Prop} {σ : SF} {w : World} {ops : Array Oper} {l : List Oper} {ty : TypeId} {pos : String} {af : Array Edge}
theorem gl_callV {d : Nat} {x : Operand} {fv : Value} {asx : List Operand} {ats : Array TypeId} {vs : List Value} {Post : Value → World → Prop} (hx : ev σ x = fv) (hc : FnV P fv vs w Post)
    (hv : asx.map (ev σ) = vs) (hd : Nat.blt d n.n = true)
    (h : ∀ v w', Post v w' → GL P n ops l K (upd σ d v) w') : GL P n ops (⟨some d, .call { callee := .value x, args := asx.toArray, argTypes := ats }, ty, pos, af, none⟩ :: l) K σ w := by
  obtain ⟨g, fs, cl, rfl, hc⟩ := hc
  exact gl_callv hx hc (by rw [hv]) hd h
theorem gl_guardCallV {d j t : Nat} {b : Bool} {x : Operand} {fv : Value} {asx : List Operand} {ats : Array TypeId} {vs : List Value} {Post : Value → World → Prop} (ho : (ops[j]?).bind (·.dst) = some t) (hb : σ t = .bool b) (ht : Nat.blt t n.n = true)
    (hx : ev σ x = fv) (hc : FnV P fv vs w Post) (hv : asx.map (ev σ) = vs) (hd : Nat.blt d n.n = true)
    (h : ∀ v w', Post v w' → GL P n ops l K (upd σ d v) w') : GL P n ops (⟨some d, .call { callee := .value x, args := asx.toArray, argTypes := ats }, ty, pos, af, some (j, b)⟩ :: l) K σ w := by
  intro a ha
  obtain ⟨g, fs, cl, rfl, hc⟩ := hc
  have hy := yield_eq (ops := ops) ha ho ht hb
  refine wpList_step fun K hK => ?_
  rw [if_pos (by simp [Region.wanted, hy])]
  exact wp_call (run_callv ha hc.1 hx (by rw [hv])) hc.2 fun v w' hp => hK _ _ (h v w' hp _ (ha.put hd v))
theorem gl_guardU {d j t : Nat} {b : Bool} {op : Op} (ho : (ops[j]?).bind (·.dst) = some t) (hb : σ t = undef) (ht : Nat.blt t n.n = true) (hd : Nat.blt d n.n = true) (h : GL P n ops l K (upd σ d undef) w) :
    GL P n ops (⟨some d, op, ty, pos, af, some (j, b)⟩ :: l) K σ w := by
  intro a ha
  have hlt : t < a.tmps.size := by rw [ha.size]; simpa [Nat.blt_eq] using ht
  have h1 := ha.get t
  rw [hb] at h1
  have h2 : a.tmps[t]? = some undef := by
    rw [Array.getElem?_eq_getElem hlt]
    simpa [hlt] using h1
  have hy : yielded ops a.tmps j = none := by simp [yielded, ho, h2, undef]
  unfold wpList
  rw [if_neg (by simp [Region.wanted, hy])]
  exact h _ (ha.put hd undef)
end

section
variable {α : Type} {enc : α → List Value} {sz : Nat}
theorem flat_len (henc : ∀ x, (enc x).length = sz) (l : List α) : (l.flatMap enc).length = l.length * sz := by
  induction l with
  | nil => simp
  | cons x l ih => rw [List.flatMap_cons, List.length_append, ih, henc, List.length_cons, Nat.succ_mul]; omega
theorem flat_drop (henc : ∀ x, (enc x).length = sz) (l : List α) (i : Nat) : (l.flatMap enc).drop (i * sz) = (l.drop i).flatMap enc := by
  induction l generalizing i with
  | nil => simp
  | cons x l ih =>
    cases i with
    | zero => simp
    | succ i =>
      rw [List.flatMap_cons, List.drop_succ_cons, ← ih, Nat.succ_mul, Nat.add_comm, ← List.drop_drop, List.drop_left' (henc x)]
theorem flat_take (henc : ∀ x, (enc x).length = sz) (l : List α) (i : Nat) : (l.flatMap enc).take (i * sz) = (l.take i).flatMap enc := by
  induction l generalizing i with
  | nil => simp
  | cons x l ih =>
    cases i with
    | zero => simp
    | succ i =>
      rw [List.flatMap_cons, List.take_succ_cons, List.flatMap_cons, ← ih, Nat.succ_mul, Nat.add_comm, List.take_append, List.take_of_length_le (by rw [henc]; omega)]
      rw [henc, Nat.add_sub_cancel_left]
theorem flat_at (henc : ∀ x, (enc x).length = sz) {l : List α} {i : Nat} {x : α} (h : l[i]? = some x) : ((l.flatMap enc).drop (i * sz)).take sz = enc x := by
  rw [flat_drop henc]
  obtain ⟨hi, rfl⟩ := List.getElem?_eq_some_iff.1 h
  rw [List.drop_eq_getElem_cons hi, List.flatMap_cons, List.take_left' (henc _)]
/-- a thing of a slice of things -/
theorem Sl.elem {w : World} {T : TypeId} {A : Option Addr} {l : List α} {i : Nat} {x : α} (h : Sl w T sz A l.length (l.flatMap enc)) (henc : ∀ x, (enc x).length = sz) (hx : l[i]? = some x) :
    ∃ b o cs fr, A = some ⟨b, o, none⟩ ∧ w.heap[b]? = some (.cells cs T fr) ∧ cellsAt cs (o + i * sz) sz = some (enc x) := by
  obtain ⟨hi, _⟩ := List.getElem?_eq_some_iff.1 hx
  obtain ⟨b, o, cs, fr, e, hb, hc⟩ := h.at_ hi
  exact ⟨b, o, cs, fr, e, hb, by rw [hc sz (Nat.le_refl _), flat_at henc hx]⟩
theorem cellsAt_one {cs : Array Value} {o : Nat} {v : Value} : cellsAt cs o 1 = some [v] ↔ cs[o]? = some v := by
  simp only [cellsAt]
  cases cs[o]? <;> simp
theorem cellsAt_get {cs : Array Value} : ∀ {m o : Nat} {ls : List Value}, cellsAt cs o m = some ls → ∀ {j : Nat} {v : Value}, ls[j]? = some v → cs[o + j]? = some v
  | 0, o, ls, h, j, v, hj => by simp [cellsAt] at h; subst h; simp at hj
  | m + 1, o, ls, h, j, v, hj => by
    simp only [cellsAt] at h
    split at h
    · rename_i u us hu hus
      injection h with h
      subst h
      cases j with
      | zero => simpa [hu] using hj
      | succ j =>
        rw [show o + (j + 1) = o + 1 + j from by omega]
        exact cellsAt_get hus (by simpa using hj)
    · cases h
theorem Sl.first {w : World} {T : TypeId} {A : Option Addr} {l : List α} {i : Nat} (h : Sl w T sz A l.length (l.flatMap enc)) (henc : ∀ x, (enc x).length = sz) (hi : i ≤ l.length) : Sl w T sz A i ((l.take i).flatMap enc) := by
  have := h.cut (i := 0) (j := i) (Nat.zero_le _) hi (A' := A) (fun _ => by cases A <;> simp [Addr.add])
  simpa [flat_take henc] using this
/-- the things behind the first ones -/
theorem Sl.rest {w : World} {T : TypeId} {A : Option Addr} {l : List α} {i m : Nat} (h : Sl w T sz A l.length (l.flatMap enc)) (henc : ∀ x, (enc x).length = sz) (hi : i ≤ l.length) (hm : i < l.length → i < m) : Sl w T sz (cutA A m i sz) (l.length - i) ((l.drop i).flatMap enc) := by
  have := h.cut (i := i) (j := l.length) hi (Nat.le_refl _) (A' := cutA A m i sz) (fun hlt => cutA_lt (hm hlt))
  rw [flat_drop henc] at this
  rw [List.take_of_length_le (by rw [flat_len henc, List.length_drop]; exact Nat.le_refl _)] at this
  exact this
end

/-! ### the place of the first one that is so -/
def idxOf {α : Type} (p : α → Bool) (l : List α) : Int := match l.findIdx? p with
  | some i => (i : Int)
  | none => -1
theorem idxOf_nil {α : Type} (p : α → Bool) : idxOf p [] = -1 := rfl
theorem idxOf_neg {α : Type} {p : α → Bool} {l : List α} : idxOf p l < 0 ↔ ∀ x ∈ l, p x = false := by
  unfold idxOf
  cases h : l.findIdx? p with
  | none => simp only [List.findIdx?_eq_none_iff] at h; constructor <;> intro _; · exact h
            · show (-1 : Int) < 0; decide
  | some i =>
    dsimp only
    constructor
    · intro h2; omega
    · intro h2
      have := List.findIdx?_eq_none_iff.2 h2
      rw [this] at h; cases h
theorem idxOf_at {α : Type} {p : α → Bool} {l : List α} {i : Nat} {x : α} (hx : l[i]? = some x) (hp : p x = true) (hb : ∀ (j : Nat) y, j < i → l[j]? = some y → p y = false) : idxOf p l = (i : Int) := by
  obtain ⟨hi, rfl⟩ := List.getElem?_eq_some_iff.1 hx
  have : l.findIdx? p = some i := List.findIdx?_eq_some_iff_getElem.2 ⟨hi, hp, fun j hj => by
    have := hb j l[j] hj (List.getElem?_eq_getElem (by omega))
    simp [this]⟩
  simp [idxOf, this]
theorem idxOf_no {α : Type} {p : α → Bool} {l : List α} (hb : ∀ (j : Nat) y, l[j]? = some y → p y = false) : idxOf p l = -1 := by
  have : l.findIdx? p = none := List.findIdx?_eq_none_iff.2 fun x hx => by
    obtain ⟨i, hi⟩ := List.getElem?_of_mem hx
    exact hb i x hi
  simp [idxOf, this]
theorem idxOf_some {α : Type} {p : α → Bool} {l : List α} {i : Nat} (h : idxOf p l = (i : Int)) : ∃ x, l[i]? = some x ∧ p x = true ∧ ∀ (j : Nat) y, j < i → l[j]? = some y → p y = false := by
  unfold idxOf at h
  cases hf : l.findIdx? p with
  | none => rw [hf] at h; exact absurd h (by show ¬ ((-1 : Int) = (i : Int)); omega)
  | some j =>
    rw [hf] at h
    have : j = i := by have h : (j : Int) = (i : Int) := h; omega
    subst this
    obtain ⟨hi, hp, hb⟩ := List.findIdx?_eq_some_iff_getElem.1 hf
    refine ⟨l[j], List.getElem?_eq_getElem hi, hp, fun k y hk hy => ?_⟩
    obtain ⟨hk', rfl⟩ := List.getElem?_eq_some_iff.1 hy
    have := hb k hk
    simpa using this
theorem r_mvV {P : Program} {n : Sz} {σ : SF} {w : World} {d : Option Tmp} {ty : TypeId} {pos : String} {af : Array Edge} {gd : Option (Nat × Bool)} {x : Operand} {v : Value} (hx : ev σ x = v) : Run P ⟨d, .move x, ty, pos, af, gd⟩ n σ w v w := hx ▸ r_move
theorem r_asV {P : Program} {n : Sz} {σ : SF} {w : World} {d : Option Tmp} {ty : TypeId} {pos : String} {af : Array Edge} {gd : Option (Nat × Bool)} {x : Operand} {v : Value} (hx : ev σ x = v) : Run P ⟨d, .assign x, ty, pos, af, gd⟩ n σ w v w := hx ▸ r_assign
theorem noStep {α : Type} {p : α → Bool} {l : List α} {i : Nat} {x : α} (h : ∀ (j : Nat) y, j < i → l[j]? = some y → p y = false) (hx : l[i]? = some x) (hp : p x = false) : ∀ (j : Nat) y, j < i + 1 → l[j]? = some y → p y = false := fun j y hj hy => by
  by_cases e : j = i
  · subst e; rw [hx] at hy; injection hy with hy; exact hy ▸ hp
  · exact h j y (by omega) hy
end Go.GW
