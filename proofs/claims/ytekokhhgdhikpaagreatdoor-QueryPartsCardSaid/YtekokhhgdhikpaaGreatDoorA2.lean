/- Of two times, one behind the other, what is told are both parts; more matchers tell no more entries (QueryParts), for every input, over the program's text with its listed variables tied. Part 2 of 12. -/
import Derived.Maps.RangeRun
import Derived.Test.YtekokhhgdhikpaaGreatDoorProg
import Derived.KernelRfl
import Derived.Laws.Externs
import Derived.Lib.Builder
import Derived.Lib.AppendStr
import Derived.Test.YtekokhhgdhikpaaGreatDoorA1
set_option linter.unusedSimpArgs false
set_option linter.unusedVariables false
set_option linter.unusedSectionVars false
namespace Go.GW
/-! ## sorting: plain -/
def Upto {α : Type} (lt : α → α → Bool) (L : List α) (i : Nat) : Prop := ∀ (a b : Nat) x y, a < b → b < i → L[a]? = some x → L[b]? = some y → lt y x = false
def UptoBut {α : Type} (lt : α → α → Bool) (L : List α) (i j : Nat) : Prop := ∀ (a b : Nat) x y, a < b → b < i → b ≠ j → L[a]? = some x → L[b]? = some y → lt y x = false
/-- an order in which all are told apart, or are alike -/
structure Ord {α : Type} (lt : α → α → Bool) : Prop where
  asym : ∀ x y, lt x y = true → lt y x = false
  trans : ∀ x y z, lt y x = false → lt z y = false → lt z x = false
section
variable {α : Type} {lt : α → α → Bool}
theorem UptoBut.start {L : List α} {i : Nat} (h : Upto lt L i) : UptoBut lt L (i + 1) i := fun a b x y hab hb hne hx hy => h a b x y hab (by omega) hx hy
theorem UptoBut.done0 {L : List α} {i : Nat} (h : UptoBut lt L i 0) : Upto lt L i := fun a b x y hab hb hx hy => h a b x y hab hb (by omega) hx hy
theorem UptoBut.done {L : List α} {i j : Nat} (hO : Ord lt) (h : UptoBut lt L i (j + 1)) {u v : α} (hu : L[j]? = some u) (hv : L[j + 1]? = some v) (hn : lt v u = false) : Upto lt L i := fun a b x y hab hb hx hy => by
  by_cases hne : b = j + 1
  · subst hne
    rw [hv] at hy; injection hy with hy; subst hy
    by_cases haj : a = j
    · subst haj; rw [hu] at hx; injection hx with hx; subst hx; exact hn
    · exact hO.trans x u v (h a j x u (by omega) (by omega) (by omega) hx hu) hn
  · exact h a b x y hab hb hne hx hy
theorem getElem?_swap {L : List α} {j : Nat} {u v : α} (hu : L[j]? = some u) (hv : L[j + 1]? = some v) (k : Nat) : ((L.set (j + 1) u).set j v)[k]? = if k = j then some v else if k = j + 1 then some u else L[k]? := by
  have hj : j + 1 < L.length := (List.getElem?_eq_some_iff.1 hv).1
  by_cases h1 : k = j
  · subst h1; rw [if_pos rfl, List.getElem?_set_self (by simp; omega)]
  · rw [if_neg h1, List.getElem?_set_ne (fun h => h1 h.symm)]
    by_cases h2 : k = j + 1
    · subst h2; rw [if_pos rfl, List.getElem?_set_self hj]
    · rw [if_neg h2, List.getElem?_set_ne (fun h => h2 h.symm)]
theorem UptoBut.swap {L : List α} {i j : Nat} (hO : Ord lt) (h : UptoBut lt L i (j + 1)) (hji : j + 1 < i) {u v : α} (hu : L[j]? = some u) (hv : L[j + 1]? = some v) (hn : lt v u = true) : UptoBut lt ((L.set (j + 1) u).set j v) i j := by
  intro a b x y hab hb hne hx hy
  rw [getElem?_swap hu hv] at hx hy
  by_cases hb1 : b = j + 1
  · subst hb1
    rw [if_neg (by omega), if_pos rfl] at hy
    injection hy with hy; subst hy
    by_cases ha : a = j
    · subst ha; rw [if_pos rfl] at hx; injection hx with hx; subst hx; exact hO.asym _ _ hn
    · rw [if_neg ha, if_neg (by omega)] at hx
      exact h a j x u (by omega) (by omega) (by omega) hx hu
  · rw [if_neg hne, if_neg hb1] at hy
    by_cases ha : a = j
    · subst ha; rw [if_pos rfl] at hx; injection hx with hx; subst hx
      exact h (a + 1) b v y (by omega) hb hb1 hv hy
    · rw [if_neg ha] at hx
      by_cases ha1 : a = j + 1
      · subst ha1; rw [if_pos rfl] at hx; injection hx with hx; subst hx
        exact h j b u y (by omega) hb hb1 hu hy
      · rw [if_neg ha1] at hx
        exact h a b x y hab hb hb1 hx hy
theorem swap_perm {L : List α} {j : Nat} {u v : α} (hu : L[j]? = some u) (hv : L[j + 1]? = some v) : ((L.set (j + 1) u).set j v).Perm L := by
  obtain ⟨h1, rfl⟩ := List.getElem?_eq_some_iff.1 hu
  obtain ⟨h2, rfl⟩ := List.getElem?_eq_some_iff.1 hv
  exact List.set_set_perm h2 h1
theorem Upto.pairwise {L : List α} (h : Upto lt L L.length) : L.Pairwise (fun x y => lt y x = false) := by
  rw [List.pairwise_iff_getElem]
  intro a b ha hb hab
  exact h a b _ _ hab hb (List.getElem?_eq_getElem ha) (List.getElem?_eq_getElem hb)
/-- two sortings of things that are all told apart are the same -/
theorem sorted_unique : ∀ {a b : List α}, a.Perm b → a.Pairwise (fun x y => lt y x = false) → b.Pairwise (fun x y => lt y x = false) → (∀ x ∈ a, ∀ y ∈ a, lt x y = false → lt y x = false → x = y) → a = b := by
  intro a b hp ha hb hinj
  refine List.Perm.eq_of_pairwise (le := fun x y => lt y x = false) ?_ ha hb hp
  intro x y hx hy h1 h2
  exact hinj x hx y (hp.mem_iff.2 hy) h2 h1
end
end Go.GW
namespace Go.GW
open Go.RowKit
section
variable {α : Type} {enc : α → List Value} {sz : Nat}
theorem flat_get (henc : ∀ x, (enc x).length = sz) {l : List α} {i k : Nat} (hk : k < sz) : (l.flatMap enc)[i * sz + k]? = (l[i]?).bind (fun x => (enc x)[k]?) := by
  have h1 : (l.flatMap enc)[i * sz + k]? = ((l.flatMap enc).drop (i * sz))[k]? := by rw [List.getElem?_drop]
  rw [h1, flat_drop henc]
  cases hx : l[i]? with
  | none =>
    have : l.drop i = [] := List.drop_eq_nil_of_le (List.getElem?_eq_none_iff.1 hx)
    rw [this]; simp
  | some x =>
    obtain ⟨hi, rfl⟩ := List.getElem?_eq_some_iff.1 hx
    rw [List.drop_eq_getElem_cons hi, List.flatMap_cons, List.getElem?_append_left (by rw [henc]; exact hk)]
    rfl
theorem flat_set (henc : ∀ x, (enc x).length = sz) (hsz : 0 < sz) {l : List α} {i : Nat} {x : α} (hi : i < l.length) {cur : Array Value} {c : Nat} (hc : cur.size = c * sz) (hlc : l.length ≤ c) (hcur : cur.toList.take (l.length * sz) = l.flatMap enc) :
    (putCells cur (i * sz) (enc x)).toList.take (l.length * sz) = (l.set i x).flatMap enc := by
  have hle : i * sz + sz ≤ l.length * sz := by rw [← Nat.succ_mul]; exact Nat.mul_le_mul_right _ hi
  have hle2 : l.length * sz ≤ c * sz := Nat.mul_le_mul_right _ hlc
  apply List.ext_getElem?
  intro j
  by_cases hj : j < l.length * sz
  · rw [List.getElem?_take_of_lt hj, Array.getElem?_toList, putCells_get _ _ _ _ (by rw [henc]; omega)]
    have hdm : j / sz * sz + j % sz = j := by rw [Nat.mul_comm]; exact Nat.div_add_mod j sz
    have hm : j % sz < sz := Nat.mod_lt _ hsz
    have e2 := flat_get henc (l := l.set i x) (i := j / sz) hm
    have e3 := flat_get henc (l := l) (i := j / sz) hm
    rw [hdm] at e2 e3
    rw [e2]
    have e4 : cur[j]? = (l.flatMap enc)[j]? := by rw [← hcur, List.getElem?_take_of_lt hj, Array.getElem?_toList]
    by_cases h : j / sz = i
    · have h1 : i * sz ≤ j ∧ j < i * sz + (enc x).length := by rw [henc]; subst h; omega
      rw [if_pos h1, h, List.getElem?_set_self hi]
      show _ = (enc x)[j % sz]?
      congr 1
      subst h; omega
    · have h1 : ¬ (i * sz ≤ j ∧ j < i * sz + (enc x).length) := by
        rw [henc]
        rintro ⟨h2, h3⟩
        apply h
        have : j / sz < i + 1 := by rw [Nat.div_lt_iff_lt_mul hsz, Nat.succ_mul]; exact h3
        have : i ≤ j / sz := by rw [Nat.le_div_iff_mul_le hsz]; exact h2
        omega
      rw [if_neg h1, e4, e3, List.getElem?_set_ne (fun h' => h h'.symm)]
  · rw [List.getElem?_take_eq_none (by omega), List.getElem?_eq_none]
    rw [flat_len henc, List.length_set]; omega
/-- one thing of a row is put anew -/
theorem Row.set (henc : ∀ x, (enc x).length = sz) (hsz : 0 < sz) {w : World} {T : TypeId} {base c i : Nat} {A : Option Addr} {l : List α} (h : Row w base T sz A l.length c (l.flatMap enc)) (hi : i < l.length) :
    ∃ g cur, A = some ⟨g, 0, none⟩ ∧ base ≤ g ∧ w.heap[g]? = some (.cells cur T (0, 0)) ∧ Nat.ble (0 + i * sz + sz) cur.size = true ∧ cellsAt cur (0 + i * sz) sz = ((l[i]?).map enc) ∧
      ∀ w' x, w'.heap[g]? = some (.cells (putCells cur (0 + i * sz) (enc x)) T (0, 0)) → Row w' base T sz A l.length c ((l.set i x).flatMap enc) := by
  rcases h.form with ⟨_, h0, _⟩ | ⟨g, cur, hA, hg, hb, hn, hc, hs, ht⟩
  · omega
  · have hle : i * sz + sz ≤ l.length * sz := by rw [← Nat.succ_mul]; exact Nat.mul_le_mul_right _ hi
    have hle2 : l.length * sz ≤ c * sz := Nat.mul_le_mul_right _ hn
    refine ⟨g, cur, hA, hg, hb, by rw [Nat.ble_eq]; omega, ?_, fun w' x hw => ⟨by rw [flat_len henc, List.length_set], .inr ⟨g, c, _, by rw [hA], hg, hw, hn, hc, by rw [putCells_size, hs], ?_⟩⟩⟩
    · obtain ⟨x, hx⟩ : ∃ x, l[i]? = some x := ⟨_, List.getElem?_eq_getElem hi⟩
      obtain ⟨b, o, cs, fr, e, hb2, hcs⟩ := (Row.sl h).elem henc hx
      rw [hA] at e; injection e with e; injection e with e1 e2 _
      subst e1; subst e2
      rw [hb] at hb2; injection hb2 with hb2; injection hb2 with hb2 _ _
      subst hb2
      rw [hx, hcs]; rfl
    · rw [Nat.zero_add]; exact flat_set henc hsz hi hs hn ht
end

section
variable {P : Program} {n : Sz} {K : SF → World → Prop} {σ : SF} {w : World} {ops : Array Oper}
theorem upd_comm {σ : SF} {d e : Nat} {u v : Value} (h : d ≠ e) : upd (upd σ d u) e v = upd (upd σ e v) d u := by
  funext i
  by_cases h1 : i = d
  · subst h1; rw [upd_ne _ _ h, upd_eq, upd_eq]
  · by_cases h2 : i = e
    · subst h2; rw [upd_eq, upd_ne _ _ h1, upd_eq]
    · rw [upd_ne _ _ h2, upd_ne _ _ h1, upd_ne _ _ h1, upd_ne _ _ h2]
/-- two that look, and may come up now, in any order -/
theorem ga_pair {S : World → Prop} {fuel : Nat} {listed l1 l2 l3 : Array Bool} (i j : Nat) {d e : Nat} {op op' : Op} {t t' : TypeId} {pos pos' : String} {af af' : Array Edge} {u v : Value}
    (hi : ops[i]? = some ⟨some d, op, t, pos, af, none⟩) (hj : ops[j]? = some ⟨some e, op', t', pos', af', none⟩)
    (hr : Region.ready .any ops listed = [i, j]) (hl1 : listed.setIfInBounds i true = l1) (hl2 : listed.setIfInBounds j true = l2) (hr1 : Region.ready .any ops l1 = [j]) (hr2 : Region.ready .any ops l2 = [i])
    (h13 : l1.setIfInBounds j true = l3) (h23 : l2.setIfInBounds i true = l3) (hde : Nat.beq d e = false) (hS : S w)
    (ri : Run P ⟨some d, op, t, pos, af, none⟩ n σ w u w) (rj : Run P ⟨some e, op', t', pos', af', none⟩ n σ w v w)
    (ri' : Run P ⟨some d, op, t, pos, af, none⟩ n (upd σ e v) w u w) (rj' : Run P ⟨some e, op', t', pos', af', none⟩ n (upd σ d u) w v w)
    (hd : Nat.blt d n.n = true) (he : Nat.blt e n.n = true)
    (h : GA P n ops S fuel l3 K (upd (upd σ d u) e v) w) : GA P n ops S (fuel + 2) listed K σ w := by
  have hne : d ≠ e := fun h => by subst h; simp at hde
  have one : ∀ (i : Nat) (d : Nat) (op : Op) (t : TypeId) (pos : String) (af : Array Edge) (u : Value) (σ : SF) (lst l' : Array Bool) (fuel : Nat), ops[i]? = some ⟨some d, op, t, pos, af, none⟩ → lst.setIfInBounds i true = l' → Run P ⟨some d, op, t, pos, af, none⟩ n σ w u w → Nat.blt d n.n = true → GA P n ops S fuel l' K (upd σ d u) w →
      ∀ a, Is a n σ → wpOp P ops (QN n K) i (fun a' w' => S w' ∧ wpAnyH P .any ops (QN n K) S fuel (lst.setIfInBounds i true) a' w') a w := by
    rintro i d op t pos af u σ lst l' fuel hi rfl hr hd h a ha
    unfold wpOp
    simp only [hi]
    rw [if_pos (by simp [Region.wanted])]
    left
    unfold Oper.wp
    rw [hr a ha]
    exact ⟨hS, h _ (ha.put hd u)⟩
  intro a ha
  refine wpAnyH_all hr (by simp) fun k hk => ?_
  have hk : k = i ∨ k = j := by simpa using hk
  rcases hk with rfl | rfl
  · refine one _ _ _ _ _ _ _ σ _ _ _ hi hl1 ri hd (fun a' ha' => wpAnyH_all hr1 (by simp) fun k2 hk2 => ?_) a ha
    obtain rfl : k2 = j := by simpa using hk2
    exact one _ _ _ _ _ _ _ _ _ _ _ hj h13 rj' he h a' ha'
  · refine one _ _ _ _ _ _ _ σ _ _ _ hj hl2 rj he (fun a' ha' => wpAnyH_all hr2 (by simp) fun k2 hk2 => ?_) a ha
    obtain rfl : k2 = i := by simpa using hk2
    exact one _ _ _ _ _ _ _ _ _ _ _ hi h23 ri' hd (upd_comm hne ▸ h) a' ha'
theorem ga_takeU {S : World → Prop} {fuel : Nat} {listed listed' : Array Bool} (i : Nat) {d j t : Nat} {op : Op} {b : Bool} {ty : TypeId} {pos : String} {af : Array Edge} (hi : ops[i]? = some ⟨some d, op, ty, pos, af, some (j, b)⟩)
    (hb : (Region.noSelect ops && Region.free .any ops listed i && (Region.ready .any ops listed).contains i) = true) (hl : listed.setIfInBounds i true = listed')
    (hS : S w) (ho : (ops[j]?).bind (·.dst) = some t) (hy : σ t = undef) (ht : Nat.blt t n.n = true) (hd : Nat.blt d n.n = true)
    (h : GA P n ops S fuel listed' K (upd σ d undef) w) : GA P n ops S (fuel + 1) listed K σ w := by
  intro a ha
  simp only [Bool.and_eq_true] at hb
  subst hl
  have hlt : t < a.tmps.size := by rw [ha.size]; simpa [Nat.blt_eq] using ht
  have h1 := ha.get t
  rw [hy] at h1
  have h2 : a.tmps[t]? = some undef := by
    rw [Array.getElem?_eq_getElem hlt]
    simpa [hlt] using h1
  have hy : yielded ops a.tmps j = none := by simp [yielded, ho, h2, undef]
  refine wpAnyH_take hi hb.1.1 hb.1.2 hb.2 qn_panic (.inr ⟨by simp [Region.wanted, hy], rfl⟩) hS ?_
  exact h _ (ha.put hd undef)
/-- an operation that stores, come up alone -/
theorem r_loadRow {α : Type} {enc : α → List Value} {sz : Nat} (henc : ∀ x, (enc x).length = sz) {d : Option Tmp} {ty : TypeId} {pos : String} {af : Array Edge} {gd : Option (Nat × Bool)} {t T : TypeId} {x : Operand} {g c base i : Nat} {l : List α} {z : α} (hk : ldOf P t = some (some sz)) (hx : ev σ x = .pointer (some ⟨g, 0 + i * sz, none⟩))
    (h : Row w base T sz (some ⟨g, 0, none⟩) l.length c (l.flatMap enc)) (hz : l[i]? = some z) : Run P ⟨d, .load t x, ty, pos, af, gd⟩ n σ w (.agg (enc z).toArray) w := by
  obtain ⟨b, o, cs, fr, e, hb, hcs⟩ := (Row.sl h).elem henc hz
  injection e with e; injection e with e1 e2 _
  subst e1; subst e2
  exact r_loadA hk hx hb hcs
theorem r_loadRow1 {α : Type} {val : α → Value} {d : Option Tmp} {ty : TypeId} {pos : String} {af : Array Edge} {gd : Option (Nat × Bool)} {t T : TypeId} {x : Operand} {g c base i : Nat} {l : List α} {z : α} (hk : ldOf P t = some none) (hx : ev σ x = .pointer (some ⟨g, 0 + i * 1, none⟩))
    (h : Row w base T 1 (some ⟨g, 0, none⟩) l.length c (l.flatMap (fun z => [val z]))) (hz : l[i]? = some z) : Run P ⟨d, .load t x, ty, pos, af, gd⟩ n σ w (val z) w := by
  obtain ⟨b, o, cs, fr, e, hb, hcs⟩ := (Row.sl h).elem (enc := fun z => [val z]) (fun _ => rfl) hz
  injection e with e; injection e with e1 e2 _
  subst e1; subst e2
  exact r_load1 hk hx hb (cellsAt_one.1 hcs)
theorem r_loadRowF {α : Type} {enc : α → List Value} {sz j : Nat} (henc : ∀ x, (enc x).length = sz) {d : Option Tmp} {ty : TypeId} {pos : String} {af : Array Edge} {gd : Option (Nat × Bool)} {t T : TypeId} {x : Operand} {g c base i : Nat} {l : List α} {z : α} {v : Value} (hk : ldOf P t = some none) (hx : ev σ x = .pointer (some ⟨g, 0 + i * sz + j, none⟩))
    (h : Row w base T sz (some ⟨g, 0, none⟩) l.length c (l.flatMap enc)) (hz : l[i]? = some z) (hv : (enc z)[j]? = some v) : Run P ⟨d, .load t x, ty, pos, af, gd⟩ n σ w v w := by
  obtain ⟨b, o, cs, fr, e, hb, hcs⟩ := (Row.sl h).elem henc hz
  injection e with e; injection e with e1 e2 _
  subst e1; subst e2
  exact r_load1 hk hx hb (cellsAt_get hcs hv)
end
end Go.GW
namespace Go.GW
open Go.RowKit
abbrev bl (a b : Bs) : Bool := Op.bytesLess a b
theorem bl_nil (a : Bs) : bl a [] = false := by cases a <;> rfl
theorem bl_cons {a b : UInt8} {x y : Bs} : bl (a :: x) (b :: y) = (a < b || (a == b && bl x y)) := rfl
theorem bl_tri : ∀ a b : Bs, (bl a b = true ∧ bl b a = false ∧ a ≠ b) ∨ (bl a b = false ∧ bl b a = true ∧ a ≠ b) ∨ (bl a b = false ∧ bl b a = false ∧ a = b)
  | [], [] => .inr (.inr ⟨rfl, rfl, rfl⟩)
  | [], b :: y => .inl ⟨rfl, rfl, by simp⟩
  | a :: x, [] => .inr (.inl ⟨rfl, rfl, by simp⟩)
  | a :: x, b :: y => by
    rw [bl_cons, bl_cons]
    rcases Nat.lt_trichotomy a.toNat b.toNat with h | h | h
    · have h1 : a < b := h
      have h2 : ¬ b < a := fun h' => by have : b.toNat < a.toNat := h'; omega
      have h3 : a ≠ b := fun e => by subst e; omega
      have h4 : (b == a) = false := by simpa using fun e => h3 e.symm
      left; simp [h1, h2, h3, h4]
    · have h1 : a = b := UInt8.toNat_inj.1 h
      subst h1
      have h2 : ¬ a < a := fun h' => by have : a.toNat < a.toNat := h'; omega
      have := bl_tri x y
      simp only [h2, decide_false, Bool.false_or, beq_self_eq_true, Bool.true_and, ne_eq, List.cons.injEq, true_and]
      exact this
    · have h1 : b < a := h
      have h2 : ¬ a < b := fun h' => by have : a.toNat < b.toNat := h'; omega
      have h3 : a ≠ b := fun e => by subst e; omega
      have h4 : (a == b) = false := by simpa using h3
      right; left; simp [h1, h2, h3, h4]
theorem bl_irrefl (a : Bs) : bl a a = false := by rcases bl_tri a a with h | h | h <;> simp_all
theorem bl_asym {a b : Bs} (h : bl a b = true) : bl b a = false := by
  rcases bl_tri a b with h' | h' | h'
  · exact h'.2.1
  · rw [h'.1] at h; cases h
  · rw [h'.1] at h; cases h
theorem bl_eq {a b : Bs} (h : bl a b = false) (k : bl b a = false) : a = b := by rcases bl_tri a b with h' | h' | h' <;> simp_all
theorem bl_trans : ∀ {a b c : Bs}, bl a b = true → bl b c = true → bl a c = true
  | a, [], c, h, _ => by rw [bl_nil] at h; cases h
  | a, b :: y, [], _, k => by rw [bl_nil] at k; cases k
  | [], b :: y, c :: z, _, _ => rfl
  | a :: x, b :: y, c :: z, h, k => by
    rw [bl_cons] at *
    simp only [Bool.or_eq_true, Bool.and_eq_true, decide_eq_true_eq, beq_iff_eq] at *
    rcases h with h | ⟨rfl, h⟩
    · rcases k with k | ⟨rfl, k⟩
      · left; have h1 : a.toNat < b.toNat := h; have h2 : b.toNat < c.toNat := k; show a.toNat < c.toNat; omega
      · left; exact h
    · rcases k with k | ⟨rfl, k⟩
      · left; exact k
      · right; exact ⟨rfl, bl_trans h k⟩
theorem nbl_trans {a b c : Bs} (h : bl b a = false) (k : bl c b = false) : bl c a = false := by
  cases hc : bl c a with
  | false => rfl
  | true =>
    rcases bl_tri a b with h' | h' | h'
    · have := bl_trans hc h'.1; rw [this] at k; cases k
    · rw [h'.2.1] at h; cases h
    · rw [h'.2.2] at hc; rw [hc] at k; cases k
theorem blOrd {α : Type} (key : α → Bs) : Ord (fun x y : α => bl (key x) (key y)) := ⟨fun _ _ h => bl_asym h, fun _ _ _ h k => nbl_trans h k⟩
def cmpStr (a b : Bs) : Int := if bl a b then -1 else if bl b a then 1 else 0
theorem cmpStr_lt (a b : Bs) : decide (cmpStr a b < 0) = bl a b := by
  unfold cmpStr
  cases bl a b <;> cases bl b a <;> simp
section
variable {P : Program} {n : Sz} {σ : SF} {w : World} {d : Option Tmp} {ty : TypeId} {pos : String} {af : Array Edge} {gd : Option (Nat × Bool)}
theorem r_sgt {t t' : TypeId} {x y : Operand} {a b : List UInt8} (hx : ev σ x = .string (str a)) (hy : ev σ y = .string (str b)) : Run P ⟨d, .binOp .gtr t x y t', ty, pos, af, gd⟩ n σ w (.bool (bl b a)) w :=
  r_bin (by rw [hx, hy]; exact eqg_str) (by
    rw [hx, hy]
    simp only [binOp, Op.stringOp, str_toList]
    have key : (!(Op.bytesLess a b || a == b)) = bl b a := by
      rcases bl_tri a b with h | h | h
      · rw [h.2.1, show Op.bytesLess a b = true from h.1]; rfl
      · have : (a == b) = false := by simpa using h.2.2
        rw [h.2.1, show Op.bytesLess a b = false from h.1, this]; rfl
      · obtain ⟨h1, h2, rfl⟩ := h
        rw [show Op.bytesLess a a = false from h1, h1, beq_self_eq_true]; rfl
    rw [key]; rfl)
theorem r_beq {t t' : TypeId} {x y : Operand} {a b : Bool} (hu : P.underlying t = some .bool := by kernel_rfl) (hx : ev σ x = .bool a) (hy : ev σ y = .bool b) : Run P ⟨d, .binOp .eql t x y t', ty, pos, af, gd⟩ n σ w (.bool (decide (a = b))) w :=
  r_bin (fun w => by rw [hx, hy]; simp [eqGuard]) (by
    rw [hx, hy]
    have h : ∀ d : Nat, (Op.equalIn (d + 1) t (.bool a) (.bool b)).run P w = .ok (a == b) w := fun d => by
      simp [Op.equalIn, run_und hu]
    have e : (a == b) = decide (a = b) := by cases a <;> cases b <;> rfl
    simp [binOp, Op.equal, Op.maxDepth, h, e])
end
end Go.GW
namespace Go.GW
open Go.RowKit
theorem fill_run {sz : Nat} : ∀ (us : List Value) (vss : List (List Value)) (k : Nat) (pre : List Value) (cells : Array Value), us.map Value.cells = vss.map List.toArray → (∀ vs ∈ vss, vs.length = sz) → cells.size = (k + us.length) * sz → cells.toList.take (k * sz) = pre →
    Instr.fill (fun i => some (i * sz, sz)) cells (us.zipIdx k |>.map fun p => (p.2, p.1)) = some (pre ++ vss.flatten).toArray
  | [], vss, k, pre, cells, hm, _, hs, hp => by
    have : vss = [] := by cases vss <;> simp at hm ⊢
    subst this
    simp only [List.zipIdx_nil, List.map_nil, Instr.fill, List.flatten_nil, List.append_nil]
    rw [← hp, List.take_of_length_le (by rw [Array.length_toList, hs]; simp)]
  | u :: us, vss, k, pre, cells, hm, hl, hs, hp => by
    cases vss with
    | nil => simp at hm
    | cons vs vss =>
      simp only [List.map_cons, List.cons.injEq] at hm
      have hvs := hl vs (by simp)
      have huc : u.cells.size = sz := by rw [hm.1]; simpa using hvs
      simp only [List.length_cons] at hs
      have hle : k * sz + sz ≤ cells.size := by rw [hs, ← Nat.succ_mul]; exact Nat.mul_le_mul_right _ (by omega)
      simp only [List.zipIdx_cons, List.map_cons, Instr.fill]
      rw [if_neg (by simp [huc]; omega), hm.1]
      have hz : (vs.toArray.zipIdx.foldl (fun cs (c, j) => cs.setIfInBounds (k * sz + j) c) cells) = putCells cells (k * sz) vs := by
        have := foldl_put vs cells (k * sz) 0
        rw [Nat.add_zero] at this
        rw [← this]; simp
      rw [hz, fill_run us vss (k + 1) (pre ++ vs) _ hm.2 (fun v hv => hl v (by simp [hv])) (by rw [putCells_size, hs]; congr 1; omega)]
      · simp
      · apply List.ext_getElem?
        intro j
        have hpl : pre.length = k * sz := by rw [← hp, List.length_take, Array.length_toList]; omega
        by_cases hj : j < (k + 1) * sz
        · rw [List.getElem?_take_of_lt hj, Array.getElem?_toList, putCells_get _ _ _ _ (by rw [hvs]; exact hle)]
          rw [Nat.succ_mul] at hj
          by_cases h1 : k * sz ≤ j
          · rw [if_pos (by rw [hvs]; omega), List.getElem?_append_right (by rw [hpl]; exact h1), hpl]
          · rw [if_neg (by omega), List.getElem?_append_left (by rw [hpl]; omega), ← hp, List.getElem?_take_of_lt (by omega), Array.getElem?_toList]
        · rw [List.getElem?_take_eq_none (by omega), List.getElem?_eq_none]
          rw [List.length_append, hpl, hvs]; rw [Nat.succ_mul] at hj; omega
section
variable {P : Program} {n : Sz} {K : SF → World → Prop} {σ : SF} {w : World} {ops : Array Oper} {l : List Oper} {ty : TypeId} {pos : String} {af : Array Edge}
theorem gl_sliceN (xs : List Operand) (us : List Value) (vss : List (List Value)) {d m : Nat} {ps : Array (Nat × Operand)} {t e : TypeId} {z : Value} {sz : Nat} (hps : ps = (xs.zipIdx.map fun p => (p.2, p.1)).toArray) (hu : P.underlying t = some (.slice e)) (hs : szOf P e = some sz) (hz : zeroOf P e = some z) (hzs : z.cells.size = sz)
    (hx : xs.map (ev σ) = us) (hv : us.map Value.cells = vss.map List.toArray) (hl : vss.all (fun vs => vs.length == sz) = true) (hm : xs.length = m) (hp : Nat.ble (m * sz) 1000 = true) (h0 : Nat.blt 0 (m * sz) = true) (hd : Nat.blt d n.n = true)
    (h : ∀ b w', w'.heap[b]? = some (.cells vss.flatten.toArray e) → b = w.heap.size → Pu w w' → Sl w' e sz (some ⟨b, 0, none⟩) m vss.flatten → GL P n ops l K (upd σ d (.slice (some ⟨b, 0, none⟩) m m)) w') :
    GL P n ops (⟨some d, .buildSlice t m ps, ty, pos, af, none⟩ :: l) K σ w := by
  subst hps
  have hl' : ∀ vs ∈ vss, vs.length = sz := by simpa using hl
  have hum : us.length = m := by rw [← hx, List.length_map, hm]
  have hvl : vss.length = m := by have := congrArg List.length hv; simp at this; omega
  have hsz : m * sz ≤ 1000 := by simpa [Nat.ble_eq] using hp
  have hpos : 0 < m * sz := by simpa [Nat.blt_eq] using h0
  have hf := fill_run (sz := sz) us vss 0 [] ((Array.range (m * sz)).map (fun i => z.cells[i % z.cells.size]!)) hv hl' (by simp [hum]) (by simp)
  have hflat : ∀ (vss : List (List Value)), (∀ vs ∈ vss, vs.length = sz) → vss.flatten.length = vss.length * sz := by
    intro vss
    induction vss with
    | nil => intro _; simp
    | cons a r ih => intro h; rw [List.flatten_cons, List.length_append, h a (by simp), ih fun v hv => h v (by simp [hv]), List.length_cons, Nat.succ_mul]; omega
  refine gl_op (v := .slice (some ⟨w.heap.size, 0, none⟩) m m) (w' := w.alloc (.cells vss.flatten.toArray e)) (fun a ha => ?_) hd (h _ _ alloc_new rfl (Pu.alloc _) ⟨by rw [hflat _ hl', hvl], fun _ => ⟨_, 0, _, _, rfl, alloc_new, fun j u hj => by simpa using hj⟩⟩)
  have hpe : ((xs.zipIdx.map fun p => (p.2, p.1)).map fun p => (p.1, a.eval p.2)) = us.zipIdx.map fun p => (p.2, p.1) := by
    rw [List.map_map, ← hx, List.zipIdx_map, List.map_map]
    exact List.map_congr_left fun p _ => by simp [ha.eval]
  have h24 : ¬ (m * sz > 2 ^ 24) := by omega
  have h10 : ¬ (m * sz = 0) := by omega
  simp only [execOp, Instr.buildSlice, Sem.run_bind, run_und hu, Result.andThen_ok, run_sizeOf hs, if_neg h24, if_neg h10, run_zeroValue hz, Sem.run_pure, List.map_toArray, hpe]
  simp only [List.nil_append] at hf
  rw [hf]
  simp only [newRow, run_newObj, Sem.run_bind, Sem.run_pure, Result.andThen_ok]
  rfl
end
section
variable {P : Program} {f : FuncId} {n : Sz} {R : Value → World → Prop} {k : List Item} {σ : SF} {w : World}
/-- a loop, round by round -/
theorem g_unroll {c : Code} (h : G P f n R (.code c :: .inLoop c :: k) σ w) : G P f n R (.code (.loop c) :: k) σ w := fun a ha => Good.step1 (fun _ _ => step_loop) (h a ha)
theorem g_again {c : Code} (h : G P f n R (.code c :: .inLoop c :: k) σ w) : G P f n R (.inLoop c :: k) σ w := fun a ha => Good.step1 (fun _ _ => step_inLoop) (h a ha)
end
theorem Fr.puNew {D : TypeId → Bool} {F : Nat → Prop} {w0 w w' : World} (f : Fr D F w w') (h : Pu w0 w) (hF : ∀ b, F b → w0.heap.size ≤ b) : Pu w0 w' := Fr.puOf h f hF
end Go.GW
namespace Go.GW
open Go.RowKit

/-! ## a region that draws its order, whose last operation (number L) may turn what the others look at -/
section
variable {P : Program} {ops : Array Oper} {Q : Exit → Act → World → Prop} {S S' : World → Prop} {L : Nat}
def Held (S : World → Prop) (L : Nat) (listed : Array Bool) (w : World) : Prop := listed.getD L false = true ∨ S w
def wpAnyL (P : Program) (ops : Array Oper) (Q : Exit → Act → World → Prop) (S : World → Prop) (L : Nat) : Nat → Array Bool → Act → World → Prop
  | 0, listed, a, w => Region.ready .any ops listed = [] ∧ Q .normal a w
  | fuel + 1, listed, a, w =>
    (Region.ready .any ops listed = [] → Q .normal a w) ∧
    ∀ i ∈ Region.ready .any ops listed, wpOp P ops Q i (fun a' w' => Held S L (listed.setIfInBounds i true) w' ∧ wpAnyL P ops Q S L fuel (listed.setIfInBounds i true) a' w') a w
theorem wpAny_of_last : ∀ (fuel : Nat) (listed : Array Bool) (a : Act) (w : World), wpAnyL P ops Q S L fuel listed a w → wpAny P .any ops Q fuel listed a w
  | 0, _, _, _, h => h
  | fuel + 1, _, _, _, h => ⟨h.1, fun i hi => wpOp_mono (fun a' w' h' => wpAny_of_last fuel _ a' w' h'.2) (h.2 i hi)⟩
/-- does L wait for i, at once or by others? -/
def waitsN (ops : Array Oper) (i : Nat) : Nat → Nat → Bool
  | 0, _ => false
  | m + 1, L => match ops[L]? with
    | some o => o.after.any fun e => Region.binds .any e && ((e.on == i) || waitsN ops i m e.on)
    | none => false
def waitsFor (ops : Array Oper) (L i : Nat) : Bool := match ops[L]? with
  | some _ => waitsN ops i ops.size L
  | none => true
def Closed (ops : Array Oper) (listed : Array Bool) : Prop := ∀ (k : Nat) o, ops[k]? = some o → listed.getD k false = true → ∀ e ∈ o.after, Region.binds .any e = true → listed.getD e.on false = true
def closedB (ops : Array Oper) (listed : Array Bool) : Bool := (List.range ops.size).all fun k => match ops[k]? with
  | some o => !(listed.getD k false) || o.after.all fun e => !(Region.binds .any e) || listed.getD e.on false
  | none => true
theorem closedB_spec {listed : Array Bool} (h : closedB ops listed = true) : Closed ops listed := by
  intro k o hk hl e he hb
  unfold closedB at h
  have h1 := List.all_eq_true.1 h k (List.mem_range.2 (Array.getElem?_eq_some_iff.1 hk).1)
  rw [hk] at h1
  simp only [hl, Bool.not_true, Bool.false_or, Array.all_eq_true_iff_forall_mem] at h1
  have h2 := h1 e he
  simpa [hb] using h2
theorem waitsN_spec {i : Nat} {listed : Array Bool} (hc : Closed ops listed) : ∀ (m L : Nat) o, waitsN ops i m L = true → ops[L]? = some o → (∀ e ∈ o.after, Region.binds .any e = true → listed.getD e.on false = true) → listed.getD i false = true
  | 0, _, _, h, _, _ => by cases h
  | m + 1, L, o, h, hL, hall => by
    unfold waitsN at h
    rw [hL] at h
    dsimp only at h
    obtain ⟨e, he, h⟩ := Array.any_eq_true'.1 h
    simp only [Bool.and_eq_true, Bool.or_eq_true, beq_iff_eq] at h
    have h1 := hall e he h.1
    rcases h.2 with h2 | h2
    · rw [← h2]; exact h1
    · have h3 := h2
      cases m with
      | zero => cases h3
      | succ m =>
        unfold waitsN at h3
        cases ho : ops[e.on]? with
        | none => rw [ho] at h3; cases h3
        | some o' => exact waitsN_spec hc (m + 1) e.on o' h2 ho (fun e' he' hb' => hc e.on o' ho h1 e' he' hb')
theorem waitsFor_spec {i : Nat} {o : Oper} {listed : Array Bool} (hc : Closed ops listed) (h : waitsFor ops L i = true) (hL : ops[L]? = some o) (hall : ∀ e ∈ o.after, Region.binds .any e = true → listed.getD e.on false = true) : listed.getD i false = true := by
  unfold waitsFor at h
  rw [hL] at h
  exact waitsN_spec hc _ _ _ h hL hall
theorem getD_ne {l : Array Bool} {i L : Nat} (hi : i ≠ L) : (l.setIfInBounds i true).getD L false = l.getD L false := by
  simp [Array.getD_eq_getD_getElem?, Array.getElem?_setIfInBounds_ne hi]
theorem Held.keep {i : Nat} {l : Array Bool} {w : World} (hi : i ≠ L) (h : Held S L l w) : Held S L (l.setIfInBounds i true) w := h.imp (fun h => by rwa [getD_ne hi]) id
theorem wpAnyL_first {i : Nat} {oi : Oper} {v : Value} (hi : ops[i]? = some oi) (hsel : ∀ (j : Nat) (o : Oper) cs b, ops[j]? = some o → o.op ≠ .select cs b)
    (hQ : ∀ c a w, Q (.panic c) (a.put oi.dst v) w → Q (.panic c) a w) (hSS : ∀ w, S w → S' w) (hiL : i ≠ L) :
    ∀ (fuel : Nat) (listed : Array Bool) (a : Act) (w : World), Closed ops listed → (waitsFor ops L i = true ∧ listed.getD L false = false) ∨ (∀ w, S' w) →
      (∀ j oj, ops[j]? = some oj → j ≠ i → listed.getD j true = false → (∀ e ∈ oj.after, Region.binds .any e = true → e.on ≠ i) → oi.apart ops oj = true) →
      i ∈ Region.ready .any ops listed → YieldsIf P ops S' oi v a → Held S L listed w → S' w →
      wpAnyL P ops Q S L fuel (listed.setIfInBounds i true) (a.put oi.dst v) w → wpAnyL P ops Q S L (fuel + 1) listed a w := by
  intro fuel
  induction fuel with
  | zero =>
    intro listed a w _ _ _ hr hy hS0 hS H
    refine ⟨fun h => (by rw [h] at hr; cases hr), fun j hj => ?_⟩
    by_cases hji : j = i
    · subst hji; exact hy.wpOp hi hS ⟨hS0.keep hiL, H⟩
    · have := ready_mono hj hji
      rw [H.1] at this
      cases this
  | succ fuel ih =>
    intro listed a w hcl hL hfree hr hy hS0 hS H
    refine ⟨fun h => (by rw [h] at hr; cases hr), fun j hj => ?_⟩
    by_cases hji : j = i
    · subst hji; exact hy.wpOp hi hS ⟨hS0.keep hiL, H⟩
    · have h1 := H.2 j (ready_mono hj hji)
      obtain ⟨hjun, oj, hoj, hall⟩ := mem_ready.1 hj
      have hnot : ∀ e ∈ oj.after, Region.binds .any e = true → e.on ≠ i := fun e he hb heq => by
        have h1 := hall e he hb
        have h0 := (mem_ready.1 hr).1
        rw [heq] at h1
        rcases Nat.lt_or_ge i listed.size with h' | h'
        · simp [h'] at h0 h1; rw [h0] at h1; cases h1
        · simp [Array.getElem?_eq_none h'] at h1
      have h2 := wpOp_putIf hoj (hfree j oj hoj hji hjun hnot) (fun cs b => hsel i oi cs b hi) (fun cs b => hsel j oj cs b hoj) hQ hy h1
      have hfree' : ∀ k ok, ops[k]? = some ok → k ≠ i → (listed.setIfInBounds j true).getD k true = false →
          (∀ e ∈ ok.after, Region.binds .any e = true → e.on ≠ i) → oi.apart ops ok = true := fun k ok hk hki hun hno => by
        refine hfree k ok hk hki ?_ hno
        by_cases hjk : j = k
        · subst hjk; exact hjun
        · rw [getD_set_ne true hjk] at hun; exact hun
      have hallD : ∀ e ∈ oj.after, Region.binds .any e = true → listed.getD e.on false = true := fun e he hb => by
        have h1 := hall e he hb
        rcases Nat.lt_or_ge e.on listed.size with h' | h'
        · simp [h'] at h1 ⊢; exact h1
        · simp [Array.getElem?_eq_none h'] at h1
      have hiF : listed.getD i false = false := by
        have h0 := (mem_ready.1 hr).1
        rcases Nat.lt_or_ge i listed.size with h' | h'
        · simp [h'] at h0 ⊢; exact h0
        · simp [Array.getElem?_eq_none h'] at h0
      have hjL : waitsFor ops L i = true → j ≠ L := fun hw e => by
        subst e
        have := waitsFor_spec hcl hw hoj hallD
        rw [hiF] at this; cases this
      have hcl' : Closed ops (listed.setIfInBounds j true) := fun k o hk hl e he hb => by
        by_cases hkj : k = j
        · subst hkj
          rw [hoj] at hk; injection hk with hk; subst hk
          have := hallD e he hb
          by_cases hej : k = e.on
          · rw [← hej] at this ⊢; exact hl
          · rw [getD_ne hej]; exact this
        · rw [getD_ne (Ne.symm hkj)] at hl
          have := hcl k o hk hl e he hb
          by_cases hej : j = e.on
          · rcases Nat.lt_or_ge j listed.size with h' | h'
            · rw [← hej]; simp [h']
            · rw [← hej] at this; simp [Array.getElem?_eq_none h'] at this
          · rw [getD_ne hej]; exact this
      have hL' : (waitsFor ops L i = true ∧ (listed.setIfInBounds j true).getD L false = false) ∨ (∀ w, S' w) := hL.imp (fun h => ⟨h.1, by rw [getD_ne (hjL h.1)]; exact h.2⟩) id
      have hjS : ∀ w', Held S L ((listed.setIfInBounds i true).setIfInBounds j true) w' → Held S L (listed.setIfInBounds j true) w' ∧ S' w' := fun w' h => by
        have e : Held S L (listed.setIfInBounds j true) w' := h.imp (fun h => by rwa [← Array.setIfInBounds_comm _ _ hji, getD_ne hiL] at h) id
        refine ⟨e, ?_⟩
        rcases hL' with hL' | hL'
        · rcases e with e | e
          · rw [hL'.2] at e; cases e
          · exact hSS _ e
        · exact hL' w'
      refine wpOp_mono (fun a' w' h3 => ⟨(hjS w' h3.2.1).1, ih (listed.setIfInBounds j true) a' w' hcl' hL' hfree' (ready_mono hr (Ne.symm hji)) h3.1 (hjS w' h3.2.1).1 (hjS w' h3.2.1).2 ?_⟩) h2
      rw [Array.setIfInBounds_comm _ _ hji]
      exact h3.2.2
end

section
variable {P : Program} {n : Sz} {f : FuncId} {R : Value → World → Prop} {k : List Item} {K : SF → World → Prop} {σ : SF} {w w0 : World} {ops : Array Oper} {l : List Oper} {ty : TypeId} {pos : String} {af : Array Edge} {L : Nat}
/-- w0: the world at the region's begin; L: the number of the operation that may turn old things -/
def GD (P : Program) (n : Sz) (ops : Array Oper) (w0 : World) (L fuel : Nat) (listed : Array Bool) (K : SF → World → Prop) (σ : SF) (w : World) : Prop :=
  ∀ a, Is a n σ → wpAnyL P ops (QN n K) (Pu w0) L fuel listed a w
theorem gd_draw {id : Nat} {l : List Oper} (L : Nat) (hm : P.follows .mixedOrders = true) (h : ∀ w', Pu w w' → w'.heap = w.heap → GD P n l.toArray w' L l.length (Array.replicate l.length false) (G P f n R k) σ w') :
    G P f n R (.code (.region id l.toArray true) :: k) σ w := by
  intro a ha
  refine Good.code ?_
  have := h { w with drawn := w.drawn + 1 } Pu.drew rfl a ha
  refine wp_mono (wp_region_any hm (wpAny_of_last _ _ _ _ (by simpa using this))) ?_
  rintro e a' w' ⟨rfl, σ', hs, g⟩
  exact g a' hs
theorem wpAnyL_take {Q : Exit → Act → World → Prop} {S S' : World → Prop} {i : Nat} {oi : Oper} {v : Value} {fuel : Nat} {listed : Array Bool} {a : Act} (hi : ops[i]? = some oi)
    (hs : Region.noSelect ops = true) (hf : Region.free .any ops listed i = true) (hr : (Region.ready .any ops listed).contains i = true)
    (hQ : ∀ c a w, Q (.panic c) (a.put oi.dst v) w → Q (.panic c) a w) (hSS : ∀ w, S w → S' w) (hiL : i ≠ L) (hcl : closedB ops listed = true) (hL : (waitsFor ops L i = true ∧ listed.getD L false = false) ∨ (∀ w, S' w)) (hy : YieldsIf P ops S' oi v a) (hS0 : Held S L listed w) (hS : S' w)
    (h : wpAnyL P ops Q S L fuel (listed.setIfInBounds i true) (a.put oi.dst v) w) : wpAnyL P ops Q S L (fuel + 1) listed a w :=
  wpAnyL_first hi (Region.noSelect_spec hs) hQ hSS hiL fuel listed a w (closedB_spec hcl) hL (Region.free_spec hi hf) (by simpa using hr) hy hS0 hS h
def okT (ops : Array Oper) (listed : Array Bool) (L i : Nat) : Bool := closedB ops listed && (Region.noSelect ops && Region.free .any ops listed i && (Region.ready .any ops listed).contains i && !(Nat.beq i L))
theorem okT_spec {listed : Array Bool} {i : Nat} (h : okT ops listed L i = true) : Region.noSelect ops = true ∧ Region.free .any ops listed i = true ∧ (Region.ready .any ops listed).contains i = true ∧ i ≠ L ∧ closedB ops listed = true := by
  unfold okT at h
  simp only [Bool.and_eq_true, Bool.not_eq_true'] at h
  exact ⟨h.2.1.1.1, h.2.1.1.2, h.2.1.2, (fun e => by subst e; rw [Nat.beq_refl] at h; cases h.2.2), h.1⟩
/-- an operation that does not look at the world -/
theorem gd_take {fuel : Nat} {listed listed' : Array Bool} (i : Nat) {d : Nat} {op : Op} {v : Value} (hi : ops[i]? = some ⟨some d, op, ty, pos, af, none⟩)
    (hb : okT ops listed L i = true) (hl : listed.setIfInBounds i true = listed') (hp : Held (Pu w0) L listed w) (hr : ∀ w, Run P ⟨some d, op, ty, pos, af, none⟩ n σ w v w) (hd : Nat.blt d n.n = true)
    (h : GD P n ops w0 L fuel listed' K (upd σ d v) w) : GD P n ops w0 L (fuel + 1) listed K σ w := by
  intro a ha
  obtain ⟨h1, h2, h3, h4, h5⟩ := okT_spec hb
  subst hl
  exact wpAnyL_take (S' := fun _ => True) hi h1 h2 h3 qn_panic (fun _ _ => trivial) h4 h5 (.inr fun _ => trivial) (.inl ⟨by simp [Region.wanted], fun w _ => hr w a ha⟩) hp trivial (h _ (ha.put hd v))
/-- one that looks at old things, for which L waits -/
theorem gd_look {fuel : Nat} {listed listed' : Array Bool} (i : Nat) {d : Nat} {op : Op} {v : Value} (hi : ops[i]? = some ⟨some d, op, ty, pos, af, none⟩)
    (hb : (okT ops listed L i && waitsFor ops L i && !(listed.getD L false)) = true) (hl : listed.setIfInBounds i true = listed') (hp : Pu w0 w) (hr : ∀ w, Pu w0 w → Run P ⟨some d, op, ty, pos, af, none⟩ n σ w v w) (hd : Nat.blt d n.n = true)
    (h : GD P n ops w0 L fuel listed' K (upd σ d v) w) : GD P n ops w0 L (fuel + 1) listed K σ w := by
  intro a ha
  simp only [Bool.and_eq_true, Bool.not_eq_true'] at hb
  obtain ⟨h1, h2, h3, h4, h5⟩ := okT_spec hb.1.1
  subst hl
  exact wpAnyL_take (S' := Pu w0) hi h1 h2 h3 qn_panic (fun _ h => h) h4 h5 (.inl ⟨hb.1.2, hb.2⟩) (.inl ⟨by simp [Region.wanted], fun w hw => hr w hw a ha⟩) (.inr hp) hp (h _ (ha.put hd v))
theorem gd_takeF {fuel : Nat} {listed listed' : Array Bool} (i : Nat) {d j t : Nat} {op : Op} {b : Bool} (hi : ops[i]? = some ⟨some d, op, ty, pos, af, some (j, b)⟩)
    (hb : okT ops listed L i = true) (hl : listed.setIfInBounds i true = listed') (hp : Held (Pu w0) L listed w) (ho : (ops[j]?).bind (·.dst) = some t) (hy : σ t = .bool (!b)) (ht : Nat.blt t n.n = true) (hd : Nat.blt d n.n = true)
    (h : GD P n ops w0 L fuel listed' K (upd σ d undef) w) : GD P n ops w0 L (fuel + 1) listed K σ w := by
  intro a ha
  obtain ⟨h1, h2, h3, h4, h5⟩ := okT_spec hb
  subst hl
  have hy := yield_eq (ops := ops) ha ho ht hy
  exact wpAnyL_take (S' := fun _ => True) hi h1 h2 h3 qn_panic (fun _ _ => trivial) h4 h5 (.inr fun _ => trivial) (.inr ⟨by simp [Region.wanted, hy], rfl⟩) hp trivial (h _ (ha.put hd undef))
theorem gd_takeU {fuel : Nat} {listed listed' : Array Bool} (i : Nat) {d j t : Nat} {op : Op} {b : Bool} (hi : ops[i]? = some ⟨some d, op, ty, pos, af, some (j, b)⟩)
    (hb : okT ops listed L i = true) (hl : listed.setIfInBounds i true = listed') (hp : Held (Pu w0) L listed w) (ho : (ops[j]?).bind (·.dst) = some t) (hy : σ t = undef) (ht : Nat.blt t n.n = true) (hd : Nat.blt d n.n = true)
    (h : GD P n ops w0 L fuel listed' K (upd σ d undef) w) : GD P n ops w0 L (fuel + 1) listed K σ w := by
  intro a ha
  obtain ⟨h1, h2, h3, h4, h5⟩ := okT_spec hb
  subst hl
  have hlt : t < a.tmps.size := by rw [ha.size]; simpa [Nat.blt_eq] using ht
  have hg := ha.get t
  rw [hy] at hg
  have hg2 : a.tmps[t]? = some undef := by
    rw [Array.getElem?_eq_getElem hlt]
    simpa [hlt] using hg
  have hy : yielded ops a.tmps j = none := by simp [yielded, ho, hg2, undef]
  exact wpAnyL_take (S' := fun _ => True) hi h1 h2 h3 qn_panic (fun _ _ => trivial) h4 h5 (.inr fun _ => trivial) (.inr ⟨by simp [Region.wanted, hy], rfl⟩) hp trivial (h _ (ha.put hd undef))
theorem gd_takeT {fuel : Nat} {listed listed' : Array Bool} (i : Nat) {d j t : Nat} {op : Op} {b : Bool} {v : Value} (hi : ops[i]? = some ⟨some d, op, ty, pos, af, some (j, b)⟩)
    (hb : okT ops listed L i = true) (hl : listed.setIfInBounds i true = listed') (hp : Held (Pu w0) L listed w) (ho : (ops[j]?).bind (·.dst) = some t) (hy : σ t = .bool b) (ht : Nat.blt t n.n = true) (hr : ∀ w, Run P ⟨some d, op, ty, pos, af, some (j, b)⟩ n σ w v w) (hd : Nat.blt d n.n = true)
    (h : GD P n ops w0 L fuel listed' K (upd σ d v) w) : GD P n ops w0 L (fuel + 1) listed K σ w := by
  intro a ha
  obtain ⟨h1, h2, h3, h4, h5⟩ := okT_spec hb
  subst hl
  have hy := yield_eq (ops := ops) ha ho ht hy
  exact wpAnyL_take (S' := fun _ => True) hi h1 h2 h3 qn_panic (fun _ _ => trivial) h4 h5 (.inr fun _ => trivial) (.inl ⟨by simp [Region.wanted, hy], fun w _ => hr w a ha⟩) hp trivial (h _ (ha.put hd v))
theorem gd_lookT {fuel : Nat} {listed listed' : Array Bool} (i : Nat) {d j t : Nat} {op : Op} {b : Bool} {v : Value} (hi : ops[i]? = some ⟨some d, op, ty, pos, af, some (j, b)⟩)
    (hb : (okT ops listed L i && waitsFor ops L i && !(listed.getD L false)) = true) (hl : listed.setIfInBounds i true = listed') (hp : Pu w0 w) (ho : (ops[j]?).bind (·.dst) = some t) (hy : σ t = .bool b) (ht : Nat.blt t n.n = true) (hr : ∀ w, Pu w0 w → Run P ⟨some d, op, ty, pos, af, some (j, b)⟩ n σ w v w) (hd : Nat.blt d n.n = true)
    (h : GD P n ops w0 L fuel listed' K (upd σ d v) w) : GD P n ops w0 L (fuel + 1) listed K σ w := by
  intro a ha
  simp only [Bool.and_eq_true, Bool.not_eq_true'] at hb
  obtain ⟨h1, h2, h3, h4, h5⟩ := okT_spec hb.1.1
  subst hl
  have hy := yield_eq (ops := ops) ha ho ht hy
  exact wpAnyL_take (S' := Pu w0) hi h1 h2 h3 qn_panic (fun _ h => h) h4 h5 (.inl ⟨hb.1.2, hb.2⟩) (.inl ⟨by simp [Region.wanted, hy], fun w hw => hr w hw a ha⟩) (.inr hp) hp (h _ (ha.put hd v))
def SD (P : Program) (n : Sz) (ops : Array Oper) (w0 : World) (L fuel : Nat) (listed : Array Bool) (K : SF → World → Prop) (σ : SF) (w : World) : Prop := Held (Pu w0) L listed w ∧ GD P n ops w0 L fuel listed K σ w
/-- the only one that may come up now; it turns nothing old -/
theorem gd_only {fuel : Nat} {listed listed' : Array Bool} (i : Nat) {o : Oper} (hi : ops[i]? = some o) (hr : Region.ready .any ops listed = [i]) (hl : listed.setIfInBounds i true = listed')
    (h : GL P n ops [o] (SD P n ops w0 L fuel listed' K) σ w) : GD P n ops w0 L (fuel + 1) listed K σ w := by
  subst hl
  intro a ha
  refine ⟨fun h0 => (by rw [hr] at h0; cases h0), fun j hj => ?_⟩
  rw [hr] at hj
  obtain rfl : j = i := by simpa using hj
  refine wpOp_of_list hi (fun a w hq => ?_) (fun c a w hq => by cases hq.1) (fun a w hq => by cases hq.1) (h a ha)
  obtain ⟨_, σ', hs, h1, h2⟩ := hq
  exact ⟨h1, h2 a hs⟩
/-- two may come up now: each may be the first -/
theorem gd_two {fuel : Nat} {listed l1 l2 : Array Bool} (i j : Nat) {o o' : Oper} (hi : ops[i]? = some o) (hj : ops[j]? = some o') (hr : Region.ready .any ops listed = [i, j]) (hl1 : listed.setIfInBounds i true = l1) (hl2 : listed.setIfInBounds j true = l2)
    (h1 : GL P n ops [o] (SD P n ops w0 L fuel l1 K) σ w) (h2 : GL P n ops [o'] (SD P n ops w0 L fuel l2 K) σ w) : GD P n ops w0 L (fuel + 1) listed K σ w := by
  subst hl1; subst hl2
  intro a ha
  refine ⟨fun h0 => (by rw [hr] at h0; cases h0), fun k hk => ?_⟩
  rw [hr] at hk
  have hk : k = i ∨ k = j := by simpa using hk
  rcases hk with rfl | rfl
  · refine wpOp_of_list hi (fun a w hq => ?_) (fun c a w hq => by cases hq.1) (fun a w hq => by cases hq.1) (h1 a ha)
    obtain ⟨_, σ', hs, h1, h2⟩ := hq
    exact ⟨h1, h2 a hs⟩
  · refine wpOp_of_list hj (fun a w hq => ?_) (fun c a w hq => by cases hq.1) (fun a w hq => by cases hq.1) (h2 a ha)
    obtain ⟨_, σ', hs, h1, h2⟩ := hq
    exact ⟨h1, h2 a hs⟩
/-- number L -/
theorem gd_last {fuel : Nat} {listed listed' : Array Bool} {o : Oper} (hi : ops[L]? = some o) (hr : Region.ready .any ops listed = [L]) (hsz : Nat.blt L listed.size = true) (hl : listed.setIfInBounds L true = listed')
    (h : GL P n ops [o] (GD P n ops w0 L fuel listed' K) σ w) : GD P n ops w0 L (fuel + 1) listed K σ w := by
  subst hl
  have hlt : L < listed.size := by simpa [Nat.blt_eq] using hsz
  intro a ha
  refine ⟨fun h0 => (by rw [hr] at h0; cases h0), fun j hj => ?_⟩
  rw [hr] at hj
  obtain rfl : j = L := by simpa using hj
  refine wpOp_of_list hi (fun a w hq => ?_) (fun c a w hq => by cases hq.1) (fun a w hq => by cases hq.1) (h a ha)
  obtain ⟨_, σ', hs, h2⟩ := hq
  exact ⟨.inl (by simp [hlt]), h2 a hs⟩
theorem gd_done {fuel : Nat} {listed : Array Bool} (hr : Region.ready .any ops listed = []) (h : K σ w) : GD P n ops w0 L fuel listed K σ w := fun a ha => by
  cases fuel with
  | zero => exact ⟨hr, rfl, σ, ha, h⟩
  | succ m => exact ⟨fun _ => ⟨rfl, σ, ha, h⟩, by rw [hr]; simp⟩
end
end Go.GW
namespace Go.GW
open Go.RowKit

/-! ## maps: plain -/
section
variable {κ β : Type} [DecidableEq κ]
def kvGet : List (κ × β) → κ → Option β
  | [], _ => none
  | (a, b) :: r, k => if a = k then some b else kvGet r k
def kvPut : List (κ × β) → κ → β → List (κ × β)
  | [], k, v => [(k, v)]
  | (a, b) :: r, k, v => if a = k then (k, v) :: r else (a, b) :: kvPut r k v
def kvDel : List (κ × β) → κ → List (κ × β)
  | [], _ => []
  | (a, b) :: r, k => if a = k then r else (a, b) :: kvDel r k
end

def plainKey : TypeDesc → Bool
  | .interface _ => false
  | .array _ _ => false
  | .struct _ => false
  | _ => true
/-- what keys of this kind are -/
structure Keys (P : Program) (kt : TypeId) {κ : Type} [DecidableEq κ] (kenc : κ → Value) : Prop where
  now : ∃ d, P.underlying kt = some d ∧ (∀ a b, Instr.sameNow d (kenc a) (kenc b) = some (decide (a = b))) ∧ plainKey d = true
  bits : ∀ a, Instr.sameBits 10000 (kenc a) (kenc a) = true
theorem str_beq (a b : Bs) : (str a == str b) = decide (a = b) := by
  show (a.toArray == b.toArray) = _
  by_cases e : a = b
  · subst e; simp
  · rw [decide_eq_false e]; simpa using e
theorem keysStr {P : Program} {kt : TypeId} (h : P.underlying kt = some .string) : Keys P kt (fun s : Bs => Value.string (str s)) := by
  refine ⟨⟨.string, h, fun a b => ?_, rfl⟩, fun a => ?_⟩
  · show some (str a == str b) = _
    rw [str_beq]
  · show Instr.sameBits (9999 + 1) _ _ = true
    simp only [Instr.sameBits, str_beq, decide_true]
theorem keysU64 {P : Program} {kt : TypeId} (h : P.underlying kt = some (.int .u64)) : Keys P kt (fun n : Nat => Value.int .u64 n) := by
  refine ⟨⟨.int .u64, h, fun a b => ?_, rfl⟩, fun a => ?_⟩
  · show (if IntKind.u64 = IntKind.u64 then some ((a : Int) == (b : Int)) else none) = _
    rw [if_pos rfl]
    congr 1
    by_cases e : a = b
    · subst e; simp
    · rw [decide_eq_false e]; simp; omega
  · show Instr.sameBits (9999 + 1) _ _ = true
    simp [Instr.sameBits]

/-- The map r holds these. -/
def MapAt {κ β : Type} (kenc : κ → Value) (venc : β → Value) (w : World) (r : Nat) (kv : List (κ × β)) : Prop :=
  ∃ es cl, w.heap[r]? = some (.map es cl) ∧ es.toList.map (fun e => (e.key, e.val)) = kv.map (fun p => (kenc p.1, venc p.2)) ∧ (es.toList.map (·.born)).Pairwise (· < ·) ∧ ∀ e ∈ es.toList, e.born < cl
section
variable {κ β : Type} [DecidableEq κ] {kenc : κ → Value} {venc : β → Value} {w w' : World} {r : Nat} {kv : List (κ × β)}
theorem MapAt.lt (h : MapAt kenc venc w r kv) : r < w.heap.size := by obtain ⟨es, cl, h, _⟩ := h; exact blk_lt h
theorem MapAt.keep (h : MapAt kenc venc w r kv) (hk : ∀ o, w.heap[r]? = some o → w'.heap[r]? = some o) : MapAt kenc venc w' r kv := by
  obtain ⟨es, cl, h1, h2⟩ := h
  exact ⟨es, cl, hk _ h1, h2⟩
theorem MapAt.pu (h : MapAt kenc venc w r kv) (s : Pu w w') : MapAt kenc venc w' r kv := h.keep fun _ ho => s.blk ho
theorem MapAt.st {b : Nat} (h : MapAt kenc venc w r kv) (s : St b w w') (hne : r ≠ b) : MapAt kenc venc w' r kv := h.keep fun _ ho => s.blk ho hne
/-- the first entry with the key -/
theorem findNow_spec {d : TypeDesc} (hd : ∀ a b, Instr.sameNow d (kenc a) (kenc b) = some (decide (a = b))) (k : κ) : ∀ (es : List MapEntry) (kv : List (κ × β)) (i : Nat), es.map (fun e => (e.key, e.val)) = kv.map (fun p => (kenc p.1, venc p.2)) →
    (Instr.findNow d (kenc k) es i = some none ∧ kvGet kv k = none ∧ (∀ v, kvPut kv k v = kv ++ [(k, v)]) ∧ kvDel kv k = kv) ∨
    (∃ (j : Nat) (v : β) (e : MapEntry), es[j]? = some e ∧ e.key = kenc k ∧ Instr.findNow d (kenc k) es i = some (some (i + j, venc v)) ∧ kvGet kv k = some v ∧
      (∀ (u : β), (es.modify j fun e => { e with key := kenc k, val := venc u }).map (fun e => (e.key, e.val)) = (kvPut kv k u).map (fun p => (kenc p.1, venc p.2))) ∧
      (es.eraseIdx j).map (fun e => (e.key, e.val)) = (kvDel kv k).map (fun p => (kenc p.1, venc p.2)))
  | [], [], i, _ => .inl ⟨rfl, rfl, fun _ => rfl, rfl⟩
  | [], _ :: _, i, h => by simp at h
  | _ :: _, [], i, h => by simp at h
  | e :: es, (a, b) :: kv, i, h => by
    simp only [List.map_cons, List.cons.injEq, Prod.mk.injEq] at h
    obtain ⟨⟨h1, h2⟩, h3⟩ := h
    have hs := hd k a
    by_cases hka : k = a
    · subst hka
      right
      refine ⟨0, b, e, rfl, h1, ?_, by simp [kvGet], fun u => ?_, ?_⟩
      · simp only [Instr.findNow, h1, hs, decide_true, h2]; rfl
      · simp [kvPut, h3]
      · simp [kvDel, h3]
    · have hak : ¬ a = k := fun e => hka e.symm
      rcases findNow_spec hd k es kv (i + 1) h3 with ⟨g1, g2, g3, g4⟩ | ⟨j, v, e', g0, g1, g2, g3, g4, g5⟩
      · left
        refine ⟨?_, ?_, fun v => ?_, ?_⟩
        · simp only [Instr.findNow, h1, hs, decide_eq_false hka]; exact g1
        · simp [kvGet, hak, g2]
        · simp [kvPut, hak, g3]
        · simp [kvDel, hak, g4]
      · right
        refine ⟨j + 1, v, e', by simpa using g0, g1, ?_, ?_, fun u => ?_, ?_⟩
        · simp only [Instr.findNow, h1, hs, decide_eq_false hka]; rw [g2]; congr 3; omega
        · simp [kvGet, hak, g3]
        · simp [kvPut, hak, h1, h2, g4 u]
        · simp [kvDel, hak, h1, h2, g5]
theorem run_checkKeyS {P : Program} {kt : TypeId} {d : TypeDesc} {b : Bool} {v : Value} (n : Nat) (hu : P.underlying kt = some d) (hd : plainKey d = true) : (Instr.checkKey b (n + 1) kt v).run P w = .ok () w := by
  cases d <;> simp [plainKey] at hd <;> simp [Instr.checkKey, run_und hu]
theorem run_checkKey {P : Program} {kt : TypeId} {d : TypeDesc} {b : Bool} {v : Value} (hu : P.underlying kt = some d) (hd : plainKey d = true) : (Instr.checkKey b 10000 kt v).run P w = .ok () w := run_checkKeyS 9999 hu hd
theorem run_getMap {P : Program} {es : Array MapEntry} {cl : Nat} (h : w.heap[r]? = some (.map es cl)) : (getObj r).run P w = .ok (.map es cl) w := by simp [getObj, Sem.run, h]
theorem run_setMap {P : Program} {es : Array MapEntry} {cl : Nat} {o' : Obj} (h : w.heap[r]? = some (.map es cl)) : (setObj r o').run P w = .ok () (setBlk w r o') := by simp [setObj, Sem.run, h, setBlk]
theorem run_findKey {P : Program} {kt : TypeId} {d : TypeDesc} {k : Value} {es : List MapEntry} {res : Option (Nat × Value)} (hu : P.underlying kt = some d) (h : Instr.findNow d k es 0 = some res) : (Instr.findKey kt k es).run P w = .ok res w := by
  simp [Instr.findKey, run_und hu, h]
theorem run_lookup {P : Program} {t kt et : TypeId} {z : Value} {co : Bool} {k : κ} (hu : P.underlying t = some (.map kt et)) (hK : Keys P kt kenc) (hz : zeroOf P et = some z) (h : MapAt kenc venc w r kv) :
    (Instr.lookup t (.map (some r)) (kenc k) co).run P w = .ok (bif co then .tuple #[((kvGet kv k).map venc).getD z, .bool (kvGet kv k).isSome] else ((kvGet kv k).map venc).getD z) w := by
  obtain ⟨es, cl, hb, hes, _, _⟩ := h
  obtain ⟨d, hd, hnow, hsafe⟩ := hK.now
  simp only [Instr.lookup, Sem.run_bind, run_und hu, Result.andThen_ok, run_getMap hb, Sem.run_pure, run_checkKey hd hsafe]
  rcases findNow_spec hnow k es.toList kv 0 hes with ⟨h1, h2, _⟩ | ⟨j, v, e, _, _, h1, h2, _⟩
  · simp only [run_findKey hd h1, Result.andThen_ok, run_zeroValue hz, Sem.run_bind, Sem.run_pure, h2]
    cases co <;> rfl
  · simp only [run_findKey hd h1, Result.andThen_ok, Sem.run_pure, h2]
    cases co <;> rfl
theorem run_lookupNil {P : Program} {t kt et : TypeId} {z : Value} {co : Bool} {k : κ} (hu : P.underlying t = some (.map kt et)) (hK : Keys P kt kenc) (hz : zeroOf P et = some z) :
    (Instr.lookup t (.map none) (kenc k) co).run P w = .ok (bif co then .tuple #[z, .bool false] else z) w := by
  obtain ⟨d, hd, hnow, hsafe⟩ := hK.now
  simp only [Instr.lookup, Sem.run_bind, run_und hu, Result.andThen_ok, Sem.run_pure, run_checkKey hd hsafe]
  have h1 : Instr.findNow d (kenc k) (#[] : Array MapEntry).toList 0 = some none := rfl
  simp only [run_findKey hd h1, Result.andThen_ok, run_zeroValue hz, Sem.run_bind, Sem.run_pure]
  cases co <;> rfl
theorem born_modify (l : List MapEntry) (j : Nat) (k v : Value) : (l.modify j fun e => { e with key := k, val := v }).map (·.born) = l.map (·.born) := by
  induction l generalizing j with
  | nil => cases j <;> rfl
  | cons a l ih => cases j with
    | zero => simp
    | succ j => simp [ih]
theorem mem_born {l l' : List MapEntry} {cl : Nat} (h : l'.map (·.born) = l.map (·.born)) (hl : ∀ e ∈ l, e.born < cl) : ∀ e ∈ l', e.born < cl := fun e he => by
  have : e.born ∈ l'.map (·.born) := List.mem_map.2 ⟨e, he, rfl⟩
  rw [h] at this
  obtain ⟨e', he', h'⟩ := List.mem_map.1 this
  rw [← h']; exact hl e' he'
theorem run_mapUpdate {P : Program} {t kt et : TypeId} {k : κ} {u : β} (hu : P.underlying t = some (.map kt et)) (hK : Keys P kt kenc) (h : MapAt kenc venc w r kv) :
    ∃ w', (Instr.mapUpdate t (.map (some r)) (kenc k) (venc u)).run P w = .ok () w' ∧ MapAt kenc venc w' r (kvPut kv k u) ∧ St r w w' := by
  obtain ⟨es, cl, hb, hes, hpw, hcl⟩ := h
  obtain ⟨d, hd, hnow, hsafe⟩ := hK.now
  rcases findNow_spec hnow k es.toList kv 0 hes with ⟨h1, _, h3, _⟩ | ⟨j, v, e, h0, hek, h1, _, h4, _⟩
  · refine ⟨setBlk w r (.map (es.push { key := kenc k, val := venc u, born := cl }) (cl + 1)), ?_, ⟨_, _, setBlk_same (blk_lt hb), ?_, ?_, ?_⟩, St.set _ _ _⟩
    · simp only [Instr.mapUpdate, Sem.run_bind, run_und hu, Result.andThen_ok, run_getMap hb, run_checkKey hd hsafe, run_findKey hd h1, run_setMap hb]
    · rw [h3]; simp [hes]
    · simp only [Array.toList_push, List.map_append, List.map_cons, List.map_nil]
      rw [List.pairwise_append]
      refine ⟨hpw, by simp, fun a ha b hb => ?_⟩
      obtain ⟨e, he, rfl⟩ := List.mem_map.1 ha
      rw [List.mem_singleton.1 hb]
      exact hcl e he
    · intro e he
      rcases List.mem_append.1 (by simpa using he : e ∈ es.toList ++ [_]) with h | h
      · have := hcl e h; omega
      · rw [List.mem_singleton.1 h]; show cl < cl + 1; omega
  · have hje : es[0 + j]? = some e := by rw [Nat.zero_add, ← Array.getElem?_toList]; exact h0
    have hstay : (Instr.keyThatStays (((es[0 + j]?).map (·.key)).getD (kenc k)) (kenc k)).run P w = .ok (kenc k) w := by
      rw [hje]
      simp only [Option.map_some, Option.getD_some, hek, Instr.keyThatStays, hK.bits, if_true, Sem.run_pure]
    refine ⟨setBlk w r (.map (es.modify (0 + j) fun e => { e with key := kenc k, val := venc u }) cl), ?_, ⟨_, _, setBlk_same (blk_lt hb), ?_, ?_, ?_⟩, St.set _ _ _⟩
    · simp only [Instr.mapUpdate, Sem.run_bind, run_und hu, Result.andThen_ok, run_getMap hb, run_checkKey hd hsafe, run_findKey hd h1, hstay, run_setMap hb]
    · rw [Array.toList_modify, Nat.zero_add]; exact h4 u
    · rw [Array.toList_modify, born_modify]; exact hpw
    · rw [Array.toList_modify]; exact mem_born (born_modify _ _ _ _) hcl
theorem run_delete {P : Program} {t kt et ty : TypeId} {k : κ} {ats : Array TypeId} (hat : ats[0]? = some t) (hu : P.underlying t = some (.map kt et)) (hK : Keys P kt kenc) (h : MapAt kenc venc w r kv) :
    ∃ w', (Builtin.delete_ ats ty #[.map (some r), kenc k]).run P w = .ok (.tuple #[]) w' ∧ MapAt kenc venc w' r (kvDel kv k) ∧ St r w w' := by
  obtain ⟨es, cl, hb, hes, hpw, hcl⟩ := h
  obtain ⟨d, hd, hnow, hsafe⟩ := hK.now
  rcases findNow_spec hnow k es.toList kv 0 hes with ⟨h1, _, _, h3⟩ | ⟨j, v, e, h0, hek, h1, _, _, h4⟩
  · refine ⟨setBlk w r (.map es cl), ?_, ⟨es, cl, setBlk_same (blk_lt hb), by rw [h3]; exact hes, hpw, hcl⟩, St.set _ _ _⟩
    unfold Builtin.delete_
    rw [hat]
    simp only [List.getElem?_toArray, List.getElem?_cons_zero, List.getElem?_cons_succ, Sem.run_bind, run_und hu, Result.andThen_ok, run_getMap hb, run_checkKey hd hsafe, run_findKey hd h1, run_setMap hb, Sem.run_pure]
  · have hj : j < es.size := by have := (List.getElem?_eq_some_iff.1 h0).1; simpa using this
    have hl : (es.eraseIdxIfInBounds (0 + j)).toList = es.toList.eraseIdx j := by
      rw [Nat.zero_add, Array.eraseIdxIfInBounds, dif_pos hj, Array.toList_eraseIdx]
    refine ⟨setBlk w r (.map (es.eraseIdxIfInBounds (0 + j)) cl), ?_, ⟨_, cl, setBlk_same (blk_lt hb), by rw [hl]; exact h4, by rw [hl]; exact hpw.sublist ((List.eraseIdx_sublist _ _).map _), fun e he => hcl e (by rw [hl] at he; exact List.mem_of_mem_eraseIdx he)⟩, St.set _ _ _⟩
    unfold Builtin.delete_
    rw [hat]
    simp only [List.getElem?_toArray, List.getElem?_cons_zero, List.getElem?_cons_succ, Sem.run_bind, run_und hu, Result.andThen_ok, run_getMap hb, run_checkKey hd hsafe, run_findKey hd h1, run_setMap hb, Sem.run_pure]

/-! ### the operations -/
variable {P : Program} {n : Sz} {K : SF → World → Prop} {σ : SF} {ops : Array Oper} {l : List Oper} {ty : TypeId} {pos : String} {af : Array Edge} {d : Option Tmp} {gd : Option (Nat × Bool)}
theorem r_lookup2 {t kt et : TypeId} {z : Value} {x y : Operand} {k : κ} (hu : P.underlying t = some (.map kt et)) (hK : Keys P kt kenc) (hz : zeroOf P et = some z) (hx : ev σ x = .map (some r)) (hy : ev σ y = kenc k) (h : MapAt kenc venc w r kv) :
    Run P ⟨d, .lookup t x y true, ty, pos, af, gd⟩ n σ w (.tuple #[((kvGet kv k).map venc).getD z, .bool (kvGet kv k).isSome]) w := fun a ha => by
  have := run_lookup (co := true) (k := k) hu hK hz h
  simp [execOp, ha.eval, hx, hy, this]
theorem r_lookup1 {t kt et : TypeId} {z : Value} {x y : Operand} {k : κ} (hu : P.underlying t = some (.map kt et)) (hK : Keys P kt kenc) (hz : zeroOf P et = some z) (hx : ev σ x = .map (some r)) (hy : ev σ y = kenc k) (h : MapAt kenc venc w r kv) :
    Run P ⟨d, .lookup t x y false, ty, pos, af, gd⟩ n σ w (((kvGet kv k).map venc).getD z) w := fun a ha => by
  have := run_lookup (co := false) (k := k) hu hK hz h
  simp [execOp, ha.eval, hx, hy, this]
theorem gl_mapUpdate {t kt et : TypeId} {x y v : Operand} {k : κ} {u : β} (hu : P.underlying t = some (.map kt et)) (hK : Keys P kt kenc) (hx : ev σ x = .map (some r)) (hy : ev σ y = kenc k) (hv : ev σ v = venc u) (hm : MapAt kenc venc w r kv)
    (h : ∀ w', MapAt kenc venc w' r (kvPut kv k u) → St r w w' → GL P n ops l K σ w') : GL P n ops (⟨none, .mapUpdate t x y v, ty, pos, af, none⟩ :: l) K σ w := by
  intro a ha
  refine wpList_plain rfl fun K hK' => ?_
  obtain ⟨w', h1, h2, h3⟩ := run_mapUpdate (k := k) (u := u) hu hK hm
  have : (execOp a.eval ⟨none, .mapUpdate t x y v, ty, pos, af, none⟩).run P w = .ok .skip w' := by
    simp [execOp, ha.eval, hx, hy, hv, h1]
  simp only [Oper.wp, this, Oper.upon]
  exact hK' _ _ (h _ h2 h3 _ ha)
theorem gl_delete {t t2 kt et : TypeId} {x y : Operand} {k : κ} (hu : P.underlying t = some (.map kt et)) (hK : Keys P kt kenc) (hx : ev σ x = .map (some r)) (hy : ev σ y = kenc k) (hm : MapAt kenc venc w r kv)
    (h : ∀ w', MapAt kenc venc w' r (kvDel kv k) → St r w w' → GL P n ops l K σ w') : GL P n ops (⟨none, .call { callee := .builtin .delete, args := #[x, y], argTypes := #[t, t2] }, ty, pos, af, none⟩ :: l) K σ w := by
  intro a ha
  refine wpList_plain rfl fun K hK' => ?_
  obtain ⟨w', h1, h2, h3⟩ := run_delete (k := k) (ty := ty) (ats := #[t, t2]) rfl hu hK hm
  have : (execOp a.eval ⟨none, .call { callee := .builtin .delete, args := #[x, y], argTypes := #[t, t2] }, ty, pos, af, none⟩).run P w = .ok (.value (.tuple #[])) w' := by
    simp only [execOp, resolve, Sem.run_bind, Sem.run_pure, Result.andThen_ok, invoke, List.map_toArray, List.map_cons, List.map_nil, ha.eval, hx, hy, builtin]
    rw [h1]; rfl
  simp only [Oper.wp, this, Oper.upon]
  exact hK' _ _ (h _ h2 h3 _ ha)
theorem gl_makeMap {d : Nat} {t : TypeId} (hd : Nat.blt d n.n = true) (h : ∀ b w', MapAt kenc venc w' b ([] : List (κ × β)) → b = w.heap.size → Pu w w' → GL P n ops l K (upd σ d (.map (some b))) w') :
    GL P n ops (⟨some d, .makeMap t none, ty, pos, af, none⟩ :: l) K σ w := by
  refine gl_op (v := .map (some w.heap.size)) (w' := w.alloc (.map #[] 0)) (fun a ha => ?_) hd (h _ _ ⟨#[], 0, alloc_new, rfl, by simp, fun e he => by simp at he⟩ rfl (Pu.alloc _))
  simp [execOp, Instr.makeMap]
end
end Go.GW
namespace Go.GW
open Go.RowKit
section
variable {κ β : Type} {kenc : κ → Value} {venc : β → Value} {w w' : World} {b r : Nat} {kv dn : List (κ × β)}
/-- The iterator b goes over the map r: dn came, cur last. -/
def IterAt {κ β : Type} (kenc : κ → Value) (venc : β → Value) (w : World) (b r : Nat) (kv dn : List (κ × β)) (cur : Option (κ × β)) : Prop :=
  ∃ (es : Array MapEntry) (cl since : Nat) (seen : Array Nat) (rest : List (κ × β)), w.heap[r]? = some (.map es cl) ∧ es.toList.map (fun e => (e.key, e.val)) = kv.map (fun p => (kenc p.1, venc p.2)) ∧ (es.toList.map (·.born)).Pairwise (· < ·) ∧ (∀ e ∈ es.toList, e.born < since) ∧ since ≤ cl ∧
    w.heap[b]? = some (.mapIter (some r) since seen cl) ∧ (leftOf es seen).toList.map (fun e => (e.key, e.val)) = rest.map (fun p => (kenc p.1, venc p.2)) ∧ (dn ++ rest).Perm kv ∧
    ∀ x, cur = some x → ∃ (e : MapEntry) (seen' : Array Nat), e ∈ es.toList ∧ seen = seen'.push e.born ∧ e.key = kenc x.1 ∧ e.val = venc x.2
theorem IterAt.keep {cur : Option (κ × β)} (h : IterAt kenc venc w b r kv dn cur) (h1 : ∀ o, w.heap[b]? = some o → w'.heap[b]? = some o) (h2 : ∀ o, w.heap[r]? = some o → w'.heap[r]? = some o) : IterAt kenc venc w' b r kv dn cur := by
  obtain ⟨es, cl, since, seen, rest, hr, a1, a2, a3, a4, hb, a5, a6, a7⟩ := h
  exact ⟨es, cl, since, seen, rest, h2 _ hr, a1, a2, a3, a4, h1 _ hb, a5, a6, a7⟩
theorem IterAt.pu {cur : Option (κ × β)} (h : IterAt kenc venc w b r kv dn cur) (s : Pu w w') : IterAt kenc venc w' b r kv dn cur := h.keep (fun _ ho => s.blk ho) (fun _ ho => s.blk ho)
variable {P : Program} {n : Sz} {K : SF → World → Prop} {σ : SF} {ops : Array Oper} {l : List Oper} {ty : TypeId} {pos : String} {af : Array Edge} {d : Nat}
theorem gl_range {t kt et : TypeId} {x : Operand} (hu : P.underlying t = some (.map kt et)) (hx : ev σ x = .map (some r)) (hm : MapAt kenc venc w r kv) (hd : Nat.blt d n.n = true)
    (h : ∀ b w', IterAt kenc venc w' b r kv [] none → b = w.heap.size → Pu w w' → GL P n ops l K (upd σ d (.pointer (some ⟨b, 0, none⟩))) w') : GL P n ops (⟨some d, .range t x, ty, pos, af, none⟩ :: l) K σ w := by
  obtain ⟨es, cl, hb, hes, hpw, hcl⟩ := hm
  refine gl_op (v := .pointer (some ⟨w.heap.size, 0, none⟩)) (w' := w.alloc (.mapIter (some r) cl #[] cl)) (fun a ha => ?_) hd (h _ _ ⟨es, cl, cl, #[], kv, alloc_old hb, hes, hpw, hcl, Nat.le_refl _, alloc_new, ?_, by simp, fun x hx => by cases hx⟩ rfl (Pu.alloc _))
  · simp [execOp, ha.eval, hx, Instr.range, run_und hu, run_getMap hb]
  · rw [← hes]; congr 1; simp [leftOf]
theorem perm_step {α : Type} {dn rest kv : List α} {i : Nat} {x : α} (h : (dn ++ rest).Perm kv) (hi : rest[i]? = some x) : (dn ++ [x] ++ rest.eraseIdx i).Perm kv := by
  refine List.Perm.trans ?_ h
  rw [List.append_assoc]
  refine List.Perm.append_left dn ?_
  obtain ⟨hlt, rfl⟩ := List.getElem?_eq_some_iff.1 hi
  have : rest = rest.take i ++ rest[i] :: rest.drop (i + 1) := by rw [← List.drop_eq_getElem_cons hlt, List.take_append_drop]
  rw [List.eraseIdx_eq_take_drop_succ]
  conv => rhs; rw [this]
  show (rest[i] :: (rest.take i ++ rest.drop (i + 1))).Perm _
  exact List.perm_middle.symm
theorem filter_erase : ∀ {L : List MapEntry} {e : MapEntry} {i : Nat}, L[i]? = some e → (L.map (·.born)).Pairwise (· < ·) → L.filter (fun x => !(x.born == e.born)) = L.eraseIdx i
  | [], e, i, h, _ => by simp at h
  | a :: L, e, i, h, hp => by
    simp only [List.map_cons, List.pairwise_cons] at hp
    cases i with
    | zero =>
      have : a = e := by simpa using h
      subst this
      rw [List.filter_cons_of_neg (by simp), List.eraseIdx_zero, List.tail_cons]
      refine List.filter_eq_self.2 fun x hx => ?_
      have := hp.1 x.born (List.mem_map.2 ⟨x, hx, rfl⟩)
      simp; omega
    | succ i =>
      have hi : L[i]? = some e := by simpa using h
      have := hp.1 e.born (List.mem_map.2 ⟨e, List.mem_of_getElem? hi, rfl⟩)
      rw [List.filter_cons_of_pos (by simp; omega), List.eraseIdx_cons_succ, filter_erase hi hp.2]
/-- the next one, whichever it is -/
theorem gl_next {x : Operand} {cur : Option (κ × β)} (hx : ev σ x = .pointer (some ⟨b, 0, none⟩)) (hm : IterAt kenc venc w b r kv dn cur) (hd : Nat.blt d n.n = true)
    (h0 : dn.Perm kv → GL P n ops l K (upd σ d (.tuple #[.bool false])) w)
    (h : ∀ (p : κ × β) w', (dn ++ [p]).length ≤ kv.length → p ∈ kv → IterAt kenc venc w' b r kv (dn ++ [p]) (some p) → (∀ c, c ≠ b → w'.heap[c]? = w.heap[c]?) → Fr noD (fun c => c = b) w w' → GL P n ops l K (upd σ d (.tuple #[.bool true, kenc p.1, venc p.2])) w') :
    GL P n ops (⟨some d, .next x false, ty, pos, af, none⟩ :: l) K σ w := by
  obtain ⟨es, cl, since, seen, rest, hr, hes, hpw, hold, hsc, hb, hleft, hperm, _⟩ := hm
  rcases run_next_at (P := P) w ty b r since cl seen es cl hb hr hold hsc with ⟨hz, hrun⟩ | ⟨e, he, w1, hw1, hrun⟩
  · have : rest = [] := by
      have h1 : (leftOf es seen).toList = [] := by apply List.eq_nil_of_length_eq_zero; simpa using hz
      rw [h1] at hleft
      cases rest with
      | nil => rfl
      | cons a r => simp at hleft
    subst this
    rw [List.append_nil] at hperm
    exact gl_op (fun a ha => by simp only [execOp, ha.eval, hx, Sem.run_bind, hrun, Result.andThen_ok, Sem.run_pure]) hd (h0 hperm)
  · obtain ⟨i, hi⟩ := List.getElem?_of_mem he
    have hri := congrArg (fun (l : List (Value × Value)) => l[i]?) hleft
    simp only [List.getElem?_map, hi, Option.map_some] at hri
    obtain ⟨p, hp⟩ : ∃ p, rest[i]? = some p := by
      cases hh : rest[i]? with
      | none => rw [hh] at hri; cases hri
      | some p => exact ⟨p, rfl⟩
    rw [hp] at hri
    simp only [Option.map_some, Option.some.injEq, Prod.mk.injEq] at hri
    have hst := perm_step hperm hp
    have hp1 : Pu w w1 := by rcases hw1 with rfl | rfl; exact Pu.refl; exact Pu.drew
    have hh1 : w1.heap = w.heap := by rcases hw1 with rfl | rfl <;> rfl
    have hbl := blk_lt hb
    have hrb : r ≠ b := fun e => by subst e; rw [hr] at hb; cases hb
    have hsame : Go.ChangeMaps.setBlock w1 b (.mapIter (some r) since (seen.push e.born) cl) = setBlk w1 b (.mapIter (some r) since (seen.push e.born) cl) := rfl
    have hes2 : e ∈ es.toList := by
      have : e ∈ (Array.filter (fun e => !seen.contains e.born) es).toList := he
      simp at this
      simpa using this.1
    have hoth : ∀ c, c ≠ b → (setBlk w1 b (.mapIter (some r) since (seen.push e.born) cl)).heap[c]? = w.heap[c]? := fun c hc => by rw [setBlk_ne hc, hh1]
    have hcl : since ≤ cl ∨ True := .inr trivial
    refine gl_op (v := .tuple #[.bool true, kenc p.1, venc p.2]) (w' := setBlk w1 b (.mapIter (some r) since (seen.push e.born) cl)) (fun a ha => ?_) hd (h p _ ?_ ?_ ⟨es, cl, since, seen.push e.born, rest.eraseIdx i, ?_, hes, hpw, hold, hsc, ?_, ?_, hst, ?_⟩ hoth ?_)
    · simp only [execOp, ha.eval, hx, Sem.run_bind, hrun, Result.andThen_ok, Sem.run_pure]
      rw [hri.1, hri.2, hsame]
    · have := hst.length_eq; simp at this ⊢; omega
    · exact hst.mem_iff.1 (by simp)
    · rw [hoth r hrb]; exact hr
    · exact setBlk_same (by rw [hh1]; exact hbl)
    · have hl2 : (leftOf es (seen.push e.born)).toList = (leftOf es seen).toList.eraseIdx i := by
        have hpl : ((leftOf es seen).toList.map (·.born)).Pairwise (· < ·) := by
          refine hpw.sublist ?_
          unfold leftOf
          rw [Array.toList_filter]
          exact (List.filter_sublist).map _
        rw [← filter_erase hi hpl]
        unfold leftOf
        rw [Array.toList_filter, Array.toList_filter, List.filter_filter]
        congr 1
        funext y
        by_cases hye : y.born = e.born
        · simp [hye]
        · have : ¬ e.born = y.born := fun h => hye h.symm
          simp [hye, this]
      rw [hl2, Go.ChangeMaps.map_eraseIdx, hleft, Go.ChangeMaps.map_eraseIdx]
    · rintro x hx
      injection hx with hx; subst hx
      exact ⟨e, seen, hes2, rfl, hri.1, hri.2⟩
    · exact ⟨hp1.os, hp1.tape, hp1.output, by rw [setBlk_size]; exact hp1.size, fun c _ hc => hoth c hc, fun _ _ _ _ h => by cases h⟩
theorem r_entry {d : Option Tmp} {gd : Option (Nat × Bool)} {x : Operand} {p : κ × β} (hx : ev σ x = .pointer (some ⟨b, 0, none⟩)) (hm : IterAt kenc venc w b r kv dn (some p)) : Run P ⟨d, .entry x, ty, pos, af, gd⟩ n σ w (.tuple #[kenc p.1, venc p.2]) w := fun a ha => by
  obtain ⟨es, cl, since, seen, rest, hr, hes, hpw, hold, hsc, hb, hleft, hperm, hc⟩ := hm
  obtain ⟨e, seen', he, rfl, hk, hv⟩ := hc p rfl
  have := run_entry_at (P := P) w b r since seen' es cl e hb hr he (hpw.imp (fun h => by omega))
  simp only [execOp, ha.eval, hx, Sem.run_bind, this, Result.andThen_ok, Sem.run_pure, hk, hv]
end
end Go.GW
namespace Go.GW
open Go.RowKit

theorem blkNe {w : World} {b c : Nat} {cs cs' : Array Value} {T T' : TypeId} {fr fr' : Nat × Nat} (h1 : w.heap[b]? = some (.cells cs T fr)) (h2 : w.heap[c]? = some (.cells cs' T' fr')) (h : T ≠ T') : b ≠ c := fun e => by
  subst e
  rw [h1] at h2
  injection h2 with h2
  injection h2 with _ h2
  exact h h2
/-! ## what calls on an object leave: of old things only the object's own have turned -/
/-- M: the types of the object's cells; all its own lies from base on; bn: its map that is written in place -/
def Own (M : TypeId → Bool) (base bn : Nat) (w : World) (b : Nat) : Prop := base ≤ b ∧ (b = bn ∨ ∃ cs T fr, w.heap[b]? = some (.cells cs T fr) ∧ M T = true)
abbrev nD (M : TypeId → Bool) : TypeId → Bool := fun T => !M T
def Mv (M : TypeId → Bool) (base bn : Nat) (w w' : World) : Prop := Fr (nD M) (Own M base bn w) w w'
section
variable {M M' : TypeId → Bool} {base bn : Nat} {w w0 w' w'' : World}
theorem Mv.size (h : Mv M base bn w w') : w.heap.size ≤ w'.heap.size := Fr.size h
theorem Mv.refl : Mv M base bn w w := Fr.refl
theorem Pu.mv (h : Pu w w') : Mv M base bn w w' := h.fr
theorem Mv.trans (h : Mv M base bn w w') (k : Mv M base bn w' w'') : Mv M base bn w w'' := by
  refine Fr.trans h k fun b hb hF => Classical.byContradiction fun hn => ?_
  obtain ⟨h1, h2 | ⟨cs, T, fr, h2, h3⟩⟩ := hF
  · exact hn ⟨h1, .inl h2⟩
  · rw [Fr.keep h b hb hn] at h2
    exact hn ⟨h1, .inr ⟨cs, T, fr, h2, h3⟩⟩
theorem Mv.weaken (h : Mv M base bn w w') (hM : ∀ T, M T = true → M' T = true) : Mv M' base bn w w' :=
  ⟨h.os, h.tape, h.output, Fr.size h, fun b hb hn => Fr.keep h b hb fun hf => hn ⟨hf.1, hf.2.imp id fun ⟨cs, T, fr, h2, h3⟩ => ⟨cs, T, fr, h2, hM T h3⟩⟩, fun b cs T fr hT hb => Fr.data h b cs T fr (by
    cases hm : M T with
    | false => simp [nD, hm]
    | true => simp [nD, hM T hm] at hT) hb⟩
theorem Mv.thenPu (h : Mv M base bn w w') (s : Pu w' w'') : Mv M base bn w w'' := Mv.trans h s.mv
theorem Mv.pu (h : Mv M base bn w w') (hb : w.heap.size ≤ base) : Pu w w' :=
  ⟨h.os, h.tape, h.output, Fr.size h, fun b hlt => Fr.keep h b hlt fun hf => by have := hf.1; omega⟩
theorem Mv.puOf (h : Mv M base bn w w') (h0 : Pu w0 w) (hb : w0.heap.size ≤ base) : Pu w0 w' :=
  Fr.puOf h0 h fun b hf => by have := hf.1; omega
theorem Mv.cells (h : Mv M base bn w w') {b : Nat} {cs : Array Value} {T : TypeId} {fr : Nat × Nat} (hb : w.heap[b]? = some (.cells cs T fr)) (hT : nD M T = true) : w'.heap[b]? = some (.cells cs T fr) := Fr.data h b cs T fr hT hb
theorem Mv.obj (h : Mv M base bn w w') {b : Nat} {o : Obj} (hb : w.heap[b]? = some o) (hne : b ≠ bn) (ho : (match o with | .cells _ _ _ => false | _ => true) = true) : w'.heap[b]? = some o :=
  (Fr.keep h b (blk_lt hb) (by
    rintro ⟨_, h2 | ⟨cs, T, fr, h2, _⟩⟩
    · exact hne h2
    · rw [hb] at h2; injection h2 with h2; subst h2; cases ho)).trans hb
theorem Mv.dk (h : Mv M base bn w w') : Dk (nD M) w w' := Fr.data h
theorem Mv.st {b : Nat} {cs : Array Value} {T : TypeId} {fr : Nat × Nat} (h : Mv M base bn w w') (s : St b w' w'') (hb : w'.heap[b]? = some (.cells cs T fr)) (hT : M T = true) (hle : base ≤ b) : Mv M base bn w w'' :=
  Mv.trans h (s.fr hb (by simp [nD, hT]) ⟨hle, .inr ⟨cs, T, fr, hb, hT⟩⟩)
theorem Mv.stNew {b : Nat} (h : Mv M base bn w w') (s : St b w' w'') (hb : w.heap.size ≤ b) : Mv M base bn w w'' :=
  ⟨s.os.trans h.os, s.tape.trans h.tape, s.output.trans h.output, by rw [s.size]; exact Fr.size h, fun c hc hn => (s.other c (by omega)).trans (Fr.keep h c hc hn),
    fun c cs T fr hT hc => by
      have := blk_lt hc
      exact (s.other c (by omega)).trans (Fr.data h c cs T fr hT hc)⟩
theorem Mv.stMap {es : Array MapEntry} {cl : Nat} (h : Mv M base bn w w') (s : St bn w' w'') (hb : w'.heap[bn]? = some (.map es cl)) (hle : base ≤ bn) : Mv M base bn w w'' :=
  Mv.trans h ⟨s.os, s.tape, s.output, by rw [s.size]; exact Nat.le_refl _, fun c _ hn => s.other c (fun e => hn ⟨e ▸ hle, .inl e⟩), fun c cs T fr _ hc => by
    have : c ≠ bn := fun e => by subst e; rw [hb] at hc; cases hc
    exact (s.other c this).trans hc⟩
theorem Mv.gr {A : Option Addr} {T : TypeId} {sz n c b0 : Nat} {xs : List Value} (h : Mv M base bn w w') (g : Grow A w' w'') (hr : Row w' b0 T sz A n c xs) (hT : M T = true) (hA : ∀ ad, A = some ad → base ≤ ad.block) : Mv M base bn w w'' :=
  Mv.trans h ⟨g.os, g.tape, g.output, g.size, fun k hk hn => g.block k hk fun ad e he => hn ⟨he ▸ hA ad e, .inr (by
      rcases hr.form with ⟨h1, _⟩ | ⟨g', cur, h1, _, hg, _⟩
      · rw [h1] at e; cases e
      · rw [h1] at e; injection e with e; subst e; subst he
        exact ⟨_, _, _, hg, hT⟩)⟩, g.dk hr (by simp [nD, hT])⟩
theorem Mv.grNew {A : Option Addr} (h : Mv M base bn w w') (g : Grow A w' w'') (hA : ∀ ad, A = some ad → w.heap.size ≤ ad.block) : Mv M base bn w w'' :=
  ⟨g.os.trans h.os, g.tape.trans h.tape, g.output.trans h.output, Nat.le_trans (Fr.size h) g.size, fun c hc hn => (g.block c (Nat.lt_of_lt_of_le hc (Fr.size h)) (fun ad e he => by have := hA ad e; omega)).trans (Fr.keep h c hc hn),
    fun c cs T fr hT hc => by
      have := blk_lt hc
      exact (g.block c (Nat.lt_of_lt_of_le this (Fr.size h)) (fun ad e he => by have := hA ad e; omega)).trans (Fr.data h c cs T fr hT hc)⟩
end
section
variable {M : TypeId → Bool} {base bn : Nat} {w w' : World} {T : TypeId} {sz n c b0 : Nat} {A : Option Addr} {xs : List Value}
theorem Sl.mv (h : Sl w T sz A n xs) (m : Mv M base bn w w') (hT : nD M T = true) : Sl w' T sz A n xs := h.dk (Mv.dk m) hT
theorem Row.dk {D : TypeId → Bool} (h : Row w b0 T sz A n c xs) (hd : Dk D w w') (hT : D T = true) : Row w' b0 T sz A n c xs := by
  refine ⟨h.1, ?_⟩
  rcases h.2 with h2 | ⟨g, cap, cur, hv, hg, hb, r⟩
  · exact .inl h2
  · exact .inr ⟨g, cap, cur, hv, hg, hd _ _ _ _ hT hb, r⟩
theorem Row.mv (h : Row w b0 T sz A n c xs) (m : Mv M base bn w w') (hT : nD M T = true) : Row w' b0 T sz A n c xs := h.dk (Mv.dk m) hT
theorem Row.stT {b : Nat} {cs : Array Value} {T' : TypeId} {fr : Nat × Nat} (h : Row w b0 T sz A n c xs) (s : St b w w') (hb : w.heap[b]? = some (.cells cs T' fr)) (hT : Nat.beq T' T = false) : Row w' b0 T sz A n c xs :=
  h.dk (D := fun t => !Nat.beq T' t) (s.dk hb (by simp)) (by simp [hT])
theorem Sl.stT {b : Nat} {cs : Array Value} {T' : TypeId} {fr : Nat × Nat} (h : Sl w T sz A n xs) (s : St b w w') (hb : w.heap[b]? = some (.cells cs T' fr)) (hT : Nat.beq T' T = false) : Sl w' T sz A n xs :=
  h.dk (D := fun t => !Nat.beq T' t) (s.dk hb (by simp)) (by simp [hT])
/-- a step on another thing than cells -/
theorem St.dkObj {D : TypeId → Bool} {b : Nat} {o : Obj} (s : St b w w') (hb : w.heap[b]? = some o) (ho : (match o with | .cells _ _ _ => false | _ => true) = true) : Dk D w w' := fun c cs T fr _ hc =>
  (s.other c (fun e => by subst e; rw [hb] at hc; injection hc with hc; subst hc; cases ho)).trans hc
/-- an append leaves the cells of other types -/
theorem Grow.dkT {A' : Option Addr} {T' : TypeId} {sz' n' c' b1 : Nat} {ys : List Value} (g : Grow A' w w') (hr : Row w b1 T' sz' A' n' c' ys) : Dk (fun t => !Nat.beq T' t) w w' := g.dk hr (by simp)
theorem Grow.obj {A' : Option Addr} {T' : TypeId} {sz' n' c' b1 : Nat} {ys : List Value} (g : Grow A' w w') (hr : Row w b1 T' sz' A' n' c' ys) {b : Nat} {o : Obj} (hb : w.heap[b]? = some o) (ho : (match o with | .cells _ _ _ => false | _ => true) = true) : w'.heap[b]? = some o :=
  g.blk hb fun ad e he => by
    rcases hr.form with ⟨h1, _⟩ | ⟨g', cur, h1, _, hg, _⟩
    · rw [h1] at e; cases e
    · rw [h1] at e; injection e with e; subst e; subst he
      rw [hg] at hb; injection hb with hb; subst hb; cases ho
/-- cells of these types, and all that is not cells, stay: what an object needs -/
structure Kp (D : TypeId → Bool) (w w' : World) : Prop where
  dk : Dk D w w'
  maps : ∀ (b : Nat) (es : Array MapEntry) (cl : Nat), w.heap[b]? = some (Obj.map es cl) → w'.heap[b]? = some (Obj.map es cl)
theorem Pu.kp {D : TypeId → Bool} (h : Pu w w') : Kp D w w' := ⟨h.dk, fun _ _ _ hb => h.blk hb⟩
theorem St.kp {D : TypeId → Bool} {b : Nat} {cs : Array Value} {T : TypeId} {fr : Nat × Nat} (s : St b w w') (hb : w.heap[b]? = some (.cells cs T fr)) (hT : D T = false) : Kp D w w' :=
  ⟨s.dk hb hT, fun c es cl hc => (s.other c (fun e => by subst e; rw [hb] at hc; cases hc)).trans hc⟩
theorem Grow.kp {D : TypeId → Bool} {A' : Option Addr} {T' : TypeId} {sz' n' c' b1 : Nat} {ys : List Value} (g : Grow A' w w') (hr : Row w b1 T' sz' A' n' c' ys) (hT : D T' = false) : Kp D w w' :=
  ⟨g.dk hr hT, fun _ _ _ hc => g.obj hr hc rfl⟩
theorem Kp.weaken {D D' : TypeId → Bool} (h : Kp D w w') (hD : ∀ T, D' T = true → D T = true) : Kp D' w w' := ⟨fun b cs T fr hT hb => h.dk b cs T fr (hD T hT) hb, h.maps⟩
theorem Kp.trans {D : TypeId → Bool} {w'' : World} (h : Kp D w w') (k : Kp D w' w'') : Kp D w w'' := ⟨h.dk.trans k.dk, fun _ _ _ hb => k.maps _ _ _ (h.maps _ _ _ hb)⟩
theorem MapAt.kp {D : TypeId → Bool} {κ β : Type} {kenc : κ → Value} {venc : β → Value} {r : Nat} {kv : List (κ × β)} (h : MapAt kenc venc w r kv) (k : Kp D w w') : MapAt kenc venc w' r kv := by
  obtain ⟨es, cl, h1, h2⟩ := h
  exact ⟨es, cl, k.maps _ _ _ h1, h2⟩
theorem Row.kp {D : TypeId → Bool} (h : Row w b0 T sz A n c xs) (k : Kp D w w') (hT : D T = true) : Row w' b0 T sz A n c xs := h.dk k.dk hT
theorem MapAt.blk {κ β : Type} {kenc : κ → Value} {venc : β → Value} {r : Nat} {kv : List (κ × β)} (h : MapAt kenc venc w r kv) : ∃ es cl, w.heap[r]? = some (.map es cl) := by
  obtain ⟨es, cl, hb, _⟩ := h
  exact ⟨es, cl, hb⟩
end
end Go.GW
namespace Go.GW
open Go.Proofs
theorem mixed : Tryz.prog.follows .mixedOrders = true := by kernel_rfl
theorem ld2 : ldOf Tryz.prog 2 = some (none) := by kernel_rfl
theorem sz2 : szOf Tryz.prog 2 = some 1 := by kernel_rfl
theorem ze2 : zeroOf Tryz.prog 2 = some (.int .i64 0) := by kernel_rfl
theorem ld3 : ldOf Tryz.prog 3 = some (none) := by kernel_rfl
theorem sz3 : szOf Tryz.prog 3 = some 1 := by kernel_rfl
theorem ze3 : zeroOf Tryz.prog 3 = some (.int .i64 0) := by kernel_rfl
theorem ld4 : ldOf Tryz.prog 4 = some (none) := by kernel_rfl
theorem by5 : byOf Tryz.prog 5 = some 1 := by kernel_rfl
theorem sz5 : szOf Tryz.prog 5 = some 1 := by kernel_rfl
theorem ze5 : zeroOf Tryz.prog 5 = some (.int .u8 0) := by kernel_rfl
theorem by9 : byOf Tryz.prog 9 = some 16 := by kernel_rfl
theorem ld9 : ldOf Tryz.prog 9 = some (none) := by kernel_rfl
theorem sz9 : szOf Tryz.prog 9 = some 1 := by kernel_rfl
theorem ze9 : zeroOf Tryz.prog 9 = some (.string ⟨#[]⟩) := by kernel_rfl
theorem by25 : byOf Tryz.prog 25 = some 40 := by kernel_rfl
theorem ld25 : ldOf Tryz.prog 25 = some (some 3) := by kernel_rfl
theorem of25_0 : offOf Tryz.prog 25 0 = some 0 := by kernel_rfl
theorem of25_1 : offOf Tryz.prog 25 1 = some 1 := by kernel_rfl
theorem of25_2 : offOf Tryz.prog 25 2 = some 2 := by kernel_rfl
theorem pl25 : placesOf Tryz.prog 25 = some ([.string ⟨#[]⟩, .string ⟨#[]⟩, .bool false], [(0, 1), (1, 1), (2, 1)]) := by kernel_rfl
theorem sz25 : szOf Tryz.prog 25 = some 3 := by kernel_rfl
theorem ze25 : zeroOf Tryz.prog 25 = some (.agg #[.string ⟨#[]⟩, .string ⟨#[]⟩, .bool false]) := by kernel_rfl
theorem by26 : byOf Tryz.prog 26 = some 8 := by kernel_rfl
theorem ld26 : ldOf Tryz.prog 26 = some (none) := by kernel_rfl
theorem sz26 : szOf Tryz.prog 26 = some 1 := by kernel_rfl
theorem ze26 : zeroOf Tryz.prog 26 = some (.int .u64 0) := by kernel_rfl
theorem ld28 : ldOf Tryz.prog 28 = some (none) := by kernel_rfl
theorem ld35 : ldOf Tryz.prog 35 = some (none) := by kernel_rfl
theorem sz35 : szOf Tryz.prog 35 = some 1 := by kernel_rfl
theorem ze35 : zeroOf Tryz.prog 35 = some (.slice none 0 0) := by kernel_rfl
theorem ld36 : ldOf Tryz.prog 36 = some (none) := by kernel_rfl
theorem sz36 : szOf Tryz.prog 36 = some 1 := by kernel_rfl
theorem by38 : byOf Tryz.prog 38 = some 48 := by kernel_rfl
theorem ld38 : ldOf Tryz.prog 38 = some (some 2) := by kernel_rfl
theorem of38_0 : offOf Tryz.prog 38 0 = some 0 := by kernel_rfl
theorem of38_1 : offOf Tryz.prog 38 1 = some 1 := by kernel_rfl
theorem pl38 : placesOf Tryz.prog 38 = some ([.slice none 0 0, .slice none 0 0], [(0, 1), (1, 1)]) := by kernel_rfl
theorem sz38 : szOf Tryz.prog 38 = some 2 := by kernel_rfl
theorem ze38 : zeroOf Tryz.prog 38 = some (.agg #[.slice none 0 0, .slice none 0 0]) := by kernel_rfl
theorem ld40 : ldOf Tryz.prog 40 = some (none) := by kernel_rfl
theorem of42_0 : offOf Tryz.prog 42 0 = some 0 := by kernel_rfl
theorem of42_1 : offOf Tryz.prog 42 1 = some 1 := by kernel_rfl
theorem of42_2 : offOf Tryz.prog 42 2 = some 2 := by kernel_rfl
theorem of42_3 : offOf Tryz.prog 42 3 = some 3 := by kernel_rfl
theorem sz42 : szOf Tryz.prog 42 = some 4 := by kernel_rfl
theorem by52 : byOf Tryz.prog 52 = some 48 := by kernel_rfl
theorem ld52 : ldOf Tryz.prog 52 = some (some 2) := by kernel_rfl
theorem of52_1 : offOf Tryz.prog 52 1 = some 1 := by kernel_rfl
theorem pl52 : placesOf Tryz.prog 52 = some ([.slice none 0 0, .slice none 0 0], [(0, 1), (1, 1)]) := by kernel_rfl
theorem sz52 : szOf Tryz.prog 52 = some 2 := by kernel_rfl
theorem ze52 : zeroOf Tryz.prog 52 = some (.agg #[.slice none 0 0, .slice none 0 0]) := by kernel_rfl
theorem ld57 : ldOf Tryz.prog 57 = some (none) := by kernel_rfl
theorem ld62 : ldOf Tryz.prog 62 = some (some 2) := by kernel_rfl
theorem of62_0 : offOf Tryz.prog 62 0 = some 0 := by kernel_rfl
theorem of62_1 : offOf Tryz.prog 62 1 = some 1 := by kernel_rfl
theorem pl62 : placesOf Tryz.prog 62 = some ([.int .i64 0, .int .i64 0], [(0, 1), (1, 1)]) := by kernel_rfl
theorem by64 : byOf Tryz.prog 64 = some 32 := by kernel_rfl
theorem ld64 : ldOf Tryz.prog 64 = some (some 2) := by kernel_rfl
theorem of64_0 : offOf Tryz.prog 64 0 = some 0 := by kernel_rfl
theorem of64_1 : offOf Tryz.prog 64 1 = some 1 := by kernel_rfl
theorem pl64 : placesOf Tryz.prog 64 = some ([.string ⟨#[]⟩, .string ⟨#[]⟩], [(0, 1), (1, 1)]) := by kernel_rfl
theorem sz64 : szOf Tryz.prog 64 = some 2 := by kernel_rfl
theorem ze64 : zeroOf Tryz.prog 64 = some (.agg #[.string ⟨#[]⟩, .string ⟨#[]⟩]) := by kernel_rfl
theorem by66 : byOf Tryz.prog 66 = some 16 := by kernel_rfl
theorem ld66 : ldOf Tryz.prog 66 = some (some 2) := by kernel_rfl
theorem of66_0 : offOf Tryz.prog 66 0 = some 0 := by kernel_rfl
theorem of66_1 : offOf Tryz.prog 66 1 = some 1 := by kernel_rfl
theorem pl66 : placesOf Tryz.prog 66 = some ([.int .u64 0, .int .i64 0], [(0, 1), (1, 1)]) := by kernel_rfl
theorem sz66 : szOf Tryz.prog 66 = some 2 := by kernel_rfl
theorem ze66 : zeroOf Tryz.prog 66 = some (.agg #[.int .u64 0, .int .i64 0]) := by kernel_rfl
theorem ld67 : ldOf Tryz.prog 67 = some (none) := by kernel_rfl
theorem sz67 : szOf Tryz.prog 67 = some 1 := by kernel_rfl
theorem ld70 : ldOf Tryz.prog 70 = some (none) := by kernel_rfl
theorem sz70 : szOf Tryz.prog 70 = some 1 := by kernel_rfl
theorem ld72 : ldOf Tryz.prog 72 = some (some 3) := by kernel_rfl
theorem of72_0 : offOf Tryz.prog 72 0 = some 0 := by kernel_rfl
theorem of72_1 : offOf Tryz.prog 72 1 = some 1 := by kernel_rfl
theorem of72_2 : offOf Tryz.prog 72 2 = some 2 := by kernel_rfl
theorem pl72 : placesOf Tryz.prog 72 = some ([.int .u64 0, .int .u64 0, .slice none 0 0], [(0, 1), (1, 1), (2, 1)]) := by kernel_rfl
theorem sz72 : szOf Tryz.prog 72 = some 3 := by kernel_rfl
theorem ze72 : zeroOf Tryz.prog 72 = some (.agg #[.int .u64 0, .int .u64 0, .slice none 0 0]) := by kernel_rfl
theorem ld79 : ldOf Tryz.prog 79 = some (none) := by kernel_rfl
theorem sz79 : szOf Tryz.prog 79 = some 1 := by kernel_rfl
theorem of81_0 : offOf Tryz.prog 81 0 = some 0 := by kernel_rfl
theorem ze81 : zeroOf Tryz.prog 81 = some (.agg #[.map none]) := by kernel_rfl
theorem ld82 : ldOf Tryz.prog 82 = some (none) := by kernel_rfl
theorem sz82 : szOf Tryz.prog 82 = some 1 := by kernel_rfl
theorem of84_0 : offOf Tryz.prog 84 0 = some 0 := by kernel_rfl
theorem ze84 : zeroOf Tryz.prog 84 = some (.agg #[.map none]) := by kernel_rfl
theorem ze86 : zeroOf Tryz.prog 86 = some (.pointer none) := by kernel_rfl
theorem ld87 : ldOf Tryz.prog 87 = some (none) := by kernel_rfl
theorem sz87 : szOf Tryz.prog 87 = some 1 := by kernel_rfl
theorem of89_0 : offOf Tryz.prog 89 0 = some 0 := by kernel_rfl
theorem pl89 : placesOf Tryz.prog 89 = some ([.map none], [(0, 1)]) := by kernel_rfl
theorem ld92 : ldOf Tryz.prog 92 = some (none) := by kernel_rfl
theorem sz92 : szOf Tryz.prog 92 = some 1 := by kernel_rfl
theorem ld100 : ldOf Tryz.prog 100 = some (none) := by kernel_rfl
theorem sz100 : szOf Tryz.prog 100 = some 1 := by kernel_rfl
theorem ld101 : ldOf Tryz.prog 101 = some (none) := by kernel_rfl
theorem sz101 : szOf Tryz.prog 101 = some 1 := by kernel_rfl
theorem of103_1 : offOf Tryz.prog 103 1 = some 1 := by kernel_rfl
theorem of103_2 : offOf Tryz.prog 103 2 = some 3 := by kernel_rfl
theorem of103_3 : offOf Tryz.prog 103 3 = some 4 := by kernel_rfl
theorem pl103 : placesOf Tryz.prog 103 = some ([.pointer none, .int .i64 0, .int .i64 0, .pointer none, .int .u64 0, .int .u64 0, .slice none 0 0], [(0, 1), (1, 2), (3, 1), (4, 3)]) := by kernel_rfl
theorem by106 : byOf Tryz.prog 106 = some 24 := by kernel_rfl
theorem ld106 : ldOf Tryz.prog 106 = some (some 3) := by kernel_rfl
theorem of106_0 : offOf Tryz.prog 106 0 = some 0 := by kernel_rfl
theorem of106_1 : offOf Tryz.prog 106 1 = some 1 := by kernel_rfl
theorem of106_2 : offOf Tryz.prog 106 2 = some 2 := by kernel_rfl
theorem pl106 : placesOf Tryz.prog 106 = some ([.int .u64 0, .int .i64 0, .int .i64 0], [(0, 1), (1, 1), (2, 1)]) := by kernel_rfl
theorem sz106 : szOf Tryz.prog 106 = some 3 := by kernel_rfl
theorem ze106 : zeroOf Tryz.prog 106 = some (.agg #[.int .u64 0, .int .i64 0, .int .i64 0]) := by kernel_rfl
theorem ld116 : ldOf Tryz.prog 116 = some (none) := by kernel_rfl
theorem sz116 : szOf Tryz.prog 116 = some 1 := by kernel_rfl
theorem ld117 : ldOf Tryz.prog 117 = some (none) := by kernel_rfl
theorem sz117 : szOf Tryz.prog 117 = some 1 := by kernel_rfl
theorem ld118 : ldOf Tryz.prog 118 = some (none) := by kernel_rfl
theorem sz118 : szOf Tryz.prog 118 = some 1 := by kernel_rfl
theorem of120_0 : offOf Tryz.prog 120 0 = some 0 := by kernel_rfl
theorem of120_1 : offOf Tryz.prog 120 1 = some 1 := by kernel_rfl
theorem of120_2 : offOf Tryz.prog 120 2 = some 2 := by kernel_rfl
theorem of120_3 : offOf Tryz.prog 120 3 = some 3 := by kernel_rfl
theorem of120_4 : offOf Tryz.prog 120 4 = some 4 := by kernel_rfl
theorem of120_5 : offOf Tryz.prog 120 5 = some 5 := by kernel_rfl
theorem of120_6 : offOf Tryz.prog 120 6 = some 6 := by kernel_rfl
theorem of120_7 : offOf Tryz.prog 120 7 = some 7 := by kernel_rfl
theorem pl120 : placesOf Tryz.prog 120 = some ([.int .i64 0, .slice none 0 0, .map none, .map none, .slice none 0 0, .int .i64 0, .int .i64 0, .int .i64 0], [(0, 1), (1, 1), (2, 1), (3, 1), (4, 1), (5, 1), (6, 1), (7, 1)]) := by kernel_rfl
theorem ld135 : ldOf Tryz.prog 135 = some (none) := by kernel_rfl
theorem ld137 : ldOf Tryz.prog 137 = some (some 1) := by kernel_rfl
theorem of137_0 : offOf Tryz.prog 137 0 = some 0 := by kernel_rfl
theorem pl137 : placesOf Tryz.prog 137 = some ([.nilFunc], [(0, 1)]) := by kernel_rfl
theorem sz137 : szOf Tryz.prog 137 = some 1 := by kernel_rfl
theorem ze137 : zeroOf Tryz.prog 137 = some (.agg #[.nilFunc]) := by kernel_rfl
theorem of160_0 : offOf Tryz.prog 160 0 = some 0 := by kernel_rfl
theorem of160_1 : offOf Tryz.prog 160 1 = some 1 := by kernel_rfl
theorem of160_2 : offOf Tryz.prog 160 2 = some 2 := by kernel_rfl
theorem pl160 : placesOf Tryz.prog 160 = some ([.pointer none, .slice none 0 0, .int .u64 0, .int .i64 0, .int .i64 0], [(0, 1), (1, 1), (2, 3)]) := by kernel_rfl
theorem of162_0 : offOf Tryz.prog 162 0 = some 0 := by kernel_rfl
theorem pl162 : placesOf Tryz.prog 162 = some ([.pointer none, .slice none 0 0, .int .u64 0, .int .i64 0, .int .i64 0], [(0, 5)]) := by kernel_rfl
theorem ld169 : ldOf Tryz.prog 169 = some (none) := by kernel_rfl
theorem sz169 : szOf Tryz.prog 169 = some 1 := by kernel_rfl
theorem ld180 : ldOf Tryz.prog 180 = some (none) := by kernel_rfl
theorem sz180 : szOf Tryz.prog 180 = some 1 := by kernel_rfl
theorem ze180 : zeroOf Tryz.prog 180 = some (.slice none 0 0) := by kernel_rfl
theorem by184 : byOf Tryz.prog 184 = some 32 := by kernel_rfl
theorem ld184 : ldOf Tryz.prog 184 = some (some 3) := by kernel_rfl
theorem of184_1 : offOf Tryz.prog 184 1 = some 1 := by kernel_rfl
theorem of184_2 : offOf Tryz.prog 184 2 = some 2 := by kernel_rfl
theorem pl184 : placesOf Tryz.prog 184 = some ([.int .u64 0, .string ⟨#[]⟩, .int .i64 0], [(0, 1), (1, 1), (2, 1)]) := by kernel_rfl
theorem sz184 : szOf Tryz.prog 184 = some 3 := by kernel_rfl
theorem ze184 : zeroOf Tryz.prog 184 = some (.agg #[.int .u64 0, .string ⟨#[]⟩, .int .i64 0]) := by kernel_rfl
theorem ld193 : ldOf Tryz.prog 193 = some (none) := by kernel_rfl
theorem ld194 : ldOf Tryz.prog 194 = some (none) := by kernel_rfl
theorem sz194 : szOf Tryz.prog 194 = some 1 := by kernel_rfl
theorem of196_0 : offOf Tryz.prog 196 0 = some 0 := by kernel_rfl
theorem of196_1 : offOf Tryz.prog 196 1 = some 1 := by kernel_rfl
theorem sz196 : szOf Tryz.prog 196 = some 2 := by kernel_rfl
theorem ze196 : zeroOf Tryz.prog 196 = some (.agg #[.pointer none, .slice none 0 0]) := by kernel_rfl
theorem by211 : byOf Tryz.prog 211 = some 8 := by kernel_rfl
theorem ld211 : ldOf Tryz.prog 211 = some (none) := by kernel_rfl
theorem sz211 : szOf Tryz.prog 211 = some 1 := by kernel_rfl
theorem ze211 : zeroOf Tryz.prog 211 = some (.pointer none) := by kernel_rfl
theorem ld214 : ldOf Tryz.prog 214 = some (none) := by kernel_rfl
theorem sz214 : szOf Tryz.prog 214 = some 1 := by kernel_rfl
theorem of216_0 : offOf Tryz.prog 216 0 = some 0 := by kernel_rfl
theorem of216_1 : offOf Tryz.prog 216 1 = some 1 := by kernel_rfl
theorem of216_2 : offOf Tryz.prog 216 2 = some 2 := by kernel_rfl
theorem pl216 : placesOf Tryz.prog 216 = some ([.string ⟨#[]⟩, .string ⟨#[]⟩, .slice none 0 0], [(0, 1), (1, 1), (2, 1)]) := by kernel_rfl
theorem by223 : byOf Tryz.prog 223 = some 40 := by kernel_rfl
theorem ld223 : ldOf Tryz.prog 223 = some (some 3) := by kernel_rfl
theorem of223_0 : offOf Tryz.prog 223 0 = some 0 := by kernel_rfl
theorem of223_1 : offOf Tryz.prog 223 1 = some 1 := by kernel_rfl
theorem of223_2 : offOf Tryz.prog 223 2 = some 2 := by kernel_rfl
theorem pl223 : placesOf Tryz.prog 223 = some ([.string ⟨#[]⟩, .string ⟨#[]⟩, .int .i64 0], [(0, 1), (1, 1), (2, 1)]) := by kernel_rfl
theorem sz223 : szOf Tryz.prog 223 = some 3 := by kernel_rfl
theorem ze223 : zeroOf Tryz.prog 223 = some (.agg #[.string ⟨#[]⟩, .string ⟨#[]⟩, .int .i64 0]) := by kernel_rfl
theorem by233 : byOf Tryz.prog 233 = some 24 := by kernel_rfl
theorem pl233 : placesOf Tryz.prog 233 = some ([.string ⟨#[]⟩, .int .i64 0], [(0, 1), (1, 1)]) := by kernel_rfl
theorem sz233 : szOf Tryz.prog 233 = some 2 := by kernel_rfl
theorem ze233 : zeroOf Tryz.prog 233 = some (.agg #[.string ⟨#[]⟩, .int .i64 0]) := by kernel_rfl
theorem ld265 : ldOf Tryz.prog 265 = some (none) := by kernel_rfl
theorem sz265 : szOf Tryz.prog 265 = some 1 := by kernel_rfl
theorem ze267 : zeroOf Tryz.prog 267 = some (.agg #[.int .u8 0, .int .u8 0, .int .u8 0, .int .u8 0]) := by kernel_rfl
theorem sz315 : szOf Tryz.prog 315 = some 256 := by kernel_rfl
theorem ze315 : zeroOf Tryz.prog 315 = some (.agg #[.bool false, .bool false, .bool false, .bool false, .bool false, .bool false, .bool false, .bool false, .bool false, .bool false, .bool false, .bool false, .bool false, .bool false, .bool false, .bool false, .bool false, .bool false, .bool false, .bool false, .bool false, .bool false, .bool false, .bool false, .bool false, .bool false, .bool false, .bool false, .bool false, .bool false, .bool false, .bool false, .bool false, .bool false, .bool false, .bool false, .bool false, .bool false, .bool false, .bool false, .bool false, .bool false, .bool false, .bool false, .bool false, .bool false, .bool false, .bool false, .bool false, .bool false, .bool false, .bool false, .bool false, .bool false, .bool false, .bool false, .bool false, .bool false, .bool false, .bool false, .bool false, .bool false, .bool false, .bool false, .bool false, .bool false, .bool false, .bool false, .bool false, .bool false, .bool false, .bool false, .bool false, .bool false, .bool false, .bool false, .bool false, .bool false, .bool false, .bool false, .bool false, .bool false, .bool false, .bool false, .bool false, .bool false, .bool false, .bool false, .bool false, .bool false, .bool false, .bool false, .bool false, .bool false, .bool false, .bool false, .bool false, .bool false, .bool false, .bool false, .bool false, .bool false, .bool false, .bool false, .bool false, .bool false, .bool false, .bool false, .bool false, .bool false, .bool false, .bool false, .bool false, .bool false, .bool false, .bool false, .bool false, .bool false, .bool false, .bool false, .bool false, .bool false, .bool false, .bool false, .bool false, .bool false, .bool false, .bool false, .bool false, .bool false, .bool false, .bool false, .bool false, .bool false, .bool false, .bool false, .bool false, .bool false, .bool false, .bool false, .bool false, .bool false, .bool false, .bool false, .bool false, .bool false, .bool false, .bool false, .bool false, .bool false, .bool false, .bool false, .bool false, .bool false, .bool false, .bool false, .bool false, .bool false, .bool false, .bool false, .bool false, .bool false, .bool false, .bool false, .bool false, .bool false, .bool false, .bool false, .bool false, .bool false, .bool false, .bool false, .bool false, .bool false, .bool false, .bool false, .bool false, .bool false, .bool false, .bool false, .bool false, .bool false, .bool false, .bool false, .bool false, .bool false, .bool false, .bool false, .bool false, .bool false, .bool false, .bool false, .bool false, .bool false, .bool false, .bool false, .bool false, .bool false, .bool false, .bool false, .bool false, .bool false, .bool false, .bool false, .bool false, .bool false, .bool false, .bool false, .bool false, .bool false, .bool false, .bool false, .bool false, .bool false, .bool false, .bool false, .bool false, .bool false, .bool false, .bool false, .bool false, .bool false, .bool false, .bool false, .bool false, .bool false, .bool false, .bool false, .bool false, .bool false, .bool false, .bool false, .bool false, .bool false, .bool false, .bool false, .bool false, .bool false, .bool false, .bool false, .bool false, .bool false, .bool false, .bool false, .bool false, .bool false, .bool false, .bool false, .bool false, .bool false, .bool false, .bool false, .bool false, .bool false, .bool false, .bool false]) := by kernel_rfl
end Go.GW
namespace Go.GW
open Go.RowKit Go.Proofs

theorem put_ok (n : Nat) (hn : n < 18446744073709551616) (w : World) : Fn Tryz.prog 115 #[.int .u64 n] w (fun v w' => v = .string (str (varint n)) ∧ Pu w w') := by
  refine fn_of (args := [.int .u64 n]) Tryz.func115 (by kernel_rfl) rfl Tryz.ntmps115 rfl ?_
  refine g_seq ?_
  refine g_region ?_
  refine gl_op (r_asS rfl) rfl ?_
  refine gl_nil ?_
  refine g_seq ?_
  refine g_region ?_
  refine gl_op (r_asL rfl) rfl ?_
  refine gl_nil ?_
  refine g_seq ?_
  refine g_block ?_
  refine g_loop (ι := Nat × Bs × Option Addr × Nat) (fun x => [(0, .int .u64 x.1), (3, .slice x.2.2.1 x.2.1.length x.2.2.2)]) (fun x w' => x.2.1 ++ varint x.1 = varint n ∧ x.1 ≤ n ∧ Pu w w' ∧ Row w' w.heap.size 5 1 x.2.2.1 x.2.1.length x.2.2.2 (byts x.2.1)) (fun x => x.1) (n, [], none, 0) ⟨rfl, rfl, trivial⟩ ⟨rfl, Nat.le_refl _, Pu.refl, Row.nil⟩ ?_
  rintro ⟨m, bs, A, c⟩ τ w1 ⟨h1, h2, hp, hr⟩ ih
  dsimp only at h1 h2 hr ih ⊢
  have hl : bs.length + (varint m).length ≤ 10 := by rw [← List.length_append, h1]; exact varint_len10 hn
  have hz := hp.size
  refine g_seq ?_
  refine g_seq ?_
  refine g_region ?_
  refine gl_op (r_mvI rfl) rfl ?_
  refine gl_op (r_ge rfl rfl) rfl ?_
  refine gl_nil ?_
  refine g_condP rfl (fun hc => ?_) (fun hc => ?_)
  · have hge : ¬ m < 128 := by omega
    rw [varint_ge hge] at h1 hl
    refine g_skip ?_
    refine g_seq ?_
    refine g_block ?_
    refine g_region ?_
    refine gl_op (r_mvL rfl) rfl ?_
    refine gl_op (r_mvI rfl) rfl ?_
    refine gl_op (r_conv Tryz.underlying26 Tryz.underlying5 rfl wU8) rfl ?_
    refine gl_op (r_or rfl rfl (or128 m)) rfl ?_
    refine gl_slice1 (v := .int _ _) (vs := [.int _ _]) Tryz.underlying169 sz5 ze5 rfl rfl rfl rfl rfl rfl rfl ?_
    intro b w2 hb e s sl
    have hz2 := s.size
    refine gl_append Tryz.underlying169 sz5 ze5 by5 rfl rfl rfl (hr.pu s) rfl (sl) (allOne rfl) (by simp at hl; omega) (by simp at hl; omega) (by omega) rfl ?_
    intro A' c' w3 hr3 hg
    have hp3 := hg.pu (hp.trans s) hr.base
    refine gl_op (r_asL rfl) rfl ?_
    refine gl_nil ?_
    refine g_inBlock ?_
    refine g_region ?_
    refine gl_op (r_mvI rfl) rfl ?_
    refine gl_op (r_shr rfl rfl (by decide) rfl) rfl ?_
    refine gl_op (r_asI rfl) rfl ?_
    refine gl_nil ?_
    have hdiv : (m : Int).fdiv (2 ^ (min (7 : Int).toNat IntKind.u64.bits)) = ((m / 128 : Nat) : Int) := by
      have : (2 ^ (min (7 : Int).toNat IntKind.u64.bits) : Int) = 128 := by decide
      rw [this, Int.fdiv_eq_ediv_of_nonneg _ (by decide)]
      rfl
    exact ih (m / 128, bs ++ [UInt8.ofNat (m % 128 + 128)], A', c') _ _ (by dsimp only; omega) ⟨congrArg (Value.int .u64) hdiv, by simp; rfl, trivial⟩ ⟨by simpa using h1, by dsimp only; omega, hp3, by simpa [byts_append, byts] using hr3⟩
  · have hlt : m < 128 := by omega
    rw [varint_lt hlt] at h1 hl
    refine g_exit rfl ?_
    refine g_seq ?_
    refine g_region ?_
    refine gl_op (r_mvL rfl) rfl ?_
    refine gl_op (r_mvI rfl) rfl ?_
    refine gl_op (r_conv Tryz.underlying26 Tryz.underlying5 rfl wU8) rfl ?_
    refine gl_slice1 (v := .int _ _) (vs := [.int _ _]) Tryz.underlying169 sz5 ze5 rfl rfl rfl rfl rfl rfl rfl ?_
    intro b w2 hb e s sl
    have hz2 := s.size
    refine gl_append Tryz.underlying169 sz5 ze5 by5 rfl rfl rfl (hr.pu s) rfl (sl) (allOne rfl) (by simp at hl; omega) (by simp at hl; omega) (by omega) rfl ?_
    intro A' c' w3 hr3 hg
    have hp3 := hg.pu (hp.trans s) hr.base
    have hmod : (m : Int) % 256 = ((UInt8.ofNat m).toNat : Int) := by simp
    rw [hmod] at hr3
    refine gl_op (r_bytesStr (l := varint n) Tryz.underlying169 Tryz.underlying5 Tryz.underlying9 rfl (by rw [← h1]; simpa [byts] using hr3.sl)) rfl ?_
    refine gl_op (r_asS rfl) rfl ?_
    refine gl_nil ?_
    refine g_ret Tryz.func115 (res1 rfl) ?_
    exact ⟨rfl, hp3⟩
end Go.GW
namespace Go.GW
open Go.RowKit Go.Proofs

theorem take_ok (s : Bs) (hs : s.length < 9223372036854775807) (w : World) : Fn Tryz.prog 148 #[.string (str s)] w (fun v w' => v = takeVal (takeVar s) ∧ Pu w w') := by
  refine fn_of (args := [.string (str s)]) Tryz.func148 (by kernel_rfl) rfl Tryz.ntmps148 rfl ?_
  refine g_seq ?_
  refine g_region ?_
  refine gl_op (r_asI rfl) rfl ?_
  refine gl_op (r_asS rfl) rfl ?_
  refine gl_op (r_asI rfl) rfl ?_
  refine gl_nil ?_
  refine g_scope ?_
  refine g_seq ?_
  refine g_region ?_
  refine gl_op (r_asI rfl) rfl ?_
  refine gl_op (r_asI rfl) rfl ?_
  refine gl_nil ?_
  refine g_seq ?_
  refine g_label ?_
  refine g_seq ?_
  refine g_seq ?_
  refine g_region ?_
  refine gl_op (r_mvS rfl) rfl ?_
  refine gl_op (r_lenS Tryz.underlying9 rfl) rfl ?_
  refine gl_op (r_mvI rfl) rfl ?_
  refine gl_nil ?_
  refine g_block ?_
  refine g_loop (ι := Nat × Nat) (fun x => [(0, .string (str s)), (5, .int .u64 x.2), (6, .int .i64 (-1)), (10, .int .i64 s.length), (11, .int .i64 x.1)]) (fun x w' => w' = w ∧ x.1 ≤ s.length ∧ takeGo x.1 x.2 (s.drop x.1) = takeVar s ∧ x.2 < 2 ^ (7 * x.1) ∧ x.1 ≤ 9) (fun x => s.length - x.1) (0, 0) ⟨rfl, rfl, rfl, rfl, rfl, trivial⟩ ⟨rfl, Nat.zero_le _, rfl, by decide, by omega⟩ ?_
  rintro ⟨i, acc⟩ τ w1 ⟨rfl, hi, hT, ha, h10⟩ ih
  dsimp only at hi hT ha h10 ih ⊢
  refine g_seq ?_
  refine g_region ?_
  refine gl_op (r_lt rfl rfl) rfl ?_
  refine gl_nil ?_
  refine g_seq ?_
  refine g_condP rfl (fun hc => ?_) (fun hc => ?_)
  · have hlt : i < s.length := by omega
    obtain ⟨c, r, hcr⟩ : ∃ c r, s.drop i = c :: r := ⟨s[i], s.drop (i + 1), List.drop_eq_getElem_cons hlt⟩
    have hc0 : s[i]? = some c := by have := congrArg (·[0]?) hcr; simpa using this
    have hr : r = s.drop (i + 1) := by have := congrArg List.tail hcr; simpa using this.symm
    have hc8 : c.toNat < 256 := c.toNat_lt
    rw [hcr] at hT
    simp only [takeGo] at hT
    refine g_skip ?_
    refine g_seq ?_
    refine g_block ?_
    refine g_seq ?_
    refine g_region ?_
    refine gl_op (r_mvI rfl) rfl ?_
    refine gl_op (r_asI rfl) rfl ?_
    refine gl_nil ?_
    refine g_seq ?_
    refine g_region ?_
    refine gl_op (r_mvS rfl) rfl ?_
    refine gl_op (r_mvI rfl) rfl ?_
    refine gl_op (r_indexStr Tryz.underlying9 rfl rfl hc0) rfl ?_
    refine gl_op (r_conv Tryz.underlying5 Tryz.underlying26 rfl (wU64 (by omega) (by omega))) rfl ?_
    refine gl_op (r_asI rfl) rfl ?_
    refine gl_nil ?_
    refine g_seq ?_
    refine g_block ?_
    refine g_seq ?_
    refine g_cut (ι := Unit) (fun _ => [(0, .string (str s)), (5, .int .u64 acc), (6, .int .i64 (-1)), (7, .int .i64 i), (8, .int .u64 c.toNat), (10, .int .i64 s.length), (11, .int .i64 i), (18, .bool (decide ((i = 9 ∧ 1 < c.toNat) ∨ (0 < i ∧ c.toNat = 0))))]) (fun _ w' => w' = w1) (fun hj => ?_) ?_
    · refine g_seq ?_
      refine g_region ?_
      refine gl_op (r_mvI rfl) rfl ?_
      refine gl_op (r_eq rfl rfl) rfl ?_
      refine gl_op (r_mvB rfl) rfl ?_
      by_cases h9 : i = 9
      · refine gl_guardT rfl (bT (by omega)) rfl ((r_mvI rfl)) rfl ?_
        refine gl_guardT rfl (bT (by omega)) rfl ((r_gt rfl rfl)) rfl ?_
        refine gl_op (r_pickTB (bT (by omega)) rfl) rfl ?_
        refine gl_op (r_asB rfl) rfl ?_
        refine gl_nil ?_
        refine g_condP rfl (fun h1 => ?_) (fun h1 => ?_)
        · refine g_skip ?_
          exact hj () _ _ ⟨rfl, rfl, rfl, rfl, rfl, rfl, rfl, bEq (by omega), trivial⟩ rfl
        · refine g_region ?_
          refine gl_op (r_mvI rfl) rfl ?_
          refine gl_op (r_gt rfl rfl) rfl ?_
          refine gl_op (r_mvB rfl) rfl ?_
          refine gl_guardT rfl (bT (by omega)) rfl ((r_mvI rfl)) rfl ?_
          refine gl_guardT rfl (bT (by omega)) rfl ((r_eq rfl rfl)) rfl ?_
          refine gl_op (r_pickTB (bT (by omega)) rfl) rfl ?_
          refine gl_op (r_asB rfl) rfl ?_
          refine gl_nil ?_
          exact hj () _ _ ⟨rfl, rfl, rfl, rfl, rfl, rfl, rfl, bEq (by omega), trivial⟩ rfl
      · refine gl_guardF rfl (bF (by omega)) rfl rfl ?_
        refine gl_guardF rfl (bF (by omega)) rfl rfl ?_
        refine gl_op (r_pickFB (bF (by omega)) rfl) rfl ?_
        refine gl_op (r_asB rfl) rfl ?_
        refine gl_nil ?_
        refine g_condF (rfl) ?_
        refine g_region ?_
        refine gl_op (r_mvI rfl) rfl ?_
        refine gl_op (r_gt rfl rfl) rfl ?_
        refine gl_op (r_mvB rfl) rfl ?_
        by_cases h0 : 0 < i
        · refine gl_guardT rfl (bT (by omega)) rfl ((r_mvI rfl)) rfl ?_
          refine gl_guardT rfl (bT (by omega)) rfl ((r_eq rfl rfl)) rfl ?_
          refine gl_op (r_pickTB (bT (by omega)) rfl) rfl ?_
          refine gl_op (r_asB rfl) rfl ?_
          refine gl_nil ?_
          exact hj () _ _ ⟨rfl, rfl, rfl, rfl, rfl, rfl, rfl, bEq (by omega), trivial⟩ rfl
        · refine gl_guardF rfl (bF (by omega)) rfl rfl ?_
          refine gl_guardF rfl (bF (by omega)) rfl rfl ?_
          refine gl_op (r_pickFB (bF (by omega)) rfl) rfl ?_
          refine gl_op (r_asB rfl) rfl ?_
          refine gl_nil ?_
          exact hj () _ _ ⟨rfl, rfl, rfl, rfl, rfl, rfl, rfl, (bF (p := (i = 9 ∧ 1 < c.toNat) ∨ (0 < i ∧ c.toNat = 0)) (by omega)).symm, trivial⟩ rfl
    rintro ⟨⟩ τ2 w2 rfl
    refine g_condP rfl (fun hbad => ?_) (fun hbad => ?_)
    · refine g_exit rfl ?_
      refine g_seq ?_
      refine g_seq ?_
      refine g_region ?_
      refine gl_op (r_mvI rfl) rfl ?_
      refine gl_op (r_lt rfl rfl) rfl ?_
      refine gl_nil ?_
      refine g_condT (bT (by decide)) ?_
      refine g_seq ?_
      refine g_region ?_
      refine gl_op (r_asI rfl) rfl ?_
      refine gl_op (r_asS rfl) rfl ?_
      refine gl_op (r_asI rfl) rfl ?_
      refine gl_nil ?_
      refine g_ret Tryz.func148 (res3 rfl) ?_
      rw [if_pos hbad] at hT
      exact ⟨by rw [← hT]; rfl, Pu.refl⟩
    · rw [if_neg hbad] at hT
      have h9 : i ≤ 9 := by omega
      refine g_seq ?_
      refine g_region ?_
      refine gl_op (r_mvI rfl) rfl ?_
      refine gl_op (r_lt rfl rfl) rfl ?_
      refine gl_op (r_asB rfl) rfl ?_
      refine gl_nil ?_
      refine g_condP rfl (fun h128 => ?_) (fun h128 => ?_)
      · have h128' : c.toNat < 128 := by omega
        rw [if_pos h128'] at hT
        have hb : c.toNat * 2 ^ (7 * i) < 18446744073709551616 := shl_lt c.toNat i h9 (by omega) (fun e => by omega)
        have ha2 : acc < 18446744073709551616 := pow_lt ha h9
        refine g_seq ?_
        refine g_region ?_
        refine gl_op (r_mvI rfl) rfl ?_
        refine gl_op (r_mvI rfl) rfl ?_
        refine gl_op (r_mvI rfl) rfl ?_
        refine gl_op (r_mul rfl rfl (wI64 (by omega) (by omega))) rfl ?_
        refine gl_op (r_shl rfl rfl (by omega) (shl_eq c.toNat i h9 hb)) rfl ?_
        refine gl_op (r_or rfl rfl (u64_or acc _ ha2 hb)) rfl ?_
        refine gl_op (r_asI rfl) rfl ?_
        refine gl_nil ?_
        refine g_seq ?_
        refine g_region ?_
        refine gl_op (r_mvI rfl) rfl ?_
        refine gl_op (r_add rfl rfl (wI64 (by omega) (by omega))) rfl ?_
        refine gl_op (r_asI rfl) rfl ?_
        refine gl_nil ?_
        refine g_exit rfl ?_
        refine g_seq ?_
        refine g_seq ?_
        refine g_region ?_
        refine gl_op (r_mvI rfl) rfl ?_
        refine gl_op (r_lt rfl rfl) rfl ?_
        refine gl_nil ?_
        refine g_condF (bF (by omega)) ?_
        refine g_skip ?_
        refine g_seq ?_
        refine g_draw (fun _ => True) mixed ?_
        intro w2 hw2 hp2
        refine ga_take 0 rfl (by decide +kernel) rfl trivial (fun _ _ => (r_mvI rfl)) rfl ?_
        refine ga_take 1 rfl (by decide +kernel) rfl trivial (fun _ _ => (r_mvS rfl)) rfl ?_
        refine ga_take 2 rfl (by decide +kernel) rfl trivial (fun _ _ => (r_mvI rfl)) rfl ?_
        refine ga_take 3 rfl (by decide +kernel) rfl trivial (fun _ _ => r_sliceSlo (i := i + 1) Tryz.underlying9 rfl rfl (by omega)) rfl ?_
        refine ga_take 4 rfl (by decide +kernel) rfl trivial (fun _ _ => (r_asI rfl)) rfl ?_
        refine ga_take 5 rfl (by decide +kernel) rfl trivial (fun _ _ => (r_asS rfl)) rfl ?_
        refine ga_take 6 rfl (by decide +kernel) rfl trivial (fun _ _ => (r_asI rfl)) rfl ?_
        refine ga_done (by decide +kernel) ?_
        refine g_ret Tryz.func148 (res3 rfl) ?_
        refine ⟨?_, hp2⟩
        rw [← hT, or_add ha, hr]
        rfl
      · have h128' : ¬ c.toNat < 128 := by omega
        rw [if_neg h128'] at hT
        have h9' : i < 9 := by
          rcases Nat.lt_or_ge i 9 with h | h
          · exact h
          · exfalso; exact hbad (.inl (by omega))
        have hb : (c.toNat - 128) * 2 ^ (7 * i) < 18446744073709551616 := shl_lt _ i h9 (by omega) (fun e => by omega)
        have ha2 : acc < 18446744073709551616 := pow_lt ha h9
        refine g_skip ?_
        refine g_inBlock ?_
        refine g_region ?_
        refine gl_op (r_mvI rfl) rfl ?_
        refine gl_op (r_mvI rfl) rfl ?_
        refine gl_op (r_and rfl rfl (and127 c h128')) rfl ?_
        refine gl_op (r_mvI rfl) rfl ?_
        refine gl_op (r_mul rfl rfl (wI64 (by omega) (by omega))) rfl ?_
        refine gl_op (r_shl rfl rfl (by omega) (shl_eq _ i h9 hb)) rfl ?_
        refine gl_op (r_or rfl rfl (u64_or acc _ ha2 hb)) rfl ?_
        refine gl_op (r_asI rfl) rfl ?_
        refine gl_nil ?_
        refine g_inBlock ?_
        refine g_region ?_
        refine gl_op (r_add rfl rfl (wI64 (by omega) (by omega))) rfl ?_
        refine gl_op (r_mvI rfl) rfl ?_
        refine gl_nil ?_
        exact ih (i + 1, acc + (c.toNat - 128) * 2 ^ (7 * i)) _ _ (by dsimp only; omega) ⟨rfl, by rw [← or_add ha]; rfl, rfl, rfl, rfl, trivial⟩ ⟨rfl, by dsimp only; omega, by rw [← hr]; exact hT, acc_lt ha (by omega), by dsimp only; omega⟩
  have hie : i = s.length := by omega
  rw [List.drop_eq_nil_of_le (by omega)] at hT
  refine g_exit rfl ?_
  refine g_seq ?_
  refine g_seq ?_
  refine g_region ?_
  refine gl_op (r_mvI rfl) rfl ?_
  refine gl_op (r_lt rfl rfl) rfl ?_
  refine gl_nil ?_
  refine g_condT (bT (by decide)) ?_
  refine g_seq ?_
  refine g_region ?_
  refine gl_op (r_asI rfl) rfl ?_
  refine gl_op (r_asS rfl) rfl ?_
  refine gl_op (r_asI rfl) rfl ?_
  refine gl_nil ?_
  refine g_ret Tryz.func148 (res3 rfl) ?_
  exact ⟨by rw [← hT]; rfl, Pu.refl⟩

theorem putText_ok (s : Bs) (hs : s.length < 4611686018427387904) (w : World) : Fn Tryz.prog 116 #[.string (str s)] w (fun v w' => v = .string (str (varint s.length ++ s)) ∧ Pu w w') := by
  have hl := varint_len10 (n := s.length) (by omega)
  refine fn_of (args := [.string (str s)]) Tryz.func116 (by kernel_rfl) rfl Tryz.ntmps116 rfl ?_
  refine g_seq ?_
  refine g_region ?_
  refine gl_op (r_asS rfl) rfl ?_
  refine gl_nil ?_
  refine g_seq ?_
  refine g_region ?_
  refine gl_op (r_mvS rfl) rfl ?_
  refine gl_op (r_lenS Tryz.underlying9 rfl) rfl ?_
  refine gl_op (r_conv Tryz.underlying3 Tryz.underlying26 rfl (wU64 (by omega) (by omega))) rfl ?_
  refine gl_call (put_ok s.length (by omega) _) rfl rfl ?_
  rintro _ w1 ⟨rfl, h1⟩
  refine gl_op (r_mvS rfl) rfl ?_
  refine gl_op (r_sadd rfl rfl (by omega)) rfl ?_
  refine gl_op (r_asS rfl) rfl ?_
  refine gl_nil ?_
  refine g_ret Tryz.func116 (res1 rfl) ?_
  exact ⟨rfl, h1⟩

/-- what TakeText tells -/
def takeText (s : Bs) (most : Nat) : Except Int (Bs × Bs) :=
  match takeVar s with
  | none => .error 2
  | some (n, r) => if most < n then .error 7 else if r.length < n then .error 2 else .ok (r.take n, r.drop n)
def textVal : Except Int (Bs × Bs) → Value
  | .ok (a, b) => .tuple #[.string (str a), .string (str b), .int .i64 0]
  | .error e => .tuple #[.string (str []), .string (str []), .int .i64 e]
theorem takeGo_bound : ∀ (s : Bs) (i acc n : Nat) (r : Bs), takeGo i acc s = some (n, r) → acc < 2 ^ (7 * i) → i ≤ 9 → n < 18446744073709551616 ∧ ∃ k, 0 < k ∧ r = s.drop k ∧ k ≤ s.length := by
  intro s
  induction s with
  | nil => intro i acc n r h; simp [takeGo] at h
  | cons c s ih =>
    intro i acc n r h ha h9
    have hc8 := c.toNat_lt
    simp only [takeGo] at h
    split at h
    · cases h
    · rename_i hbad
      split at h
      · rename_i h128
        injection h with h
        injection h with h1 h2
        subst h1 h2
        have hb := shl_lt c.toNat i h9 (by omega) (fun e => by omega)
        have ha2 := pow_lt ha h9
        refine ⟨?_, 1, by omega, rfl, by simp⟩
        rw [← or_add ha]
        have : acc ||| c.toNat * 2 ^ (7 * i) < 2 ^ 64 := Nat.or_lt_two_pow (by omega) (by omega)
        omega
      · rename_i h128
        have h9' : i < 9 := by
          rcases Nat.lt_or_ge i 9 with h | h
          · exact h
          · exfalso; exact hbad (.inl (by omega))
        obtain ⟨h1, k, hk, hr, hl⟩ := ih _ _ _ _ h (acc_lt ha (by omega)) (by omega)
        exact ⟨h1, k + 1, by omega, by simpa using hr, by simp; omega⟩
theorem takeVar_bound {s : Bs} {n : Nat} {r : Bs} (h : takeVar s = some (n, r)) : n < 18446744073709551616 ∧ ∃ k, 0 < k ∧ r = s.drop k ∧ k ≤ s.length :=
  takeGo_bound s 0 0 n r h (by decide) (by omega)

theorem takeText_ok (s : Bs) (most : Nat) (hs : s.length < 9223372036854775807) (hm : most < 9223372036854775807) (w : World) :
    Fn Tryz.prog 149 #[.string (str s), .int .i64 most] w (fun v w' => v = textVal (takeText s most) ∧ Pu w w') := by
  unfold takeText
  cases ht : takeVar s with
  | none =>
    refine fn_of (args := [.string (str s), .int .i64 most]) Tryz.func149 (by kernel_rfl) rfl Tryz.ntmps149 rfl ?_
    refine g_seq ?_
    refine g_region ?_
    refine gl_op (r_asS rfl) rfl ?_
    refine gl_op (r_asS rfl) rfl ?_
    refine gl_op (r_asI rfl) rfl ?_
    refine gl_nil ?_
    refine g_seq ?_
    refine g_region ?_
    refine gl_op (r_mvS rfl) rfl ?_
    refine gl_call (take_ok s hs _) rfl rfl ?_
    rintro _ w1 ⟨rfl, h1⟩
    rw [ht]
    refine gl_op (r_mvT rfl) rfl ?_
    refine gl_op (r_extract rfl rfl) rfl ?_
    refine gl_op (r_extract rfl rfl) rfl ?_
    refine gl_op (r_extract rfl rfl) rfl ?_
    refine gl_op (r_asI rfl) rfl ?_
    refine gl_op (r_asS rfl) rfl ?_
    refine gl_op (r_asI rfl) rfl ?_
    refine gl_nil ?_
    refine g_seq ?_
    refine g_block ?_
    refine g_seq ?_
    refine g_region ?_
    refine gl_op (r_mvI rfl) rfl ?_
    refine gl_op (r_ne rfl rfl) rfl ?_
    refine gl_op (r_asB rfl) rfl ?_
    refine gl_nil ?_
    refine g_condT (bT (by decide)) ?_
    refine g_seq ?_
    refine g_region ?_
    refine gl_op (r_mvI rfl) rfl ?_
    refine gl_op (r_asS rfl) rfl ?_
    refine gl_op (r_asS rfl) rfl ?_
    refine gl_op (r_asI rfl) rfl ?_
    refine gl_nil ?_
    refine g_ret Tryz.func149 (res3 rfl) ?_
    exact ⟨rfl, h1⟩
  | some nr =>
    obtain ⟨n, r⟩ := nr
    obtain ⟨hn, k, hk, hr, hkl⟩ := takeVar_bound ht
    have hrl : r.length < 9223372036854775807 := by rw [hr, List.length_drop]; omega
    dsimp only
    refine fn_of (args := [.string (str s), .int .i64 most]) Tryz.func149 (by kernel_rfl) rfl Tryz.ntmps149 rfl ?_
    refine g_seq ?_
    refine g_region ?_
    refine gl_op (r_asS rfl) rfl ?_
    refine gl_op (r_asS rfl) rfl ?_
    refine gl_op (r_asI rfl) rfl ?_
    refine gl_nil ?_
    refine g_seq ?_
    refine g_region ?_
    refine gl_op (r_mvS rfl) rfl ?_
    refine gl_call (take_ok s hs _) rfl rfl ?_
    rintro _ w1 ⟨rfl, h1⟩
    rw [ht]
    refine gl_op (r_mvT rfl) rfl ?_
    refine gl_op (r_extract rfl rfl) rfl ?_
    refine gl_op (r_extract rfl rfl) rfl ?_
    refine gl_op (r_extract rfl rfl) rfl ?_
    refine gl_op (r_asI rfl) rfl ?_
    refine gl_op (r_asS rfl) rfl ?_
    refine gl_op (r_asI rfl) rfl ?_
    refine gl_nil ?_
    refine g_seq ?_
    refine g_block ?_
    refine g_seq ?_
    refine g_region ?_
    refine gl_op (r_mvI rfl) rfl ?_
    refine gl_op (r_ne rfl rfl) rfl ?_
    refine gl_op (r_asB rfl) rfl ?_
    refine gl_nil ?_
    refine g_condF (bF (by decide)) ?_
    refine g_seq ?_
    refine g_region ?_
    refine gl_op (r_mvI rfl) rfl ?_
    refine gl_op (r_mvI rfl) rfl ?_
    refine gl_op (r_max rfl rfl) rfl ?_
    refine gl_op (r_conv Tryz.underlying3 Tryz.underlying26 rfl (wU64 (by omega) (by omega))) rfl ?_
    refine gl_op (r_gt rfl rfl) rfl ?_
    refine gl_op (r_asB rfl) rfl ?_
    refine gl_nil ?_
    refine g_condP rfl (fun hc => ?_) (fun hc => ?_)
    · refine g_seq ?_
      refine g_region ?_
      refine gl_op (r_asS rfl) rfl ?_
      refine gl_op (r_asS rfl) rfl ?_
      refine gl_op (r_asI rfl) rfl ?_
      refine gl_nil ?_
      refine g_ret Tryz.func149 (res3 rfl) ?_
      rw [if_pos (by omega)]
      exact ⟨rfl, h1⟩
    · refine g_seq ?_
      refine g_region ?_
      refine gl_op (r_mvI rfl) rfl ?_
      refine gl_op (r_mvS rfl) rfl ?_
      refine gl_op (r_lenS Tryz.underlying9 rfl) rfl ?_
      refine gl_op (r_conv Tryz.underlying3 Tryz.underlying26 rfl (wU64 (by omega) (by omega))) rfl ?_
      refine gl_op (r_gt rfl rfl) rfl ?_
      refine gl_op (r_asB rfl) rfl ?_
      refine gl_nil ?_
      refine g_condP rfl (fun hc2 => ?_) (fun hc2 => ?_)
      · refine g_seq ?_
        refine g_region ?_
        refine gl_op (r_asS rfl) rfl ?_
        refine gl_op (r_asS rfl) rfl ?_
        refine gl_op (r_asI rfl) rfl ?_
        refine gl_nil ?_
        refine g_ret Tryz.func149 (res3 rfl) ?_
        rw [if_neg (by omega), if_pos (by omega)]
        exact ⟨rfl, h1⟩
      · refine g_skip ?_
        refine g_inBlock ?_
        refine g_seq ?_
        refine g_draw (fun _ => True) mixed ?_
        intro w2 hw2 hp2
        refine ga_take 0 rfl (by decide +kernel) rfl trivial (fun _ _ => (r_mvS rfl)) rfl ?_
        refine ga_take 1 rfl (by decide +kernel) rfl trivial (fun _ _ => (r_mvI rfl)) rfl ?_
        refine ga_take 2 rfl (by decide +kernel) rfl trivial (fun _ _ => r_sliceShi (j := n) Tryz.underlying9 rfl rfl (by omega)) rfl ?_
        refine ga_take 3 rfl (by decide +kernel) rfl trivial (fun _ _ => (r_mvS rfl)) rfl ?_
        refine ga_take 4 rfl (by decide +kernel) rfl trivial (fun _ _ => (r_mvI rfl)) rfl ?_
        refine ga_take 5 rfl (by decide +kernel) rfl trivial (fun _ _ => r_sliceSlo (i := n) Tryz.underlying9 rfl rfl (by omega)) rfl ?_
        refine ga_take 6 rfl (by decide +kernel) rfl trivial (fun _ _ => (r_asS rfl)) rfl ?_
        refine ga_take 7 rfl (by decide +kernel) rfl trivial (fun _ _ => (r_asS rfl)) rfl ?_
        refine ga_take 8 rfl (by decide +kernel) rfl trivial (fun _ _ => (r_asI rfl)) rfl ?_
        refine ga_done (by decide +kernel) ?_
        refine g_ret Tryz.func149 (res3 rfl) ?_
        rw [if_neg (by omega), if_neg (by omega)]
        exact ⟨rfl, h1.trans hp2⟩
end Go.GW
namespace Go.GW
open Go.RowKit

section
variable {P : Program} {n : Sz} {K : SF → World → Prop} {σ : SF} {w : World} {ops : Array Oper} {l : List Oper} {ty : TypeId} {pos : String} {af : Array Edge} {d : Option Tmp} {gd : Option (Nat × Bool)}
/-- a call of a function that the model has -/
theorem r_extern {g : FuncId} {fn : Func} {e : Array Value → Sem Value} {asx : List Operand} {ats : Array TypeId} {vs : Array Value} {v : Value} (hf : P.funcs[g]? = some fn) (hname : (fn.name == "runtime.NumGoroutine") = false) (hb : fn.body.isNone = true)
    (hn : Extern.findNext fn = none) (he : Extern.find fn = some e) (hv : (asx.map (ev σ)).toArray = vs) (hr : (e vs).run P w = .ok v w) :
    Run P ⟨d, .call { callee := .value (.func g), args := asx.toArray, argTypes := ats }, ty, pos, af, gd⟩ n σ w v w := fun a ha => by
  subst hv
  simp only [execOp, resolve, Sem.run_bind, Act.eval, Deferred.ofValue, Sem.run_pure, Result.andThen_ok, invoke]
  have h1 : (#[] ++ (asx.toArray.map a.eval) ++ #[] : Array Value) = (asx.map (ev σ)).toArray := by
    simp [evs_eval ha]
  rw [h1, run_callFunc_extern hf hname hb hn he, hr]
  rfl
theorem r_convV {s t : TypeId} {x : Operand} {u v : Value} (hx : ev σ x = u) (h : (convert s t u).run P w = .ok v w) : Run P ⟨d, .convert s t x, ty, pos, af, gd⟩ n σ w v w := fun a ha => by
  simp [execOp, ha.eval, hx, h]
theorem r_peqNil {t t' e : TypeId} {x y : Operand} {p : Option Addr} (hu : P.underlying t = some (.pointer e)) (hx : ev σ x = .pointer p) (hy : ev σ y = .pointer none) : Run P ⟨d, .binOp .eql t x y t', ty, pos, af, gd⟩ n σ w (.bool p.isNone) w :=
  r_bin (fun w => by rw [hx, hy]; simp [eqGuard]) (by
    rw [hx, hy]
    have h : ∀ d : Nat, (Op.equalIn (d + 1) t (.pointer p) (.pointer none)).run P w = .ok p.isNone w := fun d => by
      cases p <;> simp [Op.equalIn, run_und hu]
    simp only [binOp]
    have := h
    simp [Op.equal, Op.maxDepth, h])
theorem r_pneNil {t t' e : TypeId} {x y : Operand} {p : Option Addr} (hu : P.underlying t = some (.pointer e)) (hx : ev σ x = .pointer p) (hy : ev σ y = .pointer none) : Run P ⟨d, .binOp .neq t x y t', ty, pos, af, gd⟩ n σ w (.bool p.isSome) w :=
  r_bin (fun w => by rw [hx, hy]; simp [eqGuard]) (by
    rw [hx, hy]
    have h : ∀ d : Nat, (Op.equalIn (d + 1) t (.pointer p) (.pointer none)).run P w = .ok p.isNone w := fun d => by
      cases p <;> simp [Op.equalIn, run_und hu]
    cases p <;> simp [binOp, Op.equal, Op.maxDepth, h])
theorem r_pneSame {t t' e : TypeId} {x y : Operand} {a : Addr} {m : Nat} (hu : P.underlying t = some (.pointer e)) (hs : szOf P e = some m) (hx : ev σ x = .pointer (some a)) (hy : ev σ y = .pointer (some a)) : Run P ⟨d, .binOp .neq t x y t', ty, pos, af, gd⟩ n σ w (.bool false) w := by
  obtain ⟨i, hi, _⟩ := info_of_sz hs
  exact r_bin (fun w => by rw [hx, hy]; simp [eqGuard]) (by rw [hx, hy]; exact Lib.run_neq_ptr_same _ a hu hi)

/-- append(x, text...): x a row of the call's own -/
theorem gl_appendS {d : Nat} {t u e : TypeId} {x y : Operand} {A : Option Addr} {m c base : Nat} {xs : List Value} {s : List UInt8} (hu : P.underlying t = some (.slice e)) (hu2 : P.underlying u = some .string) (hs : szOf P e = some 1) (hz : zeroOf P e = some (.int .u8 0)) (hby : byOf P e = some 1)
    (hx : ev σ x = .slice A m c) (hrow : Row w base e 1 A m c xs) (hy : ev σ y = .string (str s)) (hlen : m + s.length ≤ 140737488355328) (hbase : base ≤ w.heap.size) (hd : Nat.blt d n.n = true)
    (h : ∀ A' c' w', Row w' base e 1 A' (m + s.length) c' (xs ++ byts s) → Grow A w w' → GL P n ops l K (upd σ d (.slice A' (m + s.length) c')) w') :
    GL P n ops (⟨some d, .call { callee := .builtin .append, args := #[x, y], argTypes := #[t, u] }, ty, pos, af, none⟩ :: l) K σ w := by
  obtain ⟨i, hi, hsz⟩ := info_of_sz hs
  have hzi : i.zero = some (.int .u8 0) := by simpa [zeroOf, hi] using hz
  have hbi : i.bytes = 1 := by simpa [byOf, hi] using hby
  obtain ⟨v', w', hr, hrow', hg, _⟩ := Lib.run_append_own_string (P := P) w base t u ty e i hu hu2 hi hzi hsz hbi _ m xs hrow (str s) (by rw [str_size]; unfold maxLen; omega) (by rw [str_size]; exact hlen) hbase
  rw [str_size] at hrow'
  have hform : ∃ A' c', v' = .slice A' (m + s.length) c' := by
    rcases hrow'.2 with ⟨hv, hn⟩ | ⟨g, cap, cur, hv, _⟩
    · exact ⟨none, 0, by rw [hv, hn]⟩
    · exact ⟨_, _, hv⟩
  obtain ⟨A', c', rfl⟩ := hform
  refine gl_op (v := .slice A' (m + s.length) c') (w' := w') ?_ hd (h A' c' w' hrow' ⟨hg.os, hg.tape, hg.output, hg.size, fun k hk hne => hg.block k hk (fun he => ?_)⟩)
  · refine run_builtinV (ats := [t, u]) (xs := [x, y]) fun cs => ?_
    simp only [List.map, hx, hy, builtin, Sem.run_bind]
    rw [hr]
    rfl
  · cases A with
    | none => simp [Value.ownBlock] at he
    | some ad => exact hne ad rfl (by simpa [Value.ownBlock] using he)
end
theorem Row.ne {w : World} {T T' : TypeId} {sz n c base b : Nat} {A : Option Addr} {xs : List Value} {cs : Array Value} {fr : Nat × Nat} (h : Row w base T sz A n c xs) (hb : w.heap[b]? = some (.cells cs T' fr)) (hne : T' ≠ T) : ∀ ad, A = some ad → ad.block ≠ b := by
  rintro ad rfl rfl
  rcases h.form with ⟨h1, _⟩ | ⟨g, cur, h1, _, hg, _⟩
  · cases h1
  · injection h1 with h1
    subst h1
    rw [hb] at hg
    injection hg with hg
    injection hg with _ hg
    exact hne hg
/-- a contract of the kit as one of these -/
theorem fn_calls {P : Program} {f : FuncId} {args : Array Value} {w : World} {v : Value} {Q : World → Prop} (he : Ent P f) (h : Calls P f args w fun e w' => e = .returned v ∧ Q w') : Fn P f args w (fun u w' => u = v ∧ Q w') :=
  ⟨he, Calls.mono h fun _ _ ⟨h1, h2⟩ => ⟨v, h1, rfl, h2⟩⟩
end Go.GW
