/- Of two times, one behind the other, what is told are both parts; more matchers tell no more entries (QueryParts), for every input, over the program's text with its listed variables tied. Part 4 of 12. -/
import Derived.Lib.AsciiSet
import Derived.Test.YtekokhhgdhikpaaGreatDoorA1
import Derived.Test.YtekokhhgdhikpaaGreatDoorA2
import Derived.Test.YtekokhhgdhikpaaGreatDoorA3
set_option linter.unusedSimpArgs false
set_option linter.unusedVariables false
set_option linter.unusedSectionVars false
namespace Go.GW
open Go.RowKit Go.Proofs

/-- A strings.Builder at b that holds l; what is its own lies from base on. -/
structure Bld (w : World) (base b : Nat) (l : Bs) : Prop where
  lo : base ≤ b
  at_ : ∃ p A c, w.heap[b]? = some (.cells #[.pointer p, .slice A l.length c] 196 (0, 0)) ∧ Row w base 5 1 A l.length c (byts l) ∧ (p = none ∨ p = some ⟨b, 0, none⟩)
theorem Bld.lt {w : World} {base b : Nat} {l : Bs} (h : Bld w base b l) : b < w.heap.size := by obtain ⟨p, A, c, hb, _⟩ := h.at_; exact blk_lt hb
theorem Bld.pu {w w' : World} {base b : Nat} {l : Bs} (h : Bld w base b l) (s : Pu w w') : Bld w' base b l := by
  obtain ⟨p, A, c, hb, hr, hp⟩ := h.at_
  exact ⟨h.lo, p, A, c, s.blk hb, hr.pu s, hp⟩

theorem copyCheck_ok (w : World) (b : Nat) (A : Option Addr) (m c : Nat) (p : Option Addr) (hp : p = none ∨ p = some ⟨b, 0, none⟩) (hb : w.heap[b]? = some (.cells #[.pointer p, .slice A m c] 196 (0, 0))) :
    Fn Tryz.prog 158 #[.pointer (some ⟨b, 0, none⟩)] w (fun v w' => w'.heap[b]? = some (.cells #[.pointer (some ⟨b, 0, none⟩), .slice A m c] 196 (0, 0)) ∧ (St b w w' ∨ w' = w)) := by
  have hsh : w.shape? b = some (196, 2) := by unfold World.shape?; rw [hb]; rfl
  refine fn_of (args := [.pointer (some ⟨b, 0, none⟩)]) Tryz.func158 (by kernel_rfl) rfl Tryz.ntmps158 rfl ?_
  refine g_seq ?_
  refine g_region ?_
  refine gl_op (r_mvP rfl) rfl ?_
  refine gl_op (r_nil rfl) rfl ?_
  refine gl_op (r_fieldAddr of196_0 rfl) rfl ?_
  refine gl_op (r_load1 (v := .pointer _) ld194 rfl (by assumption) rfl) rfl ?_
  refine gl_op (r_peqNil Tryz.underlying194 rfl rfl) rfl ?_
  refine gl_nil ?_
  rcases hp with rfl | rfl
  · skip
    refine g_condT (rfl) ?_
    refine g_region ?_
    refine gl_op (r_mvP rfl) rfl ?_
    refine gl_op (r_mvP rfl) rfl ?_
    obtain ⟨j, hj, hjs⟩ := info_of_sz sz196
    refine gl_op (r_convV (v := .pointer (some ⟨b, 0, none⟩)) rfl (Lib.run_to_unsafe _ ⟨b, 0, none⟩ Tryz.underlying194 Tryz.underlying284 hj (by rw [hjs]; decide) hsh (show (0:Nat) < 2 from by decide))) rfl ?_
    refine gl_op (r_extern (e := Extern.AbiNoEscape.same) (v := .pointer (some ⟨b, 0, none⟩)) Tryz.func192 (by kernel_rfl) rfl (by kernel_rfl) (by kernel_rfl) rfl rfl) rfl ?_
    refine gl_op (r_convV (v := .pointer (some ⟨b, 0, none⟩)) rfl (Lib.run_from_unsafe _ ⟨b, 0, none⟩ Tryz.underlying284 Tryz.underlying194 hj hsh (by kernel_rfl))) rfl ?_
    clear hj hjs
    refine gl_op (r_nil rfl) rfl ?_
    refine gl_op (r_fieldAddr of196_0 rfl) rfl ?_
    refine gl_store (u := .pointer _) (vs := [.pointer _]) sz194 rfl rfl rfl rfl rfl (hb) rfl ?_
    intro w2 hb2 st2
    refine gl_nil ?_
    refine g_end Tryz.func158 (res0 rfl) ?_
    exact ⟨hb2, .inl st2⟩
  · refine g_condF (rfl) ?_
    refine g_seq ?_
    refine g_region ?_
    refine gl_op (r_mvP rfl) rfl ?_
    refine gl_op (r_nil rfl) rfl ?_
    refine gl_op (r_fieldAddr of196_0 rfl) rfl ?_
    refine gl_op (r_load1 (v := .pointer _) ld194 rfl (by assumption) rfl) rfl ?_
    refine gl_op (r_mvP rfl) rfl ?_
    refine gl_op (r_pneSame Tryz.underlying194 sz196 rfl rfl) rfl ?_
    refine gl_nil ?_
    refine g_condF (rfl) ?_
    refine g_skip ?_
    refine g_end Tryz.func158 (res0 rfl) ?_
    exact ⟨hb, .inr rfl⟩

/-- all but a builder's own types -/
abbrev bldD : TypeId → Bool := fun T => !(Nat.beq T 5) && !(Nat.beq T 196)
theorem writeString_ok (w0 w : World) (hpu : Pu w0 w) (b : Nat) (l s : Bs) (h : Bld w w0.heap.size b l) (hlen : l.length + s.length ≤ 140737488355328) :
    Fn Tryz.prog 114 #[.pointer (some ⟨b, 0, none⟩), .string (str s)] w (fun _ w' => Bld w' w0.heap.size b (l ++ s) ∧ Pu w0 w' ∧ Dk bldD w w') := by
  obtain ⟨p, A, c, hb, hrow, hp⟩ := h.at_
  have hlo := h.lo
  have hz := hpu.size
  refine fn_of (args := [.pointer (some ⟨b, 0, none⟩), .string (str s)]) Tryz.func114 (by kernel_rfl) rfl Tryz.ntmps114 rfl ?_
  refine g_seq ?_
  refine g_region ?_
  refine gl_op (r_asI rfl) rfl ?_
  refine gl_op r_assign rfl ?_
  refine gl_nil ?_
  refine g_seq ?_
  refine g_region ?_
  refine gl_op (r_mvP rfl) rfl ?_
  refine gl_call (copyCheck_ok w b A l.length c p hp hb) rfl rfl ?_
  rintro _ w1 ⟨hb1, hst⟩
  have hne := hrow.ne hb (by decide)
  have hk : Pu w0 w1 ∧ Row w1 w0.heap.size 5 1 A l.length c (byts l) ∧ w.heap.size ≤ w1.heap.size ∧ Dk bldD w w1 := by
    rcases hst with st | rfl
    · exact ⟨st.pu hpu (by omega), hrow.st st hne, by have := st.size; omega, st.dk hb rfl⟩
    · exact ⟨hpu, hrow, Nat.le_refl _, Dk.refl⟩
  obtain ⟨hpu1, hrow1, hz1, hd1⟩ := hk
  have hne1 := hrow1.ne hb1 (by decide)
  refine gl_nil ?_
  refine g_seq ?_
  refine g_region ?_
  refine gl_op (r_mvP rfl) rfl ?_
  refine gl_op (r_mvP rfl) rfl ?_
  refine gl_op (r_nil rfl) rfl ?_
  refine gl_op (r_fieldAddr of196_1 rfl) rfl ?_
  refine gl_op (r_load1 (v := .slice _ _ _) ld169 rfl (by assumption) rfl) rfl ?_
  refine gl_op (r_mvS rfl) rfl ?_
  refine gl_appendS Tryz.underlying169 Tryz.underlying9 sz5 ze5 by5 rfl hrow1 rfl hlen (by omega) rfl ?_
  intro A' c' w2 hrow2 g2
  have hb2 := g2.blk hb1 (fun ad e => (hne1 ad e).symm)
  have hpu2 := g2.pu hpu1 hrow1.base
  have hne2 := hrow2.ne hb2 (by decide)
  have hz2 := g2.size
  refine gl_op (r_nil rfl) rfl ?_
  refine gl_op (r_fieldAddr of196_1 rfl) rfl ?_
  refine gl_store (u := .slice _ _ _) (vs := [.slice _ _ _]) sz169 rfl rfl rfl rfl rfl (hb2) rfl ?_
  intro w3 hb3 st3
  refine gl_nil ?_
  refine g_seq ?_
  refine g_region ?_
  refine gl_op (r_mvS rfl) rfl ?_
  refine gl_op (r_lenS Tryz.underlying9 rfl) rfl ?_
  refine gl_op (r_asI rfl) rfl ?_
  refine gl_op r_assign rfl ?_
  refine gl_nil ?_
  refine g_ret Tryz.func114 (res2 rfl) ?_
  exact ⟨⟨hlo, _, A', c', by rw [List.length_append]; exact hb3, by have := hrow2.st st3 hne2; rw [List.length_append, byts_append]; exact this, .inr rfl⟩, st3.pu hpu2 (by omega), (hd1.trans (g2.dk hrow1 rfl)).trans (st3.dk hb2 rfl)⟩

theorem bldString_ok (w0 w : World) (hpu : Pu w0 w) (b : Nat) (l : Bs) (h : Bld w w0.heap.size b l) :
    Fn Tryz.prog 117 #[.pointer (some ⟨b, 0, none⟩)] w (fun v w' => v = .string (str l) ∧ Pu w0 w') := by
  obtain ⟨p, A, c, hb, hrow, hp⟩ := h.at_
  have hne := hrow.ne hb (by decide)
  refine (fn_calls (ent Tryz.func117 (by kernel_rfl) rfl) (Tryz.Builder_String_any w0.heap.size b l w ?_ hpu.size)).mono ?_
  · have hl : (Lib.byteCells l).length = l.length := by simp [Lib.byteCells]
    have key : ∀ p, w.heap[b]? = some (.cells #[.pointer p, .slice A l.length c] 196 (0, 0)) → Lib.BuilderAt 196 5 w0.heap.size b (.pointer p) (Lib.byteCells l) w := fun p hb => by
      refine ⟨h.lo, _, hb, by rw [hl]; exact hrow, fun e => ?_⟩
      cases A with
      | none => simp [Value.ownBlock] at e
      | some ad => exact hne ad rfl (by simpa [Value.ownBlock] using e)
    rcases hp with rfl | rfl
    · exact .inl (key _ hb)
    · exact .inr (key _ hb)
  · rintro v w' ⟨rfl, hB⟩
    refine ⟨rfl, ⟨hB.os.trans hpu.os, hB.tape.trans hpu.tape, hB.output.trans hpu.output, Nat.le_trans hpu.size hB.size, fun k hk => (hB.block k hk).trans (hpu.block k hk)⟩⟩
end Go.GW
namespace Go.GW
open Go.RowKit Go.Proofs

theorem setHas_ok (cut : Bs) (b : Nat) (x : UInt8) (w : World) (hb : w.heap[b]? = some (.cells (Lib.setCells cut) 315 (0, 0))) :
    Fn Tryz.prog 252 #[.pointer (some ⟨b, 0, none⟩), .int .u8 x.toNat] w (fun v w' => v = .bool (cut.contains x) ∧ w' = w) :=
  fn_calls (ent Tryz.func252 (by kernel_rfl) rfl) (Tryz.asciiSet_contains b x (cut.contains x) w (by rw [cell_of_blk hb]; exact Lib.setCells_at cut x))

theorem trimLeft_ok (s cut : Bs) (b : Nat) (hs : s.length < 4611686018427387904) (w : World) (hb : w.heap[b]? = some (.cells (Lib.setCells cut) 315 (0, 0))) :
    Fn Tryz.prog 228 #[.string (str s), .pointer (some ⟨b, 0, none⟩)] w (fun v w' => v = .string (str (s.dropWhile cut.contains)) ∧ w' = w) := by
  refine fn_of (args := [.string (str s), .pointer (some ⟨b, 0, none⟩)]) Tryz.func228 (by kernel_rfl) rfl Tryz.ntmps228 rfl ?_
  refine g_seq ?_
  refine g_region ?_
  refine gl_op (r_asS rfl) rfl ?_
  refine gl_nil ?_
  refine g_seq ?_
  refine g_block ?_
  refine g_loop (ι := Bs) (fun t => [(0, .string (str t)), (1, .pointer (some ⟨b, 0, none⟩))]) (fun t w' => w' = w ∧ t.length ≤ s.length ∧ t.dropWhile cut.contains = s.dropWhile cut.contains) (fun t => t.length) s ⟨rfl, rfl, trivial⟩ ⟨rfl, Nat.le_refl _, rfl⟩ ?_
  rintro t τ w1 ⟨rfl, htl, hT⟩ ih
  refine g_seq ?_
  refine g_seq ?_
  refine g_region ?_
  refine gl_op (r_mvS rfl) rfl ?_
  refine gl_op (r_lenS Tryz.underlying9 rfl) rfl ?_
  refine gl_op (r_gt rfl rfl) rfl ?_
  refine gl_nil ?_
  cases t with
  | nil =>
    refine g_condF (bF (by show ¬ ((0:Nat):Int) > 0; omega)) ?_
    refine g_exit rfl ?_
    refine g_seq ?_
    refine g_region ?_
    refine gl_op (r_mvS rfl) rfl ?_
    refine gl_op (r_asS rfl) rfl ?_
    refine gl_nil ?_
    refine g_ret Tryz.func228 (res1 rfl) ?_
    exact ⟨congrArg (fun x => Value.string (str x)) hT, rfl⟩
  | cons c t =>
    refine g_condT (bT (by rw [List.length_cons]; omega)) ?_
    refine g_skip ?_
    refine g_block ?_
    refine g_seq ?_
    refine g_seq ?_
    refine g_region ?_
    refine gl_op (r_mvP rfl) rfl ?_
    refine gl_op (r_mvS rfl) rfl ?_
    refine gl_op (r_indexStr (j := 0) (c := c) Tryz.underlying9 rfl rfl rfl) rfl ?_
    refine gl_call (setHas_ok cut b c _ hb) rfl rfl ?_
    rintro _ _ ⟨rfl, rfl⟩
    refine gl_op (r_not rfl) rfl ?_
    refine gl_nil ?_
    by_cases hc : cut.contains c = true
    · skip
      rw [List.dropWhile_cons_of_pos hc] at hT
      refine g_condF ((by rw [hc]; rfl)) ?_
      refine g_skip ?_
      refine g_region ?_
      refine gl_op (r_mvS rfl) rfl ?_
      refine gl_op (r_sliceSlo (i := 1) Tryz.underlying9 rfl rfl (by rw [List.length_cons]; omega)) rfl ?_
      refine gl_op (r_asS rfl) rfl ?_
      refine gl_nil ?_
      refine g_inBlock ?_
      exact ih t _ _ (by rw [List.length_cons]; omega) ⟨rfl, rfl, trivial⟩ ⟨rfl, by rw [List.length_cons] at htl; omega, hT⟩
    · rw [List.dropWhile_cons_of_neg hc] at hT
      refine g_condT ((by simp only [Bool.not_eq_true] at hc; rw [hc]; rfl)) ?_
      refine g_exit rfl ?_
      refine g_seq ?_
      refine g_region ?_
      refine gl_op (r_mvS rfl) rfl ?_
      refine gl_op (r_asS rfl) rfl ?_
      refine gl_nil ?_
      refine g_ret Tryz.func228 (res1 rfl) ?_
      exact ⟨congrArg (fun x => Value.string (str x)) hT, rfl⟩

/-- s without what it ends with of a set -/
def trimR (p : UInt8 → Bool) (s : Bs) : Bs := (s.reverse.dropWhile p).reverse
theorem trimR_snoc_pos {p : UInt8 → Bool} {c : UInt8} (h : p c = true) (s : Bs) : trimR p (s ++ [c]) = trimR p s := by simp [trimR, List.dropWhile_cons_of_pos h]
theorem trimR_snoc_neg {p : UInt8 → Bool} {c : UInt8} (h : ¬ p c = true) (s : Bs) : trimR p (s ++ [c]) = s ++ [c] := by simp [trimR, List.dropWhile_cons_of_neg h]
theorem trimRight_ok (s cut : Bs) (b : Nat) (hs : s.length < 4611686018427387904) (w : World) (hb : w.heap[b]? = some (.cells (Lib.setCells cut) 315 (0, 0))) :
    Fn Tryz.prog 229 #[.string (str s), .pointer (some ⟨b, 0, none⟩)] w (fun v w' => v = .string (str (trimR cut.contains s)) ∧ w' = w) := by
  refine fn_of (args := [.string (str s), .pointer (some ⟨b, 0, none⟩)]) Tryz.func229 (by kernel_rfl) rfl Tryz.ntmps229 rfl ?_
  refine g_seq ?_
  refine g_region ?_
  refine gl_op (r_asS rfl) rfl ?_
  refine gl_nil ?_
  refine g_seq ?_
  refine g_block ?_
  refine g_loop (ι := Bs) (fun t => [(0, .string (str t)), (1, .pointer (some ⟨b, 0, none⟩))]) (fun t w' => w' = w ∧ t.length ≤ s.length ∧ trimR cut.contains t = trimR cut.contains s) (fun t => t.length) s ⟨rfl, rfl, trivial⟩ ⟨rfl, Nat.le_refl _, rfl⟩ ?_
  rintro t τ w1 ⟨rfl, htl, hT⟩ ih
  refine g_seq ?_
  refine g_seq ?_
  refine g_region ?_
  refine gl_op (r_mvS rfl) rfl ?_
  refine gl_op (r_lenS Tryz.underlying9 rfl) rfl ?_
  refine gl_op (r_gt rfl rfl) rfl ?_
  refine gl_nil ?_
  rcases List.eq_nil_or_concat t with rfl | ⟨t, c, h⟩
  · skip
    refine g_condF (bF (by show ¬ ((0:Nat):Int) > 0; omega)) ?_
    refine g_exit rfl ?_
    refine g_seq ?_
    refine g_region ?_
    refine gl_op (r_mvS rfl) rfl ?_
    refine gl_op (r_asS rfl) rfl ?_
    refine gl_nil ?_
    refine g_ret Tryz.func229 (res1 rfl) ?_
    exact ⟨congrArg (fun x => Value.string (str x)) hT, rfl⟩
  · rw [List.concat_eq_append] at h
    subst h
    have hl : (t ++ [c]).length = t.length + 1 := by simp
    rw [hl] at htl
    refine g_condT (bT (by rw [hl]; omega)) ?_
    refine g_skip ?_
    refine g_block ?_
    refine g_seq ?_
    refine g_seq ?_
    refine g_region ?_
    refine gl_op (r_mvP rfl) rfl ?_
    refine gl_op (r_mvS rfl) rfl ?_
    refine gl_op (r_mvS rfl) rfl ?_
    refine gl_op (r_lenS Tryz.underlying9 rfl) rfl ?_
    refine gl_op (r_sub rfl rfl (wI64 (by omega) (by omega))) rfl ?_
    refine gl_op (r_indexStr (j := t.length) (c := c) Tryz.underlying9 rfl (congrArg (Value.int .i64) (by rw [hl]; omega : (((t ++ [c]).length : Nat) : Int) - 1 = (t.length : Int))) (by simp)) rfl ?_
    refine gl_call (setHas_ok cut b c _ hb) rfl rfl ?_
    rintro _ _ ⟨rfl, rfl⟩
    refine gl_op (r_not rfl) rfl ?_
    refine gl_nil ?_
    by_cases hc : cut.contains c = true
    · skip
      rw [trimR_snoc_pos hc] at hT
      refine g_condF ((by rw [hc]; rfl)) ?_
      refine g_skip ?_
      refine g_region ?_
      refine gl_op (r_mvS rfl) rfl ?_
      refine gl_op (r_mvS rfl) rfl ?_
      refine gl_op (r_lenS Tryz.underlying9 rfl) rfl ?_
      refine gl_op (r_sub rfl rfl (wI64 (by omega) (by omega))) rfl ?_
      refine gl_op (r_sliceShi (j := t.length) Tryz.underlying9 rfl (congrArg (Value.int .i64) (by rw [hl]; omega : (((t ++ [c]).length : Nat) : Int) - 1 = (t.length : Int))) (by rw [hl]; omega)) rfl ?_
      rw [List.take_left' rfl]
      refine gl_op (r_asS rfl) rfl ?_
      refine gl_nil ?_
      refine g_inBlock ?_
      exact ih t _ _ (by rw [hl]; omega) ⟨rfl, rfl, trivial⟩ ⟨rfl, by omega, hT⟩
    · rw [trimR_snoc_neg hc] at hT
      refine g_condT ((by simp only [Bool.not_eq_true] at hc; rw [hc]; rfl)) ?_
      refine g_exit rfl ?_
      refine g_seq ?_
      refine g_region ?_
      refine gl_op (r_mvS rfl) rfl ?_
      refine gl_op (r_asS rfl) rfl ?_
      refine gl_nil ?_
      refine g_ret Tryz.func229 (res1 rfl) ?_
      exact ⟨congrArg (fun x => Value.string (str x)) hT, rfl⟩

def trimB (p : UInt8 → Bool) (s : Bs) : Bs := (trimR p s).dropWhile p
theorem dw_nil {p : UInt8 → Bool} {l : Bs} : l.dropWhile p = [] ↔ ∀ c ∈ l, p c = true := by
  induction l with
  | nil => simp
  | cons x l ih =>
    by_cases hx : p x = true
    · rw [List.dropWhile_cons_of_pos hx, ih]; simp [hx]
    · rw [List.dropWhile_cons_of_neg hx]; simp [hx]
theorem trimB_nil {p : UInt8 → Bool} {s : Bs} : trimB p s = [] ↔ ∀ c ∈ s, p c = true := by
  unfold trimB trimR
  constructor
  · intro h c hc
    have h2 : ∀ c ∈ s.reverse.dropWhile p, p c = true := fun c hc => by
      have := dw_nil.1 h c (by simpa using hc)
      exact this
    have h3 : s.reverse.dropWhile p = [] := by
      cases hd : s.reverse.dropWhile p with
      | nil => rfl
      | cons x r =>
        have hx := List.head_dropWhile_not p (l := s.reverse) (by rw [hd]; simp)
        have := h2 x (by rw [hd]; simp)
        simp [hd] at hx
        rw [hx] at this; cases this
    exact dw_nil.1 h3 c (by simpa using hc)
  · intro h
    have : s.reverse.dropWhile p = [] := dw_nil.2 fun c hc => h c (by simpa using hc)
    rw [this]; rfl
theorem dw_len {p : UInt8 → Bool} (l : Bs) : (l.dropWhile p).length ≤ l.length := (List.dropWhile_sublist p).length_le
theorem trimR_len {p : UInt8 → Bool} (l : Bs) : (trimR p l).length ≤ l.length := by
  unfold trimR
  rw [List.length_reverse]
  exact Nat.le_trans (dw_len _) (by simp)
theorem trim_ok (s cut : Bs) (hs : s.length < 4611686018427387904) (hc2 : 2 ≤ cut.length) (hc3 : cut.length < 4294967281) (hcut : ∀ c ∈ cut, c.toNat < 128) (w : World) :
    Fn Tryz.prog 180 #[.string (str s), .string (str cut)] w (fun v w' => v = .string (str (trimB cut.contains s)) ∧ Pu w w') := by
  have hsl := Lib.setCells_size cut
  refine fn_of (args := [.string (str s), .string (str cut)]) Tryz.func180 (by kernel_rfl) rfl Tryz.ntmps180 rfl ?_
  refine g_seq ?_
  refine g_region ?_
  refine gl_op (r_asS rfl) rfl ?_
  refine gl_nil ?_
  refine g_seq ?_
  refine g_seq ?_
  refine g_region ?_
  refine gl_op (r_mvS rfl) rfl ?_
  refine gl_op (r_seq rfl rfl) rfl ?_
  refine gl_op (r_mvB rfl) rfl ?_
  cases s with
  | nil =>
    refine gl_guardF rfl (rfl) rfl rfl ?_
    refine gl_guardF rfl (rfl) rfl rfl ?_
    refine gl_op (r_pickTB rfl rfl) rfl ?_
    refine gl_nil ?_
    refine g_condT (rfl) ?_
    refine g_seq ?_
    refine g_region ?_
    refine gl_op (r_mvS rfl) rfl ?_
    refine gl_op (r_asS rfl) rfl ?_
    refine gl_nil ?_
    refine g_ret Tryz.func180 (res1 rfl) ?_
    exact ⟨rfl, Pu.refl⟩
  | cons c0 s0 =>
    refine gl_guardT rfl (rfl) rfl ((r_mvS rfl)) rfl ?_
    refine gl_guardT rfl (rfl) rfl ((r_seq rfl rfl)) rfl ?_
    refine gl_op (r_pickFB rfl (bF (by rintro rfl; simp at hc2))) rfl ?_
    refine gl_nil ?_
    refine g_condF (rfl) ?_
    refine g_skip ?_
    refine g_seq ?_
    refine g_seq ?_
    refine g_region ?_
    refine gl_op (r_mvS rfl) rfl ?_
    refine gl_op (r_lenS Tryz.underlying9 rfl) rfl ?_
    refine gl_op (r_eq rfl rfl) rfl ?_
    refine gl_op (r_mvB rfl) rfl ?_
    refine gl_guardF rfl ((bF (p := (cut.length : Int) = 1) (by omega))) rfl rfl ?_
    refine gl_guardF rfl ((bF (p := (cut.length : Int) = 1) (by omega))) rfl rfl ?_
    refine gl_guardF rfl ((bF (p := (cut.length : Int) = 1) (by omega))) rfl rfl ?_
    refine gl_op (r_pickFB (bF (p := (cut.length : Int) = 1) (by omega)) rfl) rfl ?_
    refine gl_nil ?_
    refine g_condF (rfl) ?_
    refine g_skip ?_
    refine g_seq ?_
    refine g_seq ?_
    refine g_region ?_
    refine gl_op (r_mvS rfl) rfl ?_
    refine gl_call (fn_calls (ent Tryz.func227 (by kernel_rfl) rfl) (Tryz.strings_makeASCIISet (fun w => by kernel_rfl) (str cut) _ (by rw [str_size]; exact hc3) (fun j b hj => hcut b (List.mem_of_getElem? hj)))) rfl rfl ?_
    rintro _ w1 ⟨rfl, rfl⟩
    refine gl_op (r_mvT rfl) rfl ?_
    refine gl_op (r_extract rfl rfl) rfl ?_
    refine gl_op (r_extract rfl rfl) rfl ?_
    refine gl_alloc ze315 rfl rfl ?_
    intro b2 w2 hb2 e2 s2
    have hone : (Lib.setCells cut).toList.all Value.oneCell' = true := by
      rw [Lib.setCells_eq]
      simp only [Array.toList_map, List.all_map, List.all_eq_true]
      exact fun _ _ => rfl
    refine gl_store (u := .agg (Lib.setCells cut)) (vs := (Lib.setCells cut).toList) sz315 rfl rfl rfl hone (by rw [Array.length_toList]; exact hsl) hb2 (by decide +kernel) ?_
    intro w3 hb3 st3
    have hz : ∀ (cs : Array Value) (e : TypeId), cs.size = 256 → w3.heap[b2]? = some (.cells (putCells cs 0 (Lib.setCells cut).toList) e (0, 0)) → w3.heap[b2]? = some (.cells (Lib.setCells cut) e (0, 0)) := fun cs e h h2 => by
      rw [putCells_all _ _ (by rw [Array.length_toList, h]; exact hsl)] at h2
      exact h2
    have hb3 := hz _ _ (by decide +kernel) hb3
    have p3 : Pu w w3 := st3.pu ((Pu.alloc _).trans s2) (by have := (Pu.alloc (w := w) (.cells (Lib.setCells cut) 315)).size; show w.heap.size ≤ b2; rw [e2]; exact this)
    refine gl_op (r_asB rfl) rfl ?_
    refine gl_nil ?_
    refine g_seq ?_
    refine g_region ?_
    refine gl_op (r_mvB rfl) rfl ?_
    refine gl_nil ?_
    refine g_condT (rfl) ?_
    refine g_seq ?_
    refine g_region ?_
    refine gl_op (r_mvS rfl) rfl ?_
    refine gl_call (trimRight_ok (c0 :: s0) cut b2 hs _ hb3) rfl rfl ?_
    rintro _ _ ⟨rfl, rfl⟩
    refine gl_call (trimLeft_ok _ cut b2 (Nat.lt_of_le_of_lt (trimR_len _) hs) _ hb3) rfl rfl ?_
    rintro _ _ ⟨rfl, rfl⟩
    refine gl_op (r_asS rfl) rfl ?_
    refine gl_nil ?_
    refine g_ret Tryz.func180 (res1 rfl) ?_
    exact ⟨rfl, p3⟩
end Go.GW
namespace Go.GW
open Go.RowKit Go.Proofs

abbrev Lab := Bs × Bs
def labCells (x : Lab) : List Value := [.string (str x.1), .string (str x.2)]
theorem labCells_len (x : Lab) : (labCells x).length = 2 := rfl
/-- A slice of labels. -/
abbrev SlLab (w : World) (A : Option Addr) (l : List Lab) : Prop := Sl w 64 2 A l.length (l.flatMap labCells)

theorem idxFunc_pair {α : Type} (enc : α → List Value) (henc : ∀ x, (enc x).length = 2) (p : α → Bool) (l : List α) (A : Option Addr) (c : Nat) (fv : Value) (w : World) {T0 : TypeId} (hsl : Sl w T0 2 A l.length (l.flatMap enc)) (hlen : l.length < 4611686018427387904)
    (hf : ∀ x ∈ l, ∀ w1, Pu w w1 → FnV Tryz.prog fv [.agg (enc x).toArray] w1 (fun v w' => v = .bool (p x) ∧ Pu w1 w')) :
    Fn Tryz.prog 186 #[.slice A l.length c, fv] w (fun v w' => v = .int .i64 (idxOf p l) ∧ Pu w w') := by
  refine fn_of (args := [.slice A l.length c, fv]) Tryz.func186 (by kernel_rfl) rfl Tryz.ntmps186 rfl ?_
  refine g_seq ?_
  refine g_region ?_
  refine gl_op (r_asI rfl) rfl ?_
  refine gl_nil ?_
  refine g_seq ?_
  refine g_seq ?_
  refine g_region ?_
  refine gl_op (r_mvL rfl) rfl ?_
  refine gl_op (r_len Tryz.underlying35 rfl) rfl ?_
  refine gl_op (r_mvI rfl) rfl ?_
  refine gl_nil ?_
  refine g_block ?_
  refine g_loop (ι := Nat) (fun i => [(0, .slice A l.length c), (1, fv), (7, .int .i64 l.length), (8, .int .i64 i)]) (fun i w' => i ≤ l.length ∧ Pu w w' ∧ ∀ (j : Nat) y, j < i → l[j]? = some y → p y = false) (fun i => l.length - i) 0 ⟨rfl, rfl, rfl, rfl, trivial⟩ ⟨Nat.zero_le _, Pu.refl, fun j y h => by omega⟩ ?_
  rintro i τ w1 ⟨hi, hpu, hno⟩ ih
  have z_hpu := hpu.size
  refine g_seq ?_
  refine g_region ?_
  refine gl_op (r_lt rfl rfl) rfl ?_
  refine gl_nil ?_
  refine g_seq ?_
  refine g_condP rfl (fun hc => ?_) (fun hc => ?_)
  · have hlt : i < l.length := by omega
    obtain ⟨x, hx⟩ : ∃ x, l[i]? = some x := ⟨_, List.getElem?_eq_getElem hlt⟩
    obtain ⟨b, o, cs, fr, rfl, hb, hcs⟩ := (hsl.pu hpu).elem henc hx
    refine g_skip ?_
    refine g_seq ?_
    refine g_block ?_
    refine g_seq ?_
    refine g_region ?_
    refine gl_op (r_mvI rfl) rfl ?_
    refine gl_op (r_asI rfl) rfl ?_
    refine gl_nil ?_
    refine g_seq ?_
    refine g_region ?_
    refine gl_op (r_mvV (v := fv) rfl) rfl ?_
    refine gl_op (r_mvL rfl) rfl ?_
    refine gl_op (r_mvI rfl) rfl ?_
    refine gl_op (r_indexAddr (j := i) Tryz.underlying35 sz64 rfl rfl hlt) rfl ?_
    refine gl_op (r_loadA (ls := enc x) ld64 rfl hb hcs) rfl ?_
    refine gl_callV rfl (hf x (List.mem_of_getElem? hx) _ hpu) rfl rfl ?_
    rintro _ w1 ⟨rfl, s1⟩
    have z1 := s1.size
    replace hpu := hpu.trans s1
    refine gl_nil ?_
    refine g_cond rfl (fun hp => ?_) (fun hp => ?_)
    · refine g_seq ?_
      refine g_region ?_
      refine gl_op (r_mvI rfl) rfl ?_
      refine gl_op (r_asI rfl) rfl ?_
      refine gl_nil ?_
      refine g_ret Tryz.func186 (res1 rfl) ?_
      exact ⟨by rw [idxOf_at hx hp hno]; rfl, hpu⟩
    · refine g_skip ?_
      refine g_inBlock ?_
      refine g_region ?_
      refine gl_op (r_add rfl rfl (wI64 (by omega) (by omega))) rfl ?_
      refine gl_op (r_mvI rfl) rfl ?_
      refine gl_nil ?_
      exact ih (i + 1) _ _ (by omega) ⟨rfl, rfl, rfl, rfl, trivial⟩ ⟨by omega, hpu, noStep hno hx hp⟩
  · refine g_exit rfl ?_
    refine g_seq ?_
    refine g_region ?_
    refine gl_op (r_asI rfl) rfl ?_
    refine gl_nil ?_
    refine g_ret Tryz.func186 (res1 rfl) ?_
    have he : i = l.length := by omega
    exact ⟨by rw [idxOf_no fun j y hy => hno j y (by rw [he]; exact (List.getElem?_eq_some_iff.1 hy).1) hy]; rfl, hpu⟩

theorem labFind1_ok (x : Lab) (name : Bs) (b : Nat) (w : World) (hb : w.heap[b]? = some (.cells #[.string (str name)] 9 (0, 0))) :
    Fn Tryz.prog 187 #[.agg (labCells x).toArray, .pointer (some ⟨b, 0, none⟩)] w (fun v w' => v = .bool (decide (x.1 = name)) ∧ Pu w w') := by
  refine fn_of (args := [.agg (labCells x).toArray, .pointer (some ⟨b, 0, none⟩)]) Tryz.func187 (by kernel_rfl) rfl Tryz.ntmps187 rfl ?_
  have hpu : Pu w w := Pu.refl
  have z_hpu := hpu.size
  have l_hb := blk_lt hb
  refine g_seq ?_
  refine g_region ?_
  refine gl_box (v := .agg #[.string _, .string _]) (vs := [.string _, .string _]) rfl rfl rfl ?_
  intro b_hx w1 hx e_hx s1
  have z1 := s1.size
  replace hpu := hpu.trans s1
  replace hb := s1.blk hb
  have l_hx := blk_lt hx
  refine gl_op (r_asB rfl) rfl ?_
  refine gl_nil ?_
  refine g_seq ?_
  refine g_region ?_
  refine gl_op (r_fieldAddr of64_0 rfl) rfl ?_
  refine gl_op (r_load1 (v := .string _) ld9 rfl (by assumption) rfl) rfl ?_
  refine gl_op (r_load1 (v := .string _) ld9 rfl (by assumption) rfl) rfl ?_
  refine gl_op (r_seq rfl rfl) rfl ?_
  refine gl_op (r_asB rfl) rfl ?_
  refine gl_nil ?_
  refine g_ret Tryz.func187 (res1 rfl) ?_
  exact ⟨rfl, hpu⟩
def labFind (l : List Lab) (name : Bs) : Int := idxOf (fun x : Lab => decide (x.1 = name)) l
theorem labFind_ok (l : List Lab) (name : Bs) (A : Option Addr) (c : Nat) (w : World) (hsl : SlLab w A l) (hlen : l.length < 4611686018427387904) :
    Fn Tryz.prog 152 #[.slice A l.length c, .string (str name)] w (fun v w' => v = .int .i64 (labFind l name) ∧ Pu w w') := by
  refine fn_of (args := [.slice A l.length c, .string (str name)]) Tryz.func152 (by kernel_rfl) rfl Tryz.ntmps152 rfl ?_
  have hpu : Pu w w := Pu.refl
  have z_hpu := hpu.size
  refine g_seq ?_
  refine g_region ?_
  refine gl_box (v := .string _) (vs := [.string _]) rfl rfl rfl ?_
  intro b_hb w1 hb e_hb s1
  have z1 := s1.size
  replace hpu := hpu.trans s1
  have l_hb := blk_lt hb
  refine gl_op (r_asI rfl) rfl ?_
  refine gl_nil ?_
  refine g_seq ?_
  refine g_region ?_
  refine gl_op (r_mvL rfl) rfl ?_
  refine gl_op r_func rfl ?_
  refine gl_call (idxFunc_pair labCells labCells_len (fun x : Lab => decide (x.1 = name)) l A c _ _ (hsl.pu hpu) hlen (fun x _ w2 h2 => FnV.of (fs := []) (labFind1_ok x name _ w2 (h2.blk hb)))) rfl rfl ?_
  rintro _ w2 ⟨rfl, s2⟩
  have z2 := s2.size
  replace hpu := hpu.trans s2
  replace hb := s2.blk hb
  refine gl_op (r_asI rfl) rfl ?_
  refine gl_nil ?_
  refine g_ret Tryz.func152 (res1 rfl) ?_
  exact ⟨rfl, hpu⟩
end Go.GW
namespace Go.GW
open Go.RowKit Go.Proofs
def labFirst : Bs := [97, 98, 99, 100, 101, 102, 103, 104, 105, 106, 107, 108, 109, 110, 111, 112, 113, 114, 115, 116, 117, 118, 119, 120, 121, 122, 95]
def labLater : Bs := [97, 98, 99, 100, 101, 102, 103, 104, 105, 106, 107, 108, 109, 110, 111, 112, 113, 114, 115, 116, 117, 118, 119, 120, 121, 122, 95, 48, 49, 50, 51, 52, 53, 54, 55, 56, 57]
def labName (s : Bs) : Bool := match s with
  | [] => false
  | c :: r => decide ((c :: r).length ≤ 20) && labFirst.contains c && (c :: r).all labLater.contains
theorem idx_has (c : UInt8) : ∀ l : Bs, 0 ≤ Lib.indexByte l c ↔ l.contains c = true := by
  intro l
  induction l with
  | nil => simp [Lib.indexByte]
  | cons b l ih =>
    have hge := Lib.indexByte_ge l c
    unfold Lib.indexByte
    by_cases h : b = c
    · subst h; simp
    · have h1 : (b == c) = false := by simpa using h
      have h2 : (c == b) = false := by simpa using fun e => h e.symm
      rw [h1, List.contains_cons, h2, Bool.false_or, ← ih]
      simp only [Bool.false_eq_true, if_false]
      by_cases h3 : Lib.indexByte l c = -1
      · simp [h3]
      · have : (Lib.indexByte l c == -1) = false := by simpa using h3
        rw [this]; simp only [Bool.false_eq_true, if_false]; omega
theorem labName_ok (s : Bs) (hs : s.length < 4611686018427387904) (w : World) : Fn Tryz.prog 144 #[.string (str s)] w (fun v w' => v = .bool (labName s) ∧ Pu w w') := by
  refine fn_of (args := [.string (str s)]) Tryz.func144 (by kernel_rfl) rfl Tryz.ntmps144 rfl ?_
  refine g_seq ?_
  refine g_region ?_
  refine gl_op (r_asB rfl) rfl ?_
  refine gl_nil ?_
  refine g_seq ?_
  refine g_region ?_
  refine gl_op (r_mvS rfl) rfl ?_
  refine gl_op (r_sne rfl rfl) rfl ?_
  refine gl_op (r_mvB rfl) rfl ?_
  cases s with
  | nil =>
    refine gl_guardF rfl (rfl) rfl rfl ?_
    refine gl_guardF rfl (rfl) rfl rfl ?_
    refine gl_guardF rfl (rfl) rfl rfl ?_
    refine gl_op (r_pickFB (rfl) rfl) rfl ?_
    refine gl_op (r_mvB rfl) rfl ?_
    refine gl_guardF rfl (rfl) rfl rfl ?_
    refine gl_guardF rfl (rfl) rfl rfl ?_
    refine gl_guardF rfl (rfl) rfl rfl ?_
    refine gl_guardF rfl (rfl) rfl rfl ?_
    refine gl_op (r_pickFB (rfl) rfl) rfl ?_
    refine gl_op (r_mvB rfl) rfl ?_
    refine gl_guardF rfl (rfl) rfl rfl ?_
    refine gl_guardF rfl (rfl) rfl rfl ?_
    refine gl_guardF rfl (rfl) rfl rfl ?_
    refine gl_op (r_pickFB (rfl) rfl) rfl ?_
    refine gl_op (r_asB rfl) rfl ?_
    refine gl_nil ?_
    refine g_ret Tryz.func144 (res1 rfl) ?_
    exact ⟨rfl, Pu.refl⟩
  | cons c r =>
    refine gl_guardT rfl (rfl) rfl ((r_mvS rfl)) rfl ?_
    refine gl_guardT rfl (rfl) rfl ((r_lenS Tryz.underlying9 rfl)) rfl ?_
    refine gl_guardT rfl (rfl) rfl ((r_le rfl rfl)) rfl ?_
    refine gl_op (r_pickTB (rfl) rfl) rfl ?_
    refine gl_op (r_mvB rfl) rfl ?_
    by_cases hl : (c :: r).length ≤ 20
    · skip
      refine gl_guardT rfl (bT (p := (((c :: r).length : Nat) : Int) ≤ 20) (by omega)) rfl ((r_mvS rfl)) rfl ?_
      refine gl_guardT rfl (bT (p := (((c :: r).length : Nat) : Int) ≤ 20) (by omega)) rfl (r_indexStr (j := 0) (c := c) Tryz.underlying9 rfl rfl rfl) rfl ?_
      have hpu : Pu w w := Pu.refl
      have z_hpu := hpu.size
      refine gl_guardCall rfl (bT (p := (((c :: r).length : Nat) : Int) ≤ 20) (by omega)) rfl ((fn_calls (ent Tryz.func182 (by kernel_rfl) rfl) (Tryz.strings_IndexByte (str labFirst) c.toNat w)).mono (R' := fun v w' => v = .int .i64 (Lib.indexByte labFirst c.toNat.toUInt8) ∧ Pu w w') (fun v w' h => ⟨h.1, h.2 ▸ Pu.refl⟩)) rfl rfl ?_
      rintro _ w1 ⟨rfl, s1⟩
      have z1 := s1.size
      replace hpu := hpu.trans s1
      rw [show c.toNat.toUInt8 = c from by simp]
      refine gl_guardT rfl (bT (p := (((c :: r).length : Nat) : Int) ≤ 20) (by omega)) rfl ((r_ge rfl rfl)) rfl ?_
      refine gl_op (r_pickTB (bT (p := (((c :: r).length : Nat) : Int) ≤ 20) (by omega)) rfl) rfl ?_
      refine gl_op (r_mvB rfl) rfl ?_
      by_cases hf : labFirst.contains c = true
      · skip
        refine gl_guardT rfl (bT ((idx_has c labFirst).2 hf)) rfl ((r_mvS rfl)) rfl ?_
        refine gl_guardCall rfl (bT ((idx_has c labFirst).2 hf)) rfl (trim_ok (c :: r) labLater hs (by decide) (by decide) (by decide) _) rfl rfl ?_
        rintro _ w2 ⟨rfl, s2⟩
        have z2 := s2.size
        replace hpu := hpu.trans s2
        refine gl_guardT rfl (bT ((idx_has c labFirst).2 hf)) rfl ((r_seq rfl rfl)) rfl ?_
        refine gl_op (r_pickTB (bT ((idx_has c labFirst).2 hf)) rfl) rfl ?_
        refine gl_op (r_asB rfl) rfl ?_
        refine gl_nil ?_
        refine g_ret Tryz.func144 (res1 rfl) ?_
        refine ⟨?_, hpu⟩
        have e : labName (c :: r) = decide (trimB labLater.contains (c :: r) = []) := by
          show (decide ((c :: r).length ≤ 20) && labFirst.contains c && (c :: r).all labLater.contains) = _
          rw [decide_eq_true hl, hf, Bool.true_and, Bool.true_and]
          rw [Bool.eq_iff_iff, decide_eq_true_iff, trimB_nil, List.all_eq_true]
        rw [e]; rfl
      · skip
        refine gl_guardF rfl (bF (fun h => hf ((idx_has c labFirst).1 h))) rfl rfl ?_
        refine gl_guardF rfl (bF (fun h => hf ((idx_has c labFirst).1 h))) rfl rfl ?_
        refine gl_guardF rfl (bF (fun h => hf ((idx_has c labFirst).1 h))) rfl rfl ?_
        refine gl_op (r_pickFB (bF (fun h => hf ((idx_has c labFirst).1 h))) rfl) rfl ?_
        refine gl_op (r_asB rfl) rfl ?_
        refine gl_nil ?_
        refine g_ret Tryz.func144 (res1 rfl) ?_
        refine ⟨?_, hpu⟩
        have e : labName (c :: r) = false := by
          show (decide ((c :: r).length ≤ 20) && labFirst.contains c && (c :: r).all labLater.contains) = _
          simp only [Bool.not_eq_true] at hf
          rw [hf]; simp
        rw [e]; rfl
    · skip
      refine gl_guardF rfl (bF (p := (((c :: r).length : Nat) : Int) ≤ 20) (by omega)) rfl rfl ?_
      refine gl_guardF rfl (bF (p := (((c :: r).length : Nat) : Int) ≤ 20) (by omega)) rfl rfl ?_
      refine gl_guardF rfl (bF (p := (((c :: r).length : Nat) : Int) ≤ 20) (by omega)) rfl rfl ?_
      refine gl_guardF rfl (bF (p := (((c :: r).length : Nat) : Int) ≤ 20) (by omega)) rfl rfl ?_
      refine gl_op (r_pickFB (bF (p := (((c :: r).length : Nat) : Int) ≤ 20) (by omega)) rfl) rfl ?_
      refine gl_op (r_mvB rfl) rfl ?_
      refine gl_guardF rfl (rfl) rfl rfl ?_
      refine gl_guardF rfl (rfl) rfl rfl ?_
      refine gl_guardF rfl (rfl) rfl rfl ?_
      refine gl_op (r_pickFB (rfl) rfl) rfl ?_
      refine gl_op (r_asB rfl) rfl ?_
      refine gl_nil ?_
      refine g_ret Tryz.func144 (res1 rfl) ?_
      refine ⟨?_, Pu.refl⟩
      have e : labName (c :: r) = false := by
        show (decide ((c :: r).length ≤ 20) && labFirst.contains c && (c :: r).all labLater.contains) = _
        rw [decide_eq_false hl]; simp
      rw [e]; rfl
end Go.GW
namespace Go.GW
open Go.RowKit Go.Proofs
def labCheckGo (pre : List Lab) : List Lab → Nat
  | [] => 0
  | p :: r => if labName p.1 = false then 3 else if 40 < p.2.length then 7 else if 0 ≤ labFind pre p.1 then 4 else labCheckGo (pre ++ [p]) r
theorem labCheckGo_cons (pre : List Lab) (p : Lab) (r : List Lab) : labCheckGo pre (p :: r) = if labName p.1 = false then 3 else if 40 < p.2.length then 7 else if 0 ≤ labFind pre p.1 then 4 else labCheckGo (pre ++ [p]) r := rfl
def labCheck (l : List Lab) : Nat := if 8 < l.length then 6 else labCheckGo [] l
theorem labCheck_ok (l : List Lab) (A : Option Addr) (c : Nat) (w : World) (hsl : SlLab w A l) (hlen : l.length < 4611686018427387904) (hs : ∀ p ∈ l, p.1.length < 4611686018427387904) (hc : l.length ≤ c) :
    Fn Tryz.prog 107 #[.slice A l.length c] w (fun v w' => v = .int .i64 (labCheck l) ∧ Pu w w') := by
  unfold labCheck
  refine fn_of (args := [.slice A l.length c]) Tryz.func107 (by kernel_rfl) rfl Tryz.ntmps107 rfl ?_
  refine g_seq ?_
  refine g_region ?_
  refine gl_op (r_asI rfl) rfl ?_
  refine gl_nil ?_
  refine g_seq ?_
  refine g_seq ?_
  refine g_region ?_
  refine gl_op (r_mvL rfl) rfl ?_
  refine gl_op (r_len Tryz.underlying35 rfl) rfl ?_
  refine gl_op (r_gt rfl rfl) rfl ?_
  refine gl_nil ?_
  refine g_condP rfl (fun h8 => ?_) (fun h8 => ?_)
  · refine g_seq ?_
    refine g_region ?_
    refine gl_op (r_asI rfl) rfl ?_
    refine gl_nil ?_
    refine g_ret Tryz.func107 (res1 rfl) ?_
    rw [if_pos (by omega)]
    exact ⟨rfl, Pu.refl⟩
  · rw [if_neg (by omega)]
    refine g_skip ?_
    refine g_seq ?_
    refine g_seq ?_
    refine g_region ?_
    refine gl_op (r_mvL rfl) rfl ?_
    refine gl_op (r_len Tryz.underlying35 rfl) rfl ?_
    refine gl_op (r_mvI rfl) rfl ?_
    refine gl_nil ?_
    refine g_block ?_
    refine g_loop (ι := Nat) (fun i => [(0, .slice A l.length c), (8, .slice A l.length c), (9, .int .i64 l.length), (10, .int .i64 i)]) (fun i w' => i ≤ l.length ∧ Pu w w' ∧ labCheckGo (l.take i) (l.drop i) = labCheckGo [] l) (fun i => l.length - i) 0 ⟨rfl, rfl, rfl, rfl, trivial⟩ ⟨Nat.zero_le _, Pu.refl, rfl⟩ ?_
    rintro i τ w1 ⟨hi, hpu, hT⟩ ih
    have z_hpu := hpu.size
    have p0 := hpu
    refine g_seq ?_
    refine g_region ?_
    refine gl_op (r_lt rfl rfl) rfl ?_
    refine gl_nil ?_
    refine g_seq ?_
    refine g_condP rfl (fun hlt => ?_) (fun hlt => ?_)
    · have hlt : i < l.length := by omega
      obtain ⟨p, hp⟩ : ∃ p, l[i]? = some p := ⟨_, List.getElem?_eq_getElem hlt⟩
      have hpm := List.mem_of_getElem? hp
      have hcons : l.drop i = p :: l.drop (i + 1) := by
        obtain ⟨h1, rfl⟩ := List.getElem?_eq_some_iff.1 hp
        exact List.drop_eq_getElem_cons h1
      have hsnoc : l.take i ++ [p] = l.take (i + 1) := by rw [List.take_add_one, hp]; rfl
      rw [hcons, labCheckGo_cons] at hT
      obtain ⟨b, o, cs, fr, eA, hb, hcs⟩ := (hsl.pu hpu).elem labCells_len hp
      subst eA
      refine g_skip ?_
      refine g_seq ?_
      refine g_block ?_
      refine g_seq ?_
      refine g_region ?_
      refine gl_op (r_mvI rfl) rfl ?_
      refine gl_op (r_indexAddr (j := i) Tryz.underlying35 sz64 rfl rfl hlt) rfl ?_
      refine gl_op (r_loadA (ls := labCells p) ld64 rfl hb hcs) rfl ?_
      refine gl_alloc ze64 rfl rfl ?_
      intro b_hx w1 hx e_hx s1
      have z1 := s1.size
      replace hpu := hpu.trans s1
      have l_hx := blk_lt hx
      refine gl_op (r_asI rfl) rfl ?_
      have old2 := hx
      refine gl_store (u := .agg #[.string _, .string _]) (vs := [.string _, .string _]) sz64 rfl rfl rfl rfl rfl hx rfl ?_
      intro w2 hx st2
      have z2 := st2.size
      replace hpu := st2.pu hpu (by omega)
      refine gl_nil ?_
      refine g_block ?_
      refine g_seq ?_
      refine g_region ?_
      refine gl_op (r_fieldAddr of64_0 rfl) rfl ?_
      refine gl_op (r_load1 (v := .string _) ld9 rfl (by assumption) rfl) rfl ?_
      refine gl_call (labName_ok p.1 (hs p hpm) _) rfl rfl ?_
      rintro _ w3 ⟨rfl, s3⟩
      have z3 := s3.size
      replace hpu := hpu.trans s3
      replace hx := s3.blk hx
      refine gl_op (r_not rfl) rfl ?_
      refine gl_op (r_asB rfl) rfl ?_
      refine gl_nil ?_
      refine g_cond rfl (fun hn => ?_) (fun hn => ?_)
      · have hn' : labName p.1 = false := by simpa using hn
        rw [if_pos hn'] at hT
        refine g_seq ?_
        refine g_region ?_
        refine gl_op (r_asI rfl) rfl ?_
        refine gl_nil ?_
        refine g_ret Tryz.func107 (res1 rfl) ?_
        exact ⟨by rw [← hT]; rfl, hpu⟩
      · have hn' : ¬ labName p.1 = false := by simpa using hn
        rw [if_neg hn'] at hT
        refine g_seq ?_
        refine g_region ?_
        refine gl_op (r_fieldAddr of64_1 rfl) rfl ?_
        refine gl_op (r_load1 (v := .string _) ld9 rfl (by assumption) rfl) rfl ?_
        refine gl_op (r_lenS Tryz.underlying9 rfl) rfl ?_
        refine gl_op (r_gt rfl rfl) rfl ?_
        refine gl_op (r_asB rfl) rfl ?_
        refine gl_nil ?_
        refine g_condP rfl (fun hv => ?_) (fun hv => ?_)
        · rw [if_pos (by omega)] at hT
          refine g_seq ?_
          refine g_region ?_
          refine gl_op (r_asI rfl) rfl ?_
          refine gl_nil ?_
          refine g_ret Tryz.func107 (res1 rfl) ?_
          exact ⟨by rw [← hT]; rfl, hpu⟩
        · rw [if_neg (by omega)] at hT
          refine g_seq ?_
          refine g_draw (fun w' ↦ w'.heap[b_hx]? = some (.cells #[.string (str p.1), .string (str p.2)] 64 (0, 0)) ∧ Pu w w') mixed ?_
          intro w8 hw8 s8
          have p1 := hpu
          have z4 := s8.size
          replace hpu := hpu.trans s8
          replace hx := s8.blk hx
          have hS : w8.heap[b_hx]? = some (.cells #[.string (str p.1), .string (str p.2)] 64 (0, 0)) ∧ Pu w w8 := ⟨hx, hpu⟩
          refine ga_take 0 rfl (by decide +kernel) rfl hS (fun _ hS => r_mvL (A := some ⟨b, o, none⟩) (m := l.length) (c := c) rfl) rfl ?_
          refine ga_take 1 rfl (by decide +kernel) rfl hS (fun _ hS => (r_mvI rfl)) rfl ?_
          refine ga_take 2 rfl (by decide +kernel) rfl hS (fun _ hS => r_sliceHi (A := some ⟨b, o, none⟩) (j := i) Tryz.underlying35 sz64 rfl rfl (by omega)) rfl ?_
          refine ga_take 3 rfl (by decide +kernel) rfl hS (fun _ hS => (r_fieldAddr of64_0 rfl)) rfl ?_
          refine ga_take 4 rfl (by decide +kernel) rfl hS (fun _ hS => r_load1 (v := .string (str p.1)) ld9 rfl hS.1 rfl) rfl ?_
          have hfind := labFind_ok (l.take i) p.1 (some ⟨b, o, none⟩) c w8 (by have := (hsl.pu hS.2).first labCells_len hi; unfold SlLab; rw [List.length_take, Nat.min_eq_left hi]; exact this) (by rw [List.length_take]; omega)
          rw [List.length_take, Nat.min_eq_left hi] at hfind
          refine ga_only 5 rfl (by decide +kernel) rfl ?_
          refine gl_call (hfind) rfl rfl ?_
          rintro _ w9 ⟨rfl, s9⟩
          refine gl_nil ⟨⟨s9.blk hS.1, hS.2.trans s9⟩, ?_⟩
          have hS : w9.heap[b_hx]? = some (.cells #[.string (str p.1), .string (str p.2)] 64 (0, 0)) ∧ Pu w w9 := ⟨s9.blk hS.1, hS.2.trans s9⟩
          refine ga_take 6 rfl (by decide +kernel) rfl hS (fun _ hS => (r_ge rfl rfl)) rfl ?_
          refine ga_take 7 rfl (by decide +kernel) rfl hS (fun _ hS => (r_asB rfl)) rfl ?_
          refine ga_done (by decide +kernel) ?_
          refine g_condP rfl (fun hf => ?_) (fun hf => ?_)
          · rw [if_pos hf] at hT
            refine g_seq ?_
            refine g_region ?_
            refine gl_op (r_asI rfl) rfl ?_
            refine gl_nil ?_
            refine g_ret Tryz.func107 (res1 rfl) ?_
            exact ⟨by rw [← hT]; rfl, hS.2⟩
          · rw [if_neg hf, hsnoc] at hT
            refine g_skip ?_
            refine g_inBlock ?_
            refine g_inBlock ?_
            refine g_region ?_
            refine gl_op (r_add rfl rfl (wI64 (by omega) (by omega))) rfl ?_
            refine gl_op (r_mvI rfl) rfl ?_
            refine gl_nil ?_
            exact ih (i + 1) _ _ (by omega) ⟨rfl, rfl, rfl, rfl, trivial⟩ ⟨by omega, hS.2, hT⟩
    · refine g_exit rfl ?_
      refine g_seq ?_
      refine g_region ?_
      refine gl_op (r_asI rfl) rfl ?_
      refine gl_nil ?_
      refine g_ret Tryz.func107 (res1 rfl) ?_
      have he : i = l.length := by omega
      subst he
      rw [List.drop_length] at hT
      exact ⟨by rw [← hT]; rfl, hpu⟩
end Go.GW
namespace Go.GW
open Go.RowKit Go.Proofs
theorem appendSeq_pair (Fp K : Nat → Prop) (Nx : List Lab → Lab → Prop) (Ok Nd : List Lab → Prop) (g : FuncId) (fs cl : List Value) (w : World)
    (hK : ∀ b, K b → b < w.heap.size) (hFp : ∀ b, Fp b → K b) (hnd : Nd []) (hnx : ∀ done x, Nd done → Nx done x → Nd (done ++ [x]) ∧ done.length < 1099511627776)
    (it : ∀ w1, Pu w w1 → Iterates Tryz.prog noD Fp g fs cl (fun x : Lab => [.agg (labCells x).toArray]) Nx Ok K w1) :
    Fn Tryz.prog 235 #[.slice none 0 0, .func (.func g) fs.toArray cl.toArray] w (fun v w' => ∃ done A c, Ok done ∧ Nd done ∧ v = .slice A done.length c ∧ Row w' w.heap.size 64 2 A done.length c (done.flatMap labCells) ∧ Fr noD Fp w w') := by
  refine fn_of (args := [.slice none 0 0, .func (.func g) fs.toArray cl.toArray]) Tryz.func235 (by kernel_rfl) rfl Tryz.ntmps235 rfl ?_
  have hpu : Pu w w := Pu.refl
  have z_hpu := hpu.size
  refine g_seq ?_
  refine g_region ?_
  refine gl_box (v := .slice _ _ _) (vs := [.slice _ _ _]) rfl rfl rfl ?_
  intro b_hrb w1 hrb e_hrb s1
  have z1 := s1.size
  replace hpu := hpu.trans s1
  have l_hrb := blk_lt hrb
  refine gl_op (r_asL rfl) rfl ?_
  refine gl_nil ?_
  refine g_seq ?_
  refine g_seq ?_
  refine g_region ?_
  refine gl_op (r_mvF rfl) rfl ?_
  refine gl_nil ?_
  refine g_block ?_
  refine g_iter (α := Lab) (fs := fs) (cl := cl) (Fp := Fp) (K := K) rfl (fun w5 s5 => it w5 (hpu.trans s5)) ?_
  intro l df fn tm w5 edf el htm hl hdf s5 hsz5
  have z5 := s5.size
  have hrb5 := s5.blk hrb
  have hfr5 : Fr noD Fp w w5 := (hpu.trans s5).fr
  refine ⟨SeqI labCells 35 64 2 Fp w b_hrb l df (lob .ready fn tm _ _ _ df) Nd, ⟨fun done K w w' hI hf => hI.st (by omega) hf, ?_⟩, ⟨hfr5, fun b hb => by have := hK b hb; omega, hFp, ⟨hl, fun h => by have := hK _ h; omega⟩, ⟨hdf, fun h => by have := hK _ h; omega⟩, ⟨none, 0, hrb5, Row.nil, by simp⟩, fun h => by have := hK _ h; omega, hnd⟩, ?_⟩
  · intro done x K6 w6 hnxx hI
    obtain ⟨A, c, hA, hrow, hkA⟩ := hI.row
    obtain ⟨hnd', hlt⟩ := hnx done x hI.nd hnxx
    have hf0 := hI.fr
    have hl := hI.lo.1
    have hdf := hI.de.1
    have kl := hI.lo.2
    have krb := hI.krb
    have hfr : Fr noD (fun b => ¬ K6 b) w6 w6 := Fr.refl
    have hrow_own := hkA
    have hz0 := hf0.size
    have hfo : Fr noD (fun b => w.heap.size ≤ b) w6 w6 := Fr.refl
    have l_hl := blk_lt hl
    have l_hdf := blk_lt hdf
    have l_hA := blk_lt hA
    have hrow_lt := hrow.lt
    have z_hfr := hfr.size
    have z_hfo := hfo.size
    refine yc_ready (n := ⟨13, []⟩) hl rfl (htm.one rfl) ?_
    refine gc_region ?_
    refine gi_cons rfl ?_
    refine gl_alloc ze64 rfl rfl ?_
    intro b_hv w2 hv e_hv s2
    refine gl_nil ?_
    have z2 := s2.size
    replace hl := s2.blk hl
    replace hdf := s2.blk hdf
    replace hA := s2.blk hA
    replace hrow := hrow.pu s2
    replace hfr := hfr.thenPu s2
    replace hfo := hfo.thenPu s2
    have l_hv := blk_lt hv
    have old3 := hv
    refine gi_cons rfl ?_
    refine gl_store (u := .agg #[.string _, .string _]) (vs := [.string _, .string _]) sz64 rfl rfl rfl rfl rfl hv rfl ?_
    intro w3 hv st3
    refine gl_nil ?_
    have z3 := st3.size
    replace hl := st3.blk hl (by omega)
    replace hdf := st3.blk hdf (by omega)
    replace hA := st3.blk hA (by omega)
    replace hrow := hrow.st st3 (fun ad e => by first | (have h1 := hrow.base ad e; have h2 := hrow_lt ad e; omega) | exact hrow.ne old3 (by decide) ad e)
    replace hfr := hfr.st st3 old3 (noCells rfl) (by intro h; first | (exact absurd h (by omega)) | exact rfl | exact .inl rfl | exact .inr rfl | assumption | (dsimp only; assumption) | (show _ ≤ _; omega))
    replace hfo := hfo.st st3 old3 (noCells rfl) (by intro h; first | (exact absurd h (by omega)) | exact rfl | exact .inl rfl | exact .inr rfl | assumption | (dsimp only; assumption) | (show _ ≤ _; omega))
    refine gi_nil ?_
    have ol := hl
    refine ⟨hl, fun w9 hl st9 => ?_⟩
    have old4 := ol
    have z4 := st9.size
    replace hdf := st9.blk hdf (by omega)
    replace hA := st9.blk hA (by omega)
    replace hrow := hrow.st st9 (fun ad e => by first | (have h1 := hrow.base ad e; have h2 := hrow_lt ad e; omega) | exact hrow.ne old4 (by decide) ad e)
    replace hfr := hfr.st st9 old4 (noCells rfl) (by intro h; first | (exact absurd h (by omega)) | exact rfl | exact .inl rfl | exact .inr rfl | assumption | (dsimp only; assumption) | (show _ ≤ _; omega))
    replace hfo := hfo.st st9 old4 (noCells rfl) (by intro h; first | (exact absurd h (by omega)) | exact rfl | exact .inl rfl | exact .inr rfl | assumption | (dsimp only; assumption) | (show _ ≤ _; omega))
    replace hv := st9.blk hv (by omega)
    refine gc_block ?_
    refine gc_region ?_
    refine gi_cons rfl ?_
    refine gl_op (r_load1 (v := .slice _ _ _) ld35 rfl (by assumption) rfl) rfl ?_
    refine gl_nil ?_
    refine gi_cons rfl ?_
    refine gl_op (r_loadA (ls := [.string _, .string _]) ld64 rfl (by assumption) rfl) rfl ?_
    refine gl_nil ?_
    refine gi_cons rfl ?_
    refine gl_slice1 (v := .agg #[.string _, .string _]) (vs := [.string _, .string _]) Tryz.underlying35 sz64 ze64 rfl rfl rfl rfl rfl rfl rfl ?_
    intro b_ho w5 ho e_ho s5 sl_ho
    refine gl_nil ?_
    have z5 := s5.size
    replace hl := s5.blk hl
    replace hdf := s5.blk hdf
    replace hA := s5.blk hA
    replace hrow := hrow.pu s5
    replace hfr := hfr.thenPu s5
    replace hfo := hfo.thenPu s5
    replace hv := s5.blk hv
    have l_ho := blk_lt ho
    have old6 := hrow
    refine gi_cons rfl ?_
    refine gl_append2 Tryz.underlying35 sz64 ze64 by64 rfl rfl rfl hrow rfl (sl_ho) (allOne rfl) (by omega) (by omega) (by omega) rfl ?_
    have hrow_bs := hrow.base
    have hrow_lo := hrow_lt
    intro A_hrow c_hrow w6 hrow g6 at_hrow
    refine gl_nil ?_
    have z6 := g6.size
    replace hl := g6.blk hl (fun ad e => by first | (have h1 := hrow_bs ad e; have h2 := hrow_lo ad e; omega) | exact (old6.ne hl (by decide) ad e).symm)
    replace hdf := g6.blk hdf (fun ad e => by first | (have h1 := hrow_bs ad e; have h2 := hrow_lo ad e; omega) | exact (old6.ne hdf (by decide) ad e).symm)
    replace hA := g6.blk hA (fun ad e => by first | (have h1 := hrow_bs ad e; have h2 := hrow_lo ad e; omega) | exact (old6.ne hA (by decide) ad e).symm)
    replace hfr := hfr.grow g6 old6 rfl (fun ad e h => by have h1 := hrow_bs ad e; first | (exact absurd h (by omega)) | (exact hrow_own ad e) | (show _ ≤ _; omega))
    replace hfo := hfo.grow g6 old6 rfl (fun ad e h => by have h1 := hrow_bs ad e; first | (exact absurd h (by omega)) | (exact hrow_own ad e) | (show _ ≤ _; omega))
    replace hv := g6.blk hv (fun ad e => by first | (have h1 := hrow_bs ad e; have h2 := hrow_lo ad e; omega) | exact (old6.ne hv (by decide) ad e).symm)
    replace ho := g6.blk ho (fun ad e => by first | (have h1 := hrow_bs ad e; have h2 := hrow_lo ad e; omega) | exact (old6.ne ho (by decide) ad e).symm)
    have hrow_lt := hrow.lt
    have old7 := hA
    refine gi_cons rfl ?_
    refine gl_store (u := .slice _ _ _) (vs := [.slice _ _ _]) sz35 rfl rfl rfl rfl rfl hA rfl ?_
    intro w7 hA st7
    refine gl_nil ?_
    have z7 := st7.size
    replace hl := st7.blk hl (by omega)
    replace hdf := st7.blk hdf (by omega)
    replace hfr := hfr.st st7 old7 (noCells rfl) (by intro h; first | (exact absurd h (by omega)) | exact rfl | exact .inl rfl | exact .inr rfl | assumption | (dsimp only; assumption) | (show _ ≤ _; omega))
    replace hfo := hfo.st st7 old7 (noCells rfl) (by intro h; first | (exact absurd h (by omega)) | exact rfl | exact .inl rfl | exact .inr rfl | assumption | (dsimp only; assumption) | (show _ ≤ _; omega))
    replace hv := st7.blk hv (by omega)
    replace ho := st7.blk ho (by omega)
    replace hrow := hrow.st st7 (fun ad e => by first | (have h1 := hrow.base ad e; have h2 := hrow_lt ad e; omega) | exact hrow.ne old7 (by decide) ad e)
    refine gi_nil ?_
    have ol := hl
    refine ⟨hl, fun w10 hl st10 => ?_⟩
    have old8 := ol
    have z8 := st10.size
    replace hdf := st10.blk hdf (by omega)
    replace hA := st10.blk hA (by omega)
    replace hfr := hfr.st st10 old8 (noCells rfl) (by intro h; first | (exact absurd h (by omega)) | exact rfl | exact .inl rfl | exact .inr rfl | assumption | (dsimp only; assumption) | (show _ ≤ _; omega))
    replace hfo := hfo.st st10 old8 (noCells rfl) (by intro h; first | (exact absurd h (by omega)) | exact rfl | exact .inl rfl | exact .inr rfl | assumption | (dsimp only; assumption) | (show _ ≤ _; omega))
    replace hv := st10.blk hv (by omega)
    replace ho := st10.blk ho (by omega)
    replace hrow := hrow.st st10 (fun ad e => by first | (have h1 := hrow.base ad e; have h2 := hrow_lt ad e; omega) | exact hrow.ne old8 (by decide) ad e)
    refine ⟨rfl, ⟨hf0.trans hfo (fun b hb hf => absurd hf (by omega)), fun b hb => Nat.lt_of_lt_of_le (hI.own b hb) hfr.size, hI.kp, ⟨hl, kl⟩, ⟨hdf, hI.de.2⟩, ⟨A_hrow, c_hrow, ?_, ?_, ?_⟩, krb, hnd'⟩, hfr⟩
    · rw [List.length_append]; exact hA
    · rw [List.length_append, List.flatMap_append, List.flatMap_singleton]; exact hrow
    · rintro ad e hk
      rcases at_hrow ad e with ⟨ad0, e0, hbb⟩ | hbb
      · exact hkA ad0 e0 (hbb ▸ hk)
      · have := hI.own _ hk; omega
  · intro done K' w6 hdone hI
    obtain ⟨A, c, hA, hrow, hkA⟩ := hI.row
    have hfr := hI.fr
    have hdf := hI.de.1
    refine ⟨hI.lo.1, fun w7 st7 => ?_⟩
    have l0 := blk_lt hI.lo.1
    have olo := hI.lo.1
    have z_hfr := hfr.size
    have l_hdf := blk_lt hdf
    have l_hA := blk_lt hA
    have hrow_lt := hrow.lt
    have old9 := olo
    have z9 := st7.size
    replace hfr := hfr.st st7 old9 (noCells rfl) (by intro h; first | (exact absurd h (by omega)) | exact rfl | exact .inl rfl | exact .inr rfl | assumption | (dsimp only; assumption) | (show _ ≤ _; omega))
    replace hdf := st7.blk hdf (by omega)
    replace hA := st7.blk hA (by omega)
    replace hrow := hrow.st st7 (fun ad e => by first | (have h1 := hrow.base ad e; have h2 := hrow_lt ad e; omega) | exact hrow.ne old9 (by decide) ad e)
    refine g_inBlock ?_
    refine g_seq ?_
    refine g_region ?_
    refine gl_op (r_load1 (v := .slice _ _ _) ld35 rfl (by assumption) rfl) rfl ?_
    refine gl_op (r_asL rfl) rfl ?_
    refine gl_nil ?_
    refine g_retD Tryz.func235 hdf (res1 rfl) ?_
    have odf := hdf
    have st9 : St df w7 _ := setBlk_st (o := .deferred none)
    have old10 := odf
    have z10 := st9.size
    replace hfr := hfr.st st9 old10 (noCells rfl) (by intro h; first | (exact absurd h (by omega)) | exact rfl | exact .inl rfl | exact .inr rfl | assumption | (dsimp only; assumption) | (show _ ≤ _; omega))
    replace hA := st9.blk hA (by omega)
    replace hrow := hrow.st st9 (fun ad e => by first | (have h1 := hrow.base ad e; have h2 := hrow_lt ad e; omega) | exact hrow.ne old10 (by decide) ad e)
    exact ⟨done, A, c, hdone, hI.nd, rfl, hrow.base_le (by omega), hfr⟩
theorem collect_pair (Fp K : Nat → Prop) (Nx : List Lab → Lab → Prop) (Ok Nd : List Lab → Prop) (g : FuncId) (fs cl : List Value) (w : World)
    (hK : ∀ b, K b → b < w.heap.size) (hFp : ∀ b, Fp b → K b) (hnd : Nd []) (hnx : ∀ done x, Nd done → Nx done x → Nd (done ++ [x]) ∧ done.length < 1099511627776)
    (it : ∀ w1, Pu w w1 → Iterates Tryz.prog noD Fp g fs cl (fun x : Lab => [.agg (labCells x).toArray]) Nx Ok K w1) :
    Fn Tryz.prog 188 #[.func (.func g) fs.toArray cl.toArray] w (fun v w' => ∃ done A c, Ok done ∧ Nd done ∧ v = .slice A done.length c ∧ Row w' w.heap.size 64 2 A done.length c (done.flatMap labCells) ∧ Fr noD Fp w w') := by
  refine fn_of (args := [.func (.func g) fs.toArray cl.toArray]) Tryz.func188 (by kernel_rfl) rfl Tryz.ntmps188 rfl ?_
  refine g_seq ?_
  refine g_region ?_
  refine gl_op (r_asL rfl) rfl ?_
  refine gl_nil ?_
  refine g_seq ?_
  refine g_region ?_
  refine gl_op (r_mvF rfl) rfl ?_
  refine gl_call (appendSeq_pair Fp K Nx Ok Nd g fs cl w hK hFp hnd hnx it) rfl rfl ?_
  rintro _ w1 ⟨done, A, c, h1, h2, rfl, h3, h4⟩
  refine gl_op (r_asL rfl) rfl ?_
  refine gl_nil ?_
  refine g_ret Tryz.func188 (res1 rfl) ?_
  exact ⟨done, A, c, h1, h2, rfl, h3, h4⟩
theorem values_pair (l : List Lab) (A : Option Addr) (c : Nat) (w : World) : Fn Tryz.prog 155 #[.slice A l.length c] w (fun v w' => ∃ b, v = .func (.func 190) #[] #[.pointer (some ⟨b, 0, none⟩)] ∧ w'.heap[b]? = some (.cells #[.slice A l.length c] 35 (0, 0)) ∧ b = w.heap.size ∧ Pu w w') := by
  refine fn_of (args := [.slice A l.length c]) Tryz.func155 (by kernel_rfl) rfl Tryz.ntmps155 rfl ?_
  refine g_seq ?_
  refine g_region ?_
  refine gl_box (v := .slice _ _ _) (vs := [.slice _ _ _]) rfl rfl rfl ?_
  intro b w1 hb e hp
  refine gl_op r_assign rfl ?_
  refine gl_nil ?_
  refine g_seq ?_
  refine g_region ?_
  refine gl_op r_func rfl ?_
  refine gl_op (r_asF rfl) rfl ?_
  refine gl_nil ?_
  refine g_ret Tryz.func155 (res1 rfl) ?_
  exact ⟨b, rfl, hb, e, hp⟩
theorem values1_pair (l : List Lab) (A : Option Addr) (c : Nat) (hlen : l.length < 4611686018427387904) (bs : Nat) (K : Nat → Prop) (w : World) (hK : K bs) (hb : w.heap[bs]? = some (.cells #[.slice A l.length c] 35 (0, 0))) (hsl : Sl w 64 2 A l.length (l.flatMap labCells)) (hKA : 0 < l.length → ∀ ad, A = some ad → K ad.block) :
    Iterates Tryz.prog noD (fun _ => False) 190 [] [.pointer (some ⟨bs, 0, none⟩)] (fun x : Lab => [.agg (labCells x).toArray]) (fun done x => l[done.length]? = some x) (fun done => done = l) K w := by
  refine ⟨ent Tryz.func190 (by kernel_rfl) rfl, fun L I hc h0 => ?_⟩
  refine (fn_of (args := [yv L, .pointer (some ⟨bs, 0, none⟩)]) Tryz.func190 (by kernel_rfl) rfl Tryz.ntmps190 rfl ?_).2
  refine g_seq ?_
  refine g_region ?_
  refine gl_op (r_load1 (v := .slice _ _ _) ld35 rfl (by assumption) rfl) rfl ?_
  refine gl_op (r_len Tryz.underlying35 rfl) rfl ?_
  refine gl_op (r_mvI rfl) rfl ?_
  refine gl_nil ?_
  refine g_block ?_
  refine g_loop (ι := Nat) (fun i => [(0, yv L), (5, .slice A l.length c), (6, .int .i64 l.length), (7, .int .i64 i)]) (fun i w' => i ≤ l.length ∧ (∃ K', I (l.take i) K' w' ∧ ∀ b, K b → K' b) ∧ Sl w' 64 2 A l.length (l.flatMap labCells)) (fun i => l.length - i) 0 ⟨rfl, rfl, rfl, rfl, trivial⟩ ⟨Nat.zero_le _, ⟨K, h0, fun _ h => h⟩, hsl⟩ ?_
  rintro i τ w1 ⟨hi, ⟨K1, hI, hK1⟩, hsl1⟩ ih
  refine g_seq ?_
  refine g_region ?_
  refine gl_op (r_lt rfl rfl) rfl ?_
  refine gl_nil ?_
  refine g_seq ?_
  refine g_condP rfl (fun hlt => ?_) (fun hlt => ?_)
  · have hlt : i < l.length := by omega
    obtain ⟨x, hx⟩ : ∃ x, l[i]? = some x := ⟨_, List.getElem?_eq_getElem hlt⟩
    obtain ⟨b, o, cs, fr, eA, hbd, hcs⟩ := hsl1.elem labCells_len hx
    have hpu : Pu w1 w1 := Pu.refl
    have z_hpu := hpu.size
    refine g_skip ?_
    refine g_seq ?_
    refine g_block ?_
    refine g_seq ?_
    refine g_region ?_
    refine gl_op (r_indexAddr (j := i) (b := b) (o := o) Tryz.underlying35 sz64 (by rw [← eA]; rfl) rfl hlt) rfl ?_
    refine gl_op (r_loadA (ls := labCells x) ld64 rfl hbd hcs) rfl ?_
    refine gl_alloc ze64 rfl rfl ?_
    intro b_hv w1 hv e_hv s1
    have z1 := s1.size
    replace hpu := hpu.trans s1
    have l_hv := blk_lt hv
    have old2 := hv
    refine gl_store (u := .agg #[.string _, .string _]) (vs := [.string _, .string _]) sz64 rfl rfl rfl rfl rfl hv rfl ?_
    intro w2 hv st2
    have z2 := st2.size
    replace hpu := st2.pu hpu (by omega)
    refine gl_nil ?_
    refine g_seq ?_
    have hI4 := hc.pu hI hpu
    have hlen' : (l.take i).length = i := by rw [List.length_take]; omega
    refine g_regionI ?_
    refine gi_cons rfl ?_
    refine gl_op (r_mvF rfl) rfl ?_
    refine gl_nil ?_
    refine gi_cons rfl ?_
    refine gl_op (r_loadA (ls := [.string _, .string _]) ld64 rfl (by assumption) rfl) rfl ?_
    refine gl_nil ?_
    refine gi_yield rfl (hc.yield (l.take i) x _ _ (by rw [hlen']; exact hx) hI4) rfl rfl ?_
    rintro _ w5 ⟨rfl, hI5, f5⟩
    refine gi_cons rfl ?_
    refine gl_op (r_not rfl) rfl ?_
    refine gl_nil ?_
    refine gi_nil ?_
    refine g_condF (rfl) ?_
    refine g_skip ?_
    refine g_inBlock ?_
    refine g_region ?_
    refine gl_op (r_add rfl rfl (wI64 (by omega) (by omega))) rfl ?_
    refine gl_op (r_mvI rfl) rfl ?_
    refine gl_nil ?_
    have hsl5 := (hsl1.pu hpu).keep (w' := w5) fun ad e o ho => f5.blk ho (fun h => h (Or.inl (hK1 _ (hKA (by omega) ad e))))
    exact ih (i + 1) _ _ (by omega) ⟨rfl, rfl, rfl, rfl, trivial⟩ ⟨by omega, ⟨_, by rw [List.take_add_one, hx]; exact hI5, fun b hb => Or.inl (hK1 b hb)⟩, hsl5⟩
  · refine g_exit rfl ?_
    refine g_end Tryz.func190 (res0 rfl) ?_
    have he : i = l.length := by omega
    subst he
    rw [List.take_length] at hI
    exact ⟨l, K1, rfl, hI⟩
end Go.GW
namespace Go.GW
open Go.RowKit Go.Proofs
theorem insSort_pair (lt : Lab → Lab → Bool) (hO : Ord lt) (cmp : Lab → Lab → Int) (hcmp : ∀ x y, decide (cmp x y < 0) = lt x y) (l : List Lab) (A : Option Addr) (c : Nat) (fv : Value) (w0 w : World) (hpu0 : Pu w0 w) (hrow : Row w w0.heap.size 64 2 A l.length c (l.flatMap labCells)) (hlen : l.length < 4611686018427387904)
    (hf : ∀ x y w1, Pu w0 w1 → FnV Tryz.prog fv [.agg (labCells x).toArray, .agg (labCells y).toArray] w1 (fun v w' => v = .int .i64 (cmp x y) ∧ Pu w1 w')) :
    Fn Tryz.prog 263 #[.slice A l.length c, .int .i64 0, .int .i64 l.length, fv] w (fun _ w' => ∃ L : List Lab, L.Perm l ∧ Upto lt L L.length ∧ Row w' w0.heap.size 64 2 A l.length c (L.flatMap labCells) ∧ Pu w0 w') := by
  refine fn_of (args := [.slice A l.length c, .int .i64 0, .int .i64 l.length, fv]) Tryz.func263 (by kernel_rfl) rfl Tryz.ntmps263 rfl ?_
  refine g_seq ?_
  refine g_region ?_
  refine gl_op (r_mvI rfl) rfl ?_
  refine gl_op (r_add rfl rfl (wI64 (by omega) (by omega))) rfl ?_
  refine gl_op (r_asI rfl) rfl ?_
  refine gl_nil ?_
  refine g_block ?_
  refine g_loop (ι := Nat × List Lab) (fun x => [(0, .slice A l.length c), (1, .int .i64 0), (2, .int .i64 l.length), (3, fv), (8, .int .i64 x.1)]) (fun x w' => 1 ≤ x.1 ∧ x.2.Perm l ∧ Upto lt x.2 (min x.1 l.length) ∧ Row w' w0.heap.size 64 2 A l.length c (x.2.flatMap labCells) ∧ Pu w0 w') (fun x => l.length - x.1) (1, l) ⟨rfl, rfl, rfl, rfl, rfl, trivial⟩ ⟨Nat.le_refl _, List.Perm.refl _, fun a b x y h1 h2 => by omega, hrow, hpu0⟩ ?_
  rintro ⟨i, L⟩ τ w1 ⟨hi1, hperm, hup, hrow1, hpu⟩ ih
  dsimp only at hi1 hperm hup hrow1 hpu ih ⊢
  refine g_seq ?_
  refine g_seq ?_
  refine g_region ?_
  refine gl_op (r_mvI rfl) rfl ?_
  refine gl_op (r_mvI rfl) rfl ?_
  refine gl_op (r_lt rfl rfl) rfl ?_
  refine gl_nil ?_
  refine g_condP rfl (fun hc => ?_) (fun hc => ?_)
  · have hlt : i < l.length := by omega
    rw [Nat.min_eq_left (by omega)] at hup
    refine g_skip ?_
    refine g_seq ?_
    refine g_block ?_
    refine g_seq ?_
    refine g_region ?_
    refine gl_op (r_mvI rfl) rfl ?_
    refine gl_op (r_asI rfl) rfl ?_
    refine gl_nil ?_
    refine g_block ?_
    refine g_loop (ι := Nat × List Lab) (fun x => [(0, .slice A l.length c), (1, .int .i64 0), (2, .int .i64 l.length), (3, fv), (8, .int .i64 i), (9, .int .i64 x.1)]) (fun x w' => x.1 ≤ i ∧ x.2.Perm l ∧ UptoBut lt x.2 (i + 1) x.1 ∧ Row w' w0.heap.size 64 2 A l.length c (x.2.flatMap labCells) ∧ Pu w0 w') (fun x => x.1) (i, L) ⟨rfl, rfl, rfl, rfl, rfl, rfl, trivial⟩ ⟨Nat.le_refl _, hperm, UptoBut.start hup, hrow1, hpu⟩ ?_
    rintro ⟨j, M⟩ τ2 w2 ⟨hji, hpm, hub, hrow2, hpu2⟩ ih2
    dsimp only at hji hpm hub hrow2 hpu2 ih2 ⊢
    have hMl : M.length = l.length := hpm.length_eq
    have hrowM : Row w2 w0.heap.size 64 2 A M.length c (M.flatMap labCells) := by rw [hMl]; exact hrow2
    refine g_seq ?_
    refine g_seq ?_
    refine g_draw (fun w' ↦ Row w' w0.heap.size 64 2 A M.length c (M.flatMap labCells) ∧ Pu w0 w') mixed ?_
    intro w3 hw3 s3
    have hS := And.intro (hrowM.pu s3) (hpu2.trans s3)
    cases j with
    | zero =>
      refine ga_take 0 rfl (by decide +kernel) rfl hS (fun _ hS => (r_mvI rfl)) rfl ?_
      refine ga_take 1 rfl (by decide +kernel) rfl hS (fun _ hS => (r_mvI rfl)) rfl ?_
      refine ga_take 2 rfl (by decide +kernel) rfl hS (fun _ hS => (r_gt rfl rfl)) rfl ?_
      refine ga_take 3 rfl (by decide +kernel) rfl hS (fun _ hS => (r_mvB rfl)) rfl ?_
      refine ga_takeF 4 rfl (by decide +kernel) rfl hS rfl (rfl) rfl rfl ?_
      refine ga_takeF 5 rfl (by decide +kernel) rfl hS rfl (rfl) rfl rfl ?_
      refine ga_takeF 6 rfl (by decide +kernel) rfl hS rfl (rfl) rfl rfl ?_
      refine ga_takeF 7 rfl (by decide +kernel) rfl hS rfl (rfl) rfl rfl ?_
      refine ga_takeF 8 rfl (by decide +kernel) rfl hS rfl (rfl) rfl rfl ?_
      refine ga_takeF 9 rfl (by decide +kernel) rfl hS rfl (rfl) rfl rfl ?_
      refine ga_takeF 10 rfl (by decide +kernel) rfl hS rfl (rfl) rfl rfl ?_
      refine ga_takeF 11 rfl (by decide +kernel) rfl hS rfl (rfl) rfl rfl ?_
      refine ga_takeF 12 rfl (by decide +kernel) rfl hS rfl (rfl) rfl rfl ?_
      refine ga_takeF 13 rfl (by decide +kernel) rfl hS rfl (rfl) rfl rfl ?_
      refine ga_takeF 14 rfl (by decide +kernel) rfl hS rfl (rfl) rfl rfl ?_
      refine ga_takeF 15 rfl (by decide +kernel) rfl hS rfl (rfl) rfl rfl ?_
      refine ga_take 16 rfl (by decide +kernel) rfl hS (fun _ hS => r_pickFB rfl rfl) rfl ?_
      refine ga_done (by decide +kernel) ?_
      refine g_condF (rfl) ?_
      refine g_exit rfl ?_
      refine g_inBlock ?_
      refine g_region ?_
      refine gl_op (r_mvI rfl) rfl ?_
      refine gl_op (r_add rfl rfl (wI64 (by omega) (by omega))) rfl ?_
      refine gl_op (r_asI rfl) rfl ?_
      refine gl_nil ?_
      exact ih (i + 1, M) _ _ (by omega) ⟨rfl, rfl, rfl, rfl, rfl, trivial⟩ ⟨by omega, hpm, by rw [Nat.min_eq_left (by omega)]; exact hub.done0, by have := hS.1; rw [hMl] at this; exact this, hS.2⟩
    | succ j =>
      obtain ⟨u, hu⟩ : ∃ u, M[j]? = some u := ⟨_, List.getElem?_eq_getElem (by omega)⟩
      obtain ⟨v, hv⟩ : ∃ v, M[j + 1]? = some v := ⟨_, List.getElem?_eq_getElem (by omega)⟩
      obtain ⟨g, cur0, eA, hg0, _⟩ := Row.set (enc := labCells) labCells_len (by decide) hrowM (i := j) (by omega)
      subst eA
      refine ga_take 0 rfl (by decide +kernel) rfl hS (fun _ hS => (r_mvI rfl)) rfl ?_
      refine ga_take 1 rfl (by decide +kernel) rfl hS (fun _ hS => (r_mvI rfl)) rfl ?_
      refine ga_take 2 rfl (by decide +kernel) rfl hS (fun _ hS => (r_gt rfl rfl)) rfl ?_
      refine ga_take 3 rfl (by decide +kernel) rfl hS (fun _ hS => (r_mvB rfl)) rfl ?_
      refine ga_takeT 4 rfl (by decide +kernel) rfl hS rfl (bT (by omega)) rfl (fun _ hS => (r_mvV (v := fv) rfl)) rfl ?_
      refine ga_takeT 5 rfl (by decide +kernel) rfl hS rfl (bT (by omega)) rfl (fun _ hS => (r_mvL rfl)) rfl ?_
      refine ga_takeT 6 rfl (by decide +kernel) rfl hS rfl (bT (by omega)) rfl (fun _ hS => (r_mvI rfl)) rfl ?_
      refine ga_takeT 7 rfl (by decide +kernel) rfl hS rfl (bT (by omega)) rfl (fun _ hS => r_indexAddr (j := j + 1) (b := g) (o := 0) Tryz.underlying35 sz64 rfl rfl (by omega)) rfl ?_
      refine ga_takeT 8 rfl (by decide +kernel) rfl hS rfl (bT (by omega)) rfl (fun _ hS => r_loadRow labCells_len ld64 rfl hS.1 hv) rfl ?_
      refine ga_takeT 9 rfl (by decide +kernel) rfl hS rfl (bT (by omega)) rfl (fun _ hS => (r_mvL rfl)) rfl ?_
      refine ga_takeT 10 rfl (by decide +kernel) rfl hS rfl (bT (by omega)) rfl (fun _ hS => (r_mvI rfl)) rfl ?_
      refine ga_takeT 11 rfl (by decide +kernel) rfl hS rfl (bT (by omega)) rfl (fun _ hS => (r_sub rfl rfl (wI64 (by omega) (by omega)))) rfl ?_
      refine ga_takeT 12 rfl (by decide +kernel) rfl hS rfl (bT (by omega)) rfl (fun _ hS => r_indexAddr (j := j) (b := g) (o := 0) Tryz.underlying35 sz64 rfl (congrArg (Value.int .i64) (by omega : (((j + 1 : Nat) : Int)) - 1 = (j : Int))) (by omega)) rfl ?_
      refine ga_takeT 13 rfl (by decide +kernel) rfl hS rfl (bT (by omega)) rfl (fun _ hS => r_loadRow labCells_len ld64 rfl hS.1 hu) rfl ?_
      refine ga_only 14 rfl (by decide +kernel) rfl ?_
      refine gl_guardCallV rfl (bT (by omega)) rfl rfl (hf v u _ hS.2) rfl rfl ?_
      rintro _ w1 ⟨rfl, s1⟩
      have z1 := s1.size
      refine gl_nil ⟨⟨hS.1.pu s1, hS.2.trans s1⟩, ?_⟩
      have hS := And.intro (hS.1.pu s1) (hS.2.trans s1)
      refine ga_takeT 15 rfl (by decide +kernel) rfl hS rfl (bT (by omega)) rfl (fun _ hS => (r_lt rfl rfl)) rfl ?_
      refine ga_take 16 rfl (by decide +kernel) rfl hS (fun _ hS => r_pickTB (bT (by omega)) rfl) rfl ?_
      refine ga_done (by decide +kernel) ?_
      refine g_condP rfl (fun hcv => ?_) (fun hcv => ?_)
      · have hlt2 : lt v u = true := by rw [← hcmp, decide_eq_true hcv]
        obtain ⟨hS1, hS2⟩ := hS
        refine g_skip ?_
        refine g_seq ?_
        refine g_block ?_
        refine g_draw (fun _ => True) mixed ?_
        intro w4 hw4 s4
        have hr4 := hS1.pu s4
        have hp4 := hS2.trans s4
        refine ga_take 0 rfl (by decide +kernel) rfl trivial (fun _ _ => (r_mvL rfl)) rfl ?_
        refine ga_take 1 rfl (by decide +kernel) rfl trivial (fun _ _ => (r_mvI rfl)) rfl ?_
        refine ga_take 2 rfl (by decide +kernel) rfl trivial (fun _ _ => (r_mvL rfl)) rfl ?_
        refine ga_take 3 rfl (by decide +kernel) rfl trivial (fun _ _ => (r_mvI rfl)) rfl ?_
        refine ga_take 4 rfl (by decide +kernel) rfl trivial (fun _ _ => (r_sub rfl rfl (wI64 (by omega) (by omega)))) rfl ?_
        refine ga_take 5 rfl (by decide +kernel) rfl trivial (fun _ _ => (r_mvL rfl)) rfl ?_
        refine ga_take 6 rfl (by decide +kernel) rfl trivial (fun _ _ => (r_mvI rfl)) rfl ?_
        refine ga_take 7 rfl (by decide +kernel) rfl trivial (fun _ _ => (r_sub rfl rfl (wI64 (by omega) (by omega)))) rfl ?_
        refine ga_take 8 rfl (by decide +kernel) rfl trivial (fun _ _ => r_indexAddr (j := j) (b := g) (o := 0) Tryz.underlying35 sz64 rfl (congrArg (Value.int .i64) (by omega : (((j + 1 : Nat) : Int)) - 1 = (j : Int))) (by omega)) rfl ?_
        refine ga_take 10 rfl (by decide +kernel) rfl trivial (fun _ _ => (r_mvL rfl)) rfl ?_
        refine ga_take 11 rfl (by decide +kernel) rfl trivial (fun _ _ => (r_mvI rfl)) rfl ?_
        refine ga_take 12 rfl (by decide +kernel) rfl trivial (fun _ _ => r_indexAddr (j := j + 1) (b := g) (o := 0) Tryz.underlying35 sz64 rfl rfl (by omega)) rfl ?_
        refine ga_pair 9 13 rfl rfl (by decide +kernel) rfl rfl (by decide +kernel) (by decide +kernel) rfl rfl rfl trivial (r_loadRow labCells_len ld64 rfl hr4 hu) (r_loadRow labCells_len ld64 rfl hr4 hv) (r_loadRow labCells_len ld64 rfl hr4 hu) (r_loadRow labCells_len ld64 rfl hr4 hv) rfl rfl ?_
        refine ga_only 14 rfl (by decide +kernel) rfl ?_
        refine gl_op (r_indexAddr (j := j + 1) (b := g) (o := 0) Tryz.underlying35 sz64 rfl rfl (by omega)) rfl ?_
        refine gl_nil ⟨trivial, ?_⟩
        obtain ⟨g2, cur, eg, hg, hbg, hble, _, hset⟩ := Row.set (enc := labCells) labCells_len (by decide) hr4 (i := j + 1) (by omega)
        injection eg with eg; injection eg with eg _ _; subst eg
        refine ga_only 15 rfl (by decide +kernel) rfl ?_
        refine gl_store (u := .agg (labCells u).toArray) (vs := labCells u) sz64 rfl rfl rfl rfl rfl hbg hble ?_
        intro w5 hb5 st5
        have hr5 := hset w5 u hb5
        have hp5 := st5.pu hp4 hg
        refine gl_nil ⟨trivial, ?_⟩
        refine ga_only 16 rfl (by decide +kernel) rfl ?_
        refine gl_op (r_indexAddr (j := j) (b := g) (o := 0) Tryz.underlying35 sz64 rfl (congrArg (Value.int .i64) (by omega : (((j + 1 : Nat) : Int)) - 1 = (j : Int))) (by omega)) rfl ?_
        refine gl_nil ⟨trivial, ?_⟩
        have hr5' : Row w5 w0.heap.size 64 2 (some ⟨g, 0, none⟩) (M.set (j + 1) u).length c ((M.set (j + 1) u).flatMap labCells) := by rw [List.length_set]; exact hr5
        obtain ⟨g2, cur2, eg, _, hbg2, hble2, _, hset2⟩ := Row.set (enc := labCells) labCells_len (by decide) hr5' (i := j) (by rw [List.length_set]; omega)
        injection eg with eg; injection eg with eg _ _; subst eg
        refine ga_only 17 rfl (by decide +kernel) rfl ?_
        refine gl_store (u := .agg (labCells v).toArray) (vs := labCells v) sz64 rfl rfl rfl rfl rfl hbg2 hble2 ?_
        intro w6 hb6 st6
        have hr6 := hset2 w6 v hb6
        have hp6 := st6.pu hp5 hg
        rw [List.length_set, hMl] at hr6
        refine gl_nil ⟨trivial, ?_⟩
        refine ga_done (by decide +kernel) ?_
        refine g_inBlock ?_
        refine g_region ?_
        refine gl_op (r_mvI rfl) rfl ?_
        refine gl_op (r_sub rfl rfl (wI64 (by omega) (by omega))) rfl ?_
        refine gl_op (r_asI rfl) rfl ?_
        refine gl_nil ?_
        exact ih2 (j, (M.set (j + 1) u).set j v) _ _ (by show j < j + 1; omega) ⟨rfl, rfl, rfl, rfl, rfl, congrArg (Value.int .i64) (by omega : (((j + 1 : Nat) : Int)) - 1 = (j : Int)), trivial⟩ ⟨by show j ≤ i; omega, (swap_perm hu hv).trans hpm, UptoBut.swap hO hub (by omega) hu hv hlt2, hr6, hp6⟩
      · have hlt2 : lt v u = false := by rw [← hcmp, decide_eq_false hcv]
        refine g_exit rfl ?_
        refine g_inBlock ?_
        refine g_region ?_
        refine gl_op (r_mvI rfl) rfl ?_
        refine gl_op (r_add rfl rfl (wI64 (by omega) (by omega))) rfl ?_
        refine gl_op (r_asI rfl) rfl ?_
        refine gl_nil ?_
        exact ih (i + 1, M) _ _ (by show l.length - (i + 1) < l.length - i; omega) ⟨rfl, rfl, rfl, rfl, rfl, trivial⟩ ⟨by show 1 ≤ i + 1; omega, hpm, by show Upto lt M (min (i + 1) l.length); rw [Nat.min_eq_left (by omega)]; exact hub.done hO hu hv hlt2, by have := hS.1; rw [hMl] at this; exact this, hS.2⟩
  · refine g_exit rfl ?_
    refine g_end Tryz.func263 (res0 rfl) ?_
    rw [Nat.min_eq_right (by omega), ← hperm.length_eq] at hup
    exact ⟨L, hperm, hup, hrow1, hpu⟩
theorem pdqC_pair (lt : Lab → Lab → Bool) (hO : Ord lt) (cmp : Lab → Lab → Int) (hcmp : ∀ x y, decide (cmp x y < 0) = lt x y) (l : List Lab) (h12 : l.length ≤ 12) (A : Option Addr) (c : Nat) (fv : Value) (k : Int) (w0 w : World) (hpu0 : Pu w0 w) (hrow : Row w w0.heap.size 64 2 A l.length c (l.flatMap labCells))
    (hf : ∀ x y w1, Pu w0 w1 → FnV Tryz.prog fv [.agg (labCells x).toArray, .agg (labCells y).toArray] w1 (fun v w' => v = .int .i64 (cmp x y) ∧ Pu w1 w')) :
    Fn Tryz.prog 236 #[.slice A l.length c, .int .i64 0, .int .i64 l.length, .int .i64 k, fv] w (fun _ w' => ∃ L : List Lab, L.Perm l ∧ Upto lt L L.length ∧ Row w' w0.heap.size 64 2 A l.length c (L.flatMap labCells) ∧ Pu w0 w') := by
  refine fn_of (args := [.slice A l.length c, .int .i64 0, .int .i64 l.length, .int .i64 k, fv]) Tryz.func236 (by kernel_rfl) rfl Tryz.ntmps236 rfl ?_
  refine g_seq ?_
  refine g_region ?_
  refine gl_op (r_asB rfl) rfl ?_
  refine gl_nil ?_
  refine g_seq ?_
  refine g_region ?_
  refine gl_op (r_asB rfl) rfl ?_
  refine gl_nil ?_
  refine g_block ?_
  refine g_loop (ι := Unit) (fun _ => [(0, .slice A l.length c), (1, .int .i64 0), (2, .int .i64 l.length), (4, fv)]) (fun _ w' => w' = w) (fun _ => 0) () ⟨rfl, rfl, rfl, rfl, trivial⟩ rfl ?_
  rintro ⟨⟩ τ w1 rfl ih
  refine g_block ?_
  refine g_seq ?_
  refine g_region ?_
  refine gl_op (r_mvI rfl) rfl ?_
  refine gl_op (r_mvI rfl) rfl ?_
  refine gl_op (r_sub rfl rfl (wI64 (by omega) (by omega))) rfl ?_
  refine gl_op (r_asI rfl) rfl ?_
  refine gl_nil ?_
  refine g_seq ?_
  refine g_seq ?_
  refine g_region ?_
  refine gl_op (r_mvI rfl) rfl ?_
  refine gl_op (r_le rfl rfl) rfl ?_
  refine gl_nil ?_
  refine g_condT (bT (by omega)) ?_
  refine g_seq ?_
  refine g_region ?_
  refine gl_op (r_mvL rfl) rfl ?_
  refine gl_op (r_mvI rfl) rfl ?_
  refine gl_op (r_mvI rfl) rfl ?_
  refine gl_op (r_mvV (v := fv) rfl) rfl ?_
  refine gl_call (insSort_pair lt hO cmp hcmp l A c fv w0 _ hpu0 hrow (by omega) hf) rfl rfl ?_
  rintro _ w2 h2
  refine gl_nil ?_
  refine g_ret Tryz.func236 (res0 rfl) ?_
  exact h2
theorem sortFunc_pair (lt : Lab → Lab → Bool) (hO : Ord lt) (cmp : Lab → Lab → Int) (hcmp : ∀ x y, decide (cmp x y < 0) = lt x y) (l : List Lab) (h12 : l.length ≤ 12) (A : Option Addr) (c : Nat) (fv : Value) (w0 w : World) (hpu0 : Pu w0 w) (hrow : Row w w0.heap.size 64 2 A l.length c (l.flatMap labCells))
    (hf : ∀ x y w1, Pu w0 w1 → FnV Tryz.prog fv [.agg (labCells x).toArray, .agg (labCells y).toArray] w1 (fun v w' => v = .int .i64 (cmp x y) ∧ Pu w1 w')) :
    Fn Tryz.prog 189 #[.slice A l.length c, fv] w (fun _ w' => ∃ L : List Lab, L.Perm l ∧ Upto lt L L.length ∧ Row w' w0.heap.size 64 2 A l.length c (L.flatMap labCells) ∧ Pu w0 w') := by
  refine fn_of (args := [.slice A l.length c, fv]) Tryz.func189 (by kernel_rfl) rfl Tryz.ntmps189 rfl ?_
  refine g_seq ?_
  refine g_region ?_
  refine gl_op (r_mvL rfl) rfl ?_
  refine gl_op (r_len Tryz.underlying35 rfl) rfl ?_
  refine gl_op (r_asI rfl) rfl ?_
  refine gl_nil ?_
  refine g_region ?_
  refine gl_op (r_mvL rfl) rfl ?_
  refine gl_op (r_mvI rfl) rfl ?_
  refine gl_op (r_mvI rfl) rfl ?_
  refine gl_op (r_conv Tryz.underlying3 Tryz.underlying255 rfl (wU64 (by omega) (by omega))) rfl ?_
  refine gl_call (fn_calls (ent Tryz.func161 (by kernel_rfl) rfl) (Tryz.bits_Len l.length _ (by omega) (by omega))) rfl rfl ?_
  rintro _ _ ⟨rfl, rfl⟩
  refine gl_op (r_mvV (v := fv) rfl) rfl ?_
  refine gl_call (pdqC_pair lt hO cmp hcmp l h12 A c fv _ w0 _ hpu0 hrow hf) rfl rfl ?_
  rintro _ w2 h2
  refine gl_nil ?_
  refine g_end Tryz.func189 (res0 rfl) ?_
  exact h2
theorem sortedFunc_pair (lt : Lab → Lab → Bool) (hO : Ord lt) (cmp : Lab → Lab → Int) (hcmp : ∀ x y, decide (cmp x y < 0) = lt x y) (l : List Lab) (h12 : l.length ≤ 12) (fv : Value) (g : FuncId) (fs cl : List Value) (w : World)
    (it : ∀ w1, Pu w w1 → Iterates Tryz.prog noD (fun _ => False) g fs cl (fun x : Lab => [.agg (labCells x).toArray]) (fun done x => l[done.length]? = some x) (fun done => done = l) (fun b => b < w.heap.size) w1)
    (hf : ∀ x y w1, Pu w w1 → FnV Tryz.prog fv [.agg (labCells x).toArray, .agg (labCells y).toArray] w1 (fun v w' => v = .int .i64 (cmp x y) ∧ Pu w1 w')) :
    Fn Tryz.prog 154 #[.func (.func g) fs.toArray cl.toArray, fv] w (fun v w' => ∃ (L : List Lab) (A : Option Addr) (c : Nat), L.Perm l ∧ Upto lt L L.length ∧ v = .slice A l.length c ∧ Row w' w.heap.size 64 2 A l.length c (L.flatMap labCells) ∧ Pu w w') := by
  refine fn_of (args := [.func (.func g) fs.toArray cl.toArray, fv]) Tryz.func154 (by kernel_rfl) rfl Tryz.ntmps154 rfl ?_
  refine g_seq ?_
  refine g_region ?_
  refine gl_op (r_asL rfl) rfl ?_
  refine gl_nil ?_
  refine g_seq ?_
  refine g_region ?_
  refine gl_op (r_mvF rfl) rfl ?_
  refine gl_call (collect_pair (fun _ => False) (fun b => b < w.heap.size) (fun done x => l[done.length]? = some x) (fun done => done = l) (fun done => done.length ≤ l.length) g fs cl w (fun b h => h) (fun b h => h.elim) (Nat.zero_le _) (fun done x h1 h2 => by obtain ⟨h3, _⟩ := List.getElem?_eq_some_iff.1 h2; rw [List.length_append]; simp; omega) it) rfl rfl ?_
  rintro _ w1 ⟨done, A, c, rfl, _, rfl, hrow, hfr⟩
  refine gl_op (r_asL rfl) rfl ?_
  refine gl_nil ?_
  refine g_seq ?_
  refine g_region ?_
  refine gl_op (r_mvL rfl) rfl ?_
  refine gl_op (r_mvV (v := fv) rfl) rfl ?_
  have hpu : Pu w w1 := hfr.pu
  refine gl_call (sortFunc_pair lt hO cmp hcmp done h12 A c fv w _ hpu hrow hf) rfl rfl ?_
  rintro _ w2 ⟨L, h1, h2, h3, h4⟩
  refine gl_nil ?_
  refine g_seq ?_
  refine g_region ?_
  refine gl_op (r_mvL rfl) rfl ?_
  refine gl_op (r_asL rfl) rfl ?_
  refine gl_nil ?_
  refine g_ret Tryz.func154 (res1 rfl) ?_
  exact ⟨L, A, c, h1, h2, rfl, h3, h4⟩
end Go.GW
namespace Go.GW
open Go.RowKit Go.Proofs
theorem isNaNs_ok (a : Bs) (w : World) : Fn Tryz.prog 191 #[.string (str a)] w (fun v w' => v = .bool false ∧ w' = w) := by
  refine fn_of (args := [.string (str a)]) Tryz.func191 (by kernel_rfl) rfl Tryz.ntmps191 rfl ?_
  refine g_seq ?_
  refine g_region ?_
  refine gl_op (r_asB rfl) rfl ?_
  refine gl_nil ?_
  refine g_seq ?_
  refine g_region ?_
  refine gl_op (r_mvS rfl) rfl ?_
  refine gl_op (r_mvS rfl) rfl ?_
  refine gl_op (r_sne rfl rfl) rfl ?_
  refine gl_op (r_asB rfl) rfl ?_
  refine gl_nil ?_
  refine g_ret Tryz.func191 (res1 rfl) ?_
  exact ⟨by show Value.bool (decide (a ≠ a)) = _; simp, rfl⟩
theorem cmpS_ok (a b : Bs) (w : World) : Fn Tryz.prog 157 #[.string (str a), .string (str b)] w (fun v w' => v = .int .i64 (cmpStr a b) ∧ w' = w) := by
  unfold cmpStr
  refine fn_of (args := [.string (str a), .string (str b)]) Tryz.func157 (by kernel_rfl) rfl Tryz.ntmps157 rfl ?_
  refine g_seq ?_
  refine g_region ?_
  refine gl_op (r_asI rfl) rfl ?_
  refine gl_nil ?_
  refine g_seq ?_
  refine g_region ?_
  refine gl_op (r_mvS rfl) rfl ?_
  refine gl_call (isNaNs_ok a w) rfl rfl ?_
  rintro _ _ ⟨rfl, rfl⟩
  refine gl_op (r_asB rfl) rfl ?_
  refine gl_nil ?_
  refine g_seq ?_
  refine g_region ?_
  refine gl_op (r_mvS rfl) rfl ?_
  refine gl_call (isNaNs_ok b _) rfl rfl ?_
  rintro _ _ ⟨rfl, rfl⟩
  refine gl_op (r_asB rfl) rfl ?_
  refine gl_nil ?_
  refine g_seq ?_
  refine g_seq ?_
  refine g_region ?_
  refine gl_op (r_mvB rfl) rfl ?_
  refine gl_nil ?_
  refine g_condF (rfl) ?_
  refine g_skip ?_
  refine g_seq ?_
  refine g_seq ?_
  refine g_region ?_
  refine gl_op (r_mvB rfl) rfl ?_
  refine gl_nil ?_
  refine g_condF (rfl) ?_
  refine g_skip ?_
  refine g_seq ?_
  refine g_seq ?_
  refine g_region ?_
  refine gl_op (r_mvS rfl) rfl ?_
  refine gl_op (r_mvS rfl) rfl ?_
  refine gl_op (r_slt rfl rfl) rfl ?_
  refine gl_nil ?_
  refine g_cond rfl (fun h1 => ?_) (fun h1 => ?_)
  · rw [if_pos h1]
    refine g_seq ?_
    refine g_region ?_
    refine gl_op (r_asI rfl) rfl ?_
    refine gl_nil ?_
    refine g_ret Tryz.func157 (res1 rfl) ?_
    exact ⟨rfl, rfl⟩
  · rw [if_neg (by rw [show bl a b = false from h1]; decide)]
    refine g_skip ?_
    refine g_seq ?_
    refine g_seq ?_
    refine g_region ?_
    refine gl_op (r_mvS rfl) rfl ?_
    refine gl_op (r_mvS rfl) rfl ?_
    refine gl_op (r_sgt rfl rfl) rfl ?_
    refine gl_nil ?_
    refine g_cond rfl (fun h2 => ?_) (fun h2 => ?_)
    · rw [if_pos h2]
      refine g_seq ?_
      refine g_region ?_
      refine gl_op (r_asI rfl) rfl ?_
      refine gl_nil ?_
      refine g_ret Tryz.func157 (res1 rfl) ?_
      exact ⟨rfl, rfl⟩
    · rw [if_neg (by rw [h2]; decide)]
      refine g_skip ?_
      refine g_seq ?_
      refine g_region ?_
      refine gl_op (r_asI rfl) rfl ?_
      refine gl_nil ?_
      refine g_ret Tryz.func157 (res1 rfl) ?_
      exact ⟨rfl, rfl⟩
theorem canon1_ok (x : Lab) (w : World) : Fn Tryz.prog 113 #[.agg (labCells x).toArray] w (fun v w' => v = .string (str x.1) ∧ Pu w w') := by
  refine fn_of (args := [.agg (labCells x).toArray]) Tryz.func113 (by kernel_rfl) rfl Tryz.ntmps113 rfl ?_
  have hpu : Pu w w := Pu.refl
  have z_hpu := hpu.size
  refine g_seq ?_
  refine g_region ?_
  refine gl_box (v := .agg #[.string _, .string _]) (vs := [.string _, .string _]) rfl rfl rfl ?_
  intro b_hx w1 hx e_hx s1
  have z1 := s1.size
  replace hpu := hpu.trans s1
  have l_hx := blk_lt hx
  refine gl_op (r_asS rfl) rfl ?_
  refine gl_nil ?_
  refine g_seq ?_
  refine g_region ?_
  refine gl_op (r_fieldAddr of64_0 rfl) rfl ?_
  refine gl_op (r_load1 (v := .string _) ld9 rfl (by assumption) rfl) rfl ?_
  refine gl_op (r_asS rfl) rfl ?_
  refine gl_nil ?_
  refine g_ret Tryz.func113 (res1 rfl) ?_
  exact ⟨rfl, hpu⟩
theorem ordered1_ok (x y : Lab) (b : Nat) (w : World) (hb : w.heap[b]? = some (.cells #[.func (.func 113) #[] #[]] 193 (0, 0))) :
    Fn Tryz.prog 156 #[.agg (labCells x).toArray, .agg (labCells y).toArray, .pointer (some ⟨b, 0, none⟩)] w (fun v w' => v = .int .i64 (cmpStr x.1 y.1) ∧ Pu w w') := by
  refine fn_of (args := [.agg (labCells x).toArray, .agg (labCells y).toArray, .pointer (some ⟨b, 0, none⟩)]) Tryz.func156 (by kernel_rfl) rfl Tryz.ntmps156 rfl ?_
  have hpu : Pu w w := Pu.refl
  have z_hpu := hpu.size
  have l_hb := blk_lt hb
  refine g_seq ?_
  refine g_region ?_
  refine gl_box (v := .agg #[.string _, .string _]) (vs := [.string _, .string _]) rfl rfl rfl ?_
  intro b_hx w1 hx e_hx s1
  have z1 := s1.size
  replace hpu := hpu.trans s1
  replace hb := s1.blk hb
  have l_hx := blk_lt hx
  refine gl_box (v := .agg #[.string _, .string _]) (vs := [.string _, .string _]) rfl rfl rfl ?_
  intro b_hy w2 hy e_hy s2
  have z2 := s2.size
  replace hpu := hpu.trans s2
  replace hb := s2.blk hb
  replace hx := s2.blk hx
  have l_hy := blk_lt hy
  refine gl_op (r_asI rfl) rfl ?_
  refine gl_nil ?_
  refine g_seq ?_
  refine g_draw (fun w' ↦ w'.heap[b]? = some (.cells #[.func (.func 113) #[] #[]] 193 (0, 0)) ∧ w'.heap[b_hx]? = some (.cells (labCells x).toArray 64 (0, 0)) ∧ w'.heap[b_hy]? = some (.cells (labCells y).toArray 64 (0, 0)) ∧ Pu w w') mixed ?_
  intro w8 hw8 s8
  have z3 := s8.size
  replace hpu := hpu.trans s8
  replace hb := s8.blk hb
  replace hx := s8.blk hx
  replace hy := s8.blk hy
  have hS := And.intro hb (And.intro hx (And.intro hy hpu))
  refine ga_take 0 rfl (by decide +kernel) rfl hS (fun _ hS => r_load1 (v := .func (.func 113) #[] #[]) ld193 rfl hS.1 rfl) rfl ?_
  refine ga_take 1 rfl (by decide +kernel) rfl hS (fun _ hS => r_loadA (ls := labCells x) ld64 rfl hS.2.1 rfl) rfl ?_
  refine ga_take 3 rfl (by decide +kernel) rfl hS (fun _ hS => r_load1 (v := .func (.func 113) #[] #[]) ld193 rfl hS.1 rfl) rfl ?_
  refine ga_take 4 rfl (by decide +kernel) rfl hS (fun _ hS => r_loadA (ls := labCells y) ld64 rfl hS.2.2.1 rfl) rfl ?_
  refine ga_only 2 rfl (by decide +kernel) rfl ?_
  refine gl_callV rfl (FnV.of (fs := []) (cl := []) (args := [.agg (labCells x).toArray]) (canon1_ok x _)) rfl rfl ?_
  rintro _ w4 ⟨rfl, s4⟩
  have z4 := s4.size
  replace hpu := hpu.trans s4
  replace hb := s4.blk hb
  replace hx := s4.blk hx
  replace hy := s4.blk hy
  refine gl_nil ⟨⟨hb, hx, hy, hpu⟩, ?_⟩
  refine ga_only 5 rfl (by decide +kernel) rfl ?_
  refine gl_callV rfl (FnV.of (fs := []) (cl := []) (args := [.agg (labCells y).toArray]) (canon1_ok y _)) rfl rfl ?_
  rintro _ w5 ⟨rfl, s5⟩
  have z5 := s5.size
  replace hpu := hpu.trans s5
  replace hb := s5.blk hb
  replace hx := s5.blk hx
  replace hy := s5.blk hy
  refine gl_nil ⟨⟨hb, hx, hy, hpu⟩, ?_⟩
  refine ga_only 6 rfl (by decide +kernel) rfl ?_
  refine gl_call (cmpS_ok x.1 y.1 _) rfl rfl ?_
  rintro _ _ ⟨rfl, rfl⟩
  refine gl_nil ⟨⟨hb, hx, hy, hpu⟩, ?_⟩
  have hS := And.intro hb (And.intro hx (And.intro hy hpu))
  refine ga_take 7 rfl (by decide +kernel) rfl hS (fun _ hS => (r_asI rfl)) rfl ?_
  refine ga_done (by decide +kernel) ?_
  refine g_ret Tryz.func156 (res1 rfl) ?_
  exact ⟨rfl, hpu⟩

/-- labels in order -/
theorem ordered_ok (l : List Lab) (h12 : l.length ≤ 12) (A : Option Addr) (c : Nat) (w : World) (hsl : SlLab w A l) :
    Fn Tryz.prog 112 #[.slice A l.length c, .func (.func 113) #[] #[]] w (fun v w' => ∃ (L : List Lab) (A' : Option Addr) (c' : Nat), L.Perm l ∧ Upto (fun x y : Lab => bl x.1 y.1) L L.length ∧ v = .slice A' l.length c' ∧ Row w' w.heap.size 64 2 A' l.length c' (L.flatMap labCells) ∧ Pu w w') := by
  refine fn_of (args := [.slice A l.length c, .func (.func 113) #[] #[]]) Tryz.func112 (by kernel_rfl) rfl Tryz.ntmps112 rfl ?_
  have hpu : Pu w w := Pu.refl
  have z_hpu := hpu.size
  refine g_seq ?_
  refine g_region ?_
  refine gl_box (v := _) (vs := [.func _ _ _]) rfl rfl rfl ?_
  intro b_hb w1 hb e_hb s1
  have z1 := s1.size
  replace hpu := hpu.trans s1
  have l_hb := blk_lt hb
  refine gl_op (r_asL rfl) rfl ?_
  refine gl_nil ?_
  refine g_seq ?_
  refine g_region ?_
  refine gl_op (r_mvL rfl) rfl ?_
  refine gl_call (values_pair l A c _) rfl rfl ?_
  rintro _ w2 ⟨bs, rfl, hbs, ebs, s2⟩
  have z2 := s2.size
  replace hpu := hpu.trans s2
  replace hb := s2.blk hb
  have l_hbs := blk_lt hbs
  refine gl_op r_func rfl ?_
  have hlt : ∀ ad, 0 < l.length → A = some ad → ad.block < w.heap.size := fun ad h e => hsl.lt h ad e
  refine gl_call (sortedFunc_pair (fun x y : Lab => bl x.1 y.1) (blOrd Prod.fst) (fun x y => cmpStr x.1 y.1) (fun x y => cmpStr_lt _ _) l h12 (.func (.func 156) #[] #[.pointer (some ⟨b_hb, 0, none⟩)]) 190 [] [.pointer (some ⟨bs, 0, none⟩)] w2 (fun w1 s1 => values1_pair l A c (by omega) bs _ w1 l_hbs (s1.blk hbs) (hsl.pu (hpu.trans s1)) (fun hn ad e => by have := hlt ad hn e; show ad.block < w2.heap.size; omega)) (fun x y w1 s1 => FnV.of (fs := []) (cl := [.pointer (some ⟨b_hb, 0, none⟩)]) (ordered1_ok x y b_hb w1 (s1.blk hb)))) rfl rfl ?_
  rintro _ w3 ⟨L, A', c', h1, h2, rfl, h3, h4⟩
  refine gl_op (r_asL rfl) rfl ?_
  refine gl_nil ?_
  refine g_ret Tryz.func112 (res1 rfl) ?_
  exact ⟨L, A', c', h1, h2, rfl, h3.base_le (by omega), hpu.trans h4⟩
end Go.GW
namespace Go.GW
open Go.RowKit Go.Proofs
def labLt (x y : Lab) : Bool := bl x.1 y.1
def labSort (l : List Lab) : List Lab := l.mergeSort (fun x y => !bl y.1 x.1)
theorem labSort_perm (l : List Lab) : (labSort l).Perm l := List.mergeSort_perm l _
theorem labSort_len (l : List Lab) : (labSort l).length = l.length := (labSort_perm l).length_eq
theorem labSort_sorted (l : List Lab) : (labSort l).Pairwise (fun x y => bl y.1 x.1 = false) := by
  have := List.pairwise_mergeSort (le := fun x y : Lab => !bl y.1 x.1) (fun a b c h k => by
    simp only [Bool.not_eq_true'] at *
    exact nbl_trans h k) (fun a b => by
    rcases bl_tri a.1 b.1 with h | h | h <;> simp [h.1, h.2.1]) l
  exact this.imp fun h => by simpa using h
/-- what labels are that are right -/
structure LabOk (l : List Lab) : Prop where
  len : l.length ≤ 8
  name : ∀ p ∈ l, labName p.1 = true
  value : ∀ p ∈ l, p.2.length ≤ 40
  apart : l.Pairwise (fun x y => x.1 ≠ y.1)
theorem labCheckGo_ok : ∀ (l pre : List Lab), labCheckGo pre l = 0 ↔ (∀ p ∈ l, labName p.1 = true) ∧ (∀ p ∈ l, p.2.length ≤ 40) ∧ (∀ x ∈ pre, ∀ y ∈ l, x.1 ≠ y.1) ∧ l.Pairwise (fun x y => x.1 ≠ y.1)
  | [], pre => by simp [labCheckGo]
  | p :: r, pre => by
    rw [labCheckGo_cons]
    by_cases h1 : labName p.1 = false
    · rw [if_pos h1]; simp [h1]
    · rw [if_neg h1]
      by_cases h2 : 40 < p.2.length
      · rw [if_pos h2]; simp; intro _ _ h; omega
      · rw [if_neg h2]
        by_cases h3 : 0 ≤ labFind pre p.1
        · rw [if_pos h3]
          have hn : ¬ labFind pre p.1 < 0 := by omega
          unfold labFind at hn
          rw [idxOf_neg] at hn
          simp only [decide_eq_false_iff_not, Classical.not_forall, Classical.not_not] at hn
          obtain ⟨x, hx, e⟩ := hn
          constructor
          · intro h; cases h
          · rintro ⟨_, _, h, _⟩
            exact absurd e (h x hx p (by simp))
        · rw [if_neg h3, labCheckGo_ok r (pre ++ [p])]
          have hn : labFind pre p.1 < 0 := by omega
          unfold labFind at hn
          rw [idxOf_neg] at hn
          simp only [decide_eq_false_iff_not] at hn
          simp only [Bool.not_eq_false] at h1
          constructor
          · rintro ⟨a, b, c, d⟩
            refine ⟨?_, ?_, ?_, ?_⟩
            · intro q hq; rcases List.mem_cons.1 hq with rfl | hq
              · exact h1
              · exact a q hq
            · intro q hq; rcases List.mem_cons.1 hq with rfl | hq
              · omega
              · exact b q hq
            · intro x hx y hy; rcases List.mem_cons.1 hy with rfl | hy
              · exact hn x hx
              · exact c x (by simp [hx]) y hy
            · exact List.pairwise_cons.2 ⟨fun y hy => c p (by simp) y hy, d⟩
          · rintro ⟨a, b, c, d⟩
            obtain ⟨d1, d2⟩ := List.pairwise_cons.1 d
            refine ⟨fun q hq => a q (by simp [hq]), fun q hq => b q (by simp [hq]), ?_, d2⟩
            intro x hx y hy
            rcases List.mem_append.1 hx with hx | hx
            · exact c x hx y (by simp [hy])
            · have : x = p := by simpa using hx
              subst this; exact d1 y hy
theorem labCheck_iff (l : List Lab) : labCheck l = 0 ↔ LabOk l := by
  unfold labCheck
  by_cases h : 8 < l.length
  · rw [if_pos h]
    exact ⟨fun h => (by cases h), fun h' => absurd h'.len (by omega)⟩
  · rw [if_neg h, labCheckGo_ok]
    exact ⟨fun ⟨a, b, _, d⟩ => ⟨by omega, a, b, d⟩, fun h' => ⟨h'.name, h'.value, fun x hx => (by cases hx), h'.apart⟩⟩
theorem LabOk.inj {l : List Lab} (h : LabOk l) : ∀ x ∈ l, ∀ y ∈ l, bl x.1 y.1 = false → bl y.1 x.1 = false → x = y := by
  intro x hx y hy h1 h2
  have e := bl_eq h1 h2
  obtain ⟨i, hi⟩ := List.getElem?_of_mem hx
  obtain ⟨j, hj⟩ := List.getElem?_of_mem hy
  obtain ⟨hi', rfl⟩ := List.getElem?_eq_some_iff.1 hi
  obtain ⟨hj', rfl⟩ := List.getElem?_eq_some_iff.1 hj
  have hp := List.pairwise_iff_getElem.1 h.apart
  rcases Nat.lt_trichotomy i j with hlt | rfl | hlt
  · exact absurd e (hp i j hi' hj' hlt)
  · rfl
  · exact absurd e.symm (hp j i hj' hi' hlt)
theorem labSort_unique {l L : List Lab} (h : LabOk l) (hp : L.Perm l) (hs : Upto (fun x y : Lab => bl x.1 y.1) L L.length) : L = labSort l :=
  sorted_unique (lt := fun x y : Lab => bl x.1 y.1) (hp.trans (labSort_perm l).symm) hs.pairwise (labSort_sorted l) (fun x hx y hy => h.inj x (hp.mem_iff.1 hx) y (hp.mem_iff.1 hy))

theorem canon_ok (l : List Lab) (A : Option Addr) (c : Nat) (w : World) (hsl : SlLab w A l) (hlen : l.length < 4611686018427387904) (hs : ∀ p ∈ l, p.1.length < 4611686018427387904) (hc : l.length ≤ c) :
    Fn Tryz.prog 65 #[.slice A l.length c] w (fun v w' => (if labCheck l = 0 then ∃ A' c', v = .tuple #[.slice A' l.length c', .int .i64 0] ∧ SlLab w' A' (labSort l) ∧ l.length ≤ c' else v = .tuple #[.slice none 0 0, .int .i64 (labCheck l)]) ∧ Pu w w') := by
  refine fn_of (args := [.slice A l.length c]) Tryz.func65 (by kernel_rfl) rfl Tryz.ntmps65 rfl ?_
  have hpu : Pu w w := Pu.refl
  have z_hpu := hpu.size
  refine g_seq ?_
  refine g_region ?_
  refine gl_op (r_asL rfl) rfl ?_
  refine gl_op (r_asI rfl) rfl ?_
  refine gl_nil ?_
  refine g_seq ?_
  refine g_seq ?_
  refine g_region ?_
  refine gl_op (r_mvL rfl) rfl ?_
  refine gl_call (labCheck_ok l A c _ hsl hlen hs hc) rfl rfl ?_
  rintro _ w1 ⟨rfl, s1⟩
  have z1 := s1.size
  replace hpu := hpu.trans s1
  refine gl_op (r_asI rfl) rfl ?_
  refine gl_nil ?_
  refine g_seq ?_
  refine g_region ?_
  refine gl_op (r_mvI rfl) rfl ?_
  refine gl_op (r_ne rfl rfl) rfl ?_
  refine gl_nil ?_
  by_cases h0 : labCheck l = 0
  · rw [h0]
    refine g_condF (rfl) ?_
    refine g_skip ?_
    refine g_seq ?_
    refine g_region ?_
    refine gl_op (r_mvL rfl) rfl ?_
    have hok := (labCheck_iff l).1 h0
    refine gl_call (ordered_ok l (by have := hok.len; omega) A c _ (hsl.pu hpu)) rfl rfl ?_
    rintro _ w2 ⟨L, A', c', h1, h2, rfl, h3, h4⟩
    refine gl_op (r_asL rfl) rfl ?_
    refine gl_op (r_asI rfl) rfl ?_
    refine gl_nil ?_
    refine g_ret Tryz.func65 (res2 rfl) ?_
    have e := labSort_unique hok h1 h2
    subst e
    refine ⟨⟨A', c', rfl, ?_, ?_⟩, hpu.trans h4⟩
    · unfold SlLab; rw [labSort_len]; exact h3.sl
    · rcases h3.form with ⟨_, h, _⟩ | ⟨_, _, _, _, _, h, _⟩
      · omega
      · exact h
  · refine g_condT (bT (by omega)) ?_
    refine g_seq ?_
    refine g_region ?_
    refine gl_op (r_mvI rfl) rfl ?_
    refine gl_op (r_asL rfl) rfl ?_
    refine gl_op (r_asI rfl) rfl ?_
    refine gl_nil ?_
    refine g_ret Tryz.func65 (res2 rfl) ?_
    exact ⟨by rw [if_neg h0]; rfl, hpu⟩
end Go.GW
namespace Go.GW
open Go.RowKit Go.Proofs
def textPut (s : Bs) : Bs := varint s.length ++ s
def labBytes (l : List Lab) : Bs := l.flatMap fun p => textPut p.1 ++ textPut p.2
def labPut (l : List Lab) : Bs := varint l.length ++ labBytes (labSort l)
theorem textPut_len {s : Bs} {n : Nat} (hn : n < 18446744073709551616) (h : s.length ≤ n) : (textPut s).length ≤ 10 + n := by
  have := varint_len10 (n := s.length) (by omega)
  unfold textPut
  rw [List.length_append]; omega
theorem labBytes_len {l : List Lab} {a b : Nat} (ha : a < 18446744073709551616) (hb : b < 18446744073709551616) (h : ∀ p ∈ l, p.1.length ≤ a ∧ p.2.length ≤ b) : (labBytes l).length ≤ l.length * (20 + a + b) := by
  induction l with
  | nil => simp [labBytes]
  | cons p r ih =>
    have h1 := ih fun q hq => h q (by simp [hq])
    obtain ⟨h2, h3⟩ := h p (by simp)
    have h4 := textPut_len ha h2
    have h5 := textPut_len hb h3
    unfold labBytes at *
    rw [List.flatMap_cons, List.length_append, List.length_append, List.length_cons, Nat.succ_mul]
    omega
theorem labName_len {s : Bs} (h : labName s = true) : 1 ≤ s.length ∧ s.length ≤ 20 := by
  unfold labName at h
  cases s with
  | nil => cases h
  | cons c r =>
    simp only [Bool.and_eq_true, decide_eq_true_eq] at h
    exact ⟨by simp, h.1.1⟩
theorem LabOk.sort {l : List Lab} (h : LabOk l) : LabOk (labSort l) := by
  have hp := labSort_perm l
  exact ⟨by rw [labSort_len]; exact h.len, fun p hp' => h.name p (hp.mem_iff.1 hp'), fun p hp' => h.value p (hp.mem_iff.1 hp'), (hp.pairwise_iff (fun h e => h e.symm)).2 h.apart⟩
theorem labPut_ok (l : List Lab) (A : Option Addr) (c : Nat) (w : World) (hsl : SlLab w A l) (hlen : l.length < 4611686018427387904) (hs : ∀ p ∈ l, p.1.length < 4611686018427387904) (hc : l.length ≤ c) :
    Fn Tryz.prog 66 #[.slice A l.length c] w (fun v w' => v = (if labCheck l = 0 then .tuple #[.string (str (labPut l)), .int .i64 0] else .tuple #[.string (str []), .int .i64 (labCheck l)]) ∧ Pu w w') := by
  refine fn_of (args := [.slice A l.length c]) Tryz.func66 (by kernel_rfl) rfl Tryz.ntmps66 rfl ?_
  have hpu : Pu w w := Pu.refl
  have z_hpu := hpu.size
  refine g_seq ?_
  refine g_region ?_
  refine gl_op (r_asS rfl) rfl ?_
  refine gl_op (r_asI rfl) rfl ?_
  refine gl_nil ?_
  refine g_seq ?_
  refine g_region ?_
  refine gl_op (r_mvL rfl) rfl ?_
  refine gl_call (canon_ok l A c _ hsl hlen hs hc) rfl rfl ?_
  rintro _ wc ⟨hv, sc⟩
  by_cases h0 : labCheck l = 0
  · skip
    rw [if_pos h0] at hv
    obtain ⟨A', c', rfl, hsl1, hc1⟩ := hv
    have hok := ((labCheck_iff l).1 h0).sort
    obtain ⟨L, hL⟩ : ∃ L, L = labSort l := ⟨_, rfl⟩
    have hll : l.length = L.length := by rw [hL]; exact (labSort_len l).symm
    have hput : labPut l = varint L.length ++ labBytes L := by unfold labPut; rw [← hL, hll]
    rw [← hL] at hsl1 hok
    rw [if_pos h0, hput]
    rw [hll] at hc1 ⊢
    have hlok := hok.len
    have hml : ∀ p ∈ L, p.1.length ≤ 20 ∧ p.2.length ≤ 40 := fun p hp => ⟨(labName_len (hok.name p hp)).2, hok.value p hp⟩
    have hpu : Pu wc wc := Pu.refl
    have z_hpu := hpu.size
    refine gl_op (r_mvT rfl) rfl ?_
    refine gl_op (r_extract rfl rfl) rfl ?_
    refine gl_op (r_extract rfl rfl) rfl ?_
    refine gl_op (r_asL rfl) rfl ?_
    refine gl_op (r_asI rfl) rfl ?_
    refine gl_nil ?_
    refine g_seq ?_
    refine g_seq ?_
    refine g_region ?_
    refine gl_op (r_mvI rfl) rfl ?_
    refine gl_op (r_ne rfl rfl) rfl ?_
    refine gl_nil ?_
    refine g_condF (rfl) ?_
    refine g_skip ?_
    refine g_seq ?_
    refine g_region ?_
    refine gl_alloc ze196 rfl rfl ?_
    intro b_hb w1 hb e_hb s1
    have z1 := s1.size
    replace hpu := hpu.trans s1
    have l_hb := blk_lt hb
    refine gl_nil ?_
    refine g_seq ?_
    refine g_region ?_
    refine gl_op (r_mvL rfl) rfl ?_
    refine gl_op (r_len Tryz.underlying35 rfl) rfl ?_
    refine gl_op (r_conv Tryz.underlying3 Tryz.underlying26 rfl (wU64 (by omega) (by omega))) rfl ?_
    refine gl_call (put_ok L.length (by omega) _) rfl rfl ?_
    rintro _ w2 ⟨rfl, s2⟩
    have z2 := s2.size
    replace hpu := hpu.trans s2
    replace hb := s2.blk hb
    have hB : Bld _ wc.heap.size b_hb [] := ⟨by omega, none, none, 0, hb, Row.nil, .inl rfl⟩
    have hvl := varint_len10 (n := L.length) (by omega)
    refine gl_call (writeString_ok wc _ hpu b_hb [] (varint L.length) hB (by simp; omega)) rfl rfl ?_
    rintro _ w3 ⟨hB3, hpu3, _⟩
    refine gl_nil ?_
    refine g_seq ?_
    refine g_seq ?_
    refine g_region ?_
    refine gl_op (r_mvL rfl) rfl ?_
    refine gl_op (r_len Tryz.underlying35 rfl) rfl ?_
    refine gl_op (r_mvI rfl) rfl ?_
    refine gl_nil ?_
    refine g_block ?_
    refine g_loop (ι := Nat) (fun i => [(6, .pointer (some ⟨b_hb, 0, none⟩)), (22, .slice A' L.length c'), (23, .int .i64 L.length), (24, .int .i64 i)]) (fun i w' => i ≤ L.length ∧ Pu wc w' ∧ Bld w' wc.heap.size b_hb (varint L.length ++ labBytes (L.take i))) (fun i => L.length - i) 0 ⟨rfl, rfl, rfl, rfl, trivial⟩ ⟨Nat.zero_le _, hpu3, by simpa [labBytes] using hB3⟩ ?_
    rintro i τ w4 ⟨hi, hpu, hB⟩ ih
    have z_hpu := hpu.size
    refine g_seq ?_
    refine g_region ?_
    refine gl_op (r_lt rfl rfl) rfl ?_
    refine gl_nil ?_
    refine g_seq ?_
    refine g_condP rfl (fun hc => ?_) (fun hc => ?_)
    · have hlt : i < L.length := by omega
      obtain ⟨p, hp⟩ : ∃ p, L[i]? = some p := ⟨_, List.getElem?_eq_getElem hlt⟩
      obtain ⟨hm1, hm2⟩ := hml p (List.mem_of_getElem? hp)
      obtain ⟨b, o, cs, fr, eA, hbd, hcs⟩ := (hsl1.pu hpu).elem labCells_len hp
      subst eA
      have hbl := labBytes_len (l := L.take i) (a := 20) (b := 40) (by omega) (by omega) (fun q hq => hml q (List.mem_of_mem_take hq))
      rw [List.length_take] at hbl
      refine g_skip ?_
      refine g_seq ?_
      refine g_block ?_
      refine g_seq ?_
      refine g_region ?_
      refine gl_op (r_indexAddr (j := i) Tryz.underlying35 sz64 rfl rfl hlt) rfl ?_
      refine gl_op (r_loadA (ls := labCells p) ld64 rfl hbd hcs) rfl ?_
      have q0 : Pu w4 w4 := Pu.refl
      have z_q0 := q0.size
      refine gl_alloc ze64 rfl rfl ?_
      intro b_hx w3 hx e_hx s3
      have z3 := s3.size
      replace hpu := hpu.trans s3
      replace q0 := q0.trans s3
      have l_hx := blk_lt hx
      have old4 := hx
      refine gl_store (u := .agg #[.string _, .string _]) (vs := [.string _, .string _]) sz64 rfl rfl rfl rfl rfl hx rfl ?_
      intro w4 hx st4
      have z4 := st4.size
      replace hpu := st4.pu hpu (by omega)
      replace q0 := st4.pu q0 (by omega)
      refine gl_nil ?_
      refine g_draw (fun w' ↦ w'.heap[b_hx]? = some (.cells (labCells p).toArray 64 (0, 0))) mixed ?_
      intro w8 hw8 s8
      have z5 := s8.size
      replace hpu := hpu.trans s8
      replace q0 := q0.trans s8
      replace hx := s8.blk hx
      have hS := hx
      refine ga_take 0 rfl (by decide +kernel) rfl hS (fun _ hS => (r_fieldAddr of64_0 rfl)) rfl ?_
      refine ga_take 1 rfl (by decide +kernel) rfl hS (fun _ hS => r_load1 (v := .string (str p.1)) ld9 rfl hS rfl) rfl ?_
      refine ga_take 3 rfl (by decide +kernel) rfl hS (fun _ hS => (r_fieldAddr of64_1 rfl)) rfl ?_
      refine ga_take 4 rfl (by decide +kernel) rfl hS (fun _ hS => r_load1 (v := .string (str p.2)) ld9 rfl hS rfl) rfl ?_
      refine ga_only 2 rfl (by decide +kernel) rfl ?_
      refine gl_call (putText_ok p.1 (by omega) _) rfl rfl ?_
      rintro _ w6 ⟨rfl, s6⟩
      have z6 := s6.size
      replace hpu := hpu.trans s6
      replace q0 := q0.trans s6
      replace hx := s6.blk hx
      refine gl_nil ⟨hx, ?_⟩
      refine ga_only 5 rfl (by decide +kernel) rfl ?_
      refine gl_call (putText_ok p.2 (by omega) _) rfl rfl ?_
      rintro _ w7 ⟨rfl, s7⟩
      have z7 := s7.size
      replace hpu := hpu.trans s7
      replace q0 := q0.trans s7
      replace hx := s7.blk hx
      refine gl_nil ⟨hx, ?_⟩
      have hS := hx
      have ht1 := textPut_len (s := p.1) (n := 20) (by omega) hm1
      have ht2 := textPut_len (s := p.2) (n := 40) (by omega) hm2
      refine ga_take 6 rfl (by decide +kernel) rfl hS (fun _ hS => r_sadd (a := textPut p.1) (b := textPut p.2) rfl rfl (by omega)) rfl ?_
      have hB4 := hB.pu q0
      refine ga_only 7 rfl (by decide +kernel) rfl ?_
      refine gl_call (writeString_ok wc _ hpu b_hb _ (textPut p.1 ++ textPut p.2) hB4 (by rw [List.length_append, List.length_append]; omega)) rfl rfl ?_
      rintro _ w10 ⟨hB10, hpu10, hd10⟩
      refine gl_nil ⟨hd10 _ _ _ _ rfl hx, ?_⟩
      refine ga_done (by decide +kernel) ?_
      refine g_inBlock ?_
      refine g_region ?_
      refine gl_op (r_add rfl rfl (wI64 (by omega) (by omega))) rfl ?_
      refine gl_op (r_mvI rfl) rfl ?_
      refine gl_nil ?_
      exact ih (i + 1) _ _ (by omega) ⟨rfl, rfl, rfl, rfl, trivial⟩ ⟨by omega, hpu10, by rw [List.take_add_one, hp]; simpa [labBytes] using hB10⟩
    · refine g_exit rfl ?_
      refine g_seq ?_
      refine g_region ?_
      have he : i = L.length := by omega
      subst he
      rw [List.take_length] at hB
      refine gl_call (bldString_ok wc _ hpu b_hb _ hB) rfl rfl ?_
      rintro _ w10 ⟨rfl, hpu10⟩
      refine gl_op (r_asS rfl) rfl ?_
      refine gl_op (r_asI rfl) rfl ?_
      refine gl_nil ?_
      refine g_ret Tryz.func66 (res2 rfl) ?_
      exact ⟨rfl, sc.trans hpu10⟩
  · rw [if_neg h0] at hv
    subst hv
    refine gl_op (r_mvT rfl) rfl ?_
    refine gl_op (r_extract rfl rfl) rfl ?_
    refine gl_op (r_extract rfl rfl) rfl ?_
    refine gl_op (r_asL rfl) rfl ?_
    refine gl_op (r_asI rfl) rfl ?_
    refine gl_nil ?_
    refine g_seq ?_
    refine g_seq ?_
    refine g_region ?_
    refine gl_op (r_mvI rfl) rfl ?_
    refine gl_op (r_ne rfl rfl) rfl ?_
    refine gl_nil ?_
    refine g_condT (bT (by omega)) ?_
    refine g_seq ?_
    refine g_region ?_
    refine gl_op (r_mvI rfl) rfl ?_
    refine gl_op (r_asS rfl) rfl ?_
    refine gl_op (r_asI rfl) rfl ?_
    refine gl_nil ?_
    refine g_ret Tryz.func66 (res2 rfl) ?_
    exact ⟨by rw [if_neg h0]; rfl, sc⟩
end Go.GW
namespace Go.GW
open Go.RowKit Go.Proofs
def labBad (acc : List Lab) (a : Bs) : Bool := match acc.getLast? with | some q => !bl q.1 a | none => false
def labTakeGo : Nat → List Lab → Bs → Option (List Lab × Bs)
  | 0, acc, r => some (acc, r)
  | k + 1, acc, r => match takeText r 20 with
    | .error _ => none
    | .ok (a, r1) => match takeText r1 40 with
      | .error _ => none
      | .ok (b, r2) => if labBad acc a = true then none else labTakeGo k (acc ++ [(a, b)]) r2
theorem snoc_all {α : Type} {P : α → Prop} {l : List α} {x : α} (h : ∀ p ∈ l, P p) (hx : P x) : ∀ p ∈ l ++ [x], P p := fun p hp => by
  rcases List.mem_append.1 hp with h' | h'
  · exact h p h'
  · rw [List.mem_singleton.1 h']; exact hx
theorem labTakeGo_succ (k : Nat) (acc : List Lab) (r : Bs) : labTakeGo (k + 1) acc r = (match takeText r 20 with
    | .error _ => none
    | .ok (a, r1) => match takeText r1 40 with
      | .error _ => none
      | .ok (b, r2) => if labBad acc a = true then none else labTakeGo k (acc ++ [(a, b)]) r2) := rfl
def labTake (s : Bs) : Option (List Lab × Bs) :=
  match takeVar s with
  | none => none
  | some (n, r) => if 8 < n then none else match labTakeGo n [] r with
    | none => none
    | some (l, r2) => if labCheck l = 0 then some (l, r2) else none
theorem takeText_err {s : Bs} {m : Nat} {e : Int} (h : takeText s m = .error e) : e ≠ 0 := by
  unfold takeText at h
  cases ht : takeVar s with
  | none => rw [ht] at h; injection h with h; omega
  | some nr =>
    rw [ht] at h
    dsimp only at h
    split at h
    · injection h with h; omega
    · split at h
      · injection h with h; omega
      · cases h
theorem takeText_bound {s a r : Bs} {m : Nat} (h : takeText s m = .ok (a, r)) : a.length ≤ m ∧ r.length < s.length := by
  unfold takeText at h
  cases ht : takeVar s with
  | none => rw [ht] at h; cases h
  | some nr =>
    obtain ⟨n, r0⟩ := nr
    rw [ht] at h
    obtain ⟨_, k, hk, hr, hkl⟩ := takeVar_bound ht
    dsimp only at h
    split at h
    · cases h
    · split at h
      · cases h
      · injection h with h
        injection h with h1 h2
        subst h1; subst h2
        have : r0.length < s.length := by rw [hr, List.length_drop]; omega
        rw [List.length_take, List.length_drop]; omega
def labTakePost (base : Nat) (o : Option (List Lab × Bs)) (v : Value) (w' : World) : Prop := match o with
  | none => v = .tuple #[.slice none 0 0, .string (str []), .int .i64 2]
  | some (l, r) => ∃ A c, v = .tuple #[.slice A l.length c, .string (str r), .int .i64 0] ∧ SlLab w' A l ∧ l.length ≤ c
theorem labTake_ok (s : Bs) (hs : s.length < 4611686018427387904) (w : World) :
    Fn Tryz.prog 104 #[.string (str s)] w (fun v w' => labTakePost 0 (labTake s) v w' ∧ Pu w w') := by
  unfold labTake
  refine fn_of (args := [.string (str s)]) Tryz.func104 (by kernel_rfl) rfl Tryz.ntmps104 rfl ?_
  have hpu : Pu w w := Pu.refl
  have z_hpu := hpu.size
  refine g_seq ?_
  refine g_region ?_
  refine gl_op (r_asL rfl) rfl ?_
  refine gl_op (r_asS rfl) rfl ?_
  refine gl_op (r_asI rfl) rfl ?_
  refine gl_nil ?_
  refine g_seq ?_
  refine g_region ?_
  refine gl_op (r_mvS rfl) rfl ?_
  refine gl_call (take_ok s (by omega) _) rfl rfl ?_
  rintro _ w1 ⟨rfl, s1⟩
  have z1 := s1.size
  replace hpu := hpu.trans s1
  cases ht : takeVar s with
  | none =>
    refine gl_op (r_mvT rfl) rfl ?_
    refine gl_op (r_extract rfl rfl) rfl ?_
    refine gl_op (r_extract rfl rfl) rfl ?_
    refine gl_op (r_extract rfl rfl) rfl ?_
    refine gl_op (r_asI rfl) rfl ?_
    refine gl_op (r_asS rfl) rfl ?_
    refine gl_op (r_asI rfl) rfl ?_
    refine gl_nil ?_
    refine g_seq ?_
    refine g_seq ?_
    refine g_region ?_
    refine gl_op (r_mvI rfl) rfl ?_
    refine gl_op (r_ne rfl rfl) rfl ?_
    refine gl_op (r_mvB rfl) rfl ?_
    refine gl_guardF rfl (rfl) rfl rfl ?_
    refine gl_guardF rfl (rfl) rfl rfl ?_
    refine gl_op (r_pickTB (rfl) rfl) rfl ?_
    refine gl_nil ?_
    refine g_condT (rfl) ?_
    refine g_seq ?_
    refine g_region ?_
    refine gl_op (r_asL rfl) rfl ?_
    refine gl_op (r_asS rfl) rfl ?_
    refine gl_op (r_asI rfl) rfl ?_
    refine gl_nil ?_
    refine g_ret Tryz.func104 (res3 rfl) ?_
    exact ⟨rfl, hpu⟩
  | some nr =>
    obtain ⟨n, r⟩ := nr
    obtain ⟨hn, k, hk, hr, hkl⟩ := takeVar_bound ht
    have hrl : r.length ≤ s.length := by rw [hr, List.length_drop]; omega
    dsimp only
    refine gl_op (r_mvT rfl) rfl ?_
    refine gl_op (r_extract rfl rfl) rfl ?_
    refine gl_op (r_extract rfl rfl) rfl ?_
    refine gl_op (r_extract rfl rfl) rfl ?_
    refine gl_op (r_asI rfl) rfl ?_
    refine gl_op (r_asS rfl) rfl ?_
    refine gl_op (r_asI rfl) rfl ?_
    refine gl_nil ?_
    refine g_seq ?_
    refine g_seq ?_
    refine g_region ?_
    refine gl_op (r_mvI rfl) rfl ?_
    refine gl_op (r_ne rfl rfl) rfl ?_
    refine gl_op (r_mvB rfl) rfl ?_
    refine gl_guardT rfl (rfl) rfl ((r_mvI rfl)) rfl ?_
    refine gl_guardT rfl (rfl) rfl ((r_gt rfl rfl)) rfl ?_
    refine gl_op (r_pickFB (rfl) rfl) rfl ?_
    refine gl_nil ?_
    refine g_condP rfl (fun h8 => ?_) (fun h8 => ?_)
    · rw [if_pos (by omega)]
      refine g_seq ?_
      refine g_region ?_
      refine gl_op (r_asL rfl) rfl ?_
      refine gl_op (r_asS rfl) rfl ?_
      refine gl_op (r_asI rfl) rfl ?_
      refine gl_nil ?_
      refine g_ret Tryz.func104 (res3 rfl) ?_
      exact ⟨rfl, hpu⟩
    · rw [if_neg (by omega)]
      have h8' : n ≤ 8 := by omega
      refine g_skip ?_
      refine g_seq ?_
      refine g_region ?_
      refine gl_op (r_asL rfl) rfl ?_
      refine gl_nil ?_
      refine g_seq ?_
      refine g_seq ?_
      refine g_region ?_
      refine gl_op (r_mvI rfl) rfl ?_
      refine gl_op (r_mvI rfl) rfl ?_
      refine gl_nil ?_
      refine g_block ?_
      refine g_loop (ι := Nat × List Lab × Bs × Option Addr × Nat) (fun x => [(6, .string (str x.2.2.1)), (8, .slice x.2.2.2.1 x.2.1.length x.2.2.2.2), (22, .int .u64 n), (23, .int .u64 x.1)]) (fun x w' => x.1 ≤ n ∧ x.2.1.length = x.1 ∧ Pu w w' ∧ x.2.2.1.length ≤ s.length ∧ labTakeGo (n - x.1) x.2.1 x.2.2.1 = labTakeGo n [] r ∧ Row w' w.heap.size 64 2 x.2.2.2.1 x.2.1.length x.2.2.2.2 (x.2.1.flatMap labCells) ∧ ∀ p ∈ x.2.1, p.1.length ≤ 20) (fun x => n - x.1) (0, [], r, none, 0) ⟨rfl, rfl, rfl, rfl, trivial⟩ ⟨Nat.zero_le _, rfl, hpu, hrl, rfl, Row.nil, fun p hp => by cases hp⟩ ?_
      rintro ⟨i, acc, r1, A, c⟩ τ w1 ⟨hi, hai, hpu, hr1, hT, hrow, hal⟩ ih
      dsimp only at hi hai hpu hr1 hT hrow hal ih ⊢
      have z_hpu := hpu.size
      have hrow_lt := hrow.lt
      refine g_seq ?_
      refine g_region ?_
      refine gl_op (r_lt rfl rfl) rfl ?_
      refine gl_nil ?_
      refine g_seq ?_
      refine g_condP rfl (fun hc => ?_) (fun hc => ?_)
      · have hlt : i < n := by omega
        obtain ⟨m, hm⟩ : ∃ m, n - i = m + 1 := ⟨n - i - 1, by omega⟩
        rw [hm, labTakeGo_succ] at hT
        refine g_skip ?_
        refine g_seq ?_
        refine g_block ?_
        refine g_seq ?_
        refine g_region ?_
        refine gl_alloc ze64 rfl rfl ?_
        intro b_hp w2 hp e_hp s2
        have z2 := s2.size
        replace hpu := hpu.trans s2
        replace hrow := hrow.pu s2
        have l_hp := blk_lt hp
        refine gl_nil ?_
        refine g_seq ?_
        refine g_region ?_
        refine gl_op (r_mvS rfl) rfl ?_
        refine gl_call (takeText_ok r1 20 (by omega) (by omega) _) rfl rfl ?_
        rintro _ w3 ⟨rfl, s3⟩
        have z3 := s3.size
        replace hpu := hpu.trans s3
        replace hrow := hrow.pu s3
        replace hp := s3.blk hp
        cases ht1 : takeText r1 20 with
        | error e =>
          rw [ht1] at hT
          have he := takeText_err ht1
          refine gl_op (r_mvT rfl) rfl ?_
          refine gl_op (r_extract rfl rfl) rfl ?_
          refine gl_op (r_extract rfl rfl) rfl ?_
          refine gl_op (r_extract rfl rfl) rfl ?_
          refine gl_op (r_fieldAddr of64_0 rfl) rfl ?_
          have old4 := hp
          refine gl_store (u := .string _) (vs := [.string _]) sz9 rfl rfl rfl rfl rfl hp rfl ?_
          intro w4 hp st4
          have z4 := st4.size
          replace hpu := st4.pu hpu (by omega)
          replace hrow := hrow.st st4 (fun ad e => by first | (have h1 := hrow.base ad e; have h2 := hrow_lt ad e; omega) | exact hrow.ne old4 (by decide) ad e)
          refine gl_op (r_asS rfl) rfl ?_
          refine gl_op (r_asI rfl) rfl ?_
          refine gl_nil ?_
          refine g_seq ?_
          refine g_seq ?_
          refine g_region ?_
          refine gl_op (r_mvI rfl) rfl ?_
          refine gl_op (r_eq rfl rfl) rfl ?_
          refine gl_nil ?_
          refine g_condF (bF he) ?_
          refine g_skip ?_
          refine g_seq ?_
          refine g_seq ?_
          refine g_draw (fun _ => True) mixed ?_
          intro w8 hw8 s8
          have z5 := s8.size
          replace hpu := hpu.trans s8
          replace hrow := hrow.pu s8
          replace hp := s8.blk hp
          refine ga_take 0 rfl (by decide +kernel) rfl trivial (fun _ _ => (r_mvI rfl)) rfl ?_
          refine ga_take 1 rfl (by decide +kernel) rfl trivial (fun _ _ => (r_ne rfl rfl)) rfl ?_
          refine ga_take 2 rfl (by decide +kernel) rfl trivial (fun _ _ => (r_mvB rfl)) rfl ?_
          refine ga_takeF 3 rfl (by decide +kernel) rfl trivial rfl (bT he) rfl rfl ?_
          refine ga_takeF 4 rfl (by decide +kernel) rfl trivial rfl (bT he) rfl rfl ?_
          refine ga_takeF 5 rfl (by decide +kernel) rfl trivial rfl (bT he) rfl rfl ?_
          refine ga_takeF 6 rfl (by decide +kernel) rfl trivial rfl (bT he) rfl rfl ?_
          refine ga_takeU 7 rfl (by decide +kernel) rfl trivial rfl rfl rfl rfl ?_
          refine ga_takeU 8 rfl (by decide +kernel) rfl trivial rfl rfl rfl rfl ?_
          refine ga_takeU 9 rfl (by decide +kernel) rfl trivial rfl rfl rfl rfl ?_
          refine ga_takeU 10 rfl (by decide +kernel) rfl trivial rfl rfl rfl rfl ?_
          refine ga_takeU 11 rfl (by decide +kernel) rfl trivial rfl rfl rfl rfl ?_
          refine ga_takeU 12 rfl (by decide +kernel) rfl trivial rfl rfl rfl rfl ?_
          refine ga_takeU 13 rfl (by decide +kernel) rfl trivial rfl rfl rfl rfl ?_
          refine ga_takeU 14 rfl (by decide +kernel) rfl trivial rfl rfl rfl rfl ?_
          refine ga_takeU 15 rfl (by decide +kernel) rfl trivial rfl rfl rfl rfl ?_
          refine ga_takeU 16 rfl (by decide +kernel) rfl trivial rfl rfl rfl rfl ?_
          refine ga_takeF 17 rfl (by decide +kernel) rfl trivial rfl (bT he) rfl rfl ?_
          refine ga_take 18 rfl (by decide +kernel) rfl trivial (fun _ _ => r_pickTB (bT he) rfl) rfl ?_
          refine ga_done (by decide +kernel) ?_
          refine g_condT (rfl) ?_
          refine g_seq ?_
          refine g_region ?_
          refine gl_op (r_asL rfl) rfl ?_
          refine gl_op (r_asS rfl) rfl ?_
          refine gl_op (r_asI rfl) rfl ?_
          refine gl_nil ?_
          refine g_ret Tryz.func104 (res3 rfl) ?_
          exact ⟨by rw [← hT]; exact rfl, hpu⟩
        | ok ar =>
          obtain ⟨a, r2⟩ := ar
          rw [ht1] at hT
          dsimp only at hT
          obtain ⟨hab, hrb⟩ := takeText_bound ht1
          refine gl_op (r_mvT rfl) rfl ?_
          refine gl_op (r_extract rfl rfl) rfl ?_
          refine gl_op (r_extract rfl rfl) rfl ?_
          refine gl_op (r_extract rfl rfl) rfl ?_
          refine gl_op (r_fieldAddr of64_0 rfl) rfl ?_
          have old6 := hp
          refine gl_store (u := .string _) (vs := [.string _]) sz9 rfl rfl rfl rfl rfl hp rfl ?_
          intro w6 hp st6
          have z6 := st6.size
          replace hpu := st6.pu hpu (by omega)
          replace hrow := hrow.st st6 (fun ad e => by first | (have h1 := hrow.base ad e; have h2 := hrow_lt ad e; omega) | exact hrow.ne old6 (by decide) ad e)
          refine gl_op (r_asS rfl) rfl ?_
          refine gl_op (r_asI rfl) rfl ?_
          refine gl_nil ?_
          refine g_seq ?_
          refine g_seq ?_
          refine g_region ?_
          refine gl_op (r_mvI rfl) rfl ?_
          refine gl_op (r_eq rfl rfl) rfl ?_
          refine gl_nil ?_
          refine g_condT (rfl) ?_
          refine g_region ?_
          refine gl_op (r_mvS rfl) rfl ?_
          refine gl_call (takeText_ok r2 40 (by omega) (by omega) _) rfl rfl ?_
          rintro _ w7 ⟨rfl, s7⟩
          have z7 := s7.size
          replace hpu := hpu.trans s7
          replace hrow := hrow.pu s7
          replace hp := s7.blk hp
          cases ht2 : takeText r2 40 with
          | error e =>
            rw [ht2] at hT
            have he := takeText_err ht2
            refine gl_op (r_mvT rfl) rfl ?_
            refine gl_op (r_extract rfl rfl) rfl ?_
            refine gl_op (r_extract rfl rfl) rfl ?_
            refine gl_op (r_extract rfl rfl) rfl ?_
            refine gl_op (r_fieldAddr of64_1 rfl) rfl ?_
            have old8 := hp
            refine gl_store (u := .string _) (vs := [.string _]) sz9 rfl rfl rfl rfl rfl hp rfl ?_
            intro w8 hp st8
            have z8 := st8.size
            replace hpu := st8.pu hpu (by omega)
            replace hrow := hrow.st st8 (fun ad e => by first | (have h1 := hrow.base ad e; have h2 := hrow_lt ad e; omega) | exact hrow.ne old8 (by decide) ad e)
            refine gl_op (r_asS rfl) rfl ?_
            refine gl_op (r_asI rfl) rfl ?_
            refine gl_nil ?_
            refine g_seq ?_
            refine g_seq ?_
            refine g_draw (fun _ => True) mixed ?_
            intro w8 hw8 s8
            have z9 := s8.size
            replace hpu := hpu.trans s8
            replace hrow := hrow.pu s8
            replace hp := s8.blk hp
            refine ga_take 0 rfl (by decide +kernel) rfl trivial (fun _ _ => (r_mvI rfl)) rfl ?_
            refine ga_take 1 rfl (by decide +kernel) rfl trivial (fun _ _ => (r_ne rfl rfl)) rfl ?_
            refine ga_take 2 rfl (by decide +kernel) rfl trivial (fun _ _ => (r_mvB rfl)) rfl ?_
            refine ga_takeF 3 rfl (by decide +kernel) rfl trivial rfl (bT he) rfl rfl ?_
            refine ga_takeF 4 rfl (by decide +kernel) rfl trivial rfl (bT he) rfl rfl ?_
            refine ga_takeF 5 rfl (by decide +kernel) rfl trivial rfl (bT he) rfl rfl ?_
            refine ga_takeF 6 rfl (by decide +kernel) rfl trivial rfl (bT he) rfl rfl ?_
            refine ga_takeU 7 rfl (by decide +kernel) rfl trivial rfl rfl rfl rfl ?_
            refine ga_takeU 8 rfl (by decide +kernel) rfl trivial rfl rfl rfl rfl ?_
            refine ga_takeU 9 rfl (by decide +kernel) rfl trivial rfl rfl rfl rfl ?_
            refine ga_takeU 10 rfl (by decide +kernel) rfl trivial rfl rfl rfl rfl ?_
            refine ga_takeU 11 rfl (by decide +kernel) rfl trivial rfl rfl rfl rfl ?_
            refine ga_takeU 12 rfl (by decide +kernel) rfl trivial rfl rfl rfl rfl ?_
            refine ga_takeU 13 rfl (by decide +kernel) rfl trivial rfl rfl rfl rfl ?_
            refine ga_takeU 14 rfl (by decide +kernel) rfl trivial rfl rfl rfl rfl ?_
            refine ga_takeU 15 rfl (by decide +kernel) rfl trivial rfl rfl rfl rfl ?_
            refine ga_takeU 16 rfl (by decide +kernel) rfl trivial rfl rfl rfl rfl ?_
            refine ga_takeF 17 rfl (by decide +kernel) rfl trivial rfl (bT he) rfl rfl ?_
            refine ga_take 18 rfl (by decide +kernel) rfl trivial (fun _ _ => r_pickTB (bT he) rfl) rfl ?_
            refine ga_done (by decide +kernel) ?_
            refine g_condT (rfl) ?_
            refine g_seq ?_
            refine g_region ?_
            refine gl_op (r_asL rfl) rfl ?_
            refine gl_op (r_asS rfl) rfl ?_
            refine gl_op (r_asI rfl) rfl ?_
            refine gl_nil ?_
            refine g_ret Tryz.func104 (res3 rfl) ?_
            exact ⟨by rw [← hT]; exact rfl, hpu⟩
          | ok br =>
            obtain ⟨b, r3⟩ := br
            rw [ht2] at hT
            dsimp only at hT
            obtain ⟨hbb, hrb2⟩ := takeText_bound ht2
            refine gl_op (r_mvT rfl) rfl ?_
            refine gl_op (r_extract rfl rfl) rfl ?_
            refine gl_op (r_extract rfl rfl) rfl ?_
            refine gl_op (r_extract rfl rfl) rfl ?_
            refine gl_op (r_fieldAddr of64_1 rfl) rfl ?_
            have old10 := hp
            refine gl_store (u := .string _) (vs := [.string _]) sz9 rfl rfl rfl rfl rfl hp rfl ?_
            intro w10 hp st10
            have z10 := st10.size
            replace hpu := st10.pu hpu (by omega)
            replace hrow := hrow.st st10 (fun ad e => by first | (have h1 := hrow.base ad e; have h2 := hrow_lt ad e; omega) | exact hrow.ne old10 (by decide) ad e)
            refine gl_op (r_asS rfl) rfl ?_
            refine gl_op (r_asI rfl) rfl ?_
            refine gl_nil ?_
            refine g_seq ?_
            refine g_seq ?_
            rcases List.eq_nil_or_concat acc with hnil | ⟨acc', q, hsn⟩
            · skip
              have hi0 : acc.length = 0 := by rw [hnil]; rfl
              have h6 : Value.bool (decide (((acc.length : Nat) : Int) > 0)) = .bool false := bF (by omega)
              refine g_draw (fun w' ↦ w'.heap[b_hp]? = some (.cells (labCells (a, b)).toArray 64 (0, 0))) mixed ?_
              intro w8 hw8 s8
              have z11 := s8.size
              replace hpu := hpu.trans s8
              replace hrow := hrow.pu s8
              replace hp := s8.blk hp
              have hS := hp
              refine ga_take 0 rfl (by decide +kernel) rfl hS (fun _ hS => (r_mvI rfl)) rfl ?_
              refine ga_take 1 rfl (by decide +kernel) rfl hS (fun _ hS => (r_ne rfl rfl)) rfl ?_
              refine ga_take 2 rfl (by decide +kernel) rfl hS (fun _ hS => (r_mvB rfl)) rfl ?_
              refine ga_takeT 3 rfl (by decide +kernel) rfl hS rfl (rfl) rfl (fun _ hS => (r_mvL rfl)) rfl ?_
              refine ga_takeT 4 rfl (by decide +kernel) rfl hS rfl (rfl) rfl (fun _ hS => (r_len Tryz.underlying35 rfl)) rfl ?_
              refine ga_takeT 5 rfl (by decide +kernel) rfl hS rfl (rfl) rfl (fun _ hS => (r_gt rfl rfl)) rfl ?_
              refine ga_takeT 6 rfl (by decide +kernel) rfl hS rfl (rfl) rfl (fun _ hS => (r_mvB rfl)) rfl ?_
              refine ga_takeF 7 rfl (by decide +kernel) rfl hS rfl (h6) rfl rfl ?_
              refine ga_takeF 8 rfl (by decide +kernel) rfl hS rfl (h6) rfl rfl ?_
              refine ga_takeF 9 rfl (by decide +kernel) rfl hS rfl (h6) rfl rfl ?_
              refine ga_takeF 10 rfl (by decide +kernel) rfl hS rfl (h6) rfl rfl ?_
              refine ga_takeF 11 rfl (by decide +kernel) rfl hS rfl (h6) rfl rfl ?_
              refine ga_takeF 12 rfl (by decide +kernel) rfl hS rfl (h6) rfl rfl ?_
              refine ga_takeF 13 rfl (by decide +kernel) rfl hS rfl (h6) rfl rfl ?_
              refine ga_takeF 14 rfl (by decide +kernel) rfl hS rfl (h6) rfl rfl ?_
              refine ga_takeF 15 rfl (by decide +kernel) rfl hS rfl (h6) rfl rfl ?_
              refine ga_takeF 16 rfl (by decide +kernel) rfl hS rfl (h6) rfl rfl ?_
              refine ga_takeT 17 rfl (by decide +kernel) rfl hS rfl (rfl) rfl (fun _ hS => r_pickFB h6 rfl) rfl ?_
              refine ga_take 18 rfl (by decide +kernel) rfl hS (fun _ hS => r_pickFB rfl rfl) rfl ?_
              refine ga_done (by decide +kernel) ?_
              refine g_condF (rfl) ?_
              rw [if_neg (by rw [hnil]; simp [labBad])] at hT
              refine g_skip ?_
              refine g_region ?_
              refine gl_op (r_mvL rfl) rfl ?_
              refine gl_op (r_loadA (ls := [.string _, .string _]) ld64 rfl (by assumption) rfl) rfl ?_
              refine gl_slice1 (v := .agg #[.string _, .string _]) (vs := [.string _, .string _]) Tryz.underlying35 sz64 ze64 rfl rfl rfl rfl rfl rfl rfl ?_
              intro b_ho w12 ho e_ho s12 sl_ho
              have z12 := s12.size
              replace hpu := hpu.trans s12
              replace hrow := hrow.pu s12
              replace hp := s12.blk hp
              have l_ho := blk_lt ho
              have old13 := hrow
              refine gl_append2 Tryz.underlying35 sz64 ze64 by64 rfl rfl rfl hrow rfl (sl_ho) (allOne rfl) (by omega) (by omega) (by omega) rfl ?_
              have hrow_bs := hrow.base
              have hrow_lo := hrow_lt
              intro A_hrow c_hrow w13 hrow g13 at_hrow
              have z13 := g13.size
              replace hpu := g13.pu hpu (fun ad e => by have h1 := hrow_bs ad e; omega)
              replace hp := g13.blk hp (fun ad e => by first | (have h1 := hrow_bs ad e; have h2 := hrow_lo ad e; omega) | exact (old13.ne hp (by decide) ad e).symm)
              replace ho := g13.blk ho (fun ad e => by first | (have h1 := hrow_bs ad e; have h2 := hrow_lo ad e; omega) | exact (old13.ne ho (by decide) ad e).symm)
              have hrow_lt := hrow.lt
              refine gl_op (r_asL rfl) rfl ?_
              refine gl_nil ?_
              refine g_inBlock ?_
              refine g_region ?_
              refine gl_op (r_add rfl rfl (wU64 (by omega) (by omega))) rfl ?_
              refine gl_op (r_mvI rfl) rfl ?_
              refine gl_nil ?_
              exact ih (i + 1, acc ++ [(a, b)], r3, A_hrow, c_hrow) _ _ (by show n - (i + 1) < n - i; omega) ⟨rfl, by rw [List.length_append]; rfl, rfl, rfl, trivial⟩ ⟨by show i + 1 ≤ n; omega, by show (acc ++ [(a, b)]).length = i + 1; rw [List.length_append, hai]; rfl, hpu, by show r3.length ≤ s.length; omega, by show labTakeGo (n - (i + 1)) _ _ = _; rw [show n - (i + 1) = m from by omega]; exact hT, by rw [List.length_append, List.flatMap_append, List.flatMap_singleton]; exact hrow, snoc_all hal hab⟩
            · rw [List.concat_eq_append] at hsn
              have hacc : acc[i - 1]? = some q := by rw [hsn, ← hai, hsn]; simp
              have hi1 : 1 ≤ i := by rw [← hai, hsn, List.length_append]; simp
              have hlast : acc.getLast? = some q := by rw [hsn]; simp
              have hbd : labBad acc a = !bl q.1 a := by unfold labBad; rw [hlast]
              rw [hbd] at hT
              obtain ⟨g, cur0, eA, hg0, _⟩ := Row.set (enc := labCells) labCells_len (by decide) hrow (i := i - 1) (by omega)
              subst eA
              refine g_draw (fun w' ↦ w'.heap[b_hp]? = some (.cells (labCells (a, b)).toArray 64 (0, 0)) ∧ Row w' w.heap.size 64 2 (some ⟨g, 0, none⟩) acc.length c (acc.flatMap labCells)) mixed ?_
              intro w8 hw8 s8
              have z14 := s8.size
              replace hpu := hpu.trans s8
              replace hrow := hrow.pu s8
              replace hp := s8.blk hp
              have hS := And.intro hp hrow
              have h6 : Value.bool (decide (((acc.length : Nat) : Int) > 0)) = .bool true := bT (by omega)
              refine ga_take 0 rfl (by decide +kernel) rfl hS (fun _ hS => (r_mvI rfl)) rfl ?_
              refine ga_take 1 rfl (by decide +kernel) rfl hS (fun _ hS => (r_ne rfl rfl)) rfl ?_
              refine ga_take 2 rfl (by decide +kernel) rfl hS (fun _ hS => (r_mvB rfl)) rfl ?_
              refine ga_takeT 3 rfl (by decide +kernel) rfl hS rfl (rfl) rfl (fun _ hS => (r_mvL rfl)) rfl ?_
              refine ga_takeT 4 rfl (by decide +kernel) rfl hS rfl (rfl) rfl (fun _ hS => (r_len Tryz.underlying35 rfl)) rfl ?_
              refine ga_takeT 5 rfl (by decide +kernel) rfl hS rfl (rfl) rfl (fun _ hS => (r_gt rfl rfl)) rfl ?_
              refine ga_takeT 6 rfl (by decide +kernel) rfl hS rfl (rfl) rfl (fun _ hS => (r_mvB rfl)) rfl ?_
              refine ga_takeT 7 rfl (by decide +kernel) rfl hS rfl (h6) rfl (fun _ hS => (r_mvL rfl)) rfl ?_
              refine ga_takeT 8 rfl (by decide +kernel) rfl hS rfl (h6) rfl (fun _ hS => (r_mvL rfl)) rfl ?_
              refine ga_takeT 9 rfl (by decide +kernel) rfl hS rfl (h6) rfl (fun _ hS => (r_len Tryz.underlying35 rfl)) rfl ?_
              refine ga_takeT 10 rfl (by decide +kernel) rfl hS rfl (h6) rfl (fun _ hS => (r_sub rfl rfl (wI64 (by omega) (by omega)))) rfl ?_
              refine ga_takeT 11 rfl (by decide +kernel) rfl hS rfl (h6) rfl (fun _ hS => r_indexAddr (j := i - 1) (b := g) (o := 0) Tryz.underlying35 sz64 rfl (congrArg (Value.int .i64) (by omega : ((acc.length : Nat) : Int) - 1 = ((i - 1 : Nat) : Int))) (by omega)) rfl ?_
              refine ga_takeT 12 rfl (by decide +kernel) rfl hS rfl (h6) rfl (fun _ hS => (r_fieldAddr of64_0 rfl)) rfl ?_
              refine ga_takeT 13 rfl (by decide +kernel) rfl hS rfl (h6) rfl (fun _ hS => r_loadRowF (j := 0) labCells_len ld9 rfl hS.2 hacc rfl) rfl ?_
              refine ga_takeT 14 rfl (by decide +kernel) rfl hS rfl (h6) rfl (fun _ hS => (r_fieldAddr of64_0 rfl)) rfl ?_
              refine ga_takeT 15 rfl (by decide +kernel) rfl hS rfl (h6) rfl (fun _ hS => r_load1 (v := .string (str a)) ld9 rfl hS.1 rfl) rfl ?_
              refine ga_takeT 16 rfl (by decide +kernel) rfl hS rfl (h6) rfl (fun _ hS => (r_sge rfl rfl)) rfl ?_
              refine ga_takeT 17 rfl (by decide +kernel) rfl hS rfl (rfl) rfl (fun _ hS => r_pickTB h6 rfl) rfl ?_
              refine ga_take 18 rfl (by decide +kernel) rfl hS (fun _ hS => r_pickFB rfl rfl) rfl ?_
              refine ga_done (by decide +kernel) ?_
              refine g_cond rfl (fun hbad => ?_) (fun hbad => ?_)
              · rw [if_pos hbad] at hT
                refine g_seq ?_
                refine g_region ?_
                refine gl_op (r_asL rfl) rfl ?_
                refine gl_op (r_asS rfl) rfl ?_
                refine gl_op (r_asI rfl) rfl ?_
                refine gl_nil ?_
                refine g_ret Tryz.func104 (res3 rfl) ?_
                exact ⟨by rw [← hT]; exact rfl, hpu⟩
              · rw [if_neg (by rw [show (!bl q.1 a) = false from hbad]; decide)] at hT
                refine g_skip ?_
                refine g_region ?_
                refine gl_op (r_mvL rfl) rfl ?_
                refine gl_op (r_loadA (ls := [.string _, .string _]) ld64 rfl (by assumption) rfl) rfl ?_
                refine gl_slice1 (v := .agg #[.string _, .string _]) (vs := [.string _, .string _]) Tryz.underlying35 sz64 ze64 rfl rfl rfl rfl rfl rfl rfl ?_
                intro b_ho w15 ho e_ho s15 sl_ho
                have z15 := s15.size
                replace hpu := hpu.trans s15
                replace hrow := hrow.pu s15
                replace hp := s15.blk hp
                have l_ho := blk_lt ho
                have old16 := hrow
                refine gl_append2 Tryz.underlying35 sz64 ze64 by64 rfl rfl rfl hrow rfl (sl_ho) (allOne rfl) (by omega) (by omega) (by omega) rfl ?_
                have hrow_bs := hrow.base
                have hrow_lo := hrow_lt
                intro A_hrow c_hrow w16 hrow g16 at_hrow
                have z16 := g16.size
                replace hpu := g16.pu hpu (fun ad e => by have h1 := hrow_bs ad e; omega)
                replace hp := g16.blk hp (fun ad e => by first | (have h1 := hrow_bs ad e; have h2 := hrow_lo ad e; omega) | exact (old16.ne hp (by decide) ad e).symm)
                replace ho := g16.blk ho (fun ad e => by first | (have h1 := hrow_bs ad e; have h2 := hrow_lo ad e; omega) | exact (old16.ne ho (by decide) ad e).symm)
                have hrow_lt := hrow.lt
                refine gl_op (r_asL rfl) rfl ?_
                refine gl_nil ?_
                refine g_inBlock ?_
                refine g_region ?_
                refine gl_op (r_add rfl rfl (wU64 (by omega) (by omega))) rfl ?_
                refine gl_op (r_mvI rfl) rfl ?_
                refine gl_nil ?_
                exact ih (i + 1, acc ++ [(a, b)], r3, A_hrow, c_hrow) _ _ (by show n - (i + 1) < n - i; omega) ⟨rfl, by rw [List.length_append]; rfl, rfl, rfl, trivial⟩ ⟨by show i + 1 ≤ n; omega, by show (acc ++ [(a, b)]).length = i + 1; rw [List.length_append, hai]; rfl, hpu, by show r3.length ≤ s.length; omega, by show labTakeGo (n - (i + 1)) _ _ = _; rw [show n - (i + 1) = m from by omega]; exact hT, by rw [List.length_append, List.flatMap_append, List.flatMap_singleton]; exact hrow, snoc_all hal hab⟩
      · refine g_exit rfl ?_
        refine g_seq ?_
        refine g_seq ?_
        refine g_region ?_
        refine gl_op (r_mvL rfl) rfl ?_
        have he : i = n := by omega
        subst he
        rw [Nat.sub_self] at hT
        rw [show labTakeGo i [] r = some (acc, r1) from hT.symm]
        dsimp only
        have hcc : acc.length ≤ c := by
          rcases hrow.form with ⟨_, h, _⟩ | ⟨_, _, _, _, _, h, _⟩
          · omega
          · exact h
        refine gl_call (labCheck_ok acc A c _ hrow.sl (by omega) (fun p hp => by have := hal p hp; omega) hcc) rfl rfl ?_
        rintro _ w17 ⟨rfl, s17⟩
        have z17 := s17.size
        replace hpu := hpu.trans s17
        replace hrow := hrow.pu s17
        refine gl_op (r_ne rfl rfl) rfl ?_
        refine gl_nil ?_
        by_cases h0 : labCheck acc = 0
        · rw [if_pos h0]
          refine g_condF (bF (by omega)) ?_
          refine g_skip ?_
          refine g_seq ?_
          refine g_region ?_
          refine gl_op (r_mvL rfl) rfl ?_
          refine gl_op (r_mvS rfl) rfl ?_
          refine gl_op (r_asL rfl) rfl ?_
          refine gl_op (r_asS rfl) rfl ?_
          refine gl_op (r_asI rfl) rfl ?_
          refine gl_nil ?_
          refine g_ret Tryz.func104 (res3 rfl) ?_
          exact ⟨⟨A, c, rfl, hrow.sl, hcc⟩, hpu⟩
        · rw [if_neg h0]
          refine g_condT (bT (by omega)) ?_
          refine g_seq ?_
          refine g_region ?_
          refine gl_op (r_asL rfl) rfl ?_
          refine gl_op (r_asS rfl) rfl ?_
          refine gl_op (r_asI rfl) rfl ?_
          refine gl_nil ?_
          refine g_ret Tryz.func104 (res3 rfl) ?_
          exact ⟨rfl, hpu⟩
end Go.GW
namespace Go.GW
open Go.RowKit Go.Proofs
/-- name, value, not -/
abbrev Mat := Bs × Bs × Bool
def matCells (x : Mat) : List Value := [.string (str x.1), .string (str x.2.1), .bool x.2.2]
theorem matCells_len (x : Mat) : (matCells x).length = 3 := rfl
def SlMat (w : World) (A : Option Addr) (m : List Mat) : Prop := ∃ T, Sl w T 3 A m.length (m.flatMap matCells)
theorem SlMat.pu {w w' : World} {A : Option Addr} {m : List Mat} (h : SlMat w A m) (p : Pu w w') : SlMat w' A m := h.imp fun _ h => h.pu p
theorem idxFunc_mat {α : Type} (enc : α → List Value) (henc : ∀ x, (enc x).length = 3) (p : α → Bool) (l : List α) (A : Option Addr) (c : Nat) (fv : Value) (w : World) {T0 : TypeId} (hsl : Sl w T0 3 A l.length (l.flatMap enc)) (hlen : l.length < 4611686018427387904)
    (hf : ∀ x ∈ l, ∀ w1, Pu w w1 → FnV Tryz.prog fv [.agg (enc x).toArray] w1 (fun v w' => v = .bool (p x) ∧ Pu w1 w')) :
    Fn Tryz.prog 153 #[.slice A l.length c, fv] w (fun v w' => v = .int .i64 (idxOf p l) ∧ Pu w w') := by
  refine fn_of (args := [.slice A l.length c, fv]) Tryz.func153 (by kernel_rfl) rfl Tryz.ntmps153 rfl ?_
  refine g_seq ?_
  refine g_region ?_
  refine gl_op (r_asI rfl) rfl ?_
  refine gl_nil ?_
  refine g_seq ?_
  refine g_seq ?_
  refine g_region ?_
  refine gl_op (r_mvL rfl) rfl ?_
  refine gl_op (r_len Tryz.underlying23 rfl) rfl ?_
  refine gl_op (r_mvI rfl) rfl ?_
  refine gl_nil ?_
  refine g_block ?_
  refine g_loop (ι := Nat) (fun i => [(0, .slice A l.length c), (1, fv), (7, .int .i64 l.length), (8, .int .i64 i)]) (fun i w' => i ≤ l.length ∧ Pu w w' ∧ ∀ (j : Nat) y, j < i → l[j]? = some y → p y = false) (fun i => l.length - i) 0 ⟨rfl, rfl, rfl, rfl, trivial⟩ ⟨Nat.zero_le _, Pu.refl, fun j y h => by omega⟩ ?_
  rintro i τ w1 ⟨hi, hpu, hno⟩ ih
  have z_hpu := hpu.size
  refine g_seq ?_
  refine g_region ?_
  refine gl_op (r_lt rfl rfl) rfl ?_
  refine gl_nil ?_
  refine g_seq ?_
  refine g_condP rfl (fun hc => ?_) (fun hc => ?_)
  · have hlt : i < l.length := by omega
    obtain ⟨x, hx⟩ : ∃ x, l[i]? = some x := ⟨_, List.getElem?_eq_getElem hlt⟩
    obtain ⟨b, o, cs, fr, rfl, hb, hcs⟩ := (hsl.pu hpu).elem henc hx
    refine g_skip ?_
    refine g_seq ?_
    refine g_block ?_
    refine g_seq ?_
    refine g_region ?_
    refine gl_op (r_mvI rfl) rfl ?_
    refine gl_op (r_asI rfl) rfl ?_
    refine gl_nil ?_
    refine g_seq ?_
    refine g_region ?_
    refine gl_op (r_mvV (v := fv) rfl) rfl ?_
    refine gl_op (r_mvL rfl) rfl ?_
    refine gl_op (r_mvI rfl) rfl ?_
    refine gl_op (r_indexAddr (j := i) Tryz.underlying23 sz25 rfl rfl hlt) rfl ?_
    refine gl_op (r_loadA (ls := enc x) ld25 rfl hb hcs) rfl ?_
    refine gl_callV rfl (hf x (List.mem_of_getElem? hx) _ hpu) rfl rfl ?_
    rintro _ w1 ⟨rfl, s1⟩
    have z1 := s1.size
    replace hpu := hpu.trans s1
    refine gl_nil ?_
    refine g_cond rfl (fun hp => ?_) (fun hp => ?_)
    · refine g_seq ?_
      refine g_region ?_
      refine gl_op (r_mvI rfl) rfl ?_
      refine gl_op (r_asI rfl) rfl ?_
      refine gl_nil ?_
      refine g_ret Tryz.func153 (res1 rfl) ?_
      exact ⟨by rw [idxOf_at hx hp hno]; rfl, hpu⟩
    · refine g_skip ?_
      refine g_inBlock ?_
      refine g_region ?_
      refine gl_op (r_add rfl rfl (wI64 (by omega) (by omega))) rfl ?_
      refine gl_op (r_mvI rfl) rfl ?_
      refine gl_nil ?_
      exact ih (i + 1) _ _ (by omega) ⟨rfl, rfl, rfl, rfl, trivial⟩ ⟨by omega, hpu, noStep hno hx hp⟩
  · refine g_exit rfl ?_
    refine g_seq ?_
    refine g_region ?_
    refine gl_op (r_asI rfl) rfl ?_
    refine gl_nil ?_
    refine g_ret Tryz.func153 (res1 rfl) ?_
    have he : i = l.length := by omega
    exact ⟨by rw [idxOf_no fun j y hy => hno j y (by rw [he]; exact (List.getElem?_eq_some_iff.1 hy).1) hy]; rfl, hpu⟩

def labValue (l : List Lab) (name : Bs) : Bs := match l.find? (fun p => decide (p.1 = name)) with | some p => p.2 | none => []
theorem labFind_value {l : List Lab} {name : Bs} : (∃ (i : Nat) (p : Lab), labFind l name = (i : Int) ∧ l[i]? = some p ∧ labValue l name = p.2) ∨ (labFind l name = -1 ∧ labValue l name = []) := by
  unfold labFind idxOf labValue
  cases h : l.findIdx? (fun x : Lab => decide (x.1 = name)) with
  | none =>
    right
    have : l.find? (fun p : Lab => decide (p.1 = name)) = none := by
      rw [List.find?_eq_none]
      intro x hx hp
      have := List.findIdx?_eq_none_iff.1 h x hx
      rw [this] at hp; cases hp
    rw [this]; exact ⟨rfl, rfl⟩
  | some i =>
    left
    obtain ⟨hi, hp, hb⟩ := List.findIdx?_eq_some_iff_getElem.1 h
    refine ⟨i, l[i], rfl, List.getElem?_eq_getElem hi, ?_⟩
    have : l.find? (fun p : Lab => decide (p.1 = name)) = some l[i] := by
      rw [List.find?_eq_some_iff_getElem]
      exact ⟨hp, i, hi, rfl, fun j hj => by simpa using hb j hj⟩
    rw [this]
theorem labValue_ok (l : List Lab) (name : Bs) (A : Option Addr) (c : Nat) (w : World) (hsl : SlLab w A l) (hlen : l.length < 4611686018427387904) :
    Fn Tryz.prog 111 #[.slice A l.length c, .string (str name)] w (fun v w' => v = .string (str (labValue l name)) ∧ Pu w w') := by
  refine fn_of (args := [.slice A l.length c, .string (str name)]) Tryz.func111 (by kernel_rfl) rfl Tryz.ntmps111 rfl ?_
  have hpu : Pu w w := Pu.refl
  have z_hpu := hpu.size
  refine g_seq ?_
  refine g_region ?_
  refine gl_op (r_asS rfl) rfl ?_
  refine gl_nil ?_
  refine g_seq ?_
  refine g_seq ?_
  refine g_region ?_
  refine gl_op (r_mvL rfl) rfl ?_
  refine gl_op (r_mvS rfl) rfl ?_
  refine gl_call (labFind_ok l name A c _ hsl hlen) rfl rfl ?_
  rintro _ w1 ⟨rfl, s1⟩
  have z1 := s1.size
  replace hpu := hpu.trans s1
  rcases labFind_value (l := l) (name := name) with ⟨i, p, h1, h2, h3⟩ | ⟨h1, h2⟩
  · skip
    rw [h1, h3]
    obtain ⟨b, o, cs, fr, eA, hbd, hcs⟩ := (hsl.pu hpu).elem labCells_len h2
    subst eA
    refine gl_op (r_asI rfl) rfl ?_
    refine gl_nil ?_
    refine g_seq ?_
    refine g_region ?_
    refine gl_op (r_mvI rfl) rfl ?_
    refine gl_op (r_ge rfl rfl) rfl ?_
    refine gl_nil ?_
    refine g_condT (bT (by omega)) ?_
    refine g_seq ?_
    refine g_region ?_
    refine gl_op (r_mvL rfl) rfl ?_
    refine gl_op (r_mvI rfl) rfl ?_
    refine gl_op (r_indexAddr (j := i) Tryz.underlying35 sz64 rfl rfl (List.getElem?_eq_some_iff.1 h2).1) rfl ?_
    refine gl_op (r_fieldAddr of64_1 rfl) rfl ?_
    refine gl_op (r_load1 (v := .string (str p.2)) ld9 rfl hbd (cellsAt_get hcs (j := 1) rfl)) rfl ?_
    refine gl_op (r_asS rfl) rfl ?_
    refine gl_nil ?_
    refine g_ret Tryz.func111 (res1 rfl) ?_
    exact ⟨rfl, hpu⟩
  · rw [h1, h2]
    refine gl_op (r_asI rfl) rfl ?_
    refine gl_nil ?_
    refine g_seq ?_
    refine g_region ?_
    refine gl_op (r_mvI rfl) rfl ?_
    refine gl_op (r_ge rfl rfl) rfl ?_
    refine gl_nil ?_
    refine g_condF (rfl) ?_
    refine g_skip ?_
    refine g_seq ?_
    refine g_region ?_
    refine gl_op (r_asS rfl) rfl ?_
    refine gl_nil ?_
    refine g_ret Tryz.func111 (res1 rfl) ?_
    exact ⟨rfl, hpu⟩
def mat1 (l : List Lab) (x : Mat) : Bool := decide ((decide (labValue l x.1 = x.2.1) : Bool) = x.2.2)
theorem match1_ok (l : List Lab) (x : Mat) (A : Option Addr) (c : Nat) (b : Nat) (w : World) (hb : w.heap[b]? = some (.cells #[.slice A l.length c] 35 (0, 0))) (hsl : SlLab w A l) (hlen : l.length < 4611686018427387904) :
    Fn Tryz.prog 110 #[.agg (matCells x).toArray, .pointer (some ⟨b, 0, none⟩)] w (fun v w' => v = .bool (mat1 l x) ∧ Pu w w') := by
  refine fn_of (args := [.agg (matCells x).toArray, .pointer (some ⟨b, 0, none⟩)]) Tryz.func110 (by kernel_rfl) rfl Tryz.ntmps110 rfl ?_
  have hpu : Pu w w := Pu.refl
  have z_hpu := hpu.size
  have l_hb := blk_lt hb
  refine g_seq ?_
  refine g_region ?_
  refine gl_box (v := .agg #[.string _, .string _, .bool _]) (vs := [.string _, .string _, .bool _]) rfl rfl rfl ?_
  intro b_hx w1 hx e_hx s1
  have z1 := s1.size
  replace hpu := hpu.trans s1
  replace hb := s1.blk hb
  have l_hx := blk_lt hx
  refine gl_op (r_asB rfl) rfl ?_
  refine gl_nil ?_
  refine g_seq ?_
  refine g_draw (fun w' ↦ w'.heap[b]? = some (.cells #[.slice A l.length c] 35 (0, 0)) ∧ w'.heap[b_hx]? = some (.cells (matCells x).toArray 25 (0, 0))) mixed ?_
  intro w8 hw8 s8
  have z2 := s8.size
  replace hpu := hpu.trans s8
  replace hb := s8.blk hb
  replace hx := s8.blk hx
  have hS := And.intro hb hx
  refine ga_take 0 rfl (by decide +kernel) rfl hS (fun _ hS => r_load1 (v := .slice A l.length c) ld35 rfl hS.1 rfl) rfl ?_
  refine ga_take 1 rfl (by decide +kernel) rfl hS (fun _ hS => (r_fieldAddr of25_0 rfl)) rfl ?_
  refine ga_take 2 rfl (by decide +kernel) rfl hS (fun _ hS => r_load1 (v := .string (str x.1)) ld9 rfl hS.2 rfl) rfl ?_
  refine ga_take 4 rfl (by decide +kernel) rfl hS (fun _ hS => (r_fieldAddr of25_1 rfl)) rfl ?_
  refine ga_take 5 rfl (by decide +kernel) rfl hS (fun _ hS => r_load1 (v := .string (str x.2.1)) ld9 rfl hS.2 rfl) rfl ?_
  refine ga_take 7 rfl (by decide +kernel) rfl hS (fun _ hS => (r_fieldAddr of25_2 rfl)) rfl ?_
  refine ga_take 8 rfl (by decide +kernel) rfl hS (fun _ hS => r_load1 (v := .bool x.2.2) ld4 rfl hS.2 rfl) rfl ?_
  refine ga_only 3 rfl (by decide +kernel) rfl ?_
  refine gl_call (labValue_ok l x.1 A c _ (hsl.pu hpu) hlen) rfl rfl ?_
  rintro _ w3 ⟨rfl, s3⟩
  have z3 := s3.size
  replace hpu := hpu.trans s3
  replace hb := s3.blk hb
  replace hx := s3.blk hx
  refine gl_nil ⟨⟨hb, hx⟩, ?_⟩
  have hS := And.intro hb hx
  refine ga_take 6 rfl (by decide +kernel) rfl hS (fun _ hS => (r_seq rfl rfl)) rfl ?_
  refine ga_take 9 rfl (by decide +kernel) rfl hS (fun _ hS => r_beq Tryz.underlying4 rfl rfl) rfl ?_
  refine ga_take 10 rfl (by decide +kernel) rfl hS (fun _ hS => (r_asB rfl)) rfl ?_
  refine ga_done (by decide +kernel) ?_
  refine g_ret Tryz.func110 (res1 rfl) ?_
  exact ⟨rfl, hpu⟩
/-- labels are as matchers ask -/
def labMatch (m : List Mat) (l : List Lab) : Bool := !decide (0 ≤ idxOf (mat1 l) m)
theorem labMatch_iff {m : List Mat} {l : List Lab} : labMatch m l = true ↔ ∀ x ∈ m, mat1 l x = false := by
  unfold labMatch
  rw [← idxOf_neg]
  by_cases h : 0 ≤ idxOf (mat1 l) m
  · rw [decide_eq_true h]
    constructor
    · intro h; cases h
    · intro h'; omega
  · rw [decide_eq_false h]
    exact ⟨fun _ => by omega, fun _ => rfl⟩
theorem contains_ok (m : List Mat) (l : List Lab) (B : Option Addr) (d : Nat) (A : Option Addr) (c b : Nat) (w : World) (hb : w.heap[b]? = some (.cells #[.slice A l.length c] 35 (0, 0))) (hslm : SlMat w B m) (hm : m.length < 4611686018427387904) (hsl : SlLab w A l) (hlen : l.length < 4611686018427387904) :
    Fn Tryz.prog 109 #[.slice B m.length d, .func (.func 110) #[] #[.pointer (some ⟨b, 0, none⟩)]] w (fun v w' => v = .bool (decide (0 ≤ idxOf (mat1 l) m)) ∧ Pu w w') := by
  obtain ⟨T0, hslm⟩ := hslm
  refine fn_of (args := [.slice B m.length d, .func (.func 110) #[] #[.pointer (some ⟨b, 0, none⟩)]]) Tryz.func109 (by kernel_rfl) rfl Tryz.ntmps109 rfl ?_
  have hpu : Pu w w := Pu.refl
  have z_hpu := hpu.size
  refine g_seq ?_
  refine g_region ?_
  refine gl_op (r_asB rfl) rfl ?_
  refine gl_nil ?_
  refine g_seq ?_
  refine g_region ?_
  refine gl_op (r_mvL rfl) rfl ?_
  refine gl_op (r_mvV (v := (Value.func (.func 110) #[] #[.pointer (some ⟨b, 0, none⟩)])) rfl) rfl ?_
  refine gl_call (idxFunc_mat matCells matCells_len (mat1 l) m B d (.func (.func 110) #[] #[.pointer (some ⟨b, 0, none⟩)]) _ hslm hm (fun x _ w2 h2 => FnV.of (fs := []) (cl := [.pointer (some ⟨b, 0, none⟩)]) (match1_ok l x A c b w2 (h2.blk hb) (hsl.pu h2) hlen))) rfl rfl ?_
  rintro _ w1 ⟨rfl, s1⟩
  have z1 := s1.size
  replace hpu := hpu.trans s1
  refine gl_op (r_ge rfl rfl) rfl ?_
  refine gl_op (r_asB rfl) rfl ?_
  refine gl_nil ?_
  refine g_ret Tryz.func109 (res1 rfl) ?_
  exact ⟨rfl, hpu⟩
theorem labMatch_ok (m : List Mat) (l : List Lab) (B : Option Addr) (d : Nat) (A : Option Addr) (c : Nat) (w : World) (hslm : SlMat w B m) (hm : m.length < 4611686018427387904) (hsl : SlLab w A l) (hlen : l.length < 4611686018427387904) :
    Fn Tryz.prog 63 #[.slice B m.length d, .slice A l.length c] w (fun v w' => v = .bool (labMatch m l) ∧ Pu w w') := by
  refine fn_of (args := [.slice B m.length d, .slice A l.length c]) Tryz.func63 (by kernel_rfl) rfl Tryz.ntmps63 rfl ?_
  have hpu : Pu w w := Pu.refl
  have z_hpu := hpu.size
  refine g_seq ?_
  refine g_region ?_
  refine gl_box (v := .slice _ _ _) (vs := [.slice _ _ _]) rfl rfl rfl ?_
  intro b_hb w1 hb e_hb s1
  have z1 := s1.size
  replace hpu := hpu.trans s1
  have l_hb := blk_lt hb
  refine gl_op (r_asB rfl) rfl ?_
  refine gl_nil ?_
  refine g_seq ?_
  refine g_region ?_
  refine gl_op (r_mvL rfl) rfl ?_
  refine gl_op r_func rfl ?_
  refine gl_call (contains_ok m l B d A c b_hb _ hb (hslm.pu hpu) hm (hsl.pu hpu) hlen) rfl rfl ?_
  rintro _ w2 ⟨rfl, s2⟩
  have z2 := s2.size
  replace hpu := hpu.trans s2
  replace hb := s2.blk hb
  refine gl_op (r_not rfl) rfl ?_
  refine gl_op (r_asB rfl) rfl ?_
  refine gl_nil ?_
  refine g_ret Tryz.func63 (res1 rfl) ?_
  exact ⟨rfl, hpu⟩
end Go.GW
