/- Of two times, one behind the other, what is told are both parts; more matchers tell no more entries (QueryParts), for every input, over the program's text with its listed variables tied. Part 5 of 12. -/
import Derived.Shelf.SlMaps.Clone
import Derived.Laws.Cover3
import Derived.Laws.StructEq
import Derived.Test.YtekokhhgdhikpaaGreatDoorA1
import Derived.Test.YtekokhhgdhikpaaGreatDoorA2
import Derived.Test.YtekokhhgdhikpaaGreatDoorA4
set_option linter.unusedSimpArgs false
set_option linter.unusedVariables false
set_option linter.unusedSectionVars false
namespace Go.GW
open Go.RowKit Go.Proofs
/-- a signed number, of what lies in its bytes -/
def unzig (n : Nat) : Int := if n % 2 = 0 then ((n / 2 : Nat) : Int) else -((n / 2 : Nat) : Int) - 1
theorem unzig_lo (n : Nat) (h : n < 18446744073709551616) : -9223372036854775808 ≤ unzig n ∧ unzig n ≤ 9223372036854775807 := by unfold unzig; split <;> omega
theorem zigX (m : Nat) (h : m < 9223372036854775808) : IntKind.i64.wrap ((BitVec.ofInt IntKind.i64.bits (m : Int) ^^^ BitVec.ofInt IntKind.i64.bits 0).toNat : Int) = (m : Int) := by
  show IntKind.i64.wrap ((BitVec.ofInt 64 (m : Int) ^^^ BitVec.ofInt 64 0).toNat : Int) = _
  have e : BitVec.ofInt 64 (m : Int) ^^^ BitVec.ofInt 64 0 = BitVec.ofInt 64 (m : Int) := by
    have : BitVec.ofInt 64 0 = 0#64 := rfl
    rw [this, BitVec.xor_zero]
  rw [e, ofInt64 m (by omega), wI64 (by omega) (by omega)]
theorem zigN (m : Nat) (h : m < 9223372036854775808) : IntKind.i64.wrap ((BitVec.ofInt IntKind.i64.bits (m : Int) ^^^ BitVec.ofInt IntKind.i64.bits (-1)).toNat : Int) = -(m : Int) - 1 := by
  show IntKind.i64.wrap ((BitVec.ofInt 64 (m : Int) ^^^ BitVec.ofInt 64 (-1)).toNat : Int) = _
  have h1 : BitVec.ofInt 64 (-1) = BitVec.allOnes 64 := by decide
  have e : BitVec.ofInt 64 (m : Int) ^^^ BitVec.ofInt 64 (-1) = ~~~ (BitVec.ofInt 64 (m : Int)) := by rw [h1, BitVec.xor_allOnes]
  rw [e, BitVec.toNat_not, ofInt64 m (by omega)]
  have : (IntKind.i64.wrap ((2 ^ 64 - 1 - m : Nat) : Int)) = (((2 ^ 64 - 1 - m : Nat) : Int) + 9223372036854775808) % 18446744073709551616 - 9223372036854775808 := by
    simp [IntKind.wrap, IntKind.bits, IntKind.signed]
    split <;> omega
  rw [this]; omega
def takeInt (s : Bs) : Option (Int × Bs) := match takeVar s with
  | none => none
  | some (n, r) => some (unzig n, r)
def intVal : Option (Int × Bs) → Value
  | some (n, r) => .tuple #[.int .i64 n, .string (str r), .int .i64 0]
  | none => .tuple #[.int .i64 0, .string (str []), .int .i64 2]
theorem takeInt_ok (s : Bs) (hs : s.length < 9223372036854775807) (w : World) : Fn Tryz.prog 150 #[.string (str s)] w (fun v w' => v = intVal (takeInt s) ∧ Pu w w') := by
  refine fn_of (args := [.string (str s)]) Tryz.func150 (by kernel_rfl) rfl Tryz.ntmps150 rfl ?_
  have hpu : Pu w w := Pu.refl
  have z_hpu := hpu.size
  refine g_seq ?_
  refine g_region ?_
  refine gl_op (r_asI rfl) rfl ?_
  refine gl_op (r_asS rfl) rfl ?_
  refine gl_op (r_asI rfl) rfl ?_
  refine gl_nil ?_
  refine g_seq ?_
  refine g_region ?_
  refine gl_op (r_mvS rfl) rfl ?_
  refine gl_call (take_ok s hs _) rfl rfl ?_
  rintro _ w1 ⟨rfl, s1⟩
  have z1 := s1.size
  replace hpu := hpu.trans s1
  obtain ⟨n, r, e, hn, hv, hres⟩ : ∃ (n : Nat) (r : Bs) (e : Int), n < 18446744073709551616 ∧ takeVal (takeVar s) = .tuple #[.int .u64 n, .string (str r), .int .i64 e] ∧ intVal (takeInt s) = .tuple #[.int .i64 (unzig n), .string (str r), .int .i64 e] := by
    unfold takeInt
    cases ht : takeVar s with
    | none => exact ⟨0, [], 2, by omega, rfl, rfl⟩
    | some x => exact ⟨x.1, x.2, 0, (takeVar_bound (s := s) (n := x.1) (r := x.2) ht).1, rfl, rfl⟩
  rw [hv, hres]
  refine gl_op (r_mvT rfl) rfl ?_
  refine gl_op (r_extract rfl rfl) rfl ?_
  refine gl_op (r_extract rfl rfl) rfl ?_
  refine gl_op (r_extract rfl rfl) rfl ?_
  refine gl_op (r_asI rfl) rfl ?_
  refine gl_op (r_asS rfl) rfl ?_
  refine gl_op (r_asI rfl) rfl ?_
  refine gl_nil ?_
  refine g_seq ?_
  refine g_region ?_
  refine gl_op (r_mvI rfl) rfl ?_
  refine gl_op (r_shr rfl rfl (by omega) (shr_nat .u64 n 1 (by decide))) rfl ?_
  refine gl_op (r_conv Tryz.underlying26 Tryz.underlying2 rfl (wI64 (by omega) (by omega))) rfl ?_
  refine gl_op (r_mvI rfl) rfl ?_
  have h1 : n &&& 1 = n % 2 := Nat.and_one_is_mod n
  have hand := u64_and n 1 hn (by omega)
  rw [h1] at hand
  refine gl_op (r_and rfl rfl hand) rfl ?_
  refine gl_op (r_conv Tryz.underlying26 Tryz.underlying2 rfl (wI64 (by omega) (by omega))) rfl ?_
  refine gl_op (r_neg rfl) rfl ?_
  have hneg : IntKind.i64.wrap (0 - ((n % 2 : Nat) : Int)) = -((n % 2 : Nat) : Int) := by rw [wI64 (by omega) (by omega)]; omega
  rw [hneg]
  have hx : IntKind.i64.wrap ((BitVec.ofInt IntKind.i64.bits ((n / 2 ^ 1 : Nat) : Int) ^^^ BitVec.ofInt IntKind.i64.bits (-((n % 2 : Nat) : Int))).toNat : Int) = unzig n := by
    unfold unzig
    rw [Nat.pow_one]
    rcases Nat.mod_two_eq_zero_or_one n with h | h
    · rw [h, if_pos rfl]; exact zigX (n / 2) (by omega)
    · rw [h, if_neg (by omega)]; exact zigN (n / 2) (by omega)
  refine gl_op (r_xor rfl rfl hx) rfl ?_
  refine gl_op (r_mvS rfl) rfl ?_
  refine gl_op (r_mvI rfl) rfl ?_
  refine gl_op (r_asI rfl) rfl ?_
  refine gl_op (r_asS rfl) rfl ?_
  refine gl_op (r_asI rfl) rfl ?_
  refine gl_nil ?_
  refine g_ret Tryz.func150 (res3 rfl) ?_
  exact ⟨rfl, hpu⟩
/-! ## samples -/
abbrev Smp := Nat × Int
def smpCells (x : Smp) : List Value := [.int .u64 x.1, .int .i64 x.2]
theorem smpCells_len (x : Smp) : (smpCells x).length = 2 := rfl
abbrev SlSmp (w : World) (A : Option Addr) (l : List Smp) : Prop := Sl w 66 2 A l.length (l.flatMap smpCells)
def w64 (x : Int) : Int := IntKind.i64.wrap x
def u64N (x : Int) : Nat := (IntKind.u64.wrap x).toNat
theorem u64N_eq (x : Int) : IntKind.u64.wrap x = (u64N x : Int) := by
  unfold u64N
  rw [wU64']; omega
theorem u64N_lt (x : Int) : u64N x < 18446744073709551616 := by
  unfold u64N
  rw [wU64']; omega
theorem sums_ok (v : Int) (w : World) : Fn Tryz.prog 151 #[.int .i64 v] w (fun r w' => ∃ b, r = .func (.func 185) #[] #[.pointer (some ⟨b, 0, none⟩)] ∧ w'.heap[b]? = some (.cells #[.int .i64 v] 2 (0, 0)) ∧ b = w.heap.size ∧ Pu w w') := by
  refine fn_of (args := [.int .i64 v]) Tryz.func151 (by kernel_rfl) rfl Tryz.ntmps151 rfl ?_
  have hpu : Pu w w := Pu.refl
  have z_hpu := hpu.size
  refine g_seq ?_
  refine g_region ?_
  refine gl_op r_assign rfl ?_
  refine gl_nil ?_
  refine g_seq ?_
  refine g_region ?_
  refine gl_op (r_mvI rfl) rfl ?_
  refine gl_alloc ze2 rfl rfl ?_
  intro b_hb w1 hb e_hb s1
  have z1 := s1.size
  replace hpu := hpu.trans s1
  have l_hb := blk_lt hb
  have old2 := hb
  refine gl_store (u := .int _ _) (vs := [.int _ _]) sz2 rfl rfl rfl rfl rfl hb rfl ?_
  intro w2 hb st2
  have z2 := st2.size
  replace hpu := st2.pu hpu (by omega)
  refine gl_nil ?_
  refine g_seq ?_
  refine g_region ?_
  refine gl_op r_func rfl ?_
  refine gl_op (r_asF rfl) rfl ?_
  refine gl_nil ?_
  refine g_ret Tryz.func151 (res1 rfl) ?_
  exact ⟨b_hb, rfl, hb, e_hb, hpu⟩
theorem sums1_ok (d v : Int) (b : Nat) (w : World) (hb : w.heap[b]? = some (.cells #[.int .i64 v] 2 (0, 0))) : Fn Tryz.prog 185 #[.int .i64 d, .pointer (some ⟨b, 0, none⟩)] w (fun r w' => r = .int .i64 (w64 (v + d)) ∧ w'.heap[b]? = some (.cells #[.int .i64 (w64 (v + d))] 2 (0, 0)) ∧ St b w w') := by
  refine fn_of (args := [.int .i64 d, .pointer (some ⟨b, 0, none⟩)]) Tryz.func185 (by kernel_rfl) rfl Tryz.ntmps185 rfl ?_
  refine g_seq ?_
  refine g_region ?_
  refine gl_op (r_asI rfl) rfl ?_
  refine gl_nil ?_
  refine g_seq ?_
  refine g_region ?_
  refine gl_op (r_load1 (v := .int _ _) ld2 rfl (by assumption) rfl) rfl ?_
  refine gl_op (r_mvI rfl) rfl ?_
  refine gl_op (r_add (c := w64 (v + d)) rfl rfl rfl) rfl ?_
  refine gl_store (u := .int _ _) (vs := [.int _ _]) sz2 rfl rfl rfl rfl rfl (hb) rfl ?_
  intro w2 hb2 st2
  refine gl_nil ?_
  refine g_seq ?_
  refine g_region ?_
  refine gl_op (r_load1 (v := .int _ _) ld2 rfl (by assumption) rfl) rfl ?_
  refine gl_op (r_asI rfl) rfl ?_
  refine gl_nil ?_
  refine g_ret Tryz.func185 (res1 rfl) ?_
  exact ⟨rfl, hb2, st2⟩
/-- samples are in order, and not too many -/
def smpCheck (l : List Smp) : Nat := if l.length = 0 ∨ 20 < l.length then 6 else if l.Pairwise (fun x y => x.1 < y.1) then 0 else 8
theorem adj_step {l : List Smp} {i : Nat} {x y : Smp} (h : ∀ (j : Nat) x y, j < i → l[j]? = some x → l[j + 1]? = some y → x.1 < y.1) (hx : l[i]? = some x) (hy : l[i + 1]? = some y) (hlt : x.1 < y.1) : ∀ (j : Nat) x y, j < i + 1 → l[j]? = some x → l[j + 1]? = some y → x.1 < y.1 := fun j u v hj hu hv => by
  by_cases e : j = i
  · subst e; rw [hx] at hu; rw [hy] at hv; injection hu with hu; injection hv with hv; subst hu; subst hv; exact hlt
  · exact h j u v (by omega) hu hv
theorem adj_pairwise : ∀ {l : List Smp}, (∀ (j : Nat) x y, l[j]? = some x → l[j + 1]? = some y → x.1 < y.1) → l.Pairwise (fun x y => x.1 < y.1)
  | [], _ => .nil
  | [a], _ => by simp
  | a :: b :: r, h => by
    have ih := adj_pairwise (l := b :: r) (fun j x y hx hy => h (j + 1) x y (by simpa using hx) (by simpa using hy))
    have hab := h 0 a b rfl rfl
    refine List.pairwise_cons.2 ⟨fun c hc => ?_, ih⟩
    rcases List.mem_cons.1 hc with rfl | hc
    · exact hab
    · exact Nat.lt_trans hab ((List.pairwise_cons.1 ih).1 c hc)
theorem smpCheck_ok (l : List Smp) (A : Option Addr) (c : Nat) (w : World) (hsl : SlSmp w A l) (hlen : l.length < 4611686018427387904) (hc : l.length ≤ c) :
    Fn Tryz.prog 108 #[.slice A l.length c] w (fun v w' => v = .int .i64 (smpCheck l) ∧ Pu w w') := by
  refine fn_of (args := [.slice A l.length c]) Tryz.func108 (by kernel_rfl) rfl Tryz.ntmps108 rfl ?_
  refine g_seq ?_
  refine g_region ?_
  refine gl_op (r_asI rfl) rfl ?_
  refine gl_nil ?_
  refine g_seq ?_
  refine g_seq ?_
  refine g_region ?_
  refine gl_op (r_mvL rfl) rfl ?_
  refine gl_op (r_len Tryz.underlying36 rfl) rfl ?_
  refine gl_op (r_eq rfl rfl) rfl ?_
  refine gl_op (r_mvB rfl) rfl ?_
  by_cases h0 : l.length = 0
  · skip
    refine gl_guardF rfl (bT (by omega)) rfl rfl ?_
    refine gl_guardF rfl (bT (by omega)) rfl rfl ?_
    refine gl_guardF rfl (bT (by omega)) rfl rfl ?_
    refine gl_op (r_pickTB (bT (by omega)) rfl) rfl ?_
    refine gl_nil ?_
    refine g_condT (rfl) ?_
    refine g_seq ?_
    refine g_region ?_
    refine gl_op (r_asI rfl) rfl ?_
    refine gl_nil ?_
    refine g_ret Tryz.func108 (res1 rfl) ?_
    exact ⟨by unfold smpCheck; rw [if_pos (.inl h0)]; rfl, Pu.refl⟩
  · skip
    refine gl_guardT rfl (bF (by omega)) rfl ((r_mvL rfl)) rfl ?_
    refine gl_guardT rfl (bF (by omega)) rfl ((r_len Tryz.underlying36 rfl)) rfl ?_
    refine gl_guardT rfl (bF (by omega)) rfl ((r_gt rfl rfl)) rfl ?_
    refine gl_op (r_pickFB (bF (by omega)) rfl) rfl ?_
    refine gl_nil ?_
    refine g_condP rfl (fun h20 => ?_) (fun h20 => ?_)
    · refine g_seq ?_
      refine g_region ?_
      refine gl_op (r_asI rfl) rfl ?_
      refine gl_nil ?_
      refine g_ret Tryz.func108 (res1 rfl) ?_
      exact ⟨by unfold smpCheck; rw [if_pos (.inr (by omega))]; rfl, Pu.refl⟩
    · have hunf : smpCheck l = if l.Pairwise (fun x y => x.1 < y.1) then 0 else 8 := by unfold smpCheck; rw [if_neg (by omega)]
      refine g_skip ?_
      refine g_seq ?_
      refine g_seq ?_
      refine g_region ?_
      refine gl_op (r_mvL rfl) rfl ?_
      refine gl_op (r_sliceLo (i := 1) Tryz.underlying36 sz66 rfl rfl (by omega)) rfl ?_
      have hdl : (l.drop 1).length = l.length - 1 := List.length_drop
      have hsl2 := Sl.rest (m := c) hsl smpCells_len (i := 1) (by omega) (by omega)
      rw [← hdl] at hsl2 ⊢
      generalize cutA A c 1 2 = B at hsl2 ⊢
      refine gl_op (r_len Tryz.underlying36 rfl) rfl ?_
      refine gl_op (r_mvI rfl) rfl ?_
      refine gl_nil ?_
      refine g_block ?_
      refine g_loop (ι := Nat) (fun i => [(0, .slice A l.length c), (14, .slice B (l.drop 1).length (c - 1)), (15, .int .i64 (((l.drop 1).length : Nat) : Int)), (16, .int .i64 i)]) (fun i w' => i ≤ l.length - 1 ∧ Pu w w' ∧ ∀ (j : Nat) x y, j < i → l[j]? = some x → l[j + 1]? = some y → x.1 < y.1) (fun i => l.length - i) 0 ⟨rfl, rfl, rfl, rfl, trivial⟩ ⟨Nat.zero_le _, Pu.refl, fun j x y h => by omega⟩ ?_
      rintro i τ w1 ⟨hi, hpu, hno⟩ ih
      have z_hpu := hpu.size
      refine g_seq ?_
      refine g_region ?_
      refine gl_op (r_lt rfl rfl) rfl ?_
      refine gl_nil ?_
      refine g_seq ?_
      refine g_condP rfl (fun hlt => ?_) (fun hlt => ?_)
      · have hlt : i + 1 < l.length := by omega
        obtain ⟨x, hx⟩ : ∃ x, l[i]? = some x := ⟨_, List.getElem?_eq_getElem (by omega)⟩
        obtain ⟨y, hy⟩ : ∃ y, l[i + 1]? = some y := ⟨_, List.getElem?_eq_getElem (by omega)⟩
        have hy2 : (l.drop 1)[i]? = some y := by rw [List.getElem?_drop, Nat.add_comm]; exact hy
        have q0 : Pu w1 w1 := Pu.refl
        have z_q0 := q0.size
        obtain ⟨b', o', cs', fr', eB, hbd', hcs'⟩ := (hsl2.pu hpu).elem smpCells_len hy2
        obtain ⟨b, o, cs, fr, eA, hbd, hcs⟩ := (hsl.pu hpu).elem smpCells_len hx
        refine g_skip ?_
        refine g_seq ?_
        refine g_block ?_
        refine g_seq ?_
        refine g_region ?_
        refine gl_op (r_mvI rfl) rfl ?_
        refine gl_op (r_indexAddr (j := i) (b := b') (o := o') Tryz.underlying36 sz66 (by rw [← eB]; rfl) rfl (by omega)) rfl ?_
        refine gl_op (r_loadA (ls := smpCells y) ld66 rfl hbd' hcs') rfl ?_
        refine gl_alloc ze66 rfl rfl ?_
        intro b_hv w1 hv e_hv s1
        have z1 := s1.size
        replace hpu := hpu.trans s1
        replace q0 := q0.trans s1
        have l_hv := blk_lt hv
        refine gl_op (r_asI rfl) rfl ?_
        have old2 := hv
        refine gl_store (u := .agg #[.int _ _, .int _ _]) (vs := [.int _ _, .int _ _]) sz66 rfl rfl rfl rfl rfl hv rfl ?_
        intro w2 hv st2
        have z2 := st2.size
        replace hpu := st2.pu hpu (by omega)
        replace q0 := st2.pu q0 (by omega)
        refine gl_nil ?_
        refine g_seq ?_
        refine g_draw (fun w' ↦ w'.heap[b_hv]? = some (.cells (smpCells y).toArray 66 (0, 0)) ∧ w'.heap[b]? = some (.cells cs 66 fr)) mixed ?_
        intro w8 hw8 s8
        have z3 := s8.size
        replace hpu := hpu.trans s8
        replace q0 := q0.trans s8
        replace hv := s8.blk hv
        have hS := And.intro hv (q0.blk hbd)
        refine ga_take 0 rfl (by decide +kernel) rfl hS (fun _ hS => (r_fieldAddr of66_0 rfl)) rfl ?_
        refine ga_take 1 rfl (by decide +kernel) rfl hS (fun _ hS => r_load1 (v := .int .u64 y.1) ld26 rfl hS.1 rfl) rfl ?_
        refine ga_take 2 rfl (by decide +kernel) rfl hS (fun _ hS => (r_mvL rfl)) rfl ?_
        refine ga_take 3 rfl (by decide +kernel) rfl hS (fun _ hS => (r_mvI rfl)) rfl ?_
        refine ga_take 4 rfl (by decide +kernel) rfl hS (fun _ hS => r_indexAddr (j := i) (b := b) (o := o) Tryz.underlying36 sz66 (by rw [← eA]; rfl) rfl (by omega)) rfl ?_
        refine ga_take 5 rfl (by decide +kernel) rfl hS (fun _ hS => (r_fieldAddr of66_0 rfl)) rfl ?_
        refine ga_take 6 rfl (by decide +kernel) rfl hS (fun _ hS => r_load1 (v := .int .u64 x.1) ld26 rfl hS.2 (cellsAt_get hcs (j := 0) rfl)) rfl ?_
        refine ga_take 7 rfl (by decide +kernel) rfl hS (fun _ hS => (r_le rfl rfl)) rfl ?_
        refine ga_done (by decide +kernel) ?_
        refine g_condP rfl (fun hle => ?_) (fun hle => ?_)
        · refine g_seq ?_
          refine g_region ?_
          refine gl_op (r_asI rfl) rfl ?_
          refine gl_nil ?_
          refine g_ret Tryz.func108 (res1 rfl) ?_
          refine ⟨?_, hpu⟩
          rw [hunf, if_neg]
          · rfl
          · intro hp
            obtain ⟨h1, rfl⟩ := List.getElem?_eq_some_iff.1 hx
            obtain ⟨h2, rfl⟩ := List.getElem?_eq_some_iff.1 hy
            have := List.pairwise_iff_getElem.1 hp i (i + 1) h1 h2 (by omega)
            omega
        · refine g_skip ?_
          refine g_inBlock ?_
          refine g_region ?_
          refine gl_op (r_add rfl rfl (wI64 (by omega) (by omega))) rfl ?_
          refine gl_op (r_mvI rfl) rfl ?_
          refine gl_nil ?_
          exact ih (i + 1) _ _ (by omega) ⟨rfl, rfl, rfl, rfl, trivial⟩ ⟨by omega, hpu, adj_step hno hx hy (by omega)⟩
      · refine g_exit rfl ?_
        refine g_seq ?_
        refine g_region ?_
        refine gl_op (r_asI rfl) rfl ?_
        refine gl_nil ?_
        refine g_ret Tryz.func108 (res1 rfl) ?_
        refine ⟨?_, hpu⟩
        rw [hunf, if_pos]
        · rfl
        · exact adj_pairwise fun j x y hx hy => hno j x y (by have := (List.getElem?_eq_some_iff.1 hy).1; omega) hx hy
end Go.GW
namespace Go.GW
open Go.RowKit Go.Proofs

/-! ## disks -/
/-- the types of a disk's cells -/
abbrev dkM : TypeId → Bool := fun T => Nat.beq T 120 || Nat.beq T 211 || Nat.beq T 216 || Nat.beq T 233 || Nat.beq T 223
structure FileSt where
  base : Bs
  now : Bs
  ch : List (Bs × Int)
structure DiskSt where
  room : Nat
  files : List FileSt
  names : List (Bs × Nat)
  base : List (Bs × Nat)
  moves : List (Bs × Bs × Nat)
  ops : Int
  fail : Int
  left : Int
  /-- no row of it is longer -/
  lim : Nat
def chCells (x : Bs × Int) : List Value := [.string (str x.1), .int .i64 x.2]
def mvCells (x : Bs × Bs × Nat) : List Value := [.string (str x.1), .string (str x.2.1), .int .i64 x.2.2]
abbrev nEnc : Bs → Value := fun s => .string (str s)
abbrev iEnc : Nat → Value := fun n => .int .i64 n
/-- where a file lies: its block, and its changes -/
structure FP where
  b : Nat
  A : Option Addr
  c : Nat
def fPtr (x : FP) : Value := .pointer (some ⟨x.b, 0, none⟩)
structure FileAt (w : World) (base : Nat) (x : FP) (f : FileSt) : Prop where
  lo : base ≤ x.b
  at_ : w.heap[x.b]? = some (.cells #[.string (str f.base), .string (str f.now), .slice x.A f.ch.length x.c] 216 (0, 0))
  row : Row w base 233 2 x.A f.ch.length x.c (f.ch.flatMap chCells)
structure FilesAt (w : World) (base : Nat) (xs : List FP) (fs : List FileSt) : Prop where
  len : xs.length = fs.length
  each : ∀ (i : Nat) x f, xs[i]? = some x → fs[i]? = some f → FileAt w base x f
  apart : ∀ (i j : Nat) x y, i ≠ j → xs[i]? = some x → xs[j]? = some y → x.b ≠ y.b ∧ ∀ a b, x.A = some a → y.A = some b → a.block ≠ b.block
/-- where a disk lies -/
structure DP where
  base : Nat
  bd : Nat
  bn : Nat
  bb : Nat
  Af : Option Addr
  cf : Nat
  Am : Option Addr
  cm : Nat
  xs : List FP
structure DRest (w : World) (p : DP) (fs : List FileSt) (nm bs : List (Bs × Nat)) (mv : List (Bs × Bs × Nat)) : Prop where
  bdl : p.base ≤ p.bd
  bnl : p.base ≤ p.bn
  bbl : p.base ≤ p.bb
  ne : p.bn ≠ p.bb
  files : FilesAt w p.base p.xs fs
  row : Row w p.base 211 1 p.Af fs.length p.cf (p.xs.map fPtr)
  names : MapAt nEnc iEnc w p.bn nm
  bases : MapAt nEnc iEnc w p.bb bs
  moves : Row w p.base 223 3 p.Am mv.length p.cm (mv.flatMap mvCells)
def dCells (p : DP) (st : DiskSt) : Array Value := #[.int .i64 st.room, .slice p.Af st.files.length p.cf, .map (some p.bn), .map (some p.bb), .slice p.Am st.moves.length p.cm, .int .i64 st.ops, .int .i64 st.fail, .int .i64 st.left]
structure DFull (w : World) (p : DP) (st : DiskSt) : Prop where
  at_ : w.heap[p.bd]? = some (.cells (dCells p st) 120 (0, 0))
  rest : DRest w p st.files st.names st.base st.moves
def DiskAt (w : World) (base bd bn : Nat) (st : DiskSt) : Prop := ∃ p : DP, p.base = base ∧ p.bd = bd ∧ p.bn = bn ∧ DFull w p st
section
variable {w w' : World} {p : DP} {base bd bn : Nat} {st : DiskSt} {x : FP} {f : FileSt} {xs : List FP} {fs : List FileSt} {names bases : List (Bs × Nat)} {moves : List (Bs × Bs × Nat)}
theorem FileAt.dk {D : TypeId → Bool} (h : FileAt w base x f) (k : Dk D w w') (h1 : D 216 = true) (h2 : D 233 = true) : FileAt w' base x f := ⟨h.lo, k _ _ _ _ h1 h.at_, h.row.dk k h2⟩
theorem FilesAt.dk {D : TypeId → Bool} (h : FilesAt w base xs fs) (k : Dk D w w') (h1 : D 216 = true) (h2 : D 233 = true) : FilesAt w' base xs fs := ⟨h.len, fun i x f hx hf => (h.each i x f hx hf).dk k h1 h2, h.apart⟩
theorem FilesAt.kp (h : FilesAt w base xs fs) (k : Kp (fun T => Nat.beq T 216 || Nat.beq T 233) w w') : FilesAt w' base xs fs := h.dk k.dk rfl rfl
theorem DRest.kp (h : DRest w p fs names bases moves) (k : Kp (fun T => Nat.beq T 211 || Nat.beq T 216 || Nat.beq T 233 || Nat.beq T 223) w w') : DRest w' p fs names bases moves :=
  ⟨h.bdl, h.bnl, h.bbl, h.ne, h.files.dk k.dk rfl rfl, h.row.dk k.dk rfl, h.names.kp k, h.bases.kp k, h.moves.dk k.dk rfl⟩
theorem DFull.kp (h : DFull w p st) (k : Kp dkM w w') : DFull w' p st := ⟨k.dk _ _ _ _ rfl h.at_, h.rest.kp ⟨fun b cs T fr hT hb => k.dk b cs T fr (by simp only [Bool.or_eq_true] at hT ⊢; simp only [or_assoc] at hT ⊢; exact .inr hT) hb, k.maps⟩⟩
theorem DiskAt.kp (h : DiskAt w base bd bn st) (k : Kp dkM w w') : DiskAt w' base bd bn st := by
  obtain ⟨p, h1, h2, h3, h⟩ := h
  exact ⟨p, h1, h2, h3, h.kp k⟩
end
/-- one operation is begun -/
def dBegin (st : DiskSt) : Int × DiskSt := (if st.left = 0 then 11 else 0, { st with left := if 0 < st.left then st.left - 1 else st.left, ops := if st.left = 0 then st.ops else w64 (st.ops + 1) })
theorem dBegin_dead {st : DiskSt} (h : st.left = 0) : dBegin st = (11, st) := by
  unfold dBegin
  rw [if_pos h, if_pos h, if_neg (by omega)]
theorem dBegin_pos {st : DiskSt} (h : 0 < st.left) : dBegin st = (0, { st with left := st.left - 1, ops := w64 (st.ops + 1) }) := by
  unfold dBegin
  rw [if_neg (by omega), if_neg (by omega), if_pos h]
theorem dBegin_neg {st : DiskSt} (h0 : st.left ≠ 0) (h : ¬ 0 < st.left) : dBegin st = (0, { st with left := st.left, ops := w64 (st.ops + 1) }) := by
  unfold dBegin
  rw [if_neg h0, if_neg h0, if_neg h]
def fNow (fs : List FileSt) (i : Nat) : Nat := match fs[i]? with | some f => f.now.length | none => 0
def dUsed (fs : List FileSt) (nm : List (Bs × Nat)) : Nat := (nm.map fun q => fNow fs q.2).sum
structure DiskOk (st : DiskSt) : Prop where
  left : -1 ≤ st.left ∧ st.left ≤ 9223372036854775807
  fail : 0 ≤ st.fail ∧ st.fail ≤ 9223372036854775807
  idx : ∀ q ∈ st.names, q.2 < st.files.length
  inj : (st.names.map (·.2)).Nodup
  used : dUsed st.files st.names ≤ st.room
  room : st.room ≤ 9223372036854775807
  fl : st.files.length ≤ st.lim
  ml : st.moves.length ≤ st.lim
  cl : ∀ f ∈ st.files, f.ch.length ≤ st.lim
theorem dBegin_ok (st : DiskSt) (hok : DiskOk st) (p : DP) (w : World) (hd : DFull w p st) :
    Fn Tryz.prog 139 #[.pointer (some ⟨p.bd, 0, none⟩)] w (fun v w' => v = .int .i64 (dBegin st).1 ∧ DFull w' p (dBegin st).2 ∧ Mv dkM p.base p.bn w w') := by
  obtain ⟨hd, hr⟩ := hd
  have hlo := hr.bdl
  have hl := hok.left
  have hm : Mv dkM p.base p.bn w w := Mv.refl
  refine fn_of (args := [.pointer (some ⟨p.bd, 0, none⟩)]) Tryz.func139 (by kernel_rfl) rfl Tryz.ntmps139 rfl ?_
  have l_hd := blk_lt hd
  have z_hm := hm.size
  refine g_seq ?_
  refine g_region ?_
  refine gl_op (r_asI rfl) rfl ?_
  refine gl_nil ?_
  refine g_seq ?_
  refine g_seq ?_
  refine g_region ?_
  refine gl_op (r_mvP rfl) rfl ?_
  refine gl_op (r_nil rfl) rfl ?_
  refine gl_op (r_fieldAddr of120_7 rfl) rfl ?_
  refine gl_op (r_load1 (v := .int _ _) ld3 rfl (by assumption) (by first | rfl | assumption)) rfl ?_
  refine gl_op (r_eq rfl rfl) rfl ?_
  refine gl_nil ?_
  by_cases h0 : st.left = 0
  · skip
    rw [dBegin_dead h0]
    refine g_condT (bT h0) ?_
    refine g_seq ?_
    refine g_region ?_
    refine gl_op (r_asI rfl) rfl ?_
    refine gl_nil ?_
    refine g_ret Tryz.func139 (res1 rfl) ?_
    exact ⟨rfl, ⟨hd, hr⟩, hm⟩
  · refine g_condF (bF h0) ?_
    refine g_skip ?_
    refine g_seq ?_
    refine g_seq ?_
    refine g_region ?_
    refine gl_op (r_mvP rfl) rfl ?_
    refine gl_op (r_nil rfl) rfl ?_
    refine gl_op (r_fieldAddr of120_7 rfl) rfl ?_
    refine gl_op (r_load1 (v := .int _ _) ld3 rfl (by assumption) (by first | rfl | assumption)) rfl ?_
    refine gl_op (r_gt rfl rfl) rfl ?_
    refine gl_nil ?_
    by_cases h1 : 0 < st.left
    · skip
      rw [dBegin_pos h1]
      refine g_condT (bT h1) ?_
      refine g_region ?_
      refine gl_op (r_mvP rfl) rfl ?_
      refine gl_op (r_nil rfl) rfl ?_
      refine gl_op (r_fieldAddr of120_7 rfl) rfl ?_
      refine gl_op (r_load1 (v := .int _ _) ld3 rfl (by assumption) (by first | rfl | assumption)) rfl ?_
      refine gl_op (r_sub rfl rfl (wI64 (by omega) (by omega))) rfl ?_
      refine gl_op (r_nil rfl) rfl ?_
      refine gl_op (r_fieldAddr of120_7 rfl) rfl ?_
      have old1 := hd
      refine gl_store (u := .int _ _) (vs := [.int _ _]) sz3 rfl rfl rfl rfl rfl hd rfl ?_
      intro w1 hd st1
      have z1 := st1.size
      replace hr := hr.kp (st1.kp old1 rfl)
      replace hm := (by first | exact hm.stNew st1 (by omega) | exact hm.st st1 old1 rfl (by omega) | exact hm.stMap st1 old1 (by omega))
      refine gl_nil ?_
      refine g_seq ?_
      refine g_region ?_
      refine gl_op (r_mvP rfl) rfl ?_
      refine gl_op (r_nil rfl) rfl ?_
      refine gl_op (r_fieldAddr of120_5 rfl) rfl ?_
      refine gl_op (r_load1 (v := .int _ _) ld3 rfl (by assumption) (by first | rfl | assumption)) rfl ?_
      refine gl_op (r_add rfl rfl rfl) rfl ?_
      refine gl_op (r_nil rfl) rfl ?_
      refine gl_op (r_fieldAddr of120_5 rfl) rfl ?_
      have old2 := hd
      refine gl_store (u := .int _ _) (vs := [.int _ _]) sz3 rfl rfl rfl rfl rfl hd rfl ?_
      intro w2 hd st2
      have z2 := st2.size
      replace hr := hr.kp (st2.kp old2 rfl)
      replace hm := (by first | exact hm.stNew st2 (by omega) | exact hm.st st2 old2 rfl (by omega) | exact hm.stMap st2 old2 (by omega))
      refine gl_nil ?_
      refine g_seq ?_
      refine g_region ?_
      refine gl_op (r_asI rfl) rfl ?_
      refine gl_nil ?_
      refine g_ret Tryz.func139 (res1 rfl) ?_
      exact ⟨rfl, ⟨hd, hr⟩, hm⟩
    · rw [dBegin_neg h0 h1]
      refine g_condF (bF h1) ?_
      refine g_skip ?_
      refine g_seq ?_
      refine g_region ?_
      refine gl_op (r_mvP rfl) rfl ?_
      refine gl_op (r_nil rfl) rfl ?_
      refine gl_op (r_fieldAddr of120_5 rfl) rfl ?_
      refine gl_op (r_load1 (v := .int _ _) ld3 rfl (by assumption) (by first | rfl | assumption)) rfl ?_
      refine gl_op (r_add rfl rfl rfl) rfl ?_
      refine gl_op (r_nil rfl) rfl ?_
      refine gl_op (r_fieldAddr of120_5 rfl) rfl ?_
      have old3 := hd
      refine gl_store (u := .int _ _) (vs := [.int _ _]) sz3 rfl rfl rfl rfl rfl hd rfl ?_
      intro w3 hd st3
      have z3 := st3.size
      replace hr := hr.kp (st3.kp old3 rfl)
      replace hm := (by first | exact hm.stNew st3 (by omega) | exact hm.st st3 old3 rfl (by omega) | exact hm.stMap st3 old3 (by omega))
      refine gl_nil ?_
      refine g_seq ?_
      refine g_region ?_
      refine gl_op (r_asI rfl) rfl ?_
      refine gl_nil ?_
      refine g_ret Tryz.func139 (res1 rfl) ?_
      exact ⟨rfl, ⟨hd, hr⟩, hm⟩
theorem dBegin_okS {st : DiskSt} (hok : DiskOk st) : DiskOk (dBegin st).2 := by
  refine ⟨?_, hok.fail, hok.idx, hok.inj, hok.used, hok.room, hok.fl, hok.ml, hok.cl⟩
  have := hok.left
  show -1 ≤ (if 0 < st.left then st.left - 1 else st.left) ∧ (if 0 < st.left then st.left - 1 else st.left) ≤ 9223372036854775807
  split <;> omega
/-- an operation on a file is begun -/
def dFind (st : DiskSt) (name : Bs) : Int × Option Nat × DiskSt :=
  if st.left = 0 then (11, none, st) else match kvGet st.names name with
    | none => (5, none, (dBegin st).2)
    | some i => (0, some i, (dBegin st).2)
def findPost (p : DP) (r : Int × Option Nat × DiskSt) (v : Value) : Prop := ∃ pv, v = .tuple #[.pointer pv, .int .i64 r.1] ∧ (match r.2.1 with
  | none => pv = none ∧ r.1 ≠ 0
  | some i => r.1 = 0 ∧ ∃ x, p.xs[i]? = some x ∧ pv = some ⟨x.b, 0, none⟩)
theorem kvGet_mem {κ β : Type} [DecidableEq κ] {l : List (κ × β)} {k : κ} {v : β} (h : kvGet l k = some v) : (k, v) ∈ l := by
  induction l with
  | nil => cases h
  | cons a l ih =>
    obtain ⟨a, b⟩ := a
    unfold kvGet at h
    split at h
    · rename_i e; injection h with h; subst e; subst h; simp
    · exact List.mem_cons_of_mem _ (ih h)
theorem DFull.ptr {w : World} {p : DP} {st : DiskSt} (h : DRest w p st.files st.names st.base st.moves) {i : Nat} (hi : i < st.files.length) : ∃ x b o cs fr, p.xs[i]? = some x ∧ p.Af = some ⟨b, o, none⟩ ∧ w.heap[b]? = some (.cells cs 211 fr) ∧ cs[o + i * 1]? = some (fPtr x) := by
  have hlen := h.files.len
  obtain ⟨x, hx⟩ : ∃ x, p.xs[i]? = some x := ⟨_, List.getElem?_eq_getElem (by omega)⟩
  have hs := h.row.sl
  rw [← hlen] at hs
  have hs2 : Sl w 211 1 p.Af p.xs.length (p.xs.flatMap fun x => [fPtr x]) := by rw [← List.map_eq_flatMap]; exact hs
  obtain ⟨b, o, cs, fr, e, hb, hc⟩ := hs2.elem (fun _ => rfl) hx
  exact ⟨x, b, o, cs, fr, hx, e, hb, cellsAt_get hc (j := 0) rfl⟩
theorem dFind_ok (st : DiskSt) (hok : DiskOk st) (name : Bs) (p : DP) (w : World) (hd : DFull w p st) :
    Fn Tryz.prog 130 #[.pointer (some ⟨p.bd, 0, none⟩), .string (str name)] w (fun v w' => findPost p (dFind st name) v ∧ DFull w' p (dFind st name).2.2 ∧ Mv dkM p.base p.bn w w') := by
  have hm : Mv dkM p.base p.bn w w := Mv.refl
  unfold dFind
  refine fn_of (args := [.pointer (some ⟨p.bd, 0, none⟩), .string (str name)]) Tryz.func130 (by kernel_rfl) rfl Tryz.ntmps130 rfl ?_
  have z_hm := hm.size
  refine g_seq ?_
  refine g_region ?_
  refine gl_op (r_asP rfl) rfl ?_
  refine gl_op (r_asI rfl) rfl ?_
  refine gl_nil ?_
  refine g_seq ?_
  refine g_seq ?_
  refine g_region ?_
  refine gl_op (r_mvP rfl) rfl ?_
  refine gl_call (dBegin_ok st hok p w hd) rfl rfl ?_
  rintro _ w1 ⟨rfl, hd, s1⟩
  have z1 := s1.size
  replace hm := hm.trans s1
  by_cases h0 : st.left = 0
  · skip
    rw [if_pos h0]
    rw [dBegin_dead h0] at *
    refine gl_op (r_asI rfl) rfl ?_
    refine gl_nil ?_
    refine g_seq ?_
    refine g_region ?_
    refine gl_op (r_mvI rfl) rfl ?_
    refine gl_op (r_ne rfl rfl) rfl ?_
    refine gl_nil ?_
    refine g_condT (rfl) ?_
    refine g_seq ?_
    refine g_region ?_
    refine gl_op (r_mvI rfl) rfl ?_
    refine gl_op (r_asP rfl) rfl ?_
    refine gl_op (r_asI rfl) rfl ?_
    refine gl_nil ?_
    refine g_ret Tryz.func130 (res2 rfl) ?_
    exact ⟨⟨none, rfl, rfl, show (11 : Int) ≠ 0 by decide⟩, hd, hm⟩
  · rw [if_neg h0]
    have e0 : (dBegin st).1 = 0 := by unfold dBegin; exact if_neg h0
    rw [e0]
    obtain ⟨hd, hr⟩ := hd
    have z_hm := hm.size
    have l_hd := blk_lt hd
    refine gl_op (r_asI rfl) rfl ?_
    refine gl_nil ?_
    refine g_seq ?_
    refine g_region ?_
    refine gl_op (r_mvI rfl) rfl ?_
    refine gl_op (r_ne rfl rfl) rfl ?_
    refine gl_nil ?_
    refine g_condF (rfl) ?_
    refine g_skip ?_
    refine g_seq ?_
    refine g_region ?_
    refine gl_op (r_mvP rfl) rfl ?_
    refine gl_op (r_nil rfl) rfl ?_
    refine gl_op (r_fieldAddr of120_2 rfl) rfl ?_
    refine gl_op (r_load1 (v := .map _) ld116 rfl (by assumption) (by first | rfl | assumption)) rfl ?_
    refine gl_op (r_mvS rfl) rfl ?_
    refine gl_op (r_lookup2 (k := name) Tryz.underlying116 (keysStr Tryz.underlying9) ze3 rfl rfl hr.names) rfl ?_
    rw [show (dBegin st).2.names = st.names from rfl]
    cases hg : kvGet st.names name with
    | none =>
      refine gl_op (r_mvT rfl) rfl ?_
      refine gl_op (r_extract rfl rfl) rfl ?_
      refine gl_op (r_extract rfl rfl) rfl ?_
      refine gl_op (r_asI rfl) rfl ?_
      refine gl_op (r_asB rfl) rfl ?_
      refine gl_nil ?_
      refine g_seq ?_
      refine g_seq ?_
      refine g_region ?_
      refine gl_op (r_mvB rfl) rfl ?_
      refine gl_op (r_not rfl) rfl ?_
      refine gl_nil ?_
      refine g_condT (rfl) ?_
      refine g_seq ?_
      refine g_region ?_
      refine gl_op (r_asP rfl) rfl ?_
      refine gl_op (r_asI rfl) rfl ?_
      refine gl_nil ?_
      refine g_ret Tryz.func130 (res2 rfl) ?_
      exact ⟨⟨none, rfl, rfl, show (5 : Int) ≠ 0 by decide⟩, ⟨hd, hr⟩, hm⟩
    | some i =>
      have hi := hok.idx _ (kvGet_mem hg)
      obtain ⟨x, b, o, cs, fr, hx, eA, hb, hc⟩ := DFull.ptr (st := (dBegin st).2) hr hi
      refine gl_op (r_mvT rfl) rfl ?_
      refine gl_op (r_extract rfl rfl) rfl ?_
      refine gl_op (r_extract rfl rfl) rfl ?_
      refine gl_op (r_asI rfl) rfl ?_
      refine gl_op (r_asB rfl) rfl ?_
      refine gl_nil ?_
      refine g_seq ?_
      refine g_seq ?_
      refine g_region ?_
      refine gl_op (r_mvB rfl) rfl ?_
      refine gl_op (r_not rfl) rfl ?_
      refine gl_nil ?_
      refine g_condF (rfl) ?_
      refine g_skip ?_
      refine g_seq ?_
      refine g_region ?_
      refine gl_op (r_mvP rfl) rfl ?_
      refine gl_op (r_nil rfl) rfl ?_
      refine gl_op (r_fieldAddr of120_1 rfl) rfl ?_
      refine gl_op (r_load1 (v := .slice _ _ _) ld117 rfl (by assumption) (by first | rfl | assumption)) rfl ?_
      refine gl_op (r_mvI rfl) rfl ?_
      refine gl_op (r_indexAddr (j := i) (b := b) (o := o) Tryz.underlying117 sz211 (by rw [← eA]; rfl) rfl hi) rfl ?_
      refine gl_op (r_load1 (v := fPtr x) ld211 rfl hb hc) rfl ?_
      refine gl_op (r_asP rfl) rfl ?_
      refine gl_op (r_asI rfl) rfl ?_
      refine gl_nil ?_
      refine g_ret Tryz.func130 (res2 rfl) ?_
      exact ⟨⟨_, rfl, rfl, x, hx, rfl⟩, ⟨hd, hr⟩, hm⟩
/-- does this one fail? -/
def dFails (st : DiskSt) : Bool × DiskSt := (decide (st.fail = 1), { st with fail := if st.fail < 1 then st.fail else st.fail - 1 })
theorem dFails_ok (st : DiskSt) (hok : DiskOk st) (p : DP) (w : World) (hd : DFull w p st) :
    Fn Tryz.prog 131 #[.pointer (some ⟨p.bd, 0, none⟩)] w (fun v w' => v = .bool (dFails st).1 ∧ DFull w' p (dFails st).2 ∧ Mv dkM p.base p.bn w w') := by
  obtain ⟨hd, hr⟩ := hd
  have hlo := hr.bdl
  have hl := hok.fail
  have hm : Mv dkM p.base p.bn w w := Mv.refl
  refine fn_of (args := [.pointer (some ⟨p.bd, 0, none⟩)]) Tryz.func131 (by kernel_rfl) rfl Tryz.ntmps131 rfl ?_
  have l_hd := blk_lt hd
  have z_hm := hm.size
  refine g_seq ?_
  refine g_region ?_
  refine gl_op (r_asB rfl) rfl ?_
  refine gl_nil ?_
  refine g_seq ?_
  refine g_seq ?_
  refine g_region ?_
  refine gl_op (r_mvP rfl) rfl ?_
  refine gl_op (r_nil rfl) rfl ?_
  refine gl_op (r_fieldAddr of120_6 rfl) rfl ?_
  refine gl_op (r_load1 (v := .int _ _) ld3 rfl (by assumption) (by first | rfl | assumption)) rfl ?_
  refine gl_op (r_lt rfl rfl) rfl ?_
  refine gl_nil ?_
  by_cases h1 : st.fail < 1
  · skip
    have e : dFails st = (false, st) := by unfold dFails; rw [if_pos h1, decide_eq_false (by omega)]
    rw [e]
    refine g_condT (bT h1) ?_
    refine g_seq ?_
    refine g_region ?_
    refine gl_op (r_asB rfl) rfl ?_
    refine gl_nil ?_
    refine g_ret Tryz.func131 (res1 rfl) ?_
    exact ⟨rfl, ⟨hd, hr⟩, hm⟩
  · have e : dFails st = (decide (st.fail - 1 = 0), { st with fail := st.fail - 1 }) := by unfold dFails; rw [if_neg h1]; congr 1; exact decide_eq_decide.2 (by omega)
    rw [e]
    refine g_condF (bF h1) ?_
    refine g_skip ?_
    refine g_seq ?_
    refine g_region ?_
    refine gl_op (r_mvP rfl) rfl ?_
    refine gl_op (r_nil rfl) rfl ?_
    refine gl_op (r_fieldAddr of120_6 rfl) rfl ?_
    refine gl_op (r_load1 (v := .int _ _) ld3 rfl (by assumption) (by first | rfl | assumption)) rfl ?_
    refine gl_op (r_sub rfl rfl (wI64 (by omega) (by omega))) rfl ?_
    refine gl_op (r_nil rfl) rfl ?_
    refine gl_op (r_fieldAddr of120_6 rfl) rfl ?_
    have old1 := hd
    refine gl_store (u := .int _ _) (vs := [.int _ _]) sz3 rfl rfl rfl rfl rfl hd rfl ?_
    intro w1 hd st1
    have z1 := st1.size
    replace hr := hr.kp (st1.kp old1 rfl)
    replace hm := (by first | exact hm.stNew st1 (by omega) | exact hm.st st1 old1 rfl (by omega) | exact hm.stMap st1 old1 (by omega))
    refine gl_nil ?_
    refine g_seq ?_
    refine g_region ?_
    refine gl_op (r_mvP rfl) rfl ?_
    refine gl_op (r_nil rfl) rfl ?_
    refine gl_op (r_fieldAddr of120_6 rfl) rfl ?_
    refine gl_op (r_load1 (v := .int _ _) ld3 rfl (by assumption) (by first | rfl | assumption)) rfl ?_
    refine gl_op (r_eq rfl rfl) rfl ?_
    refine gl_op (r_asB rfl) rfl ?_
    refine gl_nil ?_
    refine g_ret Tryz.func131 (res1 rfl) ?_
    exact ⟨rfl, ⟨hd, hr⟩, hm⟩
theorem dFails_okS {st : DiskSt} (hok : DiskOk st) : DiskOk (dFails st).2 := by
  refine ⟨hok.left, ?_, hok.idx, hok.inj, hok.used, hok.room, hok.fl, hok.ml, hok.cl⟩
  have := hok.fail
  show 0 ≤ (if st.fail < 1 then st.fail else st.fail - 1) ∧ (if st.fail < 1 then st.fail else st.fail - 1) ≤ 9223372036854775807
  split <;> omega
end Go.GW
namespace Go.GW
open Go.RowKit Go.Proofs
section
variable {P : Program} {n : Sz} {σ : SF} {w : World} {ty : TypeId} {pos : String} {af : Array Edge} {d : Option Tmp} {gd : Option (Nat × Bool)}
theorem r_externW {w' : World} {g : FuncId} {fn : Func} {e : Array Value → Sem Value} {os : List Operand} {ats : Array TypeId} {vs : Array Value} {v : Value} (hf : P.funcs[g]? = some fn) (hname : (fn.name == "runtime.NumGoroutine") = false) (hb : fn.body.isNone = true)
    (hn : Extern.findNext fn = none) (he : Extern.find fn = some e) (hv : (os.map (ev σ)).toArray = vs) (hr : (e vs).run P w = .ok v w') :
    Run P ⟨d, .call { callee := .value (.func g), args := os.toArray, argTypes := ats }, ty, pos, af, gd⟩ n σ w v w' := fun a ha => by
  subst hv
  simp only [execOp, resolve, Sem.run_bind, Act.eval, Deferred.ofValue, Sem.run_pure, Result.andThen_ok, invoke]
  have h1 : (#[] ++ (os.toArray.map a.eval) ++ #[] : Array Value) = (os.map (ev σ)).toArray := by
    simp [evs_eval ha]
  rw [h1, run_callFunc_extern hf hname hb hn he, hr]
  rfl
theorem r_meqNil {t t' k e : TypeId} {x y : Operand} {r : Option Nat} (hu : P.underlying t = some (.map k e)) (hx : ev σ x = .map r) (hy : ev σ y = .map none) : Run P ⟨d, .binOp .eql t x y t', ty, pos, af, gd⟩ n σ w (.bool r.isNone) w :=
  r_bin (fun w => by rw [hx, hy]; simp [eqGuard]) (by rw [hx, hy]; exact run_eql_map_nil_sl w t k e r hu)
theorem r_assertM {t xT k e : TypeId} {x : Operand} {v : Value} (hu : P.underlying t = some (.map k e)) (hx : ev σ x = .iface t v) : Run P ⟨d, .typeAssert x xT t false, ty, pos, af, gd⟩ n σ w v w := fun a ha => by
  simp only [execOp, ha.eval, hx, Sem.run_bind, run_typeAssert_map_sl w t xT k e v hu, Result.andThen_ok, Sem.run_pure]
end
theorem mapsClone_ok {κ β : Type} (kenc : κ → Value) (venc : β → Value) (kv : List (κ × β)) (r : Nat) (w : World) (hm : MapAt kenc venc w r kv) :
    Fn Tryz.prog 140 #[.map (some r)] w (fun v w' => ∃ b, v = .map (some b) ∧ MapAt kenc venc w' b kv ∧ w.heap.size ≤ b ∧ Pu w w') := by
  obtain ⟨es, cl, hb, hes, hpw, hcl⟩ := hm
  refine fn_of (args := [.map (some r)]) Tryz.func140 (by kernel_rfl) rfl Tryz.ntmps140 rfl ?_
  refine g_seq ?_
  refine g_region ?_
  refine gl_op (r_asM rfl) rfl ?_
  refine gl_nil ?_
  refine g_seq ?_
  refine g_seq ?_
  refine g_region ?_
  refine gl_op (r_mvM rfl) rfl ?_
  refine gl_op (r_meqNil Tryz.underlying116 rfl rfl) rfl ?_
  refine gl_nil ?_
  refine g_condF (rfl) ?_
  refine g_skip ?_
  refine g_seq ?_
  refine g_region ?_
  refine gl_op (r_mvM rfl) rfl ?_
  refine gl_op (r_iface Tryz.underlying116 rfl) rfl ?_
  refine gl_op (r_externW (e := Extern.MapsClone.clone) (v := .iface 116 (.map (some w.heap.size))) (w' := w.alloc (.map es cl)) Tryz.func179 (by kernel_rfl) rfl (by kernel_rfl) (by kernel_rfl) rfl (run_maps_clone_sl w 116 hb)) rfl ?_
  refine gl_op (r_assertM Tryz.underlying116 rfl) rfl ?_
  refine gl_op (r_asM rfl) rfl ?_
  refine gl_nil ?_
  refine g_ret Tryz.func140 (res1 rfl) ?_
  exact ⟨_, rfl, ⟨es, cl, alloc_new, hes, hpw, hcl⟩, Nat.le_refl _, Pu.alloc _⟩
def dSyncDir (st : DiskSt) : Int × DiskSt := if st.left = 0 then (11, st) else (0, { (dBegin st).2 with base := st.names, moves := [] })
theorem dSyncDir_ok (st : DiskSt) (hok : DiskOk st) (base bd bn : Nat) (w : World) (hd : DiskAt w base bd bn st) :
    Fn Tryz.prog 91 #[.pointer (some ⟨bd, 0, none⟩)] w (fun v w' => v = .int .i64 (dSyncDir st).1 ∧ DiskAt w' base bd bn (dSyncDir st).2 ∧ Mv dkM base bn w w') := by
  obtain ⟨p, rfl, rfl, rfl, hd⟩ := hd
  have hm : Mv dkM p.base p.bn w w := Mv.refl
  have hs0 := (blk_lt hd.at_)
  unfold dSyncDir
  refine fn_of (args := [.pointer (some ⟨p.bd, 0, none⟩)]) Tryz.func91 (by kernel_rfl) rfl Tryz.ntmps91 rfl ?_
  have z_hm := hm.size
  refine g_seq ?_
  refine g_region ?_
  refine gl_op (r_asI rfl) rfl ?_
  refine gl_nil ?_
  refine g_seq ?_
  refine g_seq ?_
  refine g_region ?_
  refine gl_op (r_mvP rfl) rfl ?_
  refine gl_call (dBegin_ok st hok p w hd) rfl rfl ?_
  rintro _ w1 ⟨rfl, hd, s1⟩
  have z1 := s1.size
  replace hm := hm.trans s1
  by_cases h0 : st.left = 0
  · skip
    rw [if_pos h0]
    rw [dBegin_dead h0] at *
    refine gl_op (r_asI rfl) rfl ?_
    refine gl_nil ?_
    refine g_seq ?_
    refine g_region ?_
    refine gl_op (r_mvI rfl) rfl ?_
    refine gl_op (r_ne rfl rfl) rfl ?_
    refine gl_nil ?_
    refine g_condT (rfl) ?_
    refine g_seq ?_
    refine g_region ?_
    refine gl_op (r_mvI rfl) rfl ?_
    refine gl_op (r_asI rfl) rfl ?_
    refine gl_nil ?_
    refine g_ret Tryz.func91 (res1 rfl) ?_
    exact ⟨rfl, ⟨p, rfl, rfl, rfl, hd⟩, hm⟩
  · rw [if_neg h0]
    have e0 : (dBegin st).1 = 0 := by unfold dBegin; exact if_neg h0
    rw [e0]
    obtain ⟨hd, hr⟩ := hd
    have hlo := hr.bdl
    have z_hm := hm.size
    have l_hd := blk_lt hd
    refine gl_op (r_asI rfl) rfl ?_
    refine gl_nil ?_
    refine g_seq ?_
    refine g_region ?_
    refine gl_op (r_mvI rfl) rfl ?_
    refine gl_op (r_ne rfl rfl) rfl ?_
    refine gl_nil ?_
    refine g_condF (rfl) ?_
    refine g_skip ?_
    refine g_seq ?_
    refine g_region ?_
    refine gl_op (r_mvP rfl) rfl ?_
    refine gl_op (r_mvP rfl) rfl ?_
    refine gl_op (r_mvP rfl) rfl ?_
    refine gl_op (r_nil rfl) rfl ?_
    refine gl_op (r_fieldAddr of120_2 rfl) rfl ?_
    refine gl_op (r_load1 (v := .map _) ld116 rfl (by assumption) (by first | rfl | assumption)) rfl ?_
    have hsz := blk_lt hd
    have hbn := hr.names.lt
    refine gl_call (mapsClone_ok _ _ _ _ _ hr.names) rfl rfl ?_
    rintro _ w2 ⟨bb, rfl, hbb, lbb, s2⟩
    have z2 := s2.size
    replace hm := hm.thenPu s2
    replace hd := s2.blk hd
    replace hr := hr.kp s2.kp
    refine gl_op (r_nil rfl) rfl ?_
    refine gl_op (r_fieldAddr of120_3 rfl) rfl ?_
    have old3 := hd
    refine gl_store (u := .map _) (vs := [.map _]) sz116 rfl rfl rfl rfl rfl hd rfl ?_
    intro w3 hd st3
    have z3 := st3.size
    replace hm := (by first | exact hm.stNew st3 (by omega) | exact hm.st st3 old3 rfl (by omega) | exact hm.stMap st3 old3 (by omega))
    replace hr := hr.kp (st3.kp old3 rfl)
    replace hbb := hbb.kp (st3.kp (D := fun _ => false) old3 rfl)
    refine gl_op (r_nil rfl) rfl ?_
    refine gl_op (r_fieldAddr of120_4 rfl) rfl ?_
    have old4 := hd
    refine gl_store (u := .slice _ _ _) (vs := [.slice _ _ _]) sz118 rfl rfl rfl rfl rfl hd rfl ?_
    intro w4 hd st4
    have z4 := st4.size
    replace hm := (by first | exact hm.stNew st4 (by omega) | exact hm.st st4 old4 rfl (by omega) | exact hm.stMap st4 old4 (by omega))
    replace hr := hr.kp (st4.kp old4 rfl)
    replace hbb := hbb.kp (st4.kp (D := fun _ => false) old4 rfl)
    refine gl_nil ?_
    refine g_seq ?_
    refine g_region ?_
    refine gl_op (r_asI rfl) rfl ?_
    refine gl_nil ?_
    refine g_ret Tryz.func91 (res1 rfl) ?_
    refine ⟨rfl, ⟨{ p with bb := bb, Am := none, cm := 0 }, rfl, rfl, rfl, hd, ⟨hr.bdl, hr.bnl, ?_, ?_, hr.files, hr.row, hr.names, hbb, Row.nil⟩⟩, hm⟩
    · show p.base ≤ bb; omega
    · show p.bn ≠ bb; omega
/-- names -/
def nmChar (c : UInt8) : Bool := decide (33 ≤ c.toNat) && decide (c.toNat ≤ 126)
def nameOk (s : Bs) : Bool := s.all nmChar && decide (s ≠ []) && decide (s.length ≤ 24)
theorem named_ok (s : Bs) (hs : s.length < 4611686018427387904) (w : World) : Fn Tryz.prog 175 #[.string (str s)] w (fun v w' => v = .bool (nameOk s) ∧ w' = w) := by
  refine fn_of (args := [.string (str s)]) Tryz.func175 (by kernel_rfl) rfl Tryz.ntmps175 rfl ?_
  refine g_seq ?_
  refine g_region ?_
  refine gl_op (r_asB rfl) rfl ?_
  refine gl_nil ?_
  refine g_seq ?_
  refine g_seq ?_
  refine g_region ?_
  refine gl_op (r_mvS rfl) rfl ?_
  refine gl_op (r_lenS Tryz.underlying9 rfl) rfl ?_
  refine gl_op (r_mvI rfl) rfl ?_
  refine gl_nil ?_
  refine g_block ?_
  refine g_loop (ι := Nat) (fun i => [(0, .string (str s)), (5, .int .i64 s.length), (6, .int .i64 i)]) (fun i w' => i ≤ s.length ∧ w' = w ∧ (s.take i).all nmChar = true) (fun i => s.length - i) 0 ⟨rfl, rfl, rfl, trivial⟩ ⟨Nat.zero_le _, rfl, rfl⟩ ?_
  rintro i τ w1 ⟨hi, hw, hal⟩ ih
  subst hw
  refine g_seq ?_
  refine g_region ?_
  refine gl_op (r_lt rfl rfl) rfl ?_
  refine gl_nil ?_
  refine g_seq ?_
  refine g_condP rfl (fun hc => ?_) (fun hc => ?_)
  · have hlt : i < s.length := by omega
    obtain ⟨c, hx⟩ : ∃ c, s[i]? = some c := ⟨_, List.getElem?_eq_getElem hlt⟩
    refine g_skip ?_
    refine g_seq ?_
    refine g_block ?_
    refine g_seq ?_
    refine g_region ?_
    refine gl_op (r_mvI rfl) rfl ?_
    refine gl_op (r_asI rfl) rfl ?_
    refine gl_nil ?_
    refine g_seq ?_
    refine g_region ?_
    refine gl_op (r_mvS rfl) rfl ?_
    refine gl_op (r_mvI rfl) rfl ?_
    refine gl_op (r_indexStr (j := i) (c := c) Tryz.underlying9 rfl rfl hx) rfl ?_
    refine gl_op (r_lt rfl rfl) rfl ?_
    refine gl_op (r_mvB rfl) rfl ?_
    by_cases h33 : c.toNat < 33
    · skip
      refine gl_guardF rfl (bT (by omega)) rfl rfl ?_
      refine gl_guardF rfl (bT (by omega)) rfl rfl ?_
      refine gl_guardF rfl (bT (by omega)) rfl rfl ?_
      refine gl_guardF rfl (bT (by omega)) rfl rfl ?_
      refine gl_op (r_pickTB (bT (by omega)) rfl) rfl ?_
      refine gl_nil ?_
      refine g_condT (rfl) ?_
      refine g_seq ?_
      refine g_region ?_
      refine gl_op (r_asB rfl) rfl ?_
      refine gl_nil ?_
      refine g_ret Tryz.func175 (res1 rfl) ?_
      refine ⟨?_, rfl⟩
      have hn : nameOk s = false := by
        unfold nameOk
        have : s.all nmChar = false := by
          rw [List.all_eq_false]
          refine ⟨c, List.mem_of_getElem? hx, ?_⟩
          unfold nmChar; simp; omega
        rw [this]; rfl
      rw [hn]; rfl
    · skip
      refine gl_guardT rfl (bF (by omega)) rfl ((r_mvS rfl)) rfl ?_
      refine gl_guardT rfl (bF (by omega)) rfl ((r_mvI rfl)) rfl ?_
      refine gl_guardT rfl (bF (by omega)) rfl (r_indexStr (j := i) (c := c) Tryz.underlying9 rfl rfl hx) rfl ?_
      refine gl_guardT rfl (bF (by omega)) rfl ((r_gt rfl rfl)) rfl ?_
      refine gl_op (r_pickFB (bF (by omega)) rfl) rfl ?_
      refine gl_nil ?_
      refine g_condP rfl (fun h126 => ?_) (fun h126 => ?_)
      · refine g_seq ?_
        refine g_region ?_
        refine gl_op (r_asB rfl) rfl ?_
        refine gl_nil ?_
        refine g_ret Tryz.func175 (res1 rfl) ?_
        refine ⟨?_, rfl⟩
        have hn : nameOk s = false := by
          unfold nameOk
          have : s.all nmChar = false := by
            rw [List.all_eq_false]
            refine ⟨c, List.mem_of_getElem? hx, ?_⟩
            unfold nmChar; simp; omega
          rw [this]; rfl
        rw [hn]; rfl
      · refine g_skip ?_
        refine g_inBlock ?_
        refine g_region ?_
        refine gl_op (r_add rfl rfl (wI64 (by omega) (by omega))) rfl ?_
        refine gl_op (r_mvI rfl) rfl ?_
        refine gl_nil ?_
        exact ih (i + 1) _ _ (by omega) ⟨rfl, rfl, rfl, trivial⟩ ⟨by omega, rfl, by rw [List.take_add_one, hx]; simp only [Option.toList_some, List.all_append, hal, List.all_cons, List.all_nil, Bool.and_true, Bool.true_and]; unfold nmChar; simp; omega⟩
  · have hie : i = s.length := by omega
    subst hie
    rw [List.take_length] at hal
    refine g_exit rfl ?_
    refine g_seq ?_
    refine g_region ?_
    refine gl_op (r_mvS rfl) rfl ?_
    refine gl_op (r_sne rfl rfl) rfl ?_
    refine gl_op (r_mvB rfl) rfl ?_
    by_cases h0 : s = []
    · skip
      refine gl_guardF rfl (bF (fun h => h h0)) rfl rfl ?_
      refine gl_guardF rfl (bF (fun h => h h0)) rfl rfl ?_
      refine gl_guardF rfl (bF (fun h => h h0)) rfl rfl ?_
      refine gl_op (r_pickFB (bF (fun h => h h0)) rfl) rfl ?_
      refine gl_op (r_asB rfl) rfl ?_
      refine gl_nil ?_
      refine g_ret Tryz.func175 (res1 rfl) ?_
      refine ⟨?_, rfl⟩
      subst h0; rfl
    · skip
      refine gl_guardT rfl (bT h0) rfl ((r_mvS rfl)) rfl ?_
      refine gl_guardT rfl (bT h0) rfl ((r_lenS Tryz.underlying9 rfl)) rfl ?_
      refine gl_guardT rfl (bT h0) rfl ((r_le rfl rfl)) rfl ?_
      refine gl_op (r_pickTB (bT h0) rfl) rfl ?_
      refine gl_op (r_asB rfl) rfl ?_
      refine gl_nil ?_
      refine g_ret Tryz.func175 (res1 rfl) ?_
      refine ⟨?_, rfl⟩
      unfold nameOk
      rw [hal, decide_eq_true h0]
      exact bEq (by omega)
end Go.GW
namespace Go.GW
open Go.RowKit Go.Proofs
/-! ## changes of names -/
def dMove (nm : List (Bs × Nat)) (m : Bs × Bs × Nat) : List (Bs × Nat) := if m.2.1 = [] then kvDel nm m.1 else kvPut (kvDel nm m.1) m.2.1 m.2.2
/-- only the map bn has turned -/
structure MvM (bn : Nat) (w w' : World) : Prop where
  fr : Fr (fun _ => true) (fun b => b = bn) w w'
theorem MvM.mv {M : TypeId → Bool} {base bn : Nat} {w w' : World} (h : MvM bn w w') (hle : base ≤ bn) : Mv M base bn w w' :=
  ⟨h.fr.os, h.fr.tape, h.fr.output, h.fr.size, fun b hb hn => h.fr.keep b hb fun e => hn ⟨e ▸ hle, .inl e⟩, fun b cs T fr _ hb => h.fr.data b cs T fr rfl hb⟩
theorem MvM.dk {D : TypeId → Bool} {bn : Nat} {w w' : World} (h : MvM bn w w') : Dk D w w' := fun b cs T fr _ hb => h.fr.data b cs T fr rfl hb
theorem MapAt.mvm {κ β : Type} {kenc : κ → Value} {venc : β → Value} {r bn : Nat} {kv : List (κ × β)} {w w' : World} (h : MapAt kenc venc w r kv) (m : MvM bn w w') (hne : r ≠ bn) : MapAt kenc venc w' r kv := by
  obtain ⟨es, cl, h1, h2⟩ := h
  exact ⟨es, cl, m.fr.blk h1 hne, h2⟩
theorem moveDone_ok (m : Bs × Bs × Nat) (bn : Nat) (nm : List (Bs × Nat)) (w : World) (hm : MapAt nEnc iEnc w bn nm) :
    Fn Tryz.prog 178 #[.agg (mvCells m).toArray, .map (some bn)] w (fun v w' => v = .tuple #[] ∧ MapAt nEnc iEnc w' bn (dMove nm m) ∧ MvM bn w w') := by
  have hf : Fr (fun _ => true) (fun b => b = bn) w w := Fr.refl
  unfold dMove
  refine fn_of (args := [.agg #[.string (str m.1), .string (str m.2.1), .int .i64 m.2.2], .map (some bn)]) Tryz.func178 (by kernel_rfl) rfl Tryz.ntmps178 rfl ?_
  have z_hf := hf.size
  refine g_seq ?_
  refine g_region ?_
  refine gl_box (v := .agg #[.string _, .string _, .int _ _]) (vs := [.string _, .string _, .int _ _]) rfl rfl rfl ?_
  intro b_h2 w1 h2 e_h2 s1
  have z1 := s1.size
  replace hf := hf.thenPu s1
  replace hm := hm.pu s1
  have l_h2 := blk_lt h2
  refine gl_nil ?_
  refine g_seq ?_
  refine g_region ?_
  refine gl_op (r_mvM rfl) rfl ?_
  refine gl_op (r_fieldAddr of223_0 rfl) rfl ?_
  refine gl_op (r_load1 (v := .string _) ld9 rfl (by assumption) (by first | rfl | assumption)) rfl ?_
  obtain ⟨es, cl, ho⟩ := hm.blk
  refine gl_delete (k := m.1) Tryz.underlying116 (keysStr Tryz.underlying9) rfl rfl hm ?_
  clear hm
  intro w9 hm st9
  have hne2 : b_h2 ≠ bn := fun e => by rw [e, ho] at h2; cases h2
  replace h2 := st9.blk h2 hne2
  have old2 := ho
  have z2 := st9.size
  replace hf := hf.st st9 old2 (noCells rfl) (by intro h; first | (exact absurd h (by omega)) | exact rfl | exact .inl rfl | exact .inr rfl | assumption | (dsimp only; assumption) | (show _ ≤ _; omega))
  have l_h2 := blk_lt h2
  refine gl_nil ?_
  refine g_seq ?_
  refine g_region ?_
  refine gl_op (r_fieldAddr of223_1 rfl) rfl ?_
  refine gl_op (r_load1 (v := .string _) ld9 rfl (by assumption) (by first | rfl | assumption)) rfl ?_
  refine gl_op (r_sne rfl rfl) rfl ?_
  refine gl_nil ?_
  by_cases h0 : m.2.1 = []
  · skip
    rw [if_pos h0]
    refine g_condF (bF (fun h => h h0)) ?_
    refine g_skip ?_
    refine g_end Tryz.func178 (res0 rfl) ?_
    exact ⟨rfl, hm, ⟨hf⟩⟩
  · rw [if_neg h0]
    refine g_condT (bT h0) ?_
    refine g_region ?_
    refine gl_op (r_mvM rfl) rfl ?_
    refine gl_op (r_fieldAddr of223_1 rfl) rfl ?_
    refine gl_op (r_load1 (v := .string _) ld9 rfl (by assumption) (by first | rfl | assumption)) rfl ?_
    refine gl_op (r_fieldAddr of223_2 rfl) rfl ?_
    refine gl_op (r_load1 (v := .int _ _) ld3 rfl (by assumption) (by first | rfl | assumption)) rfl ?_
    obtain ⟨es2, cl2, ho2⟩ := hm.blk
    refine gl_mapUpdate (k := m.2.1) (u := m.2.2) Tryz.underlying116 (keysStr Tryz.underlying9) rfl rfl rfl hm ?_
    clear hm
    intro w10 hm st10
    have old3 := ho2
    have z3 := st10.size
    replace hf := hf.st st10 old3 (noCells rfl) (by intro h; first | (exact absurd h (by omega)) | exact rfl | exact .inl rfl | exact .inr rfl | assumption | (dsimp only; assumption) | (show _ ≤ _; omega))
    refine gl_nil ?_
    refine g_end Tryz.func178 (res0 rfl) ?_
    exact ⟨rfl, hm, ⟨hf⟩⟩
def dMoved (st : DiskSt) (m : Bs × Bs × Nat) : DiskSt := { st with names := dMove st.names m, moves := st.moves ++ [m], lim := st.lim + 1 }
theorem moved_ok (st : DiskSt) (m : Bs × Bs × Nat) (hl : st.moves.length < 1099511627776) (base bd bn : Nat) (w : World) (hd : DiskAt w base bd bn st) :
    Fn Tryz.prog 138 #[.pointer (some ⟨bd, 0, none⟩), .agg (mvCells m).toArray] w (fun v w' => v = .tuple #[] ∧ DiskAt w' base bd bn (dMoved st m) ∧ Mv dkM base bn w w') := by
  obtain ⟨p, rfl, rfl, rfl, hd⟩ := hd
  obtain ⟨hd, hr⟩ := hd
  have hm : Mv dkM p.base p.bn w w := Mv.refl
  have hbd := hr.bdl
  have hbn := hr.bnl
  refine fn_of (args := [.pointer (some ⟨p.bd, 0, none⟩), .agg #[.string (str m.1), .string (str m.2.1), .int .i64 m.2.2]]) Tryz.func138 (by kernel_rfl) rfl Tryz.ntmps138 rfl ?_
  have l_hd := blk_lt hd
  have z_hm := hm.size
  refine g_seq ?_
  refine g_region ?_
  refine gl_box (v := .agg #[.string _, .string _, .int _ _]) (vs := [.string _, .string _, .int _ _]) rfl rfl rfl ?_
  intro b_h3 w1 h3 e_h3 s1
  have z1 := s1.size
  replace hd := s1.blk hd
  replace hr := hr.kp s1.kp
  replace hm := hm.thenPu s1
  have l_h3 := blk_lt h3
  refine gl_nil ?_
  refine g_seq ?_
  refine gd_draw 5 mixed ?_
  intro w2 s2 _
  have z2 := s2.size
  replace hd := s2.blk hd
  replace hr := hr.kp s2.kp
  replace hm := hm.thenPu s2
  replace h3 := s2.blk h3
  have dp2 : Pu w2 w2 := Pu.refl
  have z_dp2 := dp2.size
  have d_hd := hd
  have d_h3 := h3
  refine gd_look 0 rfl (by decide +kernel) rfl dp2 (fun _ hS => (r_loadA (ls := [.string _, .string _, .int _ _]) ld223 rfl (hS.blk (by assumption)) (by first | rfl | assumption))) rfl ?_
  refine gd_take 1 rfl (by decide +kernel) rfl (.inr dp2) (fun _ => (r_mvP rfl)) rfl ?_
  refine gd_take 2 rfl (by decide +kernel) rfl (.inr dp2) (fun _ => (r_nil rfl)) rfl ?_
  refine gd_take 3 rfl (by decide +kernel) rfl (.inr dp2) (fun _ => (r_fieldAddr of120_2 rfl)) rfl ?_
  refine gd_look 4 rfl (by decide +kernel) rfl dp2 (fun _ hS => (r_load1 (v := .map _) ld116 rfl (hS.blk (by assumption)) (by first | rfl | assumption))) rfl ?_
  refine gd_last rfl (by decide +kernel) rfl rfl ?_
  have hfs := hr.files
  have hrow := hr.row
  have hmv := hr.moves
  have hbs := hr.bases
  have hne := hr.ne
  have hbb := hr.bbl
  refine gl_call (moveDone_ok m _ _ _ hr.names) rfl rfl ?_
  rintro _ w9 ⟨rfl, hnm, s9⟩
  replace hfs := hfs.dk s9.dk (D := fun _ => true) rfl rfl
  replace hrow := hrow.dk s9.dk (D := fun _ => true) rfl
  replace hmv := hmv.dk s9.dk (D := fun _ => true) rfl
  replace hbs := hbs.mvm s9 hne.symm
  replace hd := s9.dk (D := fun _ => true) _ _ _ _ rfl hd
  replace h3 := s9.dk (D := fun _ => true) _ _ _ _ rfl h3
  replace hm := Mv.trans hm (s9.mv hbn)
  have l_hd := blk_lt hd
  have l_h3 := blk_lt h3
  have hrow_lt := hrow.lt
  have hmv_lt := hmv.lt
  have z_hm := hm.size
  refine gl_nil ?_
  refine gd_done (by decide +kernel) ?_
  refine gd_draw 7 mixed ?_
  intro w3 s3 _
  have z3 := s3.size
  replace hd := s3.blk hd
  replace h3 := s3.blk h3
  replace hfs := hfs.kp s3.kp
  replace hnm := hnm.pu s3
  replace hbs := hbs.pu s3
  replace hrow := hrow.pu s3
  replace hmv := hmv.pu s3
  replace hm := hm.thenPu s3
  have dp3 : Pu w3 w3 := Pu.refl
  have z_dp3 := dp3.size
  have d_hd := hd
  have d_h3 := h3
  refine gd_take 0 rfl (by decide +kernel) rfl (.inr dp3) (fun _ => (r_mvP rfl)) rfl ?_
  refine gd_take 1 rfl (by decide +kernel) rfl (.inr dp3) (fun _ => (r_mvP rfl)) rfl ?_
  refine gd_take 2 rfl (by decide +kernel) rfl (.inr dp3) (fun _ => (r_nil rfl)) rfl ?_
  refine gd_take 3 rfl (by decide +kernel) rfl (.inr dp3) (fun _ => (r_fieldAddr of120_4 rfl)) rfl ?_
  refine gd_look 4 rfl (by decide +kernel) rfl dp3 (fun _ hS => (r_load1 (v := .slice _ _ _) ld118 rfl (hS.blk (by assumption)) (by first | rfl | assumption))) rfl ?_
  refine gd_look 5 rfl (by decide +kernel) rfl dp3 (fun _ hS => (r_loadA (ls := [.string _, .string _, .int _ _]) ld223 rfl (hS.blk (by assumption)) (by first | rfl | assumption))) rfl ?_
  refine gd_only 6 rfl (by decide +kernel) rfl ?_
  refine gl_slice1 (v := .agg #[.string _, .string _, .int _ _]) (vs := [.string _, .string _, .int _ _]) Tryz.underlying118 sz223 ze223 rfl rfl rfl rfl rfl rfl rfl ?_
  intro b_h16 w4 h16 e_h16 s4 sl_h16
  have z4 := s4.size
  replace hd := s4.blk hd
  replace h3 := s4.blk h3
  replace hfs := hfs.kp s4.kp
  replace hnm := hnm.pu s4
  replace hbs := hbs.pu s4
  replace hrow := hrow.pu s4
  replace hmv := hmv.pu s4
  replace hm := hm.thenPu s4
  replace dp3 := dp3.trans s4
  have l_h16 := blk_lt h16
  refine gl_nil ⟨.inr dp3, ?_⟩
  refine gd_last rfl (by decide +kernel) rfl rfl ?_
  have old5 := hmv
  refine gl_append2 Tryz.underlying118 sz223 ze223 by223 rfl rfl rfl hmv rfl (sl_h16) (allOne rfl) (by omega) (by omega) (by omega) rfl ?_
  have hmv_bs := hmv.base
  have hmv_lo := hmv_lt
  intro A_hmv c_hmv w5 hmv g5 at_hmv
  have z5 := g5.size
  replace hd := g5.blk hd (fun ad e => by first | (have h1 := hmv_bs ad e; have h2 := hmv_lo ad e; omega) | exact (old5.ne hd (by decide) ad e).symm)
  replace hfs := hfs.kp (g5.kp old5 rfl)
  replace hnm := hnm.kp (g5.kp (D := fun _ => false) old5 rfl)
  replace hbs := hbs.kp (g5.kp (D := fun _ => false) old5 rfl)
  replace hrow := hrow.dk (g5.dkT old5) rfl
  replace hm := (by first | exact hm.grNew g5 (fun ad e => by have h1 := hmv_bs ad e; omega) | exact hm.gr g5 old5 rfl (fun ad e => by have h1 := hmv_bs ad e; omega))
  replace h16 := g5.blk h16 (fun ad e => by first | (have h1 := hmv_bs ad e; have h2 := hmv_lo ad e; omega) | exact (old5.ne h16 (by decide) ad e).symm)
  have hmv_lt := hmv.lt
  refine gl_nil ?_
  refine gd_take 8 rfl (by decide +kernel) rfl (.inl rfl) (fun _ => (r_nil rfl)) rfl ?_
  refine gd_take 9 rfl (by decide +kernel) rfl (.inl rfl) (fun _ => (r_fieldAddr of120_4 rfl)) rfl ?_
  refine gd_only 10 rfl (by decide +kernel) rfl ?_
  have old6 := hd
  refine gl_store (u := .slice _ _ _) (vs := [.slice _ _ _]) sz118 rfl rfl rfl rfl rfl hd rfl ?_
  intro w6 hd st6
  have z6 := st6.size
  replace hfs := hfs.kp (st6.kp old6 rfl)
  replace hnm := hnm.kp (st6.kp (D := fun _ => false) old6 rfl)
  replace hbs := hbs.kp (st6.kp (D := fun _ => false) old6 rfl)
  replace hrow := hrow.st st6 (fun ad e => by first | (have h1 := hrow.base ad e; have h2 := hrow_lt ad e; omega) | exact hrow.ne old6 (by decide) ad e)
  replace hm := (by first | exact hm.stNew st6 (by omega) | exact hm.st st6 old6 rfl (by omega) | exact hm.stMap st6 old6 (by omega))
  replace h16 := st6.blk h16 (by first | omega | exact blkNe h16 old6 (by decide))
  replace hmv := hmv.st st6 (fun ad e => by first | (have h1 := hmv.base ad e; have h2 := hmv_lt ad e; omega) | exact hmv.ne old6 (by decide) ad e)
  refine gl_nil ⟨.inl rfl, ?_⟩
  refine gd_done (by decide +kernel) ?_
  refine g_end Tryz.func138 (res0 rfl) ?_
  refine ⟨rfl, ⟨{ p with Am := A_hmv, cm := c_hmv }, rfl, rfl, rfl, ⟨?_, ⟨hbd, hbn, hbb, hne, hfs, hrow, hnm, hbs, ?_⟩⟩⟩, hm⟩
  · have e : (dMoved st m).moves.length = st.moves.length + 1 := by unfold dMoved; simp
    unfold dCells
    rw [e]; exact hd
  · have e : (dMoved st m).moves = st.moves ++ [m] := rfl
    rw [e, List.length_append, List.flatMap_append, List.flatMap_singleton]; exact hmv
end Go.GW
namespace Go.GW
open Go.RowKit Go.Proofs
theorem dFind_okS {st : DiskSt} (hok : DiskOk st) (name : Bs) : DiskOk (dFind st name).2.2 := by
  unfold dFind
  split
  · exact hok
  · split <;> exact dBegin_okS hok
theorem dFind_files (st : DiskSt) (name : Bs) : (dFind st name).2.2.files = st.files ∧ (dFind st name).2.2.names = st.names ∧ (dFind st name).2.2.moves = st.moves ∧ (dFind st name).2.2.base = st.base ∧ (dFind st name).2.2.room = st.room ∧ (dFind st name).2.2.lim = st.lim ∧ (dFind st name).2.2.fail = st.fail := by
  unfold dFind
  split
  · exact ⟨rfl, rfl, rfl, rfl, rfl, rfl, rfl⟩
  · split <;> exact ⟨rfl, rfl, rfl, rfl, rfl, rfl, rfl⟩
theorem FilesAt.lt {w : World} {base : Nat} {xs : List FP} {fs : List FileSt} (h : FilesAt w base xs fs) {i : Nat} {x : FP} (hx : xs[i]? = some x) : x.b < w.heap.size := by
  have hi := (List.getElem?_eq_some_iff.1 hx).1
  have hl := h.len
  exact blk_lt (h.each i x _ hx (List.getElem?_eq_getElem (by omega))).at_
theorem FilesAt.push {w : World} {base : Nat} {xs : List FP} {fs : List FileSt} (h : FilesAt w base xs fs) {x : FP} {f : FileSt} (hx : FileAt w base x f) (hne : ∀ (i : Nat) y, xs[i]? = some y → y.b ≠ x.b) (hA : x.A = none) : FilesAt w base (xs ++ [x]) (fs ++ [f]) := by
  have hl := h.len
  refine ⟨by simp [hl], fun i y g hy hg => ?_, fun i j y z hij hy hz => ?_⟩
  · by_cases hi : i < xs.length
    · rw [List.getElem?_append_left hi] at hy
      rw [List.getElem?_append_left (by omega)] at hg
      exact h.each i y g hy hg
    · have h2 := (List.getElem?_eq_some_iff.1 hy).1
      simp only [List.length_append, List.length_singleton] at h2
      have hie : i = xs.length := by omega
      subst hie
      rw [List.getElem?_append_right (by omega)] at hy
      rw [List.getElem?_append_right (by omega)] at hg
      simp only [Nat.sub_self, List.getElem?_cons_zero, Option.some.injEq] at hy
      rw [hl] at hg
      simp only [Nat.sub_self, List.getElem?_cons_zero, Option.some.injEq] at hg
      subst hy; subst hg; exact hx
  · have key : ∀ (k : Nat) u, (xs ++ [x])[k]? = some u → (k < xs.length ∧ xs[k]? = some u) ∨ (k = xs.length ∧ u = x) := fun k u hu => by
      by_cases hk : k < xs.length
      · rw [List.getElem?_append_left hk] at hu; exact .inl ⟨hk, hu⟩
      · have h2 := (List.getElem?_eq_some_iff.1 hu).1
        simp only [List.length_append, List.length_singleton] at h2
        have hke : k = xs.length := by omega
        subst hke
        rw [List.getElem?_append_right (by omega)] at hu
        simp only [Nat.sub_self, List.getElem?_cons_zero, Option.some.injEq] at hu
        exact .inr ⟨rfl, hu.symm⟩
    rcases key i y hy with ⟨h1, h2⟩ | ⟨h1, rfl⟩ <;> rcases key j z hz with ⟨h3, h4⟩ | ⟨h3, rfl⟩
    · exact h.apart i j y z hij h2 h4
    · exact ⟨hne i y h2, fun a b _ hb => by rw [hA] at hb; cases hb⟩
    · exact ⟨(hne j z h4).symm, fun a b ha => by rw [hA] at ha; cases ha⟩
    · omega
def dCreate (st : DiskSt) (name : Bs) : Int × DiskSt :=
  if (dFind st name).1 = 11 then (11, (dFind st name).2.2) else if nameOk name = false then (3, (dFind st name).2.2) else if (dFind st name).1 = 0 then (4, (dFind st name).2.2)
  else (0, dMoved { (dFind st name).2.2 with files := (dFind st name).2.2.files ++ [⟨[], [], []⟩] } ([], name, (dFind st name).2.2.files.length))
theorem dCreate_ok (st : DiskSt) (hok : DiskOk st) (hlim : st.lim < 1099511627776) (name : Bs) (hn : name.length < 4611686018427387904) (base bd bn : Nat) (w : World) (hd : DiskAt w base bd bn st) :
    Fn Tryz.prog 134 #[.pointer (some ⟨bd, 0, none⟩), .string (str name)] w (fun v w' => v = .int .i64 (dCreate st name).1 ∧ DiskAt w' base bd bn (dCreate st name).2 ∧ Mv dkM base bn w w') := by
  obtain ⟨p, rfl, rfl, rfl, hd⟩ := hd
  have hm : Mv dkM p.base p.bn w w := Mv.refl
  have hok1 := dFind_okS hok name
  obtain ⟨q1, q2, q3, q4, q5, q6, q7⟩ := dFind_files st name
  unfold dCreate
  refine fn_of (args := [.pointer (some ⟨p.bd, 0, none⟩), .string (str name)]) Tryz.func134 (by kernel_rfl) rfl Tryz.ntmps134 rfl ?_
  have z_hm := hm.size
  refine g_seq ?_
  refine g_region ?_
  refine gl_op (r_asI rfl) rfl ?_
  refine gl_nil ?_
  refine g_seq ?_
  refine g_region ?_
  refine gl_op (r_mvP rfl) rfl ?_
  refine gl_op (r_mvS rfl) rfl ?_
  refine gl_call (dFind_ok st hok name p w hd) rfl rfl ?_
  rintro _ w1 ⟨⟨pv, rfl, hv⟩, hd, s1⟩
  have z1 := s1.size
  replace hm := hm.trans s1
  have hfl := hok1.fl
  have hml := hok1.ml
  rw [q6] at hfl hml
  generalize dFind st name = r at *
  obtain ⟨e, o, st1⟩ := r
  dsimp only at hv hd hok1 hfl hml ⊢
  refine gl_op (r_mvT rfl) rfl ?_
  refine gl_op (r_extract rfl rfl) rfl ?_
  refine gl_op (r_extract rfl rfl) rfl ?_
  refine gl_op (r_asP rfl) rfl ?_
  refine gl_op (r_asI rfl) rfl ?_
  refine gl_nil ?_
  refine g_seq ?_
  refine g_block ?_
  refine g_seq ?_
  refine g_region ?_
  refine gl_op (r_mvI rfl) rfl ?_
  refine gl_op (r_eq rfl rfl) rfl ?_
  refine gl_op (r_asB rfl) rfl ?_
  refine gl_nil ?_
  by_cases h11 : e = 11
  · skip
    rw [if_pos h11]
    subst h11
    refine g_condT (rfl) ?_
    refine g_seq ?_
    refine g_region ?_
    refine gl_op (r_mvI rfl) rfl ?_
    refine gl_op (r_asI rfl) rfl ?_
    refine gl_nil ?_
    refine g_ret Tryz.func134 (res1 rfl) ?_
    exact ⟨rfl, ⟨p, rfl, rfl, rfl, hd⟩, hm⟩
  · rw [if_neg h11]
    refine g_condF (bF h11) ?_
    refine g_seq ?_
    refine g_region ?_
    refine gl_op (r_mvS rfl) rfl ?_
    refine gl_call (named_ok name hn _) rfl rfl ?_
    rintro _ wn ⟨rfl, hwn⟩
    subst wn
    refine gl_op (r_not rfl) rfl ?_
    refine gl_op (r_asB rfl) rfl ?_
    refine gl_nil ?_
    by_cases hnm : nameOk name = false
    · skip
      rw [if_pos hnm]
      refine g_condT ((by rw [hnm]; rfl)) ?_
      refine g_seq ?_
      refine g_region ?_
      refine gl_op (r_asI rfl) rfl ?_
      refine gl_nil ?_
      refine g_ret Tryz.func134 (res1 rfl) ?_
      exact ⟨rfl, ⟨p, rfl, rfl, rfl, hd⟩, hm⟩
    · rw [if_neg hnm]
      refine g_condF ((by simp only [Bool.not_eq_false] at hnm; rw [hnm]; rfl)) ?_
      refine g_seq ?_
      refine g_region ?_
      refine gl_op (r_mvI rfl) rfl ?_
      refine gl_op (r_eq rfl rfl) rfl ?_
      refine gl_op (r_asB rfl) rfl ?_
      refine gl_nil ?_
      by_cases h0 : e = 0
      · skip
        rw [if_pos h0]
        refine g_condT (bT h0) ?_
        refine g_seq ?_
        refine g_region ?_
        refine gl_op (r_asI rfl) rfl ?_
        refine gl_nil ?_
        refine g_ret Tryz.func134 (res1 rfl) ?_
        exact ⟨rfl, ⟨p, rfl, rfl, rfl, hd⟩, hm⟩
      · rw [if_neg h0]
        refine g_condF (bF h0) ?_
        obtain ⟨hd, hr⟩ := hd
        have hfs := hr.files
        have hrow := hr.row
        have hmv := hr.moves
        have hnmm := hr.names
        have hbs := hr.bases
        have hne := hr.ne
        have hbb := hr.bbl
        have hbd := hr.bdl
        have hbn := hr.bnl
        have hflt : ∀ (i : Nat) y, p.xs[i]? = some y → y.b < w1.heap.size := fun i y hy => hfs.lt hy
        have hbd2 := blk_lt hd
        have l_hd := blk_lt hd
        have hrow_lt := hrow.lt
        have hmv_lt := hmv.lt
        have z_hm := hm.size
        refine g_skip ?_
        refine g_inBlock ?_
        refine g_seq ?_
        refine g_region ?_
        refine gl_op (r_mvP rfl) rfl ?_
        refine gl_op (r_mvP rfl) rfl ?_
        refine gl_op (r_nil rfl) rfl ?_
        refine gl_op (r_fieldAddr of120_1 rfl) rfl ?_
        refine gl_op (r_load1 (v := .slice _ _ _) ld117 rfl (by assumption) (by first | rfl | assumption)) rfl ?_
        refine gl_op (r_build (cs := #[.string _, .string _, .slice _ _ _]) pl216 rfl) rfl ?_
        refine gl_box (v := .agg #[.string _, .string _, .slice _ _ _]) (vs := [.string _, .string _, .slice _ _ _]) rfl rfl rfl ?_
        intro b_h30 w2 h30 e_h30 s2
        have z2 := s2.size
        replace hd := s2.blk hd
        replace hfs := hfs.kp s2.kp
        replace hnmm := hnmm.pu s2
        replace hbs := hbs.pu s2
        replace hrow := hrow.pu s2
        replace hmv := hmv.pu s2
        replace hm := hm.thenPu s2
        have l_h30 := blk_lt h30
        refine gl_slice1 (v := .pointer _) (vs := [.pointer _]) Tryz.underlying117 sz211 ze211 rfl rfl rfl rfl rfl rfl rfl ?_
        intro b_h31 w3 h31 e_h31 s3 sl_h31
        have z3 := s3.size
        replace hd := s3.blk hd
        replace hfs := hfs.kp s3.kp
        replace hnmm := hnmm.pu s3
        replace hbs := hbs.pu s3
        replace hrow := hrow.pu s3
        replace hmv := hmv.pu s3
        replace hm := hm.thenPu s3
        replace h30 := s3.blk h30
        have l_h31 := blk_lt h31
        have old4 := hrow
        refine gl_append2 Tryz.underlying117 sz211 ze211 by211 rfl rfl rfl hrow rfl (sl_h31) (allOne rfl) (by omega) (by omega) (by omega) rfl ?_
        have hrow_bs := hrow.base
        have hrow_lo := hrow_lt
        intro A_hrow c_hrow w4 hrow g4 at_hrow
        have z4 := g4.size
        replace hd := g4.blk hd (fun ad e => by first | (have h1 := hrow_bs ad e; have h2 := hrow_lo ad e; omega) | exact (old4.ne hd (by decide) ad e).symm)
        replace hfs := hfs.kp (g4.kp old4 rfl)
        replace hnmm := hnmm.kp (g4.kp (D := fun _ => false) old4 rfl)
        replace hbs := hbs.kp (g4.kp (D := fun _ => false) old4 rfl)
        replace hmv := hmv.dk (g4.dkT old4) rfl
        replace hm := (by first | exact hm.grNew g4 (fun ad e => by have h1 := hrow_bs ad e; omega) | exact hm.gr g4 old4 rfl (fun ad e => by have h1 := hrow_bs ad e; omega))
        replace h30 := g4.blk h30 (fun ad e => by first | (have h1 := hrow_bs ad e; have h2 := hrow_lo ad e; omega) | exact (old4.ne h30 (by decide) ad e).symm)
        replace h31 := g4.blk h31 (fun ad e => by first | (have h1 := hrow_bs ad e; have h2 := hrow_lo ad e; omega) | exact (old4.ne h31 (by decide) ad e).symm)
        have hrow_lt := hrow.lt
        refine gl_op (r_nil rfl) rfl ?_
        refine gl_op (r_fieldAddr of120_1 rfl) rfl ?_
        have old5 := hd
        refine gl_store (u := .slice _ _ _) (vs := [.slice _ _ _]) sz117 rfl rfl rfl rfl rfl hd rfl ?_
        intro w5 hd st5
        have z5 := st5.size
        replace hfs := hfs.kp (st5.kp old5 rfl)
        replace hnmm := hnmm.kp (st5.kp (D := fun _ => false) old5 rfl)
        replace hbs := hbs.kp (st5.kp (D := fun _ => false) old5 rfl)
        replace hmv := hmv.st st5 (fun ad e => by first | (have h1 := hmv.base ad e; have h2 := hmv_lt ad e; omega) | exact hmv.ne old5 (by decide) ad e)
        replace hm := (by first | exact hm.stNew st5 (by omega) | exact hm.st st5 old5 rfl (by omega) | exact hm.stMap st5 old5 (by omega))
        replace h30 := st5.blk h30 (by first | omega | exact blkNe h30 old5 (by decide))
        replace h31 := st5.blk h31 (by first | omega | exact blkNe h31 old5 (by decide))
        replace hrow := hrow.st st5 (fun ad e => by first | (have h1 := hrow.base ad e; have h2 := hrow_lt ad e; omega) | exact hrow.ne old5 (by decide) ad e)
        refine gl_nil ?_
        refine g_seq ?_
        refine g_region ?_
        refine gl_op (r_mvP rfl) rfl ?_
        refine gl_op (r_mvS rfl) rfl ?_
        refine gl_op (r_mvP rfl) rfl ?_
        refine gl_op (r_nil rfl) rfl ?_
        refine gl_op (r_fieldAddr of120_1 rfl) rfl ?_
        refine gl_op (r_load1 (v := .slice _ _ _) ld117 rfl (by assumption) (by first | rfl | assumption)) rfl ?_
        refine gl_op (r_len Tryz.underlying117 rfl) rfl ?_
        refine gl_op (r_sub (c := ((st1.files.length : Nat) : Int)) rfl rfl (by rw [wI64 (by omega) (by omega)]; omega)) rfl ?_
        refine gl_op (r_build (cs := #[.string _, .string _, .int _ _]) pl223 rfl) rfl ?_
        have hfs2 : FilesAt _ p.base (p.xs ++ [⟨b_h30, none, 0⟩]) (st1.files ++ [⟨[], [], []⟩]) := hfs.push ⟨by show p.base ≤ b_h30; omega, h30, Row.nil⟩ (fun i y hy => by have := hflt i y hy; show y.b ≠ b_h30; omega) rfl
        have hl2 : (st1.files ++ [(⟨[], [], []⟩ : FileSt)]).length = st1.files.length + 1 := by simp
        have z_hm := hm.size
        refine gl_call (moved_ok { st1 with files := st1.files ++ [⟨[], [], []⟩] } ([], name, st1.files.length) (by show st1.moves.length < _; omega) p.base p.bd p.bn _ ⟨{ p with Af := A_hrow, cf := c_hrow, xs := p.xs ++ [⟨b_h30, none, 0⟩] }, rfl, rfl, rfl, ⟨by unfold dCells; rw [hl2]; exact hd, ⟨hbd, hbn, hbb, hne, hfs2, by rw [hl2]; simpa [fPtr] using hrow, hnmm, hbs, hmv⟩⟩⟩) rfl rfl ?_
        rintro _ w6 ⟨rfl, hd, s6⟩
        have z6 := s6.size
        replace hm := hm.trans s6
        refine gl_nil ?_
        refine g_seq ?_
        refine g_region ?_
        refine gl_op (r_asI rfl) rfl ?_
        refine gl_nil ?_
        refine g_ret Tryz.func134 (res1 rfl) ?_
        exact ⟨rfl, hd, hm⟩
/-! ## how many bytes there are -/
theorem le_sum {x : Nat} : ∀ {l : List Nat}, x ∈ l → x ≤ l.sum
  | [], h => by cases h
  | a :: l, h => by
    rw [List.sum_cons]
    rcases List.mem_cons.1 h with rfl | h
    · omega
    · have := le_sum h; omega
theorem fNow_le {fs : List FileSt} {nm : List (Bs × Nat)} {q : Bs × Nat} (h : q ∈ nm) : fNow fs q.2 ≤ dUsed fs nm := by
  unfold dUsed
  exact le_sum (List.mem_map.2 ⟨q, h, rfl⟩)
theorem dUsed_perm {fs : List FileSt} {a b : List (Bs × Nat)} (h : a.Perm b) : dUsed fs a = dUsed fs b := (h.map _).sum_nat
theorem dUsed_append (fs : List FileSt) (a b : List (Bs × Nat)) : dUsed fs (a ++ b) = dUsed fs a + dUsed fs b := by simp [dUsed]
theorem IterAt.perm {κ β : Type} {kenc : κ → Value} {venc : β → Value} {w : World} {b r : Nat} {kv dn : List (κ × β)} {cur : Option (κ × β)} (h : IterAt kenc venc w b r kv dn cur) : ∃ rest, (dn ++ rest).Perm kv := by
  obtain ⟨es, cl, since, seen, rest, hr, a1, a2, a3, a4, hb, a5, a6, a7⟩ := h
  exact ⟨rest, a6⟩
theorem IterAt.kp {D : TypeId → Bool} {κ β : Type} {kenc : κ → Value} {venc : β → Value} {w w' : World} {b r : Nat} {kv dn : List (κ × β)} {cur : Option (κ × β)} (h : IterAt kenc venc w b r kv dn cur) (ho : ∀ c, c ≠ b → w'.heap[c]? = w.heap[c]?) : Kp D w w' := by
  obtain ⟨es, cl, since, seen, rest, hr, a1, a2, a3, a4, hb, a5, a6, a7⟩ := h
  exact ⟨fun c cs T fr _ hc => (ho c (fun e => by subst e; rw [hb] at hc; cases hc)).trans hc, fun c es cl hc => (ho c (fun e => by subst e; rw [hb] at hc; cases hc)).trans hc⟩
theorem DRest.file {w : World} {p : DP} {fs : List FileSt} {nm bs : List (Bs × Nat)} {mv : List (Bs × Bs × Nat)} (h : DRest w p fs nm bs mv) {i : Nat} (hi : i < fs.length) : ∃ x f b o cs fr, p.xs[i]? = some x ∧ fs[i]? = some f ∧ p.Af = some ⟨b, o, none⟩ ∧ w.heap[b]? = some (.cells cs 211 fr) ∧ cs[o + i * 1]? = some (fPtr x) ∧ FileAt w p.base x f := by
  obtain ⟨x, b, o, cs, fr, hx, eA, hb, hc⟩ := DFull.ptr (st := ⟨0, fs, nm, bs, mv, 0, 0, 0, 0⟩) h hi
  have hf : fs[i]? = some fs[i] := List.getElem?_eq_getElem hi
  exact ⟨x, fs[i], b, o, cs, fr, hx, hf, eA, hb, hc, h.files.each i x _ hx hf⟩
theorem dUsed_ok (st : DiskSt) (hok : DiskOk st) (p : DP) (w : World) (hd : DFull w p st) :
    Fn Tryz.prog 176 #[.pointer (some ⟨p.bd, 0, none⟩)] w (fun v w' => v = .int .i64 (dUsed st.files st.names) ∧ Pu w w') := by
  obtain ⟨hd, hr⟩ := hd
  have hpu : Pu w w := Pu.refl
  have hu := hok.used
  have hro := hok.room
  refine fn_of (args := [.pointer (some ⟨p.bd, 0, none⟩)]) Tryz.func176 (by kernel_rfl) rfl Tryz.ntmps176 rfl ?_
  have l_hd := blk_lt hd
  have z_hpu := hpu.size
  refine g_seq ?_
  refine g_region ?_
  refine gl_op (r_asI rfl) rfl ?_
  refine gl_nil ?_
  refine g_seq ?_
  refine g_region ?_
  refine gl_op (r_asI rfl) rfl ?_
  refine gl_nil ?_
  refine g_seq ?_
  refine g_seq ?_
  refine g_region ?_
  refine gl_op (r_mvP rfl) rfl ?_
  refine gl_op (r_nil rfl) rfl ?_
  refine gl_op (r_fieldAddr of120_2 rfl) rfl ?_
  refine gl_op (r_load1 (v := .map _) ld116 rfl (by assumption) (by first | rfl | assumption)) rfl ?_
  refine gl_range Tryz.underlying116 rfl hr.names rfl ?_
  intro bi w2 hit ebi s2
  have z1 := s2.size
  replace hd := s2.blk hd
  replace hr := hr.kp s2.kp
  replace hpu := hpu.trans s2
  refine gl_nil ?_
  refine g_block ?_
  refine g_loop (ι := List (Bs × Nat) × Option (Bs × Nat)) (fun x => [(0, .pointer (some ⟨p.bd, 0, none⟩)), (3, .int .i64 (dUsed st.files x.1)), (10, .pointer (some ⟨bi, 0, none⟩))]) (fun x w' => IterAt nEnc iEnc w' bi p.bn st.names x.1 x.2 ∧ DFull w' p st ∧ Pu w w') (fun x => st.names.length - x.1.length) ([], none) ⟨rfl, rfl, rfl, trivial⟩ ⟨hit, ⟨hd, hr⟩, hpu⟩ ?_
  clear hit hd hr hpu
  rintro ⟨dn, cur⟩ τ w3 ⟨hit, ⟨hd, hr⟩, hpu⟩ ih
  dsimp only at hit ih ⊢
  have l_hd := blk_lt hd
  have z_hpu := hpu.size
  refine g_seq ?_
  refine g_region ?_
  refine gl_next rfl hit rfl (fun hperm => ?_) (fun q w9 hle hmem hit2 hoth f9 => ?_)
  · skip
    refine gl_op (r_extract rfl rfl) rfl ?_
    refine gl_nil ?_
    refine g_seq ?_
    refine g_condF (rfl) ?_
    refine g_exit rfl ?_
    refine g_seq ?_
    refine g_region ?_
    refine gl_op (r_mvI rfl) rfl ?_
    refine gl_op (r_asI rfl) rfl ?_
    refine gl_nil ?_
    refine g_ret Tryz.func176 (res1 rfl) ?_
    exact ⟨by rw [← dUsed_perm hperm]; rfl, hpu⟩
  · have k9 := hit.kp (D := dkM) hoth
    have hbi : bi ≠ p.bd := fun e => by
      obtain ⟨es, cl, since, seen, rest, hr', a1, a2, a3, a4, hb, a5, a6, a7⟩ := hit
      subst e; rw [hd] at hb; cases hb
    replace hd := (hoth _ hbi.symm).trans hd
    replace hr := hr.kp (hit.kp hoth)
    replace hpu : Pu w w9 := Fr.puOf hpu f9 (fun b h => by omega)
    obtain ⟨rest, hperm⟩ := hit2.perm
    have hsum := dUsed_perm (fs := st.files) hperm
    rw [dUsed_append, dUsed_append] at hsum
    have e1 : dUsed st.files [q] = fNow st.files q.2 := by simp [dUsed]
    obtain ⟨x, f, b, o, cs, fr, hx, hf, eA, hb, hc, hfa⟩ := hr.file (hok.idx q hmem)
    have hfn : fNow st.files q.2 = f.now.length := by unfold fNow; rw [hf]
    have hfb := hfa.at_
    have l_hd := blk_lt hd
    have z_hpu := hpu.size
    refine gl_op (r_extract rfl rfl) rfl ?_
    refine gl_nil ?_
    refine g_seq ?_
    refine g_condT (rfl) ?_
    refine g_skip ?_
    refine g_block ?_
    refine g_seq ?_
    refine g_region ?_
    refine gl_op (r_entry rfl hit2) rfl ?_
    refine gl_op (r_extract rfl rfl) rfl ?_
    refine gl_op (r_asI rfl) rfl ?_
    refine gl_nil ?_
    refine g_region ?_
    refine gl_op (r_mvI rfl) rfl ?_
    refine gl_op (r_mvP rfl) rfl ?_
    refine gl_op (r_nil rfl) rfl ?_
    refine gl_op (r_fieldAddr of120_1 rfl) rfl ?_
    refine gl_op (r_load1 (v := .slice _ _ _) ld117 rfl (by assumption) (by first | rfl | assumption)) rfl ?_
    refine gl_op (r_mvI rfl) rfl ?_
    refine gl_op (r_indexAddr (j := q.2) (b := b) (o := o) Tryz.underlying117 sz211 (by rw [← eA]; rfl) rfl (hok.idx q hmem)) rfl ?_
    refine gl_op (r_load1 (v := fPtr x) ld211 rfl hb hc) rfl ?_
    refine gl_op (r_nil rfl) rfl ?_
    refine gl_op (r_fieldAddr of216_1 rfl) rfl ?_
    refine gl_op (r_load1 (v := .string _) ld9 rfl (by assumption) (by first | rfl | assumption)) rfl ?_
    refine gl_op (r_lenS Tryz.underlying9 rfl) rfl ?_
    refine gl_op (r_add rfl rfl (wI64 (by omega) (by omega))) rfl ?_
    refine gl_op (r_asI rfl) rfl ?_
    refine gl_nil ?_
    refine g_inBlock ?_
    exact ih (dn ++ [q], some q) _ _ (by show st.names.length - (dn ++ [q]).length < st.names.length - dn.length; rw [List.length_append] at hle ⊢; simp only [List.length_singleton] at hle ⊢; omega) ⟨rfl, by rw [dUsed_append, e1, hfn]; rfl, rfl, trivial⟩ ⟨hit2, ⟨hd, hr⟩, hpu⟩
end Go.GW
namespace Go.GW
open Go.RowKit Go.Proofs
/-- all files but number i -/
structure FilesBut (w : World) (base : Nat) (xs : List FP) (fs : List FileSt) (i : Nat) (x : FP) : Prop where
  len : xs.length = fs.length
  hx : xs[i]? = some x
  each : ∀ (j : Nat) y f, j ≠ i → xs[j]? = some y → fs[j]? = some f → FileAt w base y f
  apart : ∀ (i j : Nat) x y, i ≠ j → xs[i]? = some x → xs[j]? = some y → x.b ≠ y.b ∧ ∀ a b, x.A = some a → y.A = some b → a.block ≠ b.block
section
variable {w w' : World} {base : Nat} {xs : List FP} {fs : List FileSt} {i : Nat} {x : FP}
theorem FilesAt.but (h : FilesAt w base xs fs) (hx : xs[i]? = some x) : FilesBut w base xs fs i x := ⟨h.len, hx, fun j y f _ hy hf => h.each j y f hy hf, h.apart⟩
theorem FilesBut.kp (h : FilesBut w base xs fs i x) (k : Kp (fun T => Nat.beq T 216 || Nat.beq T 233) w w') : FilesBut w' base xs fs i x :=
  ⟨h.len, h.hx, fun j y f hj hy hf => (h.each j y f hj hy hf).dk k.dk rfl rfl, h.apart⟩
theorem FilesBut.st (h : FilesBut w base xs fs i x) (s : St x.b w w') (hb : ∃ cs fr, w.heap[x.b]? = some (.cells cs 216 fr)) : FilesBut w' base xs fs i x := by
  obtain ⟨cs, fr, hb⟩ := hb
  refine ⟨h.len, h.hx, fun j y f hj hy hf => ?_, h.apart⟩
  obtain ⟨h1, h2, h3⟩ := h.each j y f hj hy hf
  exact ⟨h1, s.blk h2 (h.apart j i y x hj hy h.hx).1, h3.stT s hb rfl⟩
theorem FilesBut.gr {n c b0 : Nat} {ys : List Value} (h : FilesBut w base xs fs i x) (g : Grow x.A w w') (hr : Row w b0 233 2 x.A n c ys) : FilesBut w' base xs fs i x := by
  refine ⟨h.len, h.hx, fun j y f hj hy hf => ?_, h.apart⟩
  obtain ⟨h1, h2, h3⟩ := h.each j y f hj hy hf
  exact ⟨h1, g.dkT hr _ _ _ _ rfl h2, h3.own g fun a b ha hb => (h.apart j i y x hj hy h.hx).2 a b ha hb⟩
theorem FilesBut.set {x' : FP} {f' : FileSt} (h : FilesBut w base xs fs i x) (hf : FileAt w base x' f') (hb : x'.b = x.b)
    (hA : ∀ a, x'.A = some a → (∃ a0, x.A = some a0 ∧ a.block = a0.block) ∨ (∀ (j : Nat) y b, j ≠ i → xs[j]? = some y → y.A = some b → b.block ≠ a.block)) : FilesAt w base (xs.set i x') (fs.set i f') := by
  have hlen := h.len
  have hi := (List.getElem?_eq_some_iff.1 h.hx).1
  have hap : ∀ (j : Nat) y, j ≠ i → xs[j]? = some y → x'.b ≠ y.b ∧ ∀ a b, x'.A = some a → y.A = some b → a.block ≠ b.block := fun j y hj hy => by
    refine ⟨by rw [hb]; exact (h.apart i j x y (Ne.symm hj) h.hx hy).1, fun a b ha hyb => ?_⟩
    rcases hA a ha with ⟨a0, h1, h2⟩ | h1
    · rw [h2]; exact (h.apart i j x y (Ne.symm hj) h.hx hy).2 a0 b h1 hyb
    · exact (h1 j y b hj hy hyb).symm
  refine ⟨by simp [hlen], fun j y f hy hf2 => ?_, fun j k y z hjk hy hz => ?_⟩
  · by_cases hj : j = i
    · subst hj
      rw [List.getElem?_set_self (by omega)] at hy hf2
      injection hy with hy; injection hf2 with hf2
      subst hy; subst hf2; exact hf
    · rw [List.getElem?_set_ne (Ne.symm hj)] at hy hf2
      exact h.each j y f hj hy hf2
  · by_cases hj : j = i
    · subst hj
      rw [List.getElem?_set_self (by omega)] at hy
      injection hy with hy; subst hy
      rw [List.getElem?_set_ne hjk] at hz
      exact hap k z (Ne.symm hjk) hz
    · rw [List.getElem?_set_ne (Ne.symm hj)] at hy
      by_cases hk : k = i
      · subst hk
        rw [List.getElem?_set_self (by omega)] at hz
        injection hz with hz; subst hz
        exact ⟨(hap j y hj hy).1.symm, fun a b ha hb => ((hap j y hj hy).2 b a hb ha).symm⟩
      · rw [List.getElem?_set_ne (Ne.symm hk)] at hz
        exact h.apart j k y z hjk hy hz
end
theorem fPtr_set {xs : List FP} {i : Nat} {x x' : FP} (hx : xs[i]? = some x) (hb : x'.b = x.b) : (xs.set i x').map fPtr = xs.map fPtr := by
  rw [List.map_set]
  apply List.ext_getElem?
  intro j
  by_cases hj : i = j
  · subst hj
    have hi := (List.getElem?_eq_some_iff.1 hx).1
    rw [List.getElem?_set_self (by simpa using hi), List.getElem?_map, hx]
    simp [fPtr, hb]
  · rw [List.getElem?_set_ne hj]
def dSetFile (st : DiskSt) (i : Nat) (f : FileSt) : DiskSt := { st with files := st.files.set i f, lim := st.lim + 1 }
def fAt (st : DiskSt) (i : Nat) : FileSt := st.files.getD i ⟨[], [], []⟩
/-- what Append makes of a file -/
def fPut (f : FileSt) (s : Bs) : FileSt := ⟨f.base, f.now ++ s, f.ch ++ [(s, -1)]⟩
def dAppend (st : DiskSt) (name s : Bs) : Int × DiskSt := match (dFind st name).2.1 with
  | none => ((dFind st name).1, (dFind st name).2.2)
  | some i => if st.room - dUsed st.files st.names < s.length then (9, (dFind st name).2.2) else if st.fail = 1 then (10, (dFails (dFind st name).2.2).2)
    else (0, dSetFile (dFails (dFind st name).2.2).2 i (fPut (fAt st i) s))
theorem dFind_some {st : DiskSt} {name : Bs} {i : Nat} (h : (dFind st name).2.1 = some i) : kvGet st.names name = some i := by
  unfold dFind at h
  split at h
  · cases h
  · split at h
    · cases h
    · rename_i j hj; injection h with h; subst h; exact hj
theorem dAppend_ok (st : DiskSt) (hok : DiskOk st) (hlim : st.lim < 1099511627776) (name s : Bs) (hs : s.length < 9223372036854775807) (base bd bn : Nat) (w : World) (hd : DiskAt w base bd bn st) :
    Fn Tryz.prog 135 #[.pointer (some ⟨bd, 0, none⟩), .string (str name), .string (str s)] w (fun v w' => v = .int .i64 (dAppend st name s).1 ∧ DiskAt w' base bd bn (dAppend st name s).2 ∧ Mv dkM base bn w w') := by
  obtain ⟨p, rfl, rfl, rfl, hd⟩ := hd
  have hm : Mv dkM p.base p.bn w w := Mv.refl
  have hok1 := dFind_okS hok name
  have hsome : ∀ i, (dFind st name).2.1 = some i → kvGet st.names name = some i := fun i => dFind_some
  obtain ⟨q1, q2, q3, q4, q5, q6, q7⟩ := dFind_files st name
  unfold dAppend
  refine fn_of (args := [.pointer (some ⟨p.bd, 0, none⟩), .string (str name), .string (str s)]) Tryz.func135 (by kernel_rfl) rfl Tryz.ntmps135 rfl ?_
  have z_hm := hm.size
  refine g_seq ?_
  refine g_region ?_
  refine gl_op (r_asI rfl) rfl ?_
  refine gl_nil ?_
  refine g_seq ?_
  refine g_region ?_
  refine gl_op (r_mvP rfl) rfl ?_
  refine gl_op (r_mvS rfl) rfl ?_
  refine gl_call (dFind_ok st hok name p w hd) rfl rfl ?_
  rintro _ w1 ⟨⟨pv, rfl, hv⟩, hd, s1⟩
  have z1 := s1.size
  replace hm := hm.trans s1
  generalize dFind st name = r at *
  obtain ⟨e, o, st1⟩ := r
  dsimp only at hv hd hok1 hsome q1 q2 q3 q4 q5 q6 q7 ⊢
  have hfl := hok1.fl
  have hml := hok1.ml
  have hcl := hok1.cl
  have hus := hok1.used
  have hroom := hok1.room
  rw [q6] at hfl hml
  refine gl_op (r_mvT rfl) rfl ?_
  refine gl_op (r_extract rfl rfl) rfl ?_
  refine gl_op (r_extract rfl rfl) rfl ?_
  refine gl_op (r_asP rfl) rfl ?_
  refine gl_op (r_asI rfl) rfl ?_
  refine gl_nil ?_
  refine g_seq ?_
  refine g_block ?_
  refine g_seq ?_
  refine g_region ?_
  refine gl_op (r_mvI rfl) rfl ?_
  refine gl_op (r_ne rfl rfl) rfl ?_
  refine gl_op (r_asB rfl) rfl ?_
  refine gl_nil ?_
  cases o with
  | none =>
    obtain ⟨rfl, hne⟩ := hv
    refine g_condT (bT hne) ?_
    refine g_seq ?_
    refine g_region ?_
    refine gl_op (r_mvI rfl) rfl ?_
    refine gl_op (r_asI rfl) rfl ?_
    refine gl_nil ?_
    refine g_ret Tryz.func135 (res1 rfl) ?_
    exact ⟨rfl, ⟨p, rfl, rfl, rfl, hd⟩, hm⟩
  | some i =>
    obtain ⟨he, x, hx, rfl⟩ := hv
    subst he
    have hkv := kvGet_mem (hsome i rfl)
    have hidx := hok.idx _ hkv
    dsimp only
    have hdd := hd
    obtain ⟨hd, hr⟩ := hd
    have z_hm := hm.size
    have l_hd := blk_lt hd
    refine g_condF (rfl) ?_
    refine g_seq ?_
    refine gd_draw 999 mixed ?_
    intro w2 s2 _
    have z2 := s2.size
    replace hm := hm.thenPu s2
    replace hd := s2.blk hd
    replace hr := hr.kp s2.kp
    have dp2 : Pu w2 w2 := Pu.refl
    have z_dp2 := dp2.size
    have d_hd := hd
    refine gd_take 0 rfl (by decide +kernel) rfl (.inr dp2) (fun _ => (r_mvS rfl)) rfl ?_
    refine gd_take 1 rfl (by decide +kernel) rfl (.inr dp2) (fun _ => (r_lenS Tryz.underlying9 rfl)) rfl ?_
    refine gd_take 2 rfl (by decide +kernel) rfl (.inr dp2) (fun _ => (r_mvP rfl)) rfl ?_
    refine gd_take 3 rfl (by decide +kernel) rfl (.inr dp2) (fun _ => (r_nil rfl)) rfl ?_
    refine gd_take 4 rfl (by decide +kernel) rfl (.inr dp2) (fun _ => (r_fieldAddr of120_0 rfl)) rfl ?_
    refine gd_look 5 rfl (by decide +kernel) rfl dp2 (fun _ hS => (r_load1 (v := .int _ _) ld3 rfl (hS.blk (by assumption)) (by first | rfl | assumption))) rfl ?_
    refine gd_take 6 rfl (by decide +kernel) rfl (.inr dp2) (fun _ => (r_mvP rfl)) rfl ?_
    refine gd_only 7 rfl (by decide +kernel) rfl ?_
    refine gl_call (dUsed_ok st1 hok1 p _ ⟨hd, hr⟩) rfl rfl ?_
    rintro _ w3 ⟨rfl, s3⟩
    have z3 := s3.size
    replace hm := hm.thenPu s3
    replace hd := s3.blk hd
    replace hr := hr.kp s3.kp
    replace dp2 := dp2.trans s3
    have hsub : IntKind.i64.wrap ((st1.room : Int) - (dUsed st1.files st1.names : Int)) = ((st1.room - dUsed st1.files st1.names : Nat) : Int) := by rw [wI64 (by omega) (by omega)]; omega
    refine gl_nil ⟨.inr dp2, ?_⟩
    refine gd_take 8 rfl (by decide +kernel) rfl (.inr dp2) (fun _ => (r_sub rfl rfl hsub)) rfl ?_
    refine gd_take 9 rfl (by decide +kernel) rfl (.inr dp2) (fun _ => (r_gt rfl rfl)) rfl ?_
    refine gd_take 10 rfl (by decide +kernel) rfl (.inr dp2) (fun _ => (r_asB rfl)) rfl ?_
    refine gd_done (by decide +kernel) ?_
    rw [q5, q1, q2]
    rw [q1, q2] at hus
    rw [q5] at hus hroom
    by_cases h9 : st.room - dUsed st.files st.names < s.length
    · skip
      rw [if_pos h9]
      refine g_condT (bT (by omega)) ?_
      refine g_seq ?_
      refine g_region ?_
      refine gl_op (r_asI rfl) rfl ?_
      refine gl_nil ?_
      refine g_ret Tryz.func135 (res1 rfl) ?_
      exact ⟨rfl, ⟨p, rfl, rfl, rfl, ⟨hd, hr⟩⟩, hm⟩
    · rw [if_neg h9]
      refine g_condF (bF (by omega)) ?_
      have z_hm := hm.size
      refine g_seq ?_
      refine g_region ?_
      refine gl_op (r_mvP rfl) rfl ?_
      refine gl_call (dFails_ok st1 hok1 p _ ⟨hd, hr⟩) rfl rfl ?_
      rintro _ w4 ⟨rfl, hd, s4⟩
      have z4 := s4.size
      replace hm := hm.trans s4
      have hfe : (dFails st1).1 = decide (st.fail = 1) := by unfold dFails; rw [q7]
      rw [hfe]
      refine gl_op (r_asB rfl) rfl ?_
      refine gl_nil ?_
      by_cases h10 : st.fail = 1
      · skip
        rw [if_pos h10]
        refine g_condT (bT h10) ?_
        refine g_seq ?_
        refine g_region ?_
        refine gl_op (r_asI rfl) rfl ?_
        refine gl_nil ?_
        refine g_ret Tryz.func135 (res1 rfl) ?_
        exact ⟨rfl, ⟨p, rfl, rfl, rfl, hd⟩, hm⟩
      · rw [if_neg h10]
        refine g_condF (bF h10) ?_
        obtain ⟨hd, hr⟩ := hd
        have hfs := hr.files
        have hrow := hr.row
        have hmv := hr.moves
        have hnmm := hr.names
        have hbs := hr.bases
        have hbb := hr.bbl
        have hbd := hr.bdl
        have hbn := hr.bnl
        have hne := hr.ne
        have hff : (dFails st1).2.files = st.files := q1
        rw [hff] at hfs hrow
        obtain ⟨f, hf⟩ : ∃ f, st.files[i]? = some f := ⟨_, List.getElem?_eq_getElem hidx⟩
        have hfat : fAt st i = f := by unfold fAt; rw [List.getD_eq_getElem?_getD, hf]; rfl
        obtain ⟨flo, hfb, hfr⟩ := hfs.each i x f hx hf
        have hbut := hfs.but hx
        have hfm : f ∈ st1.files := by rw [q1]; exact List.mem_of_getElem? hf
        have hcl1 := hcl f hfm
        rw [q6] at hcl1
        have hnow : f.now.length ≤ dUsed st.files st.names := by
          have := fNow_le (fs := st.files) hkv
          unfold fNow at this
          dsimp only at this
          rw [hf] at this
          exact this
        have hal : ∀ (j : Nat) y b, j ≠ i → p.xs[j]? = some y → y.A = some b → b.block < w4.heap.size := fun j y b hj hy hb => by
          obtain ⟨g, hg⟩ : ∃ g, st.files[j]? = some g := ⟨_, List.getElem?_eq_getElem (by have := (List.getElem?_eq_some_iff.1 hy).1; have := hfs.len; omega)⟩
          exact (hfs.each j y g hy hg).row.lt b hb
        have l_hd := blk_lt hd
        have l_hfb := blk_lt hfb
        have hrow_lt := hrow.lt
        have hfr_lt := hfr.lt
        have hmv_lt := hmv.lt
        have z_hm := hm.size
        refine g_skip ?_
        refine g_inBlock ?_
        refine g_seq ?_
        refine g_region ?_
        refine gl_op (r_mvP rfl) rfl ?_
        refine gl_op (r_nil rfl) rfl ?_
        refine gl_op (r_fieldAddr of216_1 rfl) rfl ?_
        refine gl_op (r_load1 (v := .string _) ld9 rfl (by assumption) (by first | rfl | assumption)) rfl ?_
        refine gl_op (r_mvS rfl) rfl ?_
        refine gl_op (r_sadd rfl rfl (by omega)) rfl ?_
        refine gl_op (r_nil rfl) rfl ?_
        refine gl_op (r_fieldAddr of216_1 rfl) rfl ?_
        have old5 := hfb
        refine gl_store (u := .string _) (vs := [.string _]) sz9 rfl rfl rfl rfl rfl hfb rfl ?_
        intro w5 hfb st5
        have z5 := st5.size
        replace hd := st5.blk hd (by first | omega | exact blkNe hd old5 (by decide))
        replace hbut := (by first | exact hbut.kp (st5.kp old5 rfl) | exact hbut.st st5 ⟨_, _, old5⟩)
        replace hnmm := hnmm.kp (st5.kp (D := fun _ => false) old5 rfl)
        replace hbs := hbs.kp (st5.kp (D := fun _ => false) old5 rfl)
        replace hrow := hrow.st st5 (fun ad e => by first | (have h1 := hrow.base ad e; have h2 := hrow_lt ad e; omega) | exact hrow.ne old5 (by decide) ad e)
        replace hfr := hfr.st st5 (fun ad e => by first | (have h1 := hfr.base ad e; have h2 := hfr_lt ad e; omega) | exact hfr.ne old5 (by decide) ad e)
        replace hmv := hmv.st st5 (fun ad e => by first | (have h1 := hmv.base ad e; have h2 := hmv_lt ad e; omega) | exact hmv.ne old5 (by decide) ad e)
        replace hm := (by first | exact hm.stNew st5 (by omega) | exact hm.st st5 old5 rfl (by omega) | exact hm.stMap st5 old5 (by omega))
        refine gl_nil ?_
        refine g_seq ?_
        refine g_region ?_
        refine gl_op (r_mvP rfl) rfl ?_
        refine gl_op (r_mvP rfl) rfl ?_
        refine gl_op (r_nil rfl) rfl ?_
        refine gl_op (r_fieldAddr of216_2 rfl) rfl ?_
        refine gl_op (r_load1 (v := .slice _ _ _) ld214 rfl (by assumption) (by first | rfl | assumption)) rfl ?_
        refine gl_op (r_mvS rfl) rfl ?_
        refine gl_op (r_build (cs := #[.string _, .int _ _]) pl233 rfl) rfl ?_
        refine gl_slice1 (v := .agg #[.string _, .int _ _]) (vs := [.string _, .int _ _]) Tryz.underlying214 sz233 ze233 rfl rfl rfl rfl rfl rfl rfl ?_
        intro b_h48 w6 h48 e_h48 s6 sl_h48
        have z6 := s6.size
        replace hd := s6.blk hd
        replace hfb := s6.blk hfb
        replace hbut := hbut.kp s6.kp
        replace hnmm := hnmm.pu s6
        replace hbs := hbs.pu s6
        replace hrow := hrow.pu s6
        replace hfr := hfr.pu s6
        replace hmv := hmv.pu s6
        replace hm := hm.thenPu s6
        have l_h48 := blk_lt h48
        have old7 := hfr
        refine gl_append2 Tryz.underlying214 sz233 ze233 by233 rfl rfl rfl hfr rfl (sl_h48) (allOne rfl) (by omega) (by omega) (by omega) rfl ?_
        have hfr_bs := hfr.base
        have hfr_lo := hfr_lt
        intro A_hfr c_hfr w7 hfr g7 at_hfr
        have z7 := g7.size
        replace hd := g7.blk hd (fun ad e => by first | (have h1 := hfr_bs ad e; have h2 := hfr_lo ad e; omega) | exact (old7.ne hd (by decide) ad e).symm)
        replace hfb := g7.blk hfb (fun ad e => by first | (have h1 := hfr_bs ad e; have h2 := hfr_lo ad e; omega) | exact (old7.ne hfb (by decide) ad e).symm)
        replace hbut := (by first | exact hbut.kp (g7.kp old7 rfl) | exact hbut.gr g7 old7)
        replace hnmm := hnmm.kp (g7.kp (D := fun _ => false) old7 rfl)
        replace hbs := hbs.kp (g7.kp (D := fun _ => false) old7 rfl)
        replace hrow := hrow.dk (g7.dkT old7) rfl
        replace hmv := hmv.dk (g7.dkT old7) rfl
        replace hm := (by first | exact hm.grNew g7 (fun ad e => by have h1 := hfr_bs ad e; omega) | exact hm.gr g7 old7 rfl (fun ad e => by have h1 := hfr_bs ad e; omega))
        replace h48 := g7.blk h48 (fun ad e => by first | (have h1 := hfr_bs ad e; have h2 := hfr_lo ad e; omega) | exact (old7.ne h48 (by decide) ad e).symm)
        have hfr_lt := hfr.lt
        refine gl_op (r_nil rfl) rfl ?_
        refine gl_op (r_fieldAddr of216_2 rfl) rfl ?_
        have old8 := hfb
        refine gl_store (u := .slice _ _ _) (vs := [.slice _ _ _]) sz214 rfl rfl rfl rfl rfl hfb rfl ?_
        intro w8 hfb st8
        have z8 := st8.size
        replace hd := st8.blk hd (by first | omega | exact blkNe hd old8 (by decide))
        replace hbut := (by first | exact hbut.kp (st8.kp old8 rfl) | exact hbut.st st8 ⟨_, _, old8⟩)
        replace hnmm := hnmm.kp (st8.kp (D := fun _ => false) old8 rfl)
        replace hbs := hbs.kp (st8.kp (D := fun _ => false) old8 rfl)
        replace hrow := hrow.st st8 (fun ad e => by first | (have h1 := hrow.base ad e; have h2 := hrow_lt ad e; omega) | exact hrow.ne old8 (by decide) ad e)
        replace hmv := hmv.st st8 (fun ad e => by first | (have h1 := hmv.base ad e; have h2 := hmv_lt ad e; omega) | exact hmv.ne old8 (by decide) ad e)
        replace hm := (by first | exact hm.stNew st8 (by omega) | exact hm.st st8 old8 rfl (by omega) | exact hm.stMap st8 old8 (by omega))
        replace h48 := st8.blk h48 (by first | omega | exact blkNe h48 old8 (by decide))
        replace hfr := hfr.st st8 (fun ad e => by first | (have h1 := hfr.base ad e; have h2 := hfr_lt ad e; omega) | exact hfr.ne old8 (by decide) ad e)
        refine gl_nil ?_
        refine g_seq ?_
        refine g_region ?_
        refine gl_op (r_asI rfl) rfl ?_
        refine gl_nil ?_
        refine g_ret Tryz.func135 (res1 rfl) ?_
        have hl2 : (st.files.set i (fPut f s)).length = st.files.length := List.length_set
        have hrw : (fPut f s).ch = f.ch ++ [(s, -1)] := rfl
        have hfs2 : FilesAt _ p.base (p.xs.set i ⟨x.b, A_hfr, c_hfr⟩) (st.files.set i (fPut f s)) := hbut.set (x' := ⟨x.b, A_hfr, c_hfr⟩) ⟨flo, by rw [hrw, List.length_append]; exact hfb, by rw [hrw, List.length_append, List.flatMap_append, List.flatMap_singleton]; exact hfr⟩ rfl (fun a ha => by
          rcases at_hfr a ha with h | h
          · exact .inl h
          · exact .inr fun j y b hj hy hb => by have := hal j y b hj hy hb; omega)
        refine ⟨rfl, ⟨{ p with xs := p.xs.set i ⟨x.b, A_hfr, c_hfr⟩ }, rfl, rfl, rfl, ⟨?_, ?_⟩⟩, hm⟩
        · unfold dCells dSetFile
          rw [hfat]
          dsimp only
          rw [hff, hl2]
          rw [← hff]
          exact hd
        · show DRest _ _ ((dFails st1).2.files.set i (fPut (fAt st i) s)) _ _ _
          rw [hff, hfat]
          exact ⟨hbd, hbn, hbb, hne, hfs2, by rw [hl2, fPtr_set (x' := ⟨x.b, A_hfr, c_hfr⟩) hx rfl]; exact hrow, hnmm, hbs, hmv⟩
end Go.GW
namespace Go.GW
open Go.RowKit Go.Proofs
def dSync (st : DiskSt) (name : Bs) : Int × DiskSt := match (dFind st name).2.1 with
  | none => ((dFind st name).1, (dFind st name).2.2)
  | some i => if st.fail = 1 then (10, (dFails (dFind st name).2.2).2)
    else (0, dSetFile (dFails (dFind st name).2.2).2 i ⟨(fAt st i).now, (fAt st i).now, []⟩)
theorem dSync_ok (st : DiskSt) (hok : DiskOk st) (name : Bs) (base bd bn : Nat) (w : World) (hd : DiskAt w base bd bn st) :
    Fn Tryz.prog 82 #[.pointer (some ⟨bd, 0, none⟩), .string (str name)] w (fun v w' => v = .int .i64 (dSync st name).1 ∧ DiskAt w' base bd bn (dSync st name).2 ∧ Mv dkM base bn w w') := by
  obtain ⟨p, rfl, rfl, rfl, hd⟩ := hd
  have hm : Mv dkM p.base p.bn w w := Mv.refl
  have hok1 := dFind_okS hok name
  have hsome : ∀ i, (dFind st name).2.1 = some i → kvGet st.names name = some i := fun i => dFind_some
  obtain ⟨q1, q2, q3, q4, q5, q6, q7⟩ := dFind_files st name
  unfold dSync
  refine fn_of (args := [.pointer (some ⟨p.bd, 0, none⟩), .string (str name)]) Tryz.func82 (by kernel_rfl) rfl Tryz.ntmps82 rfl ?_
  have z_hm := hm.size
  refine g_seq ?_
  refine g_region ?_
  refine gl_op (r_asI rfl) rfl ?_
  refine gl_nil ?_
  refine g_seq ?_
  refine g_region ?_
  refine gl_op (r_mvP rfl) rfl ?_
  refine gl_op (r_mvS rfl) rfl ?_
  refine gl_call (dFind_ok st hok name p w hd) rfl rfl ?_
  rintro _ w1 ⟨⟨pv, rfl, hv⟩, hd, s1⟩
  have z1 := s1.size
  replace hm := hm.trans s1
  generalize dFind st name = r at *
  obtain ⟨e, o, st1⟩ := r
  dsimp only at hv hd hok1 hsome q1 q2 q3 q4 q5 q6 q7 ⊢
  refine gl_op (r_mvT rfl) rfl ?_
  refine gl_op (r_extract rfl rfl) rfl ?_
  refine gl_op (r_extract rfl rfl) rfl ?_
  refine gl_op (r_asP rfl) rfl ?_
  refine gl_op (r_asI rfl) rfl ?_
  refine gl_nil ?_
  refine g_seq ?_
  refine g_block ?_
  refine g_seq ?_
  refine g_region ?_
  refine gl_op (r_mvI rfl) rfl ?_
  refine gl_op (r_ne rfl rfl) rfl ?_
  refine gl_op (r_asB rfl) rfl ?_
  refine gl_nil ?_
  cases o with
  | none =>
    obtain ⟨rfl, hne⟩ := hv
    refine g_condT (bT hne) ?_
    refine g_seq ?_
    refine g_region ?_
    refine gl_op (r_mvI rfl) rfl ?_
    refine gl_op (r_asI rfl) rfl ?_
    refine gl_nil ?_
    refine g_ret Tryz.func82 (res1 rfl) ?_
    exact ⟨rfl, ⟨p, rfl, rfl, rfl, hd⟩, hm⟩
  | some i =>
    obtain ⟨he, x, hx, rfl⟩ := hv
    subst he
    have hkv := kvGet_mem (hsome i rfl)
    have hidx := hok.idx _ hkv
    dsimp only
    refine g_condF (rfl) ?_
    refine g_seq ?_
    refine g_region ?_
    refine gl_op (r_mvP rfl) rfl ?_
    refine gl_call (dFails_ok st1 hok1 p _ hd) rfl rfl ?_
    rintro _ w2 ⟨rfl, hd, s2⟩
    have z2 := s2.size
    replace hm := hm.trans s2
    have hfe : (dFails st1).1 = decide (st.fail = 1) := by unfold dFails; rw [q7]
    rw [hfe]
    refine gl_op (r_asB rfl) rfl ?_
    refine gl_nil ?_
    by_cases h10 : st.fail = 1
    · skip
      rw [if_pos h10]
      refine g_condT (bT h10) ?_
      refine g_seq ?_
      refine g_region ?_
      refine gl_op (r_asI rfl) rfl ?_
      refine gl_nil ?_
      refine g_ret Tryz.func82 (res1 rfl) ?_
      exact ⟨rfl, ⟨p, rfl, rfl, rfl, hd⟩, hm⟩
    · rw [if_neg h10]
      refine g_condF (bF h10) ?_
      obtain ⟨hd, hr⟩ := hd
      have hfs := hr.files
      have hrow := hr.row
      have hmv := hr.moves
      have hnmm := hr.names
      have hbs := hr.bases
      have hbb := hr.bbl
      have hbd := hr.bdl
      have hbn := hr.bnl
      have hne := hr.ne
      have hff : (dFails st1).2.files = st.files := q1
      rw [hff] at hfs hrow
      obtain ⟨f, hf⟩ : ∃ f, st.files[i]? = some f := ⟨_, List.getElem?_eq_getElem hidx⟩
      have hfat : fAt st i = f := by unfold fAt; rw [List.getD_eq_getElem?_getD, hf]; rfl
      obtain ⟨flo, hfb, hfr⟩ := hfs.each i x f hx hf
      have hbut := hfs.but hx
      have l_hd := blk_lt hd
      have l_hfb := blk_lt hfb
      have hrow_lt := hrow.lt
      have hmv_lt := hmv.lt
      have z_hm := hm.size
      refine g_skip ?_
      refine g_inBlock ?_
      refine g_seq ?_
      refine g_region ?_
      refine gl_op (r_mvP rfl) rfl ?_
      refine gl_op (r_mvP rfl) rfl ?_
      refine gl_op (r_mvP rfl) rfl ?_
      refine gl_op (r_nil rfl) rfl ?_
      refine gl_op (r_fieldAddr of216_1 rfl) rfl ?_
      refine gl_op (r_load1 (v := .string _) ld9 rfl (by assumption) (by first | rfl | assumption)) rfl ?_
      refine gl_op (r_nil rfl) rfl ?_
      refine gl_op (r_fieldAddr of216_0 rfl) rfl ?_
      have old3 := hfb
      refine gl_store (u := .string _) (vs := [.string _]) sz9 rfl rfl rfl rfl rfl hfb rfl ?_
      intro w3 hfb st3
      have z3 := st3.size
      replace hd := st3.blk hd (by first | omega | exact blkNe hd old3 (by decide))
      replace hbut := (by first | exact hbut.kp (st3.kp old3 rfl) | exact hbut.st st3 ⟨_, _, old3⟩)
      replace hnmm := hnmm.kp (st3.kp (D := fun _ => false) old3 rfl)
      replace hbs := hbs.kp (st3.kp (D := fun _ => false) old3 rfl)
      replace hrow := hrow.st st3 (fun ad e => by first | (have h1 := hrow.base ad e; have h2 := hrow_lt ad e; omega) | exact hrow.ne old3 (by decide) ad e)
      replace hmv := hmv.st st3 (fun ad e => by first | (have h1 := hmv.base ad e; have h2 := hmv_lt ad e; omega) | exact hmv.ne old3 (by decide) ad e)
      replace hm := (by first | exact hm.stNew st3 (by omega) | exact hm.st st3 old3 rfl (by omega) | exact hm.stMap st3 old3 (by omega))
      refine gl_op (r_nil rfl) rfl ?_
      refine gl_op (r_fieldAddr of216_2 rfl) rfl ?_
      have old4 := hfb
      refine gl_store (u := .slice _ _ _) (vs := [.slice _ _ _]) sz214 rfl rfl rfl rfl rfl hfb rfl ?_
      intro w4 hfb st4
      have z4 := st4.size
      replace hd := st4.blk hd (by first | omega | exact blkNe hd old4 (by decide))
      replace hbut := (by first | exact hbut.kp (st4.kp old4 rfl) | exact hbut.st st4 ⟨_, _, old4⟩)
      replace hnmm := hnmm.kp (st4.kp (D := fun _ => false) old4 rfl)
      replace hbs := hbs.kp (st4.kp (D := fun _ => false) old4 rfl)
      replace hrow := hrow.st st4 (fun ad e => by first | (have h1 := hrow.base ad e; have h2 := hrow_lt ad e; omega) | exact hrow.ne old4 (by decide) ad e)
      replace hmv := hmv.st st4 (fun ad e => by first | (have h1 := hmv.base ad e; have h2 := hmv_lt ad e; omega) | exact hmv.ne old4 (by decide) ad e)
      replace hm := (by first | exact hm.stNew st4 (by omega) | exact hm.st st4 old4 rfl (by omega) | exact hm.stMap st4 old4 (by omega))
      refine gl_nil ?_
      refine g_seq ?_
      refine g_region ?_
      refine gl_op (r_asI rfl) rfl ?_
      refine gl_nil ?_
      refine g_ret Tryz.func82 (res1 rfl) ?_
      have hl2 : (st.files.set i (⟨f.now, f.now, []⟩ : FileSt)).length = st.files.length := List.length_set
      have hfs2 : FilesAt _ p.base (p.xs.set i ⟨x.b, none, 0⟩) (st.files.set i ⟨f.now, f.now, []⟩) := hbut.set (x' := ⟨x.b, none, 0⟩) ⟨flo, hfb, Row.nil⟩ rfl (fun a ha => by cases ha)
      refine ⟨rfl, ⟨{ p with xs := p.xs.set i ⟨x.b, none, 0⟩ }, rfl, rfl, rfl, ⟨?_, ?_⟩⟩, hm⟩
      · unfold dCells dSetFile
        rw [hfat]
        dsimp only
        rw [hff, hl2]
        rw [← hff]
        exact hd
      · show DRest _ _ ((dFails st1).2.files.set i (⟨(fAt st i).now, (fAt st i).now, []⟩ : FileSt)) _ _ _
        rw [hff, hfat]
        exact ⟨hbd, hbn, hbb, hne, hfs2, by rw [hl2, fPtr_set (x' := ⟨x.b, none, 0⟩) hx rfl]; exact hrow, hnmm, hbs, hmv⟩
def dRead (st : DiskSt) (name : Bs) : Bs × Int := if st.left = 0 then ([], 11) else match kvGet st.names name with
  | none => ([], 5)
  | some i => ((fAt st i).now, 0)
theorem dRead_ok (st : DiskSt) (hok : DiskOk st) (name : Bs) (base bd bn : Nat) (w : World) (hd : DiskAt w base bd bn st) :
    Fn Tryz.prog 92 #[.pointer (some ⟨bd, 0, none⟩), .string (str name)] w (fun v w' => v = .tuple #[.string (str (dRead st name).1), .int .i64 (dRead st name).2] ∧ w' = w) := by
  obtain ⟨p, rfl, rfl, rfl, hd⟩ := hd
  obtain ⟨hd, hr⟩ := hd
  unfold dRead
  refine fn_of (args := [.pointer (some ⟨p.bd, 0, none⟩), .string (str name)]) Tryz.func92 (by kernel_rfl) rfl Tryz.ntmps92 rfl ?_
  have l_hd := blk_lt hd
  refine g_seq ?_
  refine g_region ?_
  refine gl_op (r_asS rfl) rfl ?_
  refine gl_op (r_asI rfl) rfl ?_
  refine gl_nil ?_
  refine g_seq ?_
  refine g_region ?_
  refine gl_op (r_mvP rfl) rfl ?_
  refine gl_op (r_nil rfl) rfl ?_
  refine gl_op (r_fieldAddr of120_2 rfl) rfl ?_
  refine gl_op (r_load1 (v := .map _) ld116 rfl (by assumption) (by first | rfl | assumption)) rfl ?_
  refine gl_op (r_mvS rfl) rfl ?_
  refine gl_op (r_lookup2 (k := name) Tryz.underlying116 (keysStr Tryz.underlying9) ze3 rfl rfl hr.names) rfl ?_
  have hlk : (Option.map iEnc (kvGet st.names name)).getD (.int .i64 0) = .int .i64 (((kvGet st.names name).getD 0 : Nat) : Int) := by cases kvGet st.names name <;> rfl
  rw [hlk]
  clear hlk
  refine gl_op (r_mvT rfl) rfl ?_
  refine gl_op (r_extract rfl rfl) rfl ?_
  refine gl_op (r_extract rfl rfl) rfl ?_
  refine gl_op (r_asI rfl) rfl ?_
  refine gl_op (r_asB rfl) rfl ?_
  refine gl_nil ?_
  refine g_seq ?_
  refine g_block ?_
  refine g_seq ?_
  refine g_region ?_
  refine gl_op (r_mvP rfl) rfl ?_
  refine gl_op (r_nil rfl) rfl ?_
  refine gl_op (r_fieldAddr of120_7 rfl) rfl ?_
  refine gl_op (r_load1 (v := .int _ _) ld3 rfl (by assumption) (by first | rfl | assumption)) rfl ?_
  refine gl_op (r_eq rfl rfl) rfl ?_
  refine gl_op (r_asB rfl) rfl ?_
  refine gl_nil ?_
  by_cases h0 : st.left = 0
  · skip
    rw [if_pos h0]
    refine g_condT (bT h0) ?_
    refine g_seq ?_
    refine g_region ?_
    refine gl_op (r_asS rfl) rfl ?_
    refine gl_op (r_asI rfl) rfl ?_
    refine gl_nil ?_
    refine g_ret Tryz.func92 (res2 rfl) ?_
    exact ⟨rfl, rfl⟩
  · rw [if_neg h0]
    refine g_condF (bF h0) ?_
    refine g_seq ?_
    refine g_region ?_
    refine gl_op (r_mvB rfl) rfl ?_
    refine gl_op (r_not rfl) rfl ?_
    refine gl_op (r_asB rfl) rfl ?_
    refine gl_nil ?_
    cases hg : kvGet st.names name with
    | none =>
      refine g_condT (rfl) ?_
      refine g_seq ?_
      refine g_region ?_
      refine gl_op (r_asS rfl) rfl ?_
      refine gl_op (r_asI rfl) rfl ?_
      refine gl_nil ?_
      refine g_ret Tryz.func92 (res2 rfl) ?_
      exact ⟨rfl, rfl⟩
    | some i =>
      have hi := hok.idx _ (kvGet_mem hg)
      obtain ⟨x, f, b, o, cs, fr, hx, hf, eA, hb, hc, hfa⟩ := hr.file hi
      have hfb := hfa.at_
      have hfat : fAt st i = f := by unfold fAt; rw [List.getD_eq_getElem?_getD, hf]; rfl
      dsimp only
      rw [hfat]
      refine g_condF (rfl) ?_
      refine g_skip ?_
      refine g_inBlock ?_
      refine g_seq ?_
      refine g_region ?_
      refine gl_op (r_mvP rfl) rfl ?_
      refine gl_op (r_nil rfl) rfl ?_
      refine gl_op (r_fieldAddr of120_1 rfl) rfl ?_
      refine gl_op (r_load1 (v := .slice _ _ _) ld117 rfl (by assumption) (by first | rfl | assumption)) rfl ?_
      refine gl_op (r_mvI rfl) rfl ?_
      refine gl_op (r_indexAddr (j := i) (b := b) (o := o) Tryz.underlying117 sz211 (by rw [← eA]; rfl) rfl hi) rfl ?_
      refine gl_op (r_load1 (v := fPtr x) ld211 rfl hb hc) rfl ?_
      refine gl_op (r_nil rfl) rfl ?_
      refine gl_op (r_fieldAddr of216_1 rfl) rfl ?_
      refine gl_op (r_load1 (v := .string _) ld9 rfl (by assumption) (by first | rfl | assumption)) rfl ?_
      refine gl_op (r_asS rfl) rfl ?_
      refine gl_op (r_asI rfl) rfl ?_
      refine gl_nil ?_
      refine g_ret Tryz.func92 (res2 rfl) ?_
      exact ⟨rfl, rfl⟩
end Go.GW
namespace Go.GW
open Go.RowKit
section
variable {P : Program} {n : Sz} {σ : SF} {w : World} {d : Option Tmp} {ty : TypeId} {pos : String} {af : Array Edge} {gd : Option (Nat × Bool)}
theorem r_leqNil {t t' e : TypeId} {x y : Operand} {A : Option Addr} {m c : Nat} (hu : P.underlying t = some (.slice e)) (hx : ev σ x = .slice A m c) (hy : ev σ y = .slice none 0 0) : Run P ⟨d, .binOp .eql t x y t', ty, pos, af, gd⟩ n σ w (.bool A.isNone) w :=
  r_bin (fun w => by rw [hx, hy]; simp [eqGuard]) (by
    rw [hx, hy]
    have := run_equal_slice_nil w t e A m c hu
    simp only [binOp]
    simp [this])
/-- structs held against each other: what their fields say -/
theorem r_eqS {t t' : TypeId} {x y : Operand} {xs ys : Array Value} {b : Bool} {fs : Array Field} (ht : P.underlying t = some (.struct fs)) (hp : P.stoodInHeld t = false) (hg : P.eqGuardType P.depth t = false)
    (hl : ∀ w, (Op.eqFields 9999 xs ys fs.toList).run P w = .ok b w) (hx : ev σ x = .agg xs) (hy : ev σ y = .agg ys) :
    Run P ⟨d, .binOp .eql t x y t', ty, pos, af, gd⟩ n σ w (.bool b) w := by
  have hf : P.fieldsOf t = fs := by unfold Program.fieldsOf; rw [ht]
  exact r_bin (fun w => by rw [hx, hy]; exact run_eqGuard_agg w _ t x y _ _ hg) (by
    rw [hx, hy, run_eql_struct, run_equalIn_agg w 9999 t _ _ (by rw [hf]; exact ht) hp, hf, hl]; rfl)
theorem r_neS {t t' : TypeId} {x y : Operand} {xs ys : Array Value} {b : Bool} {fs : Array Field} (ht : P.underlying t = some (.struct fs)) (hp : P.stoodInHeld t = false) (hg : P.eqGuardType P.depth t = false)
    (hl : ∀ w, (Op.eqFields 9999 xs ys fs.toList).run P w = .ok b w) (hx : ev σ x = .agg xs) (hy : ev σ y = .agg ys) :
    Run P ⟨d, .binOp .neq t x y t', ty, pos, af, gd⟩ n σ w (.bool (!b)) w := by
  have hf : P.fieldsOf t = fs := by unfold Program.fieldsOf; rw [ht]
  exact r_bin (fun w => by rw [hx, hy]; exact run_eqGuard_agg w _ t x y _ _ hg) (by
    rw [hx, hy, run_neq_struct, run_equalIn_agg w 9999 t _ _ (by rw [hf]; exact ht) hp, hf, hl]; rfl)
theorem run_part1 {t : TypeId} {xs : Array Value} {o : Nat} {v : Value} (hk : ldOf P t = some none) (hv : xs[o]? = some v) (w : World) : (part t xs o).run P w = .ok v w := by
  simp [part, run_isAgg0 hk, hv]
theorem run_eqFields_int {f : Field} {fs : List Field} {xs ys : Array Value} {k k' : IntKind} {a b : Int} {r : Bool} (hn : f.name ≠ "_") (hk : ldOf P f.type = some none) (hu : P.underlying f.type = some (.int k')) (hx : xs[f.offset]? = some (.int k a)) (hy : ys[f.offset]? = some (.int k b))
    (h : ∀ w, (Op.eqFields 9999 xs ys fs).run P w = .ok r w) (w : World) : (Op.eqFields 9999 xs ys (f :: fs)).run P w = .ok (decide (a = b) && r) w := by
  simp only [Op.eqFields, if_pos hn, Sem.run_bind, run_part1 hk hx, run_part1 hk hy, Result.andThen_ok]
  rw [run_equalIn_int w 9998 f.type k k' a b hu]
  simp only [Result.andThen_ok]
  by_cases e : a = b
  · subst e; simp [h]
  · have : (a == b) = false := by simpa using e
    simp [e, this]
theorem run_eqFields_nil {xs ys : Array Value} (w : World) : (Op.eqFields 9999 xs ys []).run P w = .ok true w := by simp [Op.eqFields]
end
theorem Row.lit0 {w : World} {e : TypeId} {sz base : Nat} (hb : base ≤ w.heap.size) : Row (w.alloc (.cells #[] e)) base e sz (some ⟨w.heap.size, 0, none⟩) 0 0 [] := by
  refine ⟨by simp, .inr ⟨w.heap.size, 0, #[], rfl, hb, alloc_new, Nat.le_refl _, by unfold maxLen; omega, by simp, by simp⟩⟩
/-- a cell of a row is written -/
theorem Row.put {w w' : World} {T : TypeId} {sz n c base g : Nat} {A : Option Addr} {xs ys : List Value} {cs : Array Value} (h : Row w base T sz A n c xs) (hA : A = some ⟨g, 0, none⟩) (hcs : w.heap[g]? = some (.cells cs T (0, 0))) {o : Nat} {vs : List Value}
    (hw : w'.heap[g]? = some (.cells (putCells cs o vs) T (0, 0))) (hle : o + vs.length ≤ n * sz) (hys : ys = (putCells xs.toArray o vs).toList) : Row w' base T sz A n c ys := by
  rcases h.form with ⟨h1, _⟩ | ⟨g', cur, h1, hg, hb, hn, hc, hs, ht⟩
  · rw [h1] at hA; cases hA
  · rw [h1] at hA; injection hA with hA; injection hA with hA; subst hA
    rw [hcs] at hb; injection hb with hb; injection hb with hb; subst hb
    have hlen := h.1
    have hle2 : n * sz ≤ cs.size := by rw [hs]; exact Nat.mul_le_mul_right _ hn
    refine ⟨by rw [hys, Array.length_toList, putCells_size]; simpa using hlen, .inr ⟨g', c, putCells cs o vs, by rw [h1], hg, hw, hn, hc, by rw [putCells_size, hs], ?_⟩⟩
    rw [hys, ← ht]
    apply List.ext_getElem?
    intro j
    rw [List.getElem?_take]
    have hx : xs.length = n * sz := hlen
    rw [Array.getElem?_toList, Array.getElem?_toList, putCells_get _ _ _ _ (by omega)]
    rw [putCells_get _ _ _ _ (by simp; omega)]
    by_cases hj : j < n * sz
    · rw [if_pos hj]
      by_cases h2 : o ≤ j ∧ j < o + vs.length
      · rw [if_pos h2, if_pos h2]
      · rw [if_neg h2, if_neg h2]
        simp [hj]
    · rw [if_neg hj, if_neg (by omega)]
      symm
      rw [List.getElem?_toArray, List.getElem?_eq_none (by rw [List.length_take]; omega)]
section
variable {P : Program} {n : Sz} {σ : SF} {w : World} {ty : TypeId} {pos : String} {af : Array Edge} {gd : Option (Nat × Bool)} {K : SF → World → Prop} {ops : Array Oper} {l : List Oper}
theorem r_sliceN (xs : List Operand) (us : List Value) (vss : List (List Value)) {d : Option Tmp} {m : Nat} {ps : Array (Nat × Operand)} {t e : TypeId} {z : Value} {sz : Nat} (hps : ps = (xs.zipIdx.map fun p => (p.2, p.1)).toArray) (hu : P.underlying t = some (.slice e)) (hs : szOf P e = some sz) (hz : zeroOf P e = some z) (hzs : z.cells.size = sz)
    (hx : xs.map (ev σ) = us) (hv : us.map Value.cells = vss.map List.toArray) (hl : vss.all (fun vs => vs.length == sz) = true) (hm : xs.length = m) (hp : Nat.ble (m * sz) 1000 = true) (h0 : Nat.blt 0 (m * sz) = true) :
    Run P ⟨d, .buildSlice t m ps, ty, pos, af, gd⟩ n σ w (.slice (some ⟨w.heap.size, 0, none⟩) m m) (w.alloc (.cells vss.flatten.toArray e)) := by
  subst hps
  have hl' : ∀ vs ∈ vss, vs.length = sz := by simpa using hl
  have hum : us.length = m := by rw [← hx, List.length_map, hm]
  have hvl : vss.length = m := by have := congrArg List.length hv; simp at this; omega
  have hsz : m * sz ≤ 1000 := by simpa [Nat.ble_eq] using hp
  have hpos : 0 < m * sz := by simpa [Nat.blt_eq] using h0
  have hf := fill_run (sz := sz) us vss 0 [] ((Array.range (m * sz)).map (fun i => z.cells[i % z.cells.size]!)) hv hl' (by simp [hum]) (by simp)
  have _hflat : ∀ (vss : List (List Value)), (∀ vs ∈ vss, vs.length = sz) → vss.flatten.length = vss.length * sz := by
    intro vss
    induction vss with
    | nil => intro _; simp
    | cons a r ih => intro h; rw [List.flatten_cons, List.length_append, h a (by simp), ih fun v hv => h v (by simp [hv]), List.length_cons, Nat.succ_mul]; omega
  intro a ha
  have hpe : ((xs.zipIdx.map fun p => (p.2, p.1)).map fun p => (p.1, a.eval p.2)) = us.zipIdx.map fun p => (p.2, p.1) := by
    rw [List.map_map, ← hx, List.zipIdx_map, List.map_map]
    exact List.map_congr_left fun p _ => by simp [ha.eval]
  have h24 : ¬ (m * sz > 2 ^ 24) := by omega
  have h10 : ¬ (m * sz = 0) := by omega
  simp only [execOp, Instr.buildSlice, Sem.run_bind, run_und hu, Result.andThen_ok, run_sizeOf hs, if_neg h24, if_neg h10, run_zeroValue hz, Sem.run_pure, List.map_toArray, hpe]
  simp only [List.nil_append] at hf
  rw [hf]
  simp only [newRow, run_newObj, Sem.run_bind, Sem.run_pure, Result.andThen_ok]
  rfl
theorem gl_sliceNG (xs : List Operand) (us : List Value) (vss : List (List Value)) {d m j t' : Nat} {b' : Bool} {ps : Array (Nat × Operand)} {t e : TypeId} {z : Value} {sz : Nat} (ho : (ops[j]?).bind (·.dst) = some t') (hb : σ t' = .bool b') (ht : Nat.blt t' n.n = true) (hps : ps = (xs.zipIdx.map fun p => (p.2, p.1)).toArray) (hu : P.underlying t = some (.slice e)) (hs : szOf P e = some sz) (hz : zeroOf P e = some z) (hzs : z.cells.size = sz)
    (hx : xs.map (ev σ) = us) (hv : us.map Value.cells = vss.map List.toArray) (hl : vss.all (fun vs => vs.length == sz) = true) (hm : xs.length = m) (hp : Nat.ble (m * sz) 1000 = true) (h0 : Nat.blt 0 (m * sz) = true) (hd : Nat.blt d n.n = true)
    (h : ∀ b w', w'.heap[b]? = some (.cells vss.flatten.toArray e) → b = w.heap.size → Pu w w' → GL P n ops l K (upd σ d (.slice (some ⟨b, 0, none⟩) m m)) w') :
    GL P n ops (⟨some d, .buildSlice t m ps, ty, pos, af, some (j, b')⟩ :: l) K σ w :=
  gl_guardT ho hb ht (r_sliceN xs us vss hps hu hs hz hzs hx hv hl hm hp h0) hd (h _ _ alloc_new rfl (Pu.alloc _))
end
end Go.GW
namespace Go.GW
open Go.RowKit Go.Proofs

/-- The package-level variables as the text lays them. -/
structure Gl (w : World) : Prop where
  crc : ∃ fr, w.heap[(0 : Nat)]? = some (.cells crcCells 330 fr)
theorem Gl.dk {D : TypeId → Bool} {w w' : World} (h : Gl w) (hd : Dk D w w') (hD : D 330 = true) : Gl w' := ⟨h.crc.imp fun _ h => hd _ _ _ _ hD h⟩
theorem Gl.pu {w w' : World} (h : Gl w) (hp : Pu w w') : Gl w' := h.dk (D := fun _ => true) hp.dk rfl

theorem crc_table_at {w : World} (h : Gl w) (r : Nat) : ∃ cs fr, w.heap[(0 : Nat)]? = some (.cells cs 330 fr) ∧ cs[0 + (r &&& 15) * 1]? = some (.int .u32 ((crcTab[r % 16]?.getD 0 : Nat) : Int)) := by
  obtain ⟨fr, hb⟩ := h.crc
  refine ⟨_, fr, hb, ?_⟩
  have e : r &&& 15 = r % 16 := Nat.and_two_pow_sub_one_eq_mod r 4
  obtain ⟨v, hv, _⟩ := crcTab_lt (r % 16) (Nat.mod_lt _ (by omega))
  rw [e, Nat.zero_add, Nat.mul_one]
  simp [crcCells, hv]

theorem crcAdd_ok (sum : Nat) (s : Bs) (hsum : sum < 4294967296) (hs : s.length < 9223372036854775807) (w : World) (hg : Gl w) :
    Fn Tryz.prog 216 #[.int .u32 sum, .string (str s)] w (fun v w' => v = .int .u32 (crcAdd sum s) ∧ w' = w) := by
  refine fn_of (args := [.int .u32 sum, .string (str s)]) Tryz.func216 (by kernel_rfl) rfl Tryz.ntmps216 rfl ?_
  refine g_seq ?_
  refine g_region ?_
  refine gl_op (r_asI rfl) rfl ?_
  refine gl_nil ?_
  refine g_seq ?_
  refine g_region ?_
  refine gl_op (r_mvI rfl) rfl ?_
  refine gl_op (r_bnot rfl) rfl ?_
  rw [show (IntKind.u32.wrap ((BitVec.ofInt IntKind.u32.bits (if IntKind.u32.signed = true then (-1 : Int) else IntKind.u32.max) ^^^ BitVec.ofInt IntKind.u32.bits (sum : Int)).toNat : Int)) = ((4294967295 ^^^ sum : Nat) : Int) from u32_xor 4294967295 sum (by omega) hsum]
  refine gl_op (r_asI rfl) rfl ?_
  refine gl_nil ?_
  refine g_seq ?_
  refine g_seq ?_
  refine g_region ?_
  refine gl_op (r_mvS rfl) rfl ?_
  refine gl_op (r_lenS Tryz.underlying9 rfl) rfl ?_
  refine gl_op (r_mvI rfl) rfl ?_
  refine gl_nil ?_
  refine g_block ?_
  refine g_loop (ι := Nat × Nat) (fun x => [(1, .string (str s)), (5, .int .u32 x.2), (10, .int .i64 s.length), (11, .int .i64 x.1)]) (fun x w' => w' = w ∧ x.1 ≤ s.length ∧ x.2 < 4294967296 ∧ (s.drop x.1).foldl crcByte x.2 = s.foldl crcByte (4294967295 ^^^ sum)) (fun x => s.length - x.1) (0, 4294967295 ^^^ sum) ⟨rfl, rfl, rfl, rfl, trivial⟩ ⟨rfl, Nat.zero_le _, crcNot_lt hsum, rfl⟩ ?_
  rintro ⟨i, r⟩ τ w1 ⟨rfl, hi, hr, hT⟩ ih
  dsimp only at hi hr hT ih ⊢
  refine g_seq ?_
  refine g_region ?_
  refine gl_op (r_lt rfl rfl) rfl ?_
  refine gl_nil ?_
  refine g_seq ?_
  refine g_condP rfl (fun hc => ?_) (fun hc => ?_)
  · have hlt : i < s.length := by omega
    have hc0 : s[i]? = some s[i] := List.getElem?_eq_getElem hlt
    have hc8 : s[i].toNat < 256 := s[i].toNat_lt
    rw [List.drop_eq_getElem_cons hlt, List.foldl_cons] at hT
    refine g_skip ?_
    refine g_seq ?_
    refine g_block ?_
    refine g_seq ?_
    refine g_region ?_
    refine gl_op (r_mvI rfl) rfl ?_
    refine gl_op (r_asI rfl) rfl ?_
    refine gl_nil ?_
    refine g_seq ?_
    refine g_region ?_
    refine gl_op (r_mvI rfl) rfl ?_
    refine gl_op (r_mvS rfl) rfl ?_
    refine gl_op (r_mvI rfl) rfl ?_
    refine gl_op (r_indexStr Tryz.underlying9 rfl rfl hc0) rfl ?_
    refine gl_op (r_conv Tryz.underlying5 Tryz.underlying265 rfl (by rw [wU32]; omega : _ = ((s[i].toNat : Nat) : Int))) rfl ?_
    refine gl_op (r_xor rfl rfl (u32_xor r s[i].toNat hr (by omega))) rfl ?_
    refine gl_op (r_asI rfl) rfl ?_
    refine gl_nil ?_
    refine g_seq ?_
    refine g_region ?_
    refine gl_op (r_mvI rfl) rfl ?_
    refine gl_nil ?_
    refine g_block ?_
    refine g_loop (ι := Nat × Nat) (fun x => [(1, .string (str s)), (5, .int .u32 x.2), (10, .int .i64 s.length), (11, .int .i64 i), (20, .int .i64 x.1)]) (fun x w' => w' = w1 ∧ x.1 ≤ 2 ∧ x.2 < 4294967296 ∧ (x.1 = 0 → x.2 = r ^^^ s[i].toNat) ∧ (x.1 = 1 → x.2 = crcRound (r ^^^ s[i].toNat)) ∧ (x.1 = 2 → x.2 = crcByte r s[i])) (fun x => 2 - x.1) (0, r ^^^ s[i].toNat) ⟨rfl, rfl, rfl, rfl, rfl, trivial⟩ ⟨rfl, by omega, crcX_lt hr _, fun _ => rfl, (fun h => by cases h), (fun h => by cases h)⟩ ?_
    rintro ⟨j, q⟩ τ2 w2 ⟨rfl, hj, hq, h0, h1, h2⟩ ih2
    dsimp only at hj hq h0 h1 h2 ih2 ⊢
    refine g_seq ?_
    refine g_region ?_
    refine gl_op (r_lt rfl rfl) rfl ?_
    refine gl_nil ?_
    refine g_seq ?_
    refine g_condP rfl (fun hcj => ?_) (fun hcj => ?_)
    · obtain ⟨cs, fr, hb, hcell⟩ := crc_table_at hg q
      have e16 : q &&& 15 < 16 := by rw [show q &&& 15 = q % 16 from Nat.and_two_pow_sub_one_eq_mod q 4]; omega
      refine g_skip ?_
      refine g_seq ?_
      refine g_block ?_
      refine g_region ?_
      refine gl_op (r_mvI rfl) rfl ?_
      refine gl_op (r_shr rfl rfl (by decide) (shr_nat .u32 q 4 (by decide))) rfl ?_
      refine gl_op (r_mvI rfl) rfl ?_
      refine gl_op (r_and rfl rfl (u32_and q 15 hq (by omega))) rfl ?_
      refine gl_op (r_indexAddrA (j := q &&& 15) Tryz.underlying330 sz265 rfl rfl e16) rfl ?_
      refine gl_op (r_load1 ld265 rfl hb hcell) rfl ?_
      obtain ⟨v, hv, hvl⟩ := crcTab_lt (q % 16) (Nat.mod_lt _ (by omega))
      refine gl_op (r_xor rfl rfl (u32_xor (q / 16) _ (by omega) (by rw [hv]; exact hvl))) rfl ?_
      refine gl_op (r_asI rfl) rfl ?_
      refine gl_nil ?_
      refine g_inBlock ?_
      refine g_region ?_
      refine gl_op (r_add rfl rfl (wI64 (by omega) (by omega))) rfl ?_
      refine gl_op (r_mvI rfl) rfl ?_
      refine gl_nil ?_
      exact ih2 (j + 1, crcRound q) _ _ (by dsimp only; omega) ⟨rfl, rfl, rfl, rfl, rfl, trivial⟩ ⟨rfl, by dsimp only; omega, crcRound_lt hq, (fun h => by cases h), (fun h => by dsimp only at h ⊢; rw [← h0 (by omega)]), fun h => by show crcRound q = _; rw [h1 (by dsimp only at h; omega)]; rfl⟩
    · have hj2 : j = 2 := by omega
      obtain rfl := h2 hj2
      refine g_exit rfl ?_
      refine g_inBlock ?_
      refine g_region ?_
      refine gl_op (r_add rfl rfl (wI64 (by omega) (by omega))) rfl ?_
      refine gl_op (r_mvI rfl) rfl ?_
      refine gl_nil ?_
      exact ih (i + 1, crcByte r s[i]) _ _ (by dsimp only; omega) ⟨rfl, rfl, rfl, rfl, trivial⟩ ⟨rfl, by dsimp only; omega, hq, hT⟩
  · have hie : i = s.length := by omega
    rw [List.drop_eq_nil_of_le (by omega)] at hT
    have hT' : r = s.foldl crcByte (4294967295 ^^^ sum) := hT
    refine g_exit rfl ?_
    refine g_seq ?_
    refine g_region ?_
    refine gl_op (r_mvI rfl) rfl ?_
    refine gl_op (r_bnot rfl) rfl ?_
    rw [show (IntKind.u32.wrap ((BitVec.ofInt IntKind.u32.bits (if IntKind.u32.signed = true then (-1 : Int) else IntKind.u32.max) ^^^ BitVec.ofInt IntKind.u32.bits (r : Int)).toNat : Int)) = ((4294967295 ^^^ r : Nat) : Int) from u32_xor 4294967295 r (by omega) hr]
    refine gl_op (r_asI rfl) rfl ?_
    refine gl_nil ?_
    refine g_ret Tryz.func216 (res1 rfl) ?_
    refine ⟨?_, rfl⟩
    rw [hT']
    rfl

theorem crcSum_ok (s : Bs) (hs : s.length < 9223372036854775807) (w : World) (hg : Gl w) : Fn Tryz.prog 169 #[.string (str s)] w (fun v w' => v = .int .u32 (crcAdd 0 s) ∧ w' = w) := by
  refine fn_of (args := [.string (str s)]) Tryz.func169 (by kernel_rfl) rfl Tryz.ntmps169 rfl ?_
  refine g_seq ?_
  refine g_region ?_
  refine gl_op (r_asI rfl) rfl ?_
  refine gl_nil ?_
  refine g_seq ?_
  refine g_region ?_
  refine gl_op (r_mvS rfl) rfl ?_
  refine gl_call (crcAdd_ok 0 s (by omega) hs _ hg) rfl rfl ?_
  rintro _ _ ⟨rfl, rfl⟩
  refine gl_op (r_asI rfl) rfl ?_
  refine gl_nil ?_
  refine g_ret Tryz.func169 (res1 rfl) ?_
  exact ⟨rfl, rfl⟩
end Go.GW
namespace Go.GW
open Go.RowKit Go.Proofs

theorem sumCells_step (n i : Nat) (h : i < 4) : putCells (sumCells n i).toArray (0 + i * 1) [.int .u8 ((UInt8.ofNat (n / 2 ^ (8 * i))).toNat : Int)] = (sumCells n (i + 1)).toArray := by
  match i, h with
  | 0, _ => rfl
  | 1, _ => rfl
  | 2, _ => rfl
  | 3, _ => rfl
theorem sumCells_size (n i : Nat) (h : i < 4) : Nat.ble (0 + i * 1 + 1) (sumCells n i).toArray.size = true := by
  match i, h with
  | 0, _ => rfl
  | 1, _ => rfl
  | 2, _ => rfl
  | 3, _ => rfl

theorem frameSum_ok (seq : Nat) (body : Bs) (hq : seq < 18446744073709551616) (hs : body.length < 4611686018427387904) (w : World) (hg : Gl w) :
    Fn Tryz.prog 129 #[.int .u64 seq, .string (str body)] w (fun v w' => v = .string (str (frameSum seq body)) ∧ Pu w w') := by
  have hl := varint_len10 hq
  refine fn_of (args := [.int .u64 seq, .string (str body)]) Tryz.func129 (by kernel_rfl) rfl Tryz.ntmps129 rfl ?_
  refine g_seq ?_
  refine g_region ?_
  refine gl_op (r_asS rfl) rfl ?_
  refine gl_nil ?_
  refine g_seq ?_
  refine g_region ?_
  refine gl_op (r_mvI rfl) rfl ?_
  refine gl_call (put_ok seq hq _) rfl rfl ?_
  rintro _ w1 ⟨rfl, h1⟩
  refine gl_op (r_mvS rfl) rfl ?_
  refine gl_op (r_sadd rfl rfl (by omega)) rfl ?_
  refine gl_call (crcSum_ok _ (by rw [List.length_append]; omega) _ (hg.pu h1)) rfl rfl ?_
  rintro _ _ ⟨rfl, rfl⟩
  have hcl := crcAdd_lt (r := 0) (by omega) (varint seq ++ body)
  generalize hcv : crcAdd 0 (varint seq ++ body) = cv at *
  refine gl_op (r_asI rfl) rfl ?_
  refine gl_nil ?_
  refine g_seq ?_
  refine g_region ?_
  refine gl_alloc ze267 rfl rfl ?_
  intro b w2 hb e s
  refine gl_nil ?_
  refine g_seq ?_
  refine g_seq ?_
  refine g_region ?_
  refine gl_op (r_mvI rfl) rfl ?_
  refine gl_nil ?_
  refine g_block ?_
  refine g_loop (ι := Nat) (fun x => [(5, .int .u32 cv), (6, .pointer (some ⟨b, 0, none⟩)), (13, .int .i64 x)]) (fun x w' => x ≤ 4 ∧ w'.heap[b]? = some (.cells (sumCells cv x).toArray 267 (0, 0)) ∧ Pu w w') (fun x => 4 - x) 0 ⟨rfl, rfl, rfl, trivial⟩ ⟨by omega, hb, h1.trans s⟩ ?_
  rintro i τ w3 ⟨hi, hb3, hp3⟩ ih
  refine g_seq ?_
  refine g_region ?_
  refine gl_op (r_lt rfl rfl) rfl ?_
  refine gl_nil ?_
  refine g_seq ?_
  refine g_condP rfl (fun hc => ?_) (fun hc => ?_)
  · have hlt : i < 4 := by omega
    refine g_skip ?_
    refine g_seq ?_
    refine g_block ?_
    refine g_seq ?_
    refine g_region ?_
    refine gl_op (r_mvI rfl) rfl ?_
    refine gl_op (r_asI rfl) rfl ?_
    refine gl_nil ?_
    refine g_region ?_
    refine gl_op (r_mvI rfl) rfl ?_
    refine gl_op (r_mvI rfl) rfl ?_
    refine gl_op (r_mvI rfl) rfl ?_
    refine gl_op (r_mul rfl rfl (wI64 (by omega) (by omega))) rfl ?_
    refine gl_op (r_shr rfl rfl (by omega) (shr_nat .u32 cv (8 * i) (by show 8 * i ≤ 32; omega))) rfl ?_
    refine gl_op (r_conv Tryz.underlying265 Tryz.underlying5 rfl (by rw [wU8]; simp : _ = ((UInt8.ofNat (cv / 2 ^ (8 * i))).toNat : Int))) rfl ?_
    refine gl_op (r_indexAddrA (j := i) Tryz.underlying267 sz5 rfl rfl hlt) rfl ?_
    refine gl_store (u := .int _ _) (vs := [.int _ _]) sz5 rfl rfl rfl rfl rfl hb3 (sumCells_size cv i hlt) ?_
    intro w4 hb4 st
    refine gl_nil ?_
    refine g_inBlock ?_
    refine g_region ?_
    refine gl_op (r_add rfl rfl (wI64 (by omega) (by omega))) rfl ?_
    refine gl_op (r_mvI rfl) rfl ?_
    refine gl_nil ?_
    exact ih (i + 1) _ _ (by omega) ⟨rfl, rfl, rfl, trivial⟩ ⟨by omega, by rw [sumCells_step cv i hlt] at hb4; exact hb4, st.pu hp3 (by have := h1.size; omega)⟩
  · have hi4 : i = 4 := by omega
    subst hi4
    refine g_exit rfl ?_
    refine g_seq ?_
    refine g_region ?_
    refine gl_op (r_sliceArr Tryz.underlying267 sz5 rfl) rfl ?_
    refine gl_op (r_bytesStr (l := sum4 cv) Tryz.underlying169 Tryz.underlying5 Tryz.underlying9 rfl ⟨rfl, fun _ => ⟨b, 0, _, _, rfl, hb3, fun j u hj => by rw [Nat.zero_add, List.getElem?_toArray]; exact hj⟩⟩) rfl ?_
    refine gl_op (r_asS rfl) rfl ?_
    refine gl_nil ?_
    refine g_ret Tryz.func129 (res1 rfl) ?_
    exact ⟨by unfold frameSum; rw [hcv]; rfl, hp3⟩

def framePut (seq : Nat) (body : Bs) : Bs := varint body.length ++ varint seq ++ frameSum seq body ++ body
theorem frameSum_len (seq : Nat) (body : Bs) : (frameSum seq body).length = 4 := rfl
theorem framePut_ok (seq : Nat) (body : Bs) (hq : seq < 18446744073709551616) (hs : body.length < 4611686018427387904) (w : World) (hg : Gl w) :
    Fn Tryz.prog 79 #[.int .u64 seq, .string (str body)] w (fun v w' => v = (if 2000 < body.length then .tuple #[.string (str []), .int .i64 7] else .tuple #[.string (str (framePut seq body)), .int .i64 0]) ∧ Pu w w') := by
  have hl := varint_len10 hq
  have hl2 := varint_len10 (n := body.length) (by omega)
  have hl3 := frameSum_len seq body
  refine fn_of (args := [.int .u64 seq, .string (str body)]) Tryz.func79 (by kernel_rfl) rfl Tryz.ntmps79 rfl ?_
  refine g_seq ?_
  refine g_region ?_
  refine gl_op (r_asS rfl) rfl ?_
  refine gl_op (r_asI rfl) rfl ?_
  refine gl_nil ?_
  refine g_seq ?_
  refine g_seq ?_
  refine g_region ?_
  refine gl_op (r_mvS rfl) rfl ?_
  refine gl_op (r_lenS Tryz.underlying9 rfl) rfl ?_
  refine gl_op (r_gt rfl rfl) rfl ?_
  refine gl_nil ?_
  refine g_condP rfl (fun hc => ?_) (fun hc => ?_)
  · refine g_seq ?_
    refine g_region ?_
    refine gl_op (r_asS rfl) rfl ?_
    refine gl_op (r_asI rfl) rfl ?_
    refine gl_nil ?_
    refine g_ret Tryz.func79 (res2 rfl) ?_
    rw [if_pos (by omega)]
    exact ⟨rfl, Pu.refl⟩
  · refine g_skip ?_
    refine g_seq ?_
    refine g_region ?_
    refine gl_op (r_mvS rfl) rfl ?_
    refine gl_op (r_lenS Tryz.underlying9 rfl) rfl ?_
    refine gl_op (r_conv Tryz.underlying3 Tryz.underlying26 rfl (wU64 (by omega) (by omega))) rfl ?_
    refine gl_call (put_ok body.length (by omega) _) rfl rfl ?_
    rintro _ w1 ⟨rfl, h1⟩
    refine gl_op (r_mvI rfl) rfl ?_
    refine gl_call (put_ok seq hq _) rfl rfl ?_
    rintro _ w2 ⟨rfl, h2⟩
    refine gl_op (r_sadd rfl rfl (by omega)) rfl ?_
    refine gl_op (r_mvI rfl) rfl ?_
    refine gl_op (r_mvS rfl) rfl ?_
    refine gl_call (frameSum_ok seq body hq hs _ (hg.pu (h1.trans h2))) rfl rfl ?_
    rintro _ w3 ⟨rfl, h3⟩
    refine gl_op (r_sadd rfl rfl (by rw [List.length_append]; omega)) rfl ?_
    refine gl_op (r_mvS rfl) rfl ?_
    refine gl_op (r_sadd rfl rfl (by rw [List.length_append, List.length_append]; omega)) rfl ?_
    refine gl_op (r_asS rfl) rfl ?_
    refine gl_op (r_asI rfl) rfl ?_
    refine gl_nil ?_
    refine g_ret Tryz.func79 (res2 rfl) ?_
    rw [if_neg (by omega)]
    exact ⟨rfl, (h1.trans h2).trans h3⟩

def frameSize (seq : Nat) (body : Bs) : Nat := if 2000 < body.length then 0 else (framePut seq body).length
theorem frameSize_ok (seq : Nat) (body : Bs) (hq : seq < 18446744073709551616) (hs : body.length < 4611686018427387904) (w : World) (hg : Gl w) :
    Fn Tryz.prog 38 #[.int .u64 seq, .string (str body)] w (fun v w' => v = .int .i64 (frameSize seq body) ∧ Pu w w') := by
  unfold frameSize
  by_cases hc : 2000 < body.length
  all_goals
    refine fn_of (args := [.int .u64 seq, .string (str body)]) Tryz.func38 (by kernel_rfl) rfl Tryz.ntmps38 rfl ?_
    have hput := framePut_ok seq body hq hs w hg
  · rw [if_pos hc] at hput ⊢
    refine g_seq ?_
    refine g_region ?_
    refine gl_op (r_asI rfl) rfl ?_
    refine gl_nil ?_
    refine g_seq ?_
    refine g_region ?_
    refine gl_op (r_mvI rfl) rfl ?_
    refine gl_op (r_mvS rfl) rfl ?_
    refine gl_call (hput) rfl rfl ?_
    rintro _ w1 ⟨rfl, h1⟩
    refine gl_op (r_mvT rfl) rfl ?_
    refine gl_op (r_extract rfl rfl) rfl ?_
    refine gl_op (r_extract rfl rfl) rfl ?_
    refine gl_op (r_asS rfl) rfl ?_
    refine gl_op (r_asI rfl) rfl ?_
    refine gl_nil ?_
    refine g_seq ?_
    refine g_region ?_
    refine gl_op (r_mvS rfl) rfl ?_
    refine gl_op (r_lenS Tryz.underlying9 rfl) rfl ?_
    refine gl_op (r_asI rfl) rfl ?_
    refine gl_nil ?_
    refine g_ret Tryz.func38 (res1 rfl) ?_
    exact ⟨rfl, h1⟩
  · rw [if_neg hc] at hput ⊢
    refine g_seq ?_
    refine g_region ?_
    refine gl_op (r_asI rfl) rfl ?_
    refine gl_nil ?_
    refine g_seq ?_
    refine g_region ?_
    refine gl_op (r_mvI rfl) rfl ?_
    refine gl_op (r_mvS rfl) rfl ?_
    refine gl_call (hput) rfl rfl ?_
    rintro _ w1 ⟨rfl, h1⟩
    refine gl_op (r_mvT rfl) rfl ?_
    refine gl_op (r_extract rfl rfl) rfl ?_
    refine gl_op (r_extract rfl rfl) rfl ?_
    refine gl_op (r_asS rfl) rfl ?_
    refine gl_op (r_asI rfl) rfl ?_
    refine gl_nil ?_
    refine g_seq ?_
    refine g_region ?_
    refine gl_op (r_mvS rfl) rfl ?_
    refine gl_op (r_lenS Tryz.underlying9 rfl) rfl ?_
    refine gl_op (r_asI rfl) rfl ?_
    refine gl_nil ?_
    refine g_ret Tryz.func38 (res1 rfl) ?_
    exact ⟨rfl, h1⟩

/-- The frame that bytes begin with. -/
def frameFirst (s : Bs) : Option (Nat × Bs × Nat) :=
  match takeVar s with
  | none => none
  | some (n, r) => if 2000 < n then none else
    match takeVar r with
    | none => none
    | some (seq, r2) =>
      if r2.length < 4 + n then none
      else if r2.take 4 = frameSum seq ((r2.drop 4).take n) then some (seq, (r2.drop 4).take n, s.length - r2.length + 4 + n) else none
def frameCells (x : Nat × Bs × Nat) : List Value := [.int .u64 x.1, .string (str x.2.1), .int .i64 x.2.2]
def firstVal : Option (Nat × Bs × Nat) → Value
  | some x => .tuple #[.agg (frameCells x).toArray, .int .i64 0]
  | none => .tuple #[.agg #[.int .u64 0, .string (str []), .int .i64 0], .int .i64 2]

theorem frameFirst_ok (s : Bs) (hs : s.length < 4611686018427387904) (w : World) (hg : Gl w) :
    Fn Tryz.prog 184 #[.string (str s)] w (fun v w' => v = firstVal (frameFirst s) ∧ Pu w w') := by
  unfold frameFirst
  cases ht : takeVar s with
  | none =>
    dsimp only
    refine fn_of (args := [.string (str s)]) Tryz.func184 (by kernel_rfl) rfl Tryz.ntmps184 rfl ?_
    refine g_seq ?_
    refine g_region ?_
    refine gl_alloc ze184 rfl rfl ?_
    intro b w1 hb e s1
    refine gl_op (r_asI rfl) rfl ?_
    refine gl_nil ?_
    refine g_seq ?_
    refine g_region ?_
    refine gl_op (r_mvS rfl) rfl ?_
    refine gl_call (take_ok s (by omega) _) rfl rfl ?_
    rintro _ w2 ⟨rfl, s2⟩
    rw [ht]
    have hb2 := s2.blk hb
    refine gl_op (r_mvT rfl) rfl ?_
    refine gl_op (r_extract rfl rfl) rfl ?_
    refine gl_op (r_extract rfl rfl) rfl ?_
    refine gl_op (r_extract rfl rfl) rfl ?_
    refine gl_op (r_asI rfl) rfl ?_
    refine gl_op (r_asS rfl) rfl ?_
    refine gl_op (r_asI rfl) rfl ?_
    refine gl_nil ?_
    refine g_seq ?_
    refine g_seq ?_
    refine g_region ?_
    refine gl_op (r_mvI rfl) rfl ?_
    refine gl_op (r_ne rfl rfl) rfl ?_
    refine gl_op (r_mvB rfl) rfl ?_
    refine gl_guardF rfl (rfl) rfl rfl ?_
    refine gl_guardF rfl (rfl) rfl rfl ?_
    refine gl_op (r_pickTB rfl rfl) rfl ?_
    refine gl_nil ?_
    refine g_condT (rfl) ?_
    refine g_seq ?_
    refine g_region ?_
    refine gl_op (r_build (cs := #[.int _ _, .string _, .int _ _]) pl184 rfl) rfl ?_
    refine gl_store (u := .agg #[.int _ _, .string _, .int _ _]) (vs := [.int _ _, .string _, .int _ _]) sz184 rfl rfl rfl rfl rfl (hb2) rfl ?_
    intro w9 hb9 st9
    refine gl_op (r_asI rfl) rfl ?_
    refine gl_nil ?_
    refine g_ret Tryz.func184 (resC2 rfl rfl (run_loadVarA (ls := [.int _ _, .string _, .int _ _]) ld184 hb9 rfl)) ?_
    exact ⟨rfl, st9.pu (s1.trans s2) (by omega)⟩
  | some nr =>
    obtain ⟨n, r⟩ := nr
    obtain ⟨hn, k, hk, hr, hkl⟩ := takeVar_bound ht
    have hrl : r.length ≤ s.length := by rw [hr, List.length_drop]; omega
    dsimp only
    refine fn_of (args := [.string (str s)]) Tryz.func184 (by kernel_rfl) rfl Tryz.ntmps184 rfl ?_
    refine g_seq ?_
    refine g_region ?_
    refine gl_alloc ze184 rfl rfl ?_
    intro b w1 hb e s1
    refine gl_op (r_asI rfl) rfl ?_
    refine gl_nil ?_
    refine g_seq ?_
    refine g_region ?_
    refine gl_op (r_mvS rfl) rfl ?_
    refine gl_call (take_ok s (by omega) _) rfl rfl ?_
    rintro _ w2 ⟨rfl, s2⟩
    rw [ht]
    have hb2 := s2.blk hb
    refine gl_op (r_mvT rfl) rfl ?_
    refine gl_op (r_extract rfl rfl) rfl ?_
    refine gl_op (r_extract rfl rfl) rfl ?_
    refine gl_op (r_extract rfl rfl) rfl ?_
    refine gl_op (r_asI rfl) rfl ?_
    refine gl_op (r_asS rfl) rfl ?_
    refine gl_op (r_asI rfl) rfl ?_
    refine gl_nil ?_
    refine g_seq ?_
    refine g_seq ?_
    refine g_region ?_
    refine gl_op (r_mvI rfl) rfl ?_
    refine gl_op (r_ne rfl rfl) rfl ?_
    refine gl_op (r_mvB rfl) rfl ?_
    refine gl_guardT rfl (rfl) rfl ((r_mvI rfl)) rfl ?_
    refine gl_guardT rfl (rfl) rfl ((r_gt rfl rfl)) rfl ?_
    refine gl_op (r_pickFB rfl rfl) rfl ?_
    refine gl_nil ?_
    refine g_condP rfl (fun hc => ?_) (fun hc => ?_)
    · rw [if_pos (by omega)]
      refine g_seq ?_
      refine g_region ?_
      refine gl_op (r_build (cs := #[.int _ _, .string _, .int _ _]) pl184 rfl) rfl ?_
      refine gl_store (u := .agg #[.int _ _, .string _, .int _ _]) (vs := [.int _ _, .string _, .int _ _]) sz184 rfl rfl rfl rfl rfl (hb2) rfl ?_
      intro w9 hb9 st9
      refine gl_op (r_asI rfl) rfl ?_
      refine gl_nil ?_
      refine g_ret Tryz.func184 (resC2 rfl rfl (run_loadVarA (ls := [.int _ _, .string _, .int _ _]) ld184 hb9 rfl)) ?_
      exact ⟨rfl, st9.pu (s1.trans s2) (by omega)⟩
    · rw [if_neg (by omega)]
      cases ht2 : takeVar r with
      | none =>
        dsimp only
        refine g_skip ?_
        refine g_seq ?_
        refine g_region ?_
        refine gl_op (r_mvS rfl) rfl ?_
        refine gl_call (take_ok r (by omega) _) rfl rfl ?_
        rintro _ w3 ⟨rfl, s3⟩
        rw [ht2]
        have hb3 := s3.blk hb2
        refine gl_op (r_mvT rfl) rfl ?_
        refine gl_op (r_extract rfl rfl) rfl ?_
        refine gl_op (r_extract rfl rfl) rfl ?_
        refine gl_op (r_extract rfl rfl) rfl ?_
        refine gl_op (r_asI rfl) rfl ?_
        refine gl_op (r_asS rfl) rfl ?_
        refine gl_op (r_asI rfl) rfl ?_
        refine gl_nil ?_
        refine g_seq ?_
        refine g_seq ?_
        refine g_region ?_
        refine gl_op (r_mvI rfl) rfl ?_
        refine gl_op (r_ne rfl rfl) rfl ?_
        refine gl_op (r_mvB rfl) rfl ?_
        refine gl_guardF rfl (rfl) rfl rfl ?_
        refine gl_guardF rfl (rfl) rfl rfl ?_
        refine gl_guardF rfl (rfl) rfl rfl ?_
        refine gl_guardF rfl (rfl) rfl rfl ?_
        refine gl_guardF rfl (rfl) rfl rfl ?_
        refine gl_guardF rfl (rfl) rfl rfl ?_
        refine gl_op (r_pickTB rfl rfl) rfl ?_
        refine gl_nil ?_
        refine g_condT (rfl) ?_
        refine g_seq ?_
        refine g_region ?_
        refine gl_op (r_build (cs := #[.int _ _, .string _, .int _ _]) pl184 rfl) rfl ?_
        refine gl_store (u := .agg #[.int _ _, .string _, .int _ _]) (vs := [.int _ _, .string _, .int _ _]) sz184 rfl rfl rfl rfl rfl (hb3) rfl ?_
        intro w9 hb9 st9
        refine gl_op (r_asI rfl) rfl ?_
        refine gl_nil ?_
        refine g_ret Tryz.func184 (resC2 rfl rfl (run_loadVarA (ls := [.int _ _, .string _, .int _ _]) ld184 hb9 rfl)) ?_
        exact ⟨rfl, st9.pu ((s1.trans s2).trans s3) (by omega)⟩
      | some qr =>
        obtain ⟨seq, r2⟩ := qr
        obtain ⟨hq, k2, hk2, hr2, hkl2⟩ := takeVar_bound ht2
        have hrl2 : r2.length ≤ r.length := by rw [hr2, List.length_drop]; omega
        dsimp only
        refine g_skip ?_
        refine g_seq ?_
        refine g_region ?_
        refine gl_op (r_mvS rfl) rfl ?_
        refine gl_call (take_ok r (by omega) _) rfl rfl ?_
        rintro _ w3 ⟨rfl, s3⟩
        rw [ht2]
        have hb3 := s3.blk hb2
        refine gl_op (r_mvT rfl) rfl ?_
        refine gl_op (r_extract rfl rfl) rfl ?_
        refine gl_op (r_extract rfl rfl) rfl ?_
        refine gl_op (r_extract rfl rfl) rfl ?_
        refine gl_op (r_asI rfl) rfl ?_
        refine gl_op (r_asS rfl) rfl ?_
        refine gl_op (r_asI rfl) rfl ?_
        refine gl_nil ?_
        refine g_seq ?_
        refine g_seq ?_
        refine g_region ?_
        refine gl_op (r_mvI rfl) rfl ?_
        refine gl_op (r_ne rfl rfl) rfl ?_
        refine gl_op (r_mvB rfl) rfl ?_
        refine gl_guardT rfl (rfl) rfl ((r_mvS rfl)) rfl ?_
        refine gl_guardT rfl (rfl) rfl (r_lenS Tryz.underlying9 rfl) rfl ?_
        refine gl_guardT rfl (rfl) rfl (r_conv Tryz.underlying3 Tryz.underlying26 rfl (wU64 (by omega) (by omega))) rfl ?_
        refine gl_guardT rfl (rfl) rfl ((r_mvI rfl)) rfl ?_
        refine gl_guardT rfl (rfl) rfl ((r_add rfl rfl (wU64 (by omega) (by omega)))) rfl ?_
        refine gl_guardT rfl (rfl) rfl ((r_lt rfl rfl)) rfl ?_
        refine gl_op (r_pickFB rfl rfl) rfl ?_
        refine gl_nil ?_
        refine g_condP rfl (fun hc2 => ?_) (fun hc2 => ?_)
        · rw [if_pos (by omega)]
          refine g_seq ?_
          refine g_region ?_
          refine gl_op (r_build (cs := #[.int _ _, .string _, .int _ _]) pl184 rfl) rfl ?_
          refine gl_store (u := .agg #[.int _ _, .string _, .int _ _]) (vs := [.int _ _, .string _, .int _ _]) sz184 rfl rfl rfl rfl rfl (hb3) rfl ?_
          intro w9 hb9 st9
          refine gl_op (r_asI rfl) rfl ?_
          refine gl_nil ?_
          refine g_ret Tryz.func184 (resC2 rfl rfl (run_loadVarA (ls := [.int _ _, .string _, .int _ _]) ld184 hb9 rfl)) ?_
          exact ⟨rfl, st9.pu ((s1.trans s2).trans s3) (by omega)⟩
        · rw [if_neg (by omega)]
          refine g_skip ?_
          refine g_seq ?_
          refine g_region ?_
          refine gl_op (r_mvS rfl) rfl ?_
          refine gl_op (r_mvI rfl) rfl ?_
          refine gl_op (r_add rfl rfl (wU64 (by omega) (by omega))) rfl ?_
          refine gl_op (r_sliceS (i := 4) (j := 4 + n) Tryz.underlying9 rfl rfl rfl (by omega) (by omega)) rfl ?_
          rw [show 4 + n - 4 = n from by omega]
          refine gl_op (r_asS rfl) rfl ?_
          refine gl_nil ?_
          refine g_seq ?_
          refine g_seq ?_
          have hbl : ((r2.drop 4).take n).length ≤ r2.length := by rw [List.length_take, List.length_drop]; omega
          refine g_draw (fun w ↦ w.heap[b]? = some (.cells #[.int .u64 0, .string ⟨#[]⟩, .int .i64 0] 184 (0, 0)) ∧ Pu w3 w) mixed ?_
          intro w4 hw4 hp4
          have hS : w4.heap[b]? = some (.cells #[.int .u64 0, .string ⟨#[]⟩, .int .i64 0] 184 (0, 0)) ∧ Pu w3 w4 := ⟨hp4.blk hb3, hp4⟩
          refine ga_take 0 rfl (by decide +kernel) rfl hS (fun _ hS => (r_mvS rfl)) rfl ?_
          refine ga_take 1 rfl (by decide +kernel) rfl hS (fun _ hS => r_sliceShi (j := 4) Tryz.underlying9 rfl rfl (by omega)) rfl ?_
          refine ga_take 2 rfl (by decide +kernel) rfl hS (fun _ hS => (r_mvI rfl)) rfl ?_
          refine ga_take 3 rfl (by decide +kernel) rfl hS (fun _ hS => (r_mvS rfl)) rfl ?_
          refine ga_only 4 rfl (by decide +kernel) rfl ?_
          refine gl_call (frameSum_ok seq _ hq (by omega) _ (hg.pu (((s1.trans s2).trans s3).trans hp4))) rfl rfl ?_
          rintro _ w5 ⟨rfl, s5⟩
          refine gl_nil ⟨⟨s5.blk hS.1, hp4.trans s5⟩, ?_⟩
          have hS : w5.heap[b]? = some (.cells #[.int .u64 0, .string ⟨#[]⟩, .int .i64 0] 184 (0, 0)) ∧ Pu w3 w5 := ⟨s5.blk hS.1, hp4.trans s5⟩
          refine ga_take 5 rfl (by decide +kernel) rfl hS (fun _ hS => (r_sne rfl rfl)) rfl ?_
          refine ga_done (by decide +kernel) ?_
          refine g_condP rfl (fun hc3 => ?_) (fun hc3 => ?_)
          · rw [if_neg hc3]
            refine g_seq ?_
            refine g_region ?_
            refine gl_op (r_build (cs := #[.int _ _, .string _, .int _ _]) pl184 rfl) rfl ?_
            refine gl_store (u := .agg #[.int _ _, .string _, .int _ _]) (vs := [.int _ _, .string _, .int _ _]) sz184 rfl rfl rfl rfl rfl (hS.1) rfl ?_
            intro w9 hb9 st9
            refine gl_op (r_asI rfl) rfl ?_
            refine gl_nil ?_
            refine g_ret Tryz.func184 (resC2 rfl rfl (run_loadVarA (ls := [.int _ _, .string _, .int _ _]) ld184 hb9 rfl)) ?_
            exact ⟨rfl, st9.pu (((s1.trans s2).trans s3).trans hS.2) (by omega)⟩
          · rw [if_pos (by simpa using hc3)]
            refine g_skip ?_
            refine g_seq ?_
            refine g_region ?_
            refine gl_op (r_mvI rfl) rfl ?_
            refine gl_op (r_mvS rfl) rfl ?_
            refine gl_op (r_mvS rfl) rfl ?_
            refine gl_op (r_lenS Tryz.underlying9 rfl) rfl ?_
            refine gl_op (r_mvS rfl) rfl ?_
            refine gl_op (r_lenS Tryz.underlying9 rfl) rfl ?_
            refine gl_op (r_sub rfl rfl (wI64 (by omega) (by omega))) rfl ?_
            refine gl_op (r_add rfl rfl (wI64 (by omega) (by omega))) rfl ?_
            refine gl_op (r_mvI rfl) rfl ?_
            refine gl_op (r_conv Tryz.underlying26 Tryz.underlying3 rfl (wI64 (by omega) (by omega))) rfl ?_
            refine gl_op (r_add rfl rfl (wI64 (by omega) (by omega))) rfl ?_
            refine gl_op (r_build (cs := #[.int _ _, .string _, .int _ _]) pl184 rfl) rfl ?_
            refine gl_store (u := .agg #[.int _ _, .string _, .int _ _]) (vs := [.int _ _, .string _, .int _ _]) sz184 rfl rfl rfl rfl rfl (hS.1) rfl ?_
            intro w9 hb9 st9
            refine gl_op (r_asI rfl) rfl ?_
            refine gl_nil ?_
            refine g_ret Tryz.func184 (resC2 rfl rfl (run_loadVarA (ls := [.int _ _, .string _, .int _ _]) ld184 hb9 rfl)) ?_
            refine ⟨?_, st9.pu (((s1.trans s2).trans s3).trans hS.2) (by omega)⟩
            have he : ((s.length : Int) - r2.length + 4 + n) = ((s.length - r2.length + 4 + n : Nat) : Int) := by omega
            show Value.tuple #[.agg #[.int .u64 seq, .string _, .int .i64 ((s.length : Int) - r2.length + 4 + n)], .int .i64 0] = _
            rw [he]
            rfl
end Go.GW
